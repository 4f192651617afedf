/- The reference's Check, its third loop: each entry's Right. -/
import Derived.Test.YtegeboijhifmcaaGreatDoorMgw29
import Derived.Test.YtegeboijhifmcaaGreatDoorMgw18
import Derived.Test.YtegeboijhifmcaaGreatDoorMgw32
import Derived.Test.YtegeboijhifmcaaGreatDoorMgw31
namespace Go.Proofs.YtegeboijhifmcaaGreatDoor
set_option linter.unusedVariables false
set_option linter.unusedSimpArgs false
set_option maxHeartbeats 8000000
set_option maxRecDepth 100000
open Go.RowKit
theorem rcT9 (T:Code)(hT:Tryz.f93.body.bind (zhv 9)=some T)(P:Ending→World→Prop)(W:World)(A:Option Addr)(c:Nat)(es:List zd8)(hE:zdi W (.slice A es.length c) es)(hl:es.length≤32)
  (hR:∀ x∈es,∀ X,Below W.heap.size W X→Calls Tryz.prog 138 #[x.val] X (zo0 X x.r.v x.r.1.rest))
  (hT16:∀ T',Tryz.f93.body.bind (zhv 16)=some T'→∀ W',Below W.heap.size W W'→∀(u1 u2 u3 u4 u5 u6 u7 u8 u9 gn gt gu gx gy gz gA gC gD gE gF gG gH gI gJ gK gL gM gN gO gP gQ gR gT gV gW gX gY gZ i6 i7 i8 ia ib ic ie ig ii ij ik il im io ip iq ir iu iv iw ix iy iz iA iB iC iD iE iF iG iH iI iJ iK iL iM iN iO iP iQ iR iS iT iU iV iW iX iY iZ j0 j1 j2 j5:Value),T'.wp Tryz.prog (bodyPost Tryz.prog Tryz.f93 P) ⟨#[.slice A es.length c,u1,u2,u3,u4,u5,u6,u7,u8,u9,gn,gt,gu,gx,gy,gz,gA,gC,gD,gE,gF,gG,gH,gI,gJ,gK,gL,gM,gN,gO,gP,gQ,gR,gT,gV,gW,gX,gY,gZ,i6,i7,i8,ia,ib,ic,ie,ig,ii,ij,ik,il,im,io,ip,iq,ir,iu,iv,iw,ix,iy,iz,iA,iB,iC,iD,iE,iF,iG,iH,iI,iJ,iK,iL,iM,iN,iO,iP,iQ,iR,iS,iT,iU,iV,iW,iX,iY,iZ,j0,j1,j2,j5],[]⟩ W')
  (u1 u2 u3 u4 u5 u6 u7 u8 u9 gn gt gu gx gy gz gA gC gD gE gF gG gH gI gJ gK gL gM gN gO gP gQ gR gT gV gW gX gY gZ i6 i7 i8 ia ib ic ie ig ii ij ik il im io ip iq ir iu iv iw ix iy iz iA iB iC iD iE iF iG iH iI iJ iK iL iM iN iO iP iQ iR iS iT iU iV iW iX iY iZ j0 j1 j2 j5:Value):
  T.wp Tryz.prog (bodyPost Tryz.prog Tryz.f93 P) ⟨#[.slice A es.length c,u1,u2,u3,u4,u5,u6,u7,u8,u9,gn,gt,gu,gx,gy,gz,gA,gC,gD,gE,gF,gG,gH,gI,gJ,gK,gL,gM,gN,gO,gP,gQ,gR,gT,gV,gW,gX,gY,gZ,i6,i7,i8,ia,ib,ic,ie,ig,ii,ij,ik,il,im,io,ip,iq,ir,iu,iv,iw,ix,iy,iz,iA,iB,iC,iD,iE,iF,iG,iH,iI,iJ,iK,iL,iM,iN,iO,iP,iQ,iR,iS,iT,iU,iV,iW,iX,iY,iZ,j0,j1,j2,j5],[]⟩ W:=by
 simp only[Tryz.f93,Option.bind_some,zhv,zhu] at hT
 simp at hT
 subst hT;have HE:=hd_ (fun X (hX:Below W.heap.size W X)=>hE.below hX);have HR:=hd_ hR;have HT:=hd_ hT16;clear hE hR hT16;go_wp2_with fail;go_loopw [42] (fun i wr=>∃ k:Nat,i=.int .i64 k∧k≤es.length∧Hid (Below W.heap.size W wr)) (fun i _=>es.length - (intOf i).toNat)
 case atStart=>exact⟨0,rfl,Nat.zero_le _,hd_ (Below.refl _ _)⟩
 case round =>
  obtain⟨k,rfl,hk,HI⟩:=hrel;by_cases hlt:k<es.length
  ·have HEX:=hd_ (HE.out wr HI.out);obtain⟨ad,rfl,hab,s0,s1,s2,s3,s4⟩:=HEX.out.at_ hlt;have HXI:=hd_ (HEX.out.2 es[k] (List.getElem_mem hlt));have HXR:=hd_ (HR.out es[k] (List.getElem_mem hlt));generalize es[k]=x at s0 s1 s2 s3 s4 HXI HXR;obtain⟨H,hc,hhv⟩:=HXI.out.holes;obtain⟨⟨pl,Al,cl⟩,⟨pr,Ar,cr⟩,hv,hs⟩:=x;change hv=.slice H hs.length hc at hhv;subst hhv;change wr.cell? _=some (.slice Al pl.parts.length cl) at s0;change wr.cell? _=some (.bool pl.rest) at s1;change wr.cell? _=some (.slice Ar pr.parts.length cr) at s2;change wr.cell? _=some (.bool pr.rest) at s3;change wr.cell? _=some (.slice H hs.length hc) at s4;have hX:Below wr.heap.size wr (wr.alloc (.cells #[.slice Al pl.parts.length cl,.bool pl.rest,.slice Ar pr.parts.length cr,.bool pr.rest,.slice H hs.length hc] 100)):=(Below.refl _ _).alloc (Nat.le_refl _) _;have HX:=hd_ (z0r HI.out hX);have HN:Hid (Blk (wr.alloc (.cells #[.slice Al pl.parts.length cl,.bool pl.rest,.slice Ar pr.parts.length cr,.bool pr.rest,.slice H hs.length hc] 100)) wr.heap.size 100 [.slice Al pl.parts.length cl,.bool pl.rest,.slice Ar pr.parts.length cr,.bool pr.rest,.slice H hs.length hc]):=hd_ (z0l wr _ _);have HLT:=hd_ hlt;clear hab hX;go_upto_region 12 with fail;generalize wr.alloc (.cells #[.slice Al pl.parts.length cl,.bool pl.rest,.slice Ar pr.parts.length cr,.bool pr.rest,.slice H hs.length hc] 100)=W4 at HX HN ⊢;generalize wr.heap.size=g7 at HN ⊢;clear s0 s1 s2 s3 s4;obtain⟨x0,x1,x2,x3,x4⟩:=(⟨HN.out.cell 0,HN.out.cell 1,HN.out.cell 2,HN.out.cell 3,HN.out.cell 4⟩:W4.cell? ⟨g7,0,none⟩=some (.slice Al pl.parts.length cl)∧W4.cell? ⟨g7,1,none⟩=some (.bool pl.rest)∧W4.cell? ⟨g7,2,none⟩=some (.slice Ar pr.parts.length cr)∧W4.cell? ⟨g7,3,none⟩=some (.bool pr.rest)∧W4.cell? ⟨g7,4,none⟩=some (.slice H hs.length hc));have HRC:Hid (Calls Tryz.prog 138 #[.agg #[.slice Al pl.parts.length cl,.bool pl.rest,.slice Ar pr.parts.length cr,.bool pr.rest,.slice H hs.length hc]] W4 (zo0 W4 (.slice Ar pr.parts.length cr) pr.rest)):=hd_ (HXR.out W4 HX.out)
   go_wp2_with fail;refine HRC.out.mono ?_;rintro e w5 ⟨hb,H9,n9,c9,rfl⟩;dsimp only;have hX:Below w5.heap.size w5 (w5.alloc (.cells #[.slice Ar pr.parts.length cr,.bool pr.rest,.slice H9 n9 c9] 115)):=(Below.refl _ _).alloc (Nat.le_refl _) _;have HB:=hd_ (z0r HX.out (z0r hb hX));clear hb hX x0 x1 x2 x3 x4 HRC;go_wp2_with fail;go_roundw
   case rel=>exact⟨k+1,by go_num,by omega,HB⟩
   case measure=>simp [intOf];omega
  ·have hke:k=es.length:=by omega
   subst hke;have HB:=hd_ HI.out;have hge:¬((es.length:Int)<(es.length:Int)):=by omega
   rename ∀ a w,Code.wp _ (Code.seq (Code.seq (Code.region 16 _ _) _) _) _ a w→_=>hk7
   have HK7:=hd_ hk7;clear hk7 HI;go_wp2_with fail;exact HK7.out _ _ (HT.out _ (by kernel_rfl) wr HB.out _ _ _ _ _ _ _ _ _ _ _ _ _ _ _ _ _ _ _ _ _ _ _ _ _ _ _ _ _ _ _ _ _ _ _ _ _ _ _ _ _ _ _ _ _ _ _ _ _ _ _ _ _ _ _ _ _ _ _ _ _ _ _ _ _ _ _ _ _ _ _ _ _ _ _ _ _ _ _ _ _ _ _ _ _ _ _ _ _ _ _)
theorem zoc (p:Pat)(b:Bool)(hbr:p.rest=b)(caps:List ByteArray)(A:Option Addr)(a:Nat)(cv:Value)(w:World)(he:Env w)(hp:za9 w (.slice A p.parts.length a) p)(hc:Strs w cv caps)(hf:zbv p caps):
  Calls Tryz.prog 226 #[.agg #[.slice A p.parts.length a,.bool b],cv] w fun e w'=>e=.returned (.tuple #[.string (zbu p caps),.int .i64 0])∧Below w.heap.size w w':=by
 have hB:=z0l w [.slice A p.parts.length a,.bool b] 97;have hA:Below w.heap.size w (w.alloc (.cells #[.slice A p.parts.length a,.bool b] 97)):=(Below.refl _ _).alloc (Nat.le_refl _) _;have HKC:Hid (∀ X,Below w.heap.size w X→Calls Tryz.prog 181 #[.agg #[.slice A p.parts.length a,.bool b]] X fun e w'=>e=.returned (.int .i64 0)∧Below X.heap.size X w'):=hd_ (fun X hX=>by have:=zca p A a X (hp.below hX).1 hp.small;rw[hbr,hf.pat] at this;exact this)
 have HW:=hd_ (fun X (hX:Below w.heap.size w X)=>zo8 p b hbr A a X (hp.below hX) hf.pat);have HP:=hd_ hp;have HC:=hd_ hc;have HF:=hd_ hf;have HE:=hd_ he;have hl12:=zao hf.pat;have hs12:za2 p≤12:=Nat.le_trans (List.length_filter_le ..) hl12;obtain⟨Ac,cc,rfl,-⟩:=id hc;obtain⟨nc,hnc⟩:∃ nc,caps.length=nc:=⟨_,rfl⟩;have hlen:nc=za2 p+(if b then 1 else 0):=hnc.symm.trans (by rw[hf.len,hbr])
 have HNC:=hd_ hnc;rw[hnc];have HBR:=hd_ hbr;clear hp hc hf he hnc hbr;rw[← hlen] at HW;have HLEN:=hd_ hlen;have q0:((nc:Int) != (nc:Int))=false:=by simp
 clear hlen;go_enter Tryz.func226,Tryz.ntmps226;go_upto_region 1 with fail;generalize w.alloc (.cells #[.slice A p.parts.length a,.bool b] 97)=W1 at hB hA ⊢;have d0:W1.cell? ⟨w.heap.size,0,none⟩=some (.slice A p.parts.length a):=hB.cell 0;have d1:W1.cell? ⟨w.heap.size,1,none⟩=some (.bool b):=hB.cell 1;have HB:=hd_ hB;have HA:=hd_ hA;have HK1:=hd_ (HKC.out W1 hA);clear hB hA HKC;go_wp2_with fail;refine HK1.out.mono ?_;rintro e w2 ⟨rfl,hb⟩;dsimp only;have HA2:=hd_ (z0r HA.out hb);have HB2:=hd_ (HB.out.below hb HB.out.lt);have HW2:=hd_ (HW.out w2 HA2.out);clear hb d0 d1 HK1 HB HA HW;have d0:w2.cell? ⟨w.heap.size,0,none⟩=some (.slice A p.parts.length a):=HB2.out.cell 0;have d1:w2.cell? ⟨w.heap.size,1,none⟩=some (.bool b):=HB2.out.cell 1;go_wp2_with fail;refine HW2.out.mono ?_;rintro e w3 ⟨rfl,hb⟩;dsimp only;have HA3:=hd_ (z0r HA2.out hb);have HB3:=hd_ (HB2.out.below hb HB2.out.lt);clear hb d0 d1 HW2 HB2 HA2;have d0:w3.cell? ⟨w.heap.size,0,none⟩=some (.slice A p.parts.length a):=HB3.out.cell 0;go_wp2_with fail;go_loopw [7,8,28] (fun av z i wr=>∃(k:Nat) (done:List ByteArray) (A2:Option Addr) (c2:Nat),i=.int .i64 k∧z=.int .i64 (za1 p.parts k)∧av=.slice A2 k c2∧k≤p.parts.length∧Hid (RfSt w3 wr p.parts caps k done av)) (fun _ _ i _=>p.parts.length - (intOf i).toNat)
 case atStart=>exact⟨0,[],_,_,rfl,by simp [za1],rfl,Nat.zero_le _,hd_ ⟨Below.refl _ _,World.ownsRow_nil _ _ _ _,rfl,by simp [za1]⟩⟩
 case round =>
  obtain⟨k,done,A2,c2,rfl,rfl,rfl,hk,HI⟩:=hrel;clear d0;by_cases hlt:k<p.parts.length
  ·have HPX:=hd_ (HP.out.below (z0r HA3.out HI.out.low));obtain⟨ad,rfl,hab,s0⟩:=Strs.at_ HPX.out.1 hlt;have hform:=zcc HF.out.pat hlt;have HT:Hid (∀ X,Calls Tryz.prog 217 #[.string p.parts[k]] X fun e w'=>e=.returned (.tuple #[.string (if z79 p.parts[k] then z80 p.parts[k] else z2l),.bool (z79 p.parts[k])])∧X=w'):=hd_ (fun X=>by
    have:=z9n p.parts[k] X (HP.out.small _ (List.getElem_mem hlt));unfold z9k at this;rw[z9b hform] at this;exact this)
   have HSZ:=hd_ (HP.out.2 _ (List.getElem_mem hlt));have HLT:=hd_ hlt;have HSP:=hd_ (fun wy av'=>HI.out.plain (wy:=wy) (av':=av') hlt);have HSS:=hd_ (fun wy av' r c=>HI.out.star (wy:=wy) (av':=av') (r:=r) (c:=c) hlt);have HRM:=hd_ (fun h=>zc1 hlt h);have HNX:=hd_ (za3 hlt);have HSU:=hd_ (show (z80 p.parts[k]).size≤p.parts[k].size from by unfold z80;rw[ByteArray.size_extract];omega)
   generalize p.parts[k]=part at s0 HT HSP HSS HRM HSZ HNX HSU;obtain⟨st,hst⟩:∃ st,z79 part=st:=⟨_,rfl⟩;have HST:=hd_ hst;rw[hst] at HT HNX;clear hst hab hform;have HOW:=hd_ HI.out.own;have HBI:=hd_ HI.out.low;cases st with
   | false =>
    have hnx:za1 p.parts (k+1)=za1 p.parts k:=by rw[HNX.out];rfl
    have HNX2:=hd_ hnx;clear hnx;go_wp2_with fail;refine (HT.out _).mono ?_;rintro e w' ⟨rfl,rfl⟩;dsimp only;go_wp2_with (at_builtin;refine z0k rfl rfl z87 (z0n HOW.out ((Below.refl _ _).alloc (Nat.le_refl _) _)) rfl (z0i _ [.string part] _ 1 1 rfl (by decide) _ (by simp)) rfl (HBI.out.alloc HBI.out.size _) (HBI.out.alloc HBI.out.size _).size (by simp [Value.oneCell']) (by omega) (by unfold maxLen;omega) ?_;intro A' c' w5 hown5 hbl5)
    have HN:=hd_ (HSP.out w5 (.slice A' (k+1) c') HST.out hbl5 (by rw[List.map_append];exact hown5))
    clear hown5 hbl5;go_wp2_with fail;go_roundw
    case rel=>exact⟨k+1,done++[part],_,_,by go_num,by rw[HNX2.out],rfl,by have:=HLT.out;omega,HN⟩
    case measure=>have:=HLT.out;simp [intOf];omega
   | true =>
    have hroom:=HRM.out HST.out;have h3:=HF.out.len;have hlc:za1 p.parts k<caps.length:=by omega
    obtain⟨ad3,rfl,hab3,t0⟩:=Strs.at_ (A:=Ac) (c:=cc) (by have:=HC.out.below (z0r HA3.out HI.out.low);exact this) hlc
    have hcr:caps.drop (za1 p.parts k)=caps[za1 p.parts k] :: caps.drop (za1 p.parts k+1):=List.drop_eq_getElem_cons hlc;have hmem:caps[za1 p.parts k]∈caps.take (za2 p):=List.mem_take_iff_getElem.2 ⟨za1 p.parts k,by omega,rfl⟩
    generalize caps[za1 p.parts k]=c at t0 hcr hmem;have HCO:=hd_ (fun X=>z8s c X (by have:=HF.out.size c (List.mem_of_mem_take hmem);unfold maxLen;omega))
    rw[HF.out.comp c hmem] at HCO;have HCR:=hd_ hcr;have hcz:c.size≤1000000:=HF.out.size c (List.mem_of_mem_take hmem);have z0:(za1 p.parts k:Int)<(nc:Int):=by have:=HNC.out;omega
    have HS12:Hid (za1 p.parts k≤12):=hd_ (by omega)
    have hnx:za1 p.parts (k+1)=za1 p.parts k+1:=by rw[HNX.out];rfl
    have HNX2:=hd_ hnx;have hsu:(z80 part).size≤1000000:=Nat.le_trans HSU.out HSZ.out;have z1:¬ 9223372036854775807<c.size+(z80 part).size:=by omega
    have q9:IntKind.i64.wrap ((za1 p.parts k:Int)+1)=((za1 p.parts k+1:Nat):Int):=by rw[IntKind.wrap_i64];have:=HS12.out;omega
    generalize hsf:z80 part=sf at HT HSS z1;clear hcr hab3 hmem hroom h3 hlc hnx hsf;go_wp2_with fail;refine (HT.out _).mono ?_;rintro e w' ⟨rfl,rfl⟩;dsimp only;go_wp2_with fail;refine (HCO.out _).mono ?_;rintro e w' ⟨rfl,rfl⟩;dsimp only;clear s0;go_wp2_with (at_builtin;refine z0k rfl rfl z87 (z0n HOW.out ((Below.refl _ _).alloc (Nat.le_refl _) _)) rfl (z0i _ [.string (c++sf)] _ 1 1 rfl (by decide) _ (by simp)) rfl (HBI.out.alloc HBI.out.size _) (HBI.out.alloc HBI.out.size _).size (by simp [Value.oneCell']) (by omega) (by unfold maxLen;omega) ?_;intro A' c' w5 hown5 hbl5)
    have HN:=hd_ (HSS.out w5 (.slice A' (k+1) c') _ c HST.out HCR.out hbl5 (by rw[List.map_append];exact hown5))
    clear hown5 hbl5;go_wp2_with fail;go_roundw
    case rel=>exact⟨k+1,done++[c++sf],_,_,by go_num,by rw[HNX2.out];first | rfl | (simp;done) | (congr 1;have:=HS12.out;simp [wrap64];omega),rfl,by have:=HLT.out;omega,HN⟩
    case measure=>have:=HLT.out;simp [intOf];omega
  ·have hke:k=p.parts.length:=by omega
   subst hke;have HFA:Hid (zbs p.parts caps=done):=hd_ (by
    have:=HI.out.is;rw[List.drop_length] at this;rw[← this];unfold zbs;simp)
   have hge:¬((p.parts.length:Int)<(p.parts.length:Int)):=by omega
   have HOW:=hd_ HI.out.own;have HLW:=hd_ HI.out.low;have HLN:=hd_ HI.out.len;have d1:wr.cell? ⟨w.heap.size,1,none⟩=some (.bool b):=(HB3.out.below HLW.out HB3.out.lt).cell 1;cases b with
   | false =>
    have HFB:Hid (zbt p caps=done):=hd_ (by unfold zbt;rw[HBR.out,HFA.out];simp)
    have hpos:0<p.parts.length:=by have h1:=HF.out.some;rw[HFB.out,HLN.out] at h1;exact h1
    obtain⟨gq,cq,eq⟩:=z0s HOW.out hpos;injection eq with eq1 eq2 eq3
    subst eq1 eq3;have hJ:=z93 (done.map (·.data.toList)) gq 0 c2 wr (fun j hj=>by
     rw[List.length_map] at hj;rw[Nat.zero_add];have:=(zac HOW.out (j:=j) (u:=.string done[j]) (by rw[List.getElem?_map,List.getElem?_eq_getElem hj];rfl)).1
     exact this.trans (by rw[zbw])) (by rw[List.length_map,HLN.out];exact hpos) (by rw[List.length_map,HLN.out];exact (zbx HOW.out).1) (by rw[List.length_map,HLN.out];omega) (by have:=HF.out.join;rw[HFB.out] at this;omega)
    rw[List.length_map,HLN.out] at hJ;have HJ:=hd_ hJ;have HST:Hid (zbu p caps=baL (z8j (done.map (·.data.toList)))):=hd_ (by unfold zbu;rw[HFB.out])
    clear hJ HI;go_wp2_with fail;refine HJ.out.mono ?_;rintro e w6 ⟨rfl,hb6⟩;dsimp only;have HB6:=hd_ (z0r HA3.out (z0r HLW.out hb6));clear hb6;go_wp2_with fail;go_ret2;exact⟨by rw[HST.out];rfl,HB6.out⟩
   | true =>
    have hdl:(caps.drop (za2 p)).length=1:=by rw[List.length_drop,HF.out.len,HBR.out];simp
    obtain⟨c,hcc⟩:=List.length_eq_one_iff.1 hdl;have hlc:za2 p<caps.length:=by rw[HNC.out];have:=HLEN.out;simp at this;omega
    have e5:caps[za2 p]=c:=by have h5:=List.drop_eq_getElem_cons hlc;rw[hcc] at h5;injection h5 with h5 _;exact h5.symm
    obtain⟨ad3,rfl,hab3,t0⟩:=Strs.at_ (A:=Ac) (c:=cc) (by have:=HC.out.below (z0r HA3.out HLW.out);exact this) hlc
    rw[e5] at t0;have hcm:c∈caps:=List.mem_of_mem_drop (by rw[hcc];exact List.mem_cons_self ..)
    have HCZ:=hd_ (HF.out.size c hcm);have HCL:=hd_ (HF.out.last HBR.out c (by rw[hcc];exact List.mem_cons_self ..))
    have HFB:Hid (zbt p caps=done++[c]):=hd_ (by unfold zbt;rw[HBR.out,HFA.out,if_pos rfl,hcc])
    have HSP:=hd_ (z6z c wr (HE.out.below (z0r HA3.out HLW.out)) (by have:=HCZ.out;omega))
    have HSN:=hd_ (fun q (hq:q∈z1a c.data.toList)=>(z1e hq).2);have HJN:Hid (Lib.join ((done.map (·.data.toList))++z1a c.data.toList) [47]=Lib.join ((zbt p caps).map (·.data.toList)) [47]):=hd_ (by rw[zob,HFB.out,List.map_append];rfl)
    have HPO:Hid (0<(z1a c.data.toList).length):=hd_ (List.length_pos_iff.2 (z1b _));have hn0:(za1 p.parts p.parts.length:Int)<(nc:Int):=by rw[za4,← HNC.out];omega
    rw[za4] at hn0 ⊢;clear hdl hcc hab3 hcm e5 hlc HI;go_wp2_with fail;refine HSP.out.mono ?_;rintro e w5 ⟨rfl,hw5⟩;dsimp only;have hb5:Below wr.heap.size wr w5:=hw5 ▸ (Below.refl _ _).alloc (Nat.le_refl _) _;have hk5:Blk w5 wr.heap.size 9 (z6v (z1a c.data.toList)):=hw5 ▸ z0l wr _ _;have HL5:=hd_ (z0r HLW.out hb5);have HK5:=hd_ hk5;have HO5:=hd_ (z0n HOW.out hb5);have HNE:Hid ((Value.slice A2 p.parts.length c2).ownBlock≠some wr.heap.size):=hd_ (fun e=>by have:=(HOW.out.lt _ e).2;omega)
    have hsl:(z1a c.data.toList).length≤1000001:=by have:=z1g c.data.toList;have h2:=HCZ.out;have:c.data.toList.length=c.size:=rfl;omega
    clear hw5 hb5 hk5 t0 d1 hn0;generalize wr.heap.size=g5 at HK5 HNE ⊢;generalize z1a c.data.toList=ps at HCL HSN HK5 HJN HPO hsl ⊢;go_wp2_with fail;go_loopw [7,65] (fun av i wr=>∃(j:Nat) (A4:Option Addr) (c4:Nat),i=.int .i64 j∧av=.slice A4 (p.parts.length+j) c4∧j≤ps.length∧Hid (Below w3.heap.size w3 wr∧Blk wr g5 9 (z6v ps)∧wr.ownsRow w3.heap.size 9 1 av (p.parts.length+j) ((done++(ps.take j).map baL).map .string)∧av.ownBlock≠some g5)) (fun _ i _=>ps.length - (intOf i).toNat)
    case atStart=>exact⟨0,_,_,rfl,rfl,Nat.zero_le _,hd_ ⟨HL5.out,HK5.out,by simpa using HO5.out,HNE.out⟩⟩
    case round =>
     obtain⟨j,A4,c4,rfl,rfl,hj,HI⟩:=hrel;by_cases hlt:j<ps.length
     ·have t1:=HI.out.2.1.strs j hlt;have HCO:=hd_ (fun X=>z8s (baL ps[j]) X (by rw[z6x];have:=HSN.out _ (List.getElem_mem hlt);have:=HCZ.out;have:c.data.toList.length=c.size:=rfl;unfold maxLen;omega))
      have hcp:z0v (baL ps[j])=true:=List.all_eq_true.1 HCL.out _ (List.getElem_mem hlt);rw[hcp] at HCO;have HTK:Hid ((ps.take (j+1)).map baL=(ps.take j).map baL++[baL ps[j]]):=hd_ (by rw[List.take_succ_eq_append_getElem hlt,List.map_append];rfl)
      generalize baL ps[j]=pk at t1 HCO HTK;have HLT:=hd_ hlt;have HOW:=hd_ (z0n HI.out.2.2.1 ((Below.refl wr.heap.size wr).alloc (Nat.le_refl _) (.cells #[.string pk] 9)));have HBW:=hd_ (HI.out.1.alloc HI.out.1.size (.cells #[.string pk] 9));have HKW:=hd_ (HI.out.2.1.alloc (.cells #[.string pk] 9));have hrow:=z0i wr [.string pk] 9 1 1 rfl (by unfold maxLen;omega) wr.heap.size rfl
      clear hcp;go_wp2_with fail;refine (HCO.out _).mono ?_;rintro e w' ⟨rfl,rfl⟩;dsimp only;go_wp2_with (at_builtin;refine z0j rfl rfl zln HOW.out rfl hrow rfl (by simp [Value.oneCell']) (by omega) (by unfold maxLen;omega) HBW.out.size ?_;intro A' c' w6 hown hgr hob)
      have HN:Hid (Below w3.heap.size w3 w6∧Blk w6 g5 9 (z6v ps)∧w6.ownsRow w3.heap.size 9 1 (.slice A' (p.parts.length+j+1) c') (p.parts.length+j+1) ((done++(ps.take (j+1)).map baL).map .string)∧(Value.slice A' (p.parts.length+j+1) c').ownBlock≠some g5):=hd_ ⟨zo9 HBW.out hgr (fun k e=>(HOW.out.lt k e).1),HKW.out.grown hgr (fun e=>HI.out.2.2.2 e.symm),by rw[HTK.out,← List.append_assoc,List.map_append];exact hown,by
       rcases hob with e | e
       ·rw[e];exact HI.out.2.2.2
       ·rw[e];intro e2;injection e2 with e2;have:=HI.out.2.1.lt;simp at e2;omega⟩
      clear hown hgr hob hrow t1;go_wp2_with fail;go_roundw
      case rel=>exact⟨j+1,A',c',by go_num,by first | rfl | simp [Nat.add_assoc],by have:=HLT.out;omega,HN⟩
      case measure=>have:=HLT.out;simp [intOf];omega
     ·have hke:j=ps.length:=by omega
      subst hke;have hge2:¬((ps.length:Int)<(ps.length:Int)):=by omega
      have HO6:Hid (wr.ownsRow w3.heap.size 9 1 (.slice A4 (p.parts.length+ps.length) c4) (p.parts.length+ps.length) ((done++ps.map baL).map .string)):=hd_ (by have:=HI.out.2.2.1;rw[List.take_length] at this;exact this)
      have HB6:=hd_ HI.out.1;obtain⟨gq,cq,eq⟩:=z0s HO6.out (by have:=HPO.out;omega)
      injection eq with eq1 eq2 eq3
      subst eq1 eq3;have hll:((done++ps.map baL).map (·.data.toList)).length=p.parts.length+ps.length:=by rw[List.length_map,List.length_append,List.length_map,HLN.out]
      have hml:(done++ps.map baL).map (·.data.toList)=done.map (·.data.toList)++ps:=by rw[List.map_append,List.map_map];congr 1;simp [Function.comp_def,baL]
      have hJ:=z93 ((done++ps.map baL).map (·.data.toList)) gq 0 c4 wr (fun j hj=>by
       rw[List.length_map] at hj;rw[Nat.zero_add];have:=(zac HO6.out (j:=j) (u:=.string (done++ps.map baL)[j]) (by rw[List.getElem?_map,List.getElem?_eq_getElem hj];rfl)).1
       exact this.trans (by rw[zbw])) (by rw[hll];have:=HPO.out;omega) (by rw[hll];exact (zbx HO6.out).1) (by rw[hll];omega) (by rw[hml,HJN.out];have:=HF.out.join;omega)
      rw[hll] at hJ;have HJ:=hd_ hJ;have HST:Hid (zbu p caps=baL (z8j ((done++ps.map baL).map (·.data.toList)))):=hd_ (by unfold zbu z8j;rw[hml,HJN.out])
      clear hJ HI hll hml;go_wp2_with fail;refine HJ.out.mono ?_;rintro e w7 ⟨rfl,hb7⟩;dsimp only;have HB7:=hd_ (z0r HA3.out (z0r HB6.out hb7));clear hb7;go_wp2_with fail;go_ret2;exact⟨by rw[HST.out];rfl,HB7.out⟩
theorem zod (p:Pat)(caps:List ByteArray)(A:Option Addr)(a:Nat)(cv:Value)(w:World)(he:Env w)(hp:za9 w (.slice A p.parts.length a) p)(hc:Strs w cv caps)(hf:zbv p caps):
  Calls Tryz.prog 226 #[.agg #[.slice A p.parts.length a,.bool p.rest],cv] w fun e w'=>e=.returned (.tuple #[.string (zbu p caps),.int .i64 0])∧Below w.heap.size w w':=zoc p p.rest rfl caps A a cv w he hp hc hf
theorem chR16 (ops:Array Oper)(hops:Tryz.f59.body.bind (zci 16)=some ops)(Q:Exit→Act→World→Prop)(V:World)(g gw g18 g20:Nat)(v:Rev)(x:Edt)(F:World→Prop)(h18:Blk V g18 66 [.string v.path,.int .i64 v.num,.int .i64 v.chg,.int .i64 v.act,.int .i64 v.ty.base,.bool v.ty.k,.bool v.ty.l,.bool v.ty.x,.int .u64 v.sum,.int .i64 v.size,.string v.frm,.int .i64 v.fnum])(hne:g20≠g18)
  (hCO:∀ X,Below V.heap.size V X→Calls Tryz.prog 91 #[.pointer (some ⟨gw,0,none⟩),.pointer (some ⟨g,0,none⟩)] X fun e w'=>∃ s z:Nat,e=.returned (.agg #[.int .u64 s,.int .i64 z])∧Blk w' g18 66 [.string v.path,.int .i64 v.num,.int .i64 v.chg,.int .i64 v.act,.int .i64 v.ty.base,.bool v.ty.k,.bool v.ty.l,.bool v.ty.x,.int .u64 v.sum,.int .i64 v.size,.string v.frm,.int .i64 v.fnum]∧Blk w' g20 90 [.string x.path,.int .i64 x.act,.int .i64 x.ty.base,.bool x.ty.k,.bool x.ty.l,.bool x.ty.x,.int .u64 x.sum,.int .i64 x.size,.int .i64 x.base,.string x.frm,.int .i64 x.fnum,.int .i64 x.fence]∧F w')
  (u2 u3 u4 u5 u6 u7 u8 u9 gn gt gu gx gy gz gA gC gE gG gH gI gJ gK gL gM gN gO gP gQ gR gT gV gW gX gY gZ i6 i7 i8 ia ib ic ie ig ii ij ik il im io ip iq ir iu iv iw ix iy iz iA iB iC iD iE iF iG iH iI iJ iK iL iM iN iO iP iQ iR iS iT iU iV iW iX iY iZ j0 j1 j2 j5 j6 j7 j8 j9 jb jd je jf bw bz bA bB bD bE bF bG bH bI bJ bK bL bM bN bO bP bQ bT bU bV bW bX bY bZ ca cj ck cn cx cy cz cA cB cD cE cG cH cI cJ cM cN cO cP cQ cT cU cW cZ da db dc dd de df dg dh di dj dm du dw dz dA dB dC dD dE dF dG dH dI dJ dK dL dM dN dO dP dQ dR dS dT dU dV dW dX dY dZ ec:Value)
  (hQ:∀(ab ac af ag ah ai aj ak:Value) (s z:Nat) (w8 w':World),F w8→Blk w' g20 90 [.string x.path,.int .i64 2,.int .i64 v.ty.base,.bool v.ty.k,.bool v.ty.l,.bool v.ty.x,.int .u64 s,.int .i64 z,.int .i64 x.base,.string x.frm,.int .i64 x.fnum,.int .i64 x.fence]→Blk w8 g18 66 [.string v.path,.int .i64 v.num,.int .i64 v.chg,.int .i64 v.act,.int .i64 v.ty.base,.bool v.ty.k,.bool v.ty.l,.bool v.ty.x,.int .u64 v.sum,.int .i64 v.size,.string v.frm,.int .i64 v.fnum]→w8.grownBy w' (some g20)→Q .normal ⟨#[.pointer (some ⟨gw,0,none⟩),.pointer (some ⟨g,0,none⟩),u2,u3,u4,u5,u6,u7,u8,u9,gn,gt,gu,gx,gy,gz,gA,gC,.pointer (some ⟨g18,0,none⟩),gE,.pointer (some ⟨g20,0,none⟩),gG,gH,gI,gJ,gK,gL,gM,gN,gO,gP,gQ,gR,gT,gV,gW,gX,gY,gZ,i6,i7,i8,ia,ib,ic,ie,ig,ii,ij,ik,il,im,io,ip,iq,ir,iu,iv,iw,ix,iy,iz,iA,iB,iC,iD,iE,iF,iG,iH,iI,iJ,iK,iL,iM,iN,iO,iP,iQ,iR,iS,iT,iU,iV,iW,iX,iY,iZ,j0,j1,j2,j5,j6,j7,j8,j9,jb,jd,je,jf,bw,bz,ab,ac,af,ag,ah,ai,aj,ak,bJ,bK,bL,bM,bN,bO,bP,bQ,bT,bU,bV,bW,bX,bY,bZ,ca,cj,ck,cn,cx,cy,cz,cA,cB,cD,cE,cG,cH,cI,cJ,cM,cN,cO,cP,cQ,cT,cU,cW,cZ,da,db,dc,dd,de,df,dg,dh,di,dj,dm,du,dw,dz,dA,dB,dC,dD,dE,dF,dG,dH,dI,dJ,dK,dL,dM,dN,dO,dP,dQ,dR,dS,dT,dU,dV,dW,dX,dY,dZ,ec],[]⟩ w'):
  (Code.region 16 ops true).wp Tryz.prog Q ⟨#[.pointer (some ⟨gw,0,none⟩),.pointer (some ⟨g,0,none⟩),u2,u3,u4,u5,u6,u7,u8,u9,gn,gt,gu,gx,gy,gz,gA,gC,.pointer (some ⟨g18,0,none⟩),gE,.pointer (some ⟨g20,0,none⟩),gG,gH,gI,gJ,gK,gL,gM,gN,gO,gP,gQ,gR,gT,gV,gW,gX,gY,gZ,i6,i7,i8,ia,ib,ic,ie,ig,ii,ij,ik,il,im,io,ip,iq,ir,iu,iv,iw,ix,iy,iz,iA,iB,iC,iD,iE,iF,iG,iH,iI,iJ,iK,iL,iM,iN,iO,iP,iQ,iR,iS,iT,iU,iV,iW,iX,iY,iZ,j0,j1,j2,j5,j6,j7,j8,j9,jb,jd,je,jf,bw,bz,bA,bB,bD,bE,bF,bG,bH,bI,bJ,bK,bL,bM,bN,bO,bP,bQ,bT,bU,bV,bW,bX,bY,bZ,ca,cj,ck,cn,cx,cy,cz,cA,cB,cD,cE,cG,cH,cI,cJ,cM,cN,cO,cP,cQ,cT,cU,cW,cZ,da,db,dc,dd,de,df,dg,dh,di,dj,dm,du,dw,dz,dA,dB,dC,dD,dE,dF,dG,dH,dI,dJ,dK,dL,dM,dN,dO,dP,dQ,dR,dS,dT,dU,dV,dW,dX,dY,dZ,ec],[]⟩ V:=by
 simp only[Tryz.f59,Option.bind_some,zci] at hops
 simp at hops
 subst hops;have HQ:=hd_ hQ;have HCO:=hd_ hCO;obtain⟨r0,r1,r2,r3,r4,r5,r6,r7,r8,r9,r10,r11⟩:=z7z h18;have hne2:¬(g18=g20):=fun e=>hne e.symm;clear hQ h18 hCO;refine wp_region_noPanic ?_;go_region_law (first
  | (go_simp;go_at_call 91;refine (HCO.out _ (by repeat (first | exact Below.refl _ _ | refine Below.drew ?_))).mono ?_;rintro e w8 ⟨s,z,rfl,h18,h20,hF⟩;obtain⟨p0,p1,p2,p3,p4,p5,p6,p7,p8,p9,p10,p11⟩:=z7z h18;obtain⟨x0,x1,x2,x3,x4,x5,x6,x7,x8,x9,x10,x11⟩:=z7z h20;obtain⟨f0,f1,f2,f3,f4,f5,f6,f7,f8,f9,f10,f11⟩:=zdz h20))
 all_goals refine NoPanic.normal ?_
 all_goals first
  | exact HQ.out _ _ _ _ _ _ _ _ s z w8 _ hF ((((((((h20).set_ 1 (.int .i64 2)).set_ 2 (.int .i64 v.ty.base)).set_ 3 (.bool v.ty.k)).set_ 4 (.bool v.ty.l)).set_ 5 (.bool v.ty.x)).set_ 6 (.int .u64 s)).set_ 7 (.int .i64 z)) h18 (zpb (zpb (zpb (zpb (zpb (zpb (zpb (zpd _ _) 1 (.int .i64 2)) 2 (.int .i64 v.ty.base)) 3 (.bool v.ty.k)) 4 (.bool v.ty.l)) 5 (.bool v.ty.x)) 6 (.int .u64 s)) 7 (.int .i64 z))
  | exact HQ.out _ _ _ _ _ _ _ _ s z w8 _ hF (Blk.drew' ((((((((h20).set_ 1 (.int .i64 2)).set_ 2 (.int .i64 v.ty.base)).set_ 3 (.bool v.ty.k)).set_ 4 (.bool v.ty.l)).set_ 5 (.bool v.ty.x)).set_ 6 (.int .u64 s)).set_ 7 (.int .i64 z))) h18 (zpc (zpb (zpb (zpb (zpb (zpb (zpb (zpb (zpd _ _) 1 (.int .i64 2)) 2 (.int .i64 v.ty.base)) 3 (.bool v.ty.k)) 4 (.bool v.ty.l)) 5 (.bool v.ty.x)) 6 (.int .u64 s)) 7 (.int .i64 z)))
end Go.Proofs.YtegeboijhifmcaaGreatDoor
