/- A part of the proof. -/
import Derived.Test.YtegeboijhifmcaaGreatDoorMgw28
set_option linter.unusedVariables false
set_option linter.unusedSimpArgs false
set_option maxHeartbeats 8000000
set_option maxRecDepth 100000
namespace Go.Proofs.YtegeboijhifmcaaGreatDoor
open Go.Proofs.Tryz
open Go.RowKit
theorem zoc (p:Pat)(b:Bool)(hbr:p.rest=b)(caps:List ByteArray)(A:Option Addr)(a:Nat)(cv:Value)(w:World)(he:Env w)(hp:za9 w (.slice A p.parts.length a) p)(hc:Strs w cv caps)(hf:zbv p caps):
  Calls prog 226 #[.agg #[.slice A p.parts.length a,.bool b],cv] w fun e w'=>e=.returned (.tuple #[.string (zbu p caps),.int .i64 0])∧Below w.heap.size w w':=by
 have hB:=z0l w [.slice A p.parts.length a,.bool b] 97;have hA:Below w.heap.size w (w.alloc (.cells #[.slice A p.parts.length a,.bool b] 97)):=(Below.refl _ _).alloc (Nat.le_refl _) _;have HKC:Hid (∀ X,Below w.heap.size w X→Calls prog 181 #[.agg #[.slice A p.parts.length a,.bool b]] X fun e w'=>e=.returned (.int .i64 0)∧Below X.heap.size X w'):=hd_ (fun X hX=>by have:=zca p A a X (hp.below hX).1 hp.small;rw[hbr,hf.pat] at this;exact this)
 have HW:=hd_ (fun X (hX:Below w.heap.size w X)=>zo8 p b hbr A a X (hp.below hX) hf.pat);have HP:=hd_ hp;have HC:=hd_ hc;have HF:=hd_ hf;have HE:=hd_ he;have hl12:=zao hf.pat;have hs12:za2 p≤12:=Nat.le_trans (List.length_filter_le ..) hl12;obtain⟨Ac,cc,rfl,-⟩:=id hc;obtain⟨nc,hnc⟩:∃ nc,caps.length=nc:=⟨_,rfl⟩;have hlen:nc=za2 p+(if b then 1 else 0):=hnc.symm.trans (by rw[hf.len,hbr])
 have HNC:=hd_ hnc;rw[hnc];have HBR:=hd_ hbr;clear hp hc hf he hnc hbr;rw[← hlen] at HW;have HLEN:=hd_ hlen;have q0:((nc:Int) != (nc:Int))=false:=by simp
 clear hlen;go_enter func226,ntmps226;go_upto_region 1 with fail;generalize w.alloc (.cells #[.slice A p.parts.length a,.bool b] 97)=W1 at hB hA ⊢;have d0:W1.cell? ⟨w.heap.size,0,none⟩=some (.slice A p.parts.length a):=hB.cell 0;have d1:W1.cell? ⟨w.heap.size,1,none⟩=some (.bool b):=hB.cell 1;have HB:=hd_ hB;have HA:=hd_ hA;have HK1:=hd_ (HKC.out W1 hA);clear hB hA HKC;go_wp2_with fail;refine HK1.out.mono ?_;rintro e w2 ⟨rfl,hb⟩;dsimp only;have HA2:=hd_ (z0r HA.out hb);have HB2:=hd_ (HB.out.below hb HB.out.lt);have HW2:=hd_ (HW.out w2 HA2.out);clear hb d0 d1 HK1 HB HA HW;have d0:w2.cell? ⟨w.heap.size,0,none⟩=some (.slice A p.parts.length a):=HB2.out.cell 0;have d1:w2.cell? ⟨w.heap.size,1,none⟩=some (.bool b):=HB2.out.cell 1;go_wp2_with fail;refine HW2.out.mono ?_;rintro e w3 ⟨rfl,hb⟩;dsimp only;have HA3:=hd_ (z0r HA2.out hb);have HB3:=hd_ (HB2.out.below hb HB2.out.lt);clear hb d0 d1 HW2 HB2 HA2;have d0:w3.cell? ⟨w.heap.size,0,none⟩=some (.slice A p.parts.length a):=HB3.out.cell 0;go_wp2_with fail;go_loopw [7,8,28] (fun av z i wr=>∃(k:Nat) (done:List ByteArray) (A2:Option Addr) (c2:Nat),i=.int .i64 k∧z=.int .i64 (za1 p.parts k)∧av=.slice A2 k c2∧k≤p.parts.length∧Hid (RfSt w3 wr p.parts caps k done av)) (fun _ _ i _=>p.parts.length - (intOf i).toNat)
 case atStart=>exact⟨0,[],_,_,rfl,by simp [za1],rfl,Nat.zero_le _,hd_ ⟨Below.refl _ _,World.ownsRow_nil _ _ _ _,rfl,by simp [za1]⟩⟩
 case round =>
  obtain⟨k,done,A2,c2,rfl,rfl,rfl,hk,HI⟩:=hrel;clear d0;by_cases hlt:k<p.parts.length
  ·have HPX:=hd_ (HP.out.below (z0r HA3.out HI.out.low));obtain⟨ad,rfl,hab,s0⟩:=Strs.at_ HPX.out.1 hlt;have hform:=zcc HF.out.pat hlt;have HT:Hid (∀ X,Calls prog 217 #[.string p.parts[k]] X fun e w'=>e=.returned (.tuple #[.string (if z79 p.parts[k] then z80 p.parts[k] else z2l),.bool (z79 p.parts[k])])∧X=w'):=hd_ (fun X=>by
    have:=z9n p.parts[k] X (HP.out.small _ (List.getElem_mem hlt));unfold z9k at this;rw[z9b hform] at this;exact this)
   have HSZ:=hd_ (HP.out.2 _ (List.getElem_mem hlt));have HLT:=hd_ hlt;have HSP:=hd_ (fun wy av'=>HI.out.plain (wy:=wy) (av':=av') hlt);have HSS:=hd_ (fun wy av' r c=>HI.out.star (wy:=wy) (av':=av') (r:=r) (c:=c) hlt);have HRM:=hd_ (fun h=>zc1 hlt h);have HNX:=hd_ (za3 hlt);have HSU:=hd_ (show (z80 p.parts[k]).size≤p.parts[k].size from by unfold z80;rw[ByteArray.size_extract];omega)
   generalize p.parts[k]=part at s0 HT HSP HSS HRM HSZ HNX HSU;obtain⟨st,hst⟩:∃ st,z79 part=st:=⟨_,rfl⟩;have HST:=hd_ hst;rw[hst] at HT HNX;clear hst hab hform;have HOW:=hd_ HI.out.own;have HBI:=hd_ HI.out.low;cases st with
   | false =>
    have hnx:za1 p.parts (k+1)=za1 p.parts k:=by rw[HNX.out];rfl
    have HNX2:=hd_ hnx;clear hnx;go_wp2_with fail;refine (HT.out _).mono ?_;rintro e w' ⟨rfl,rfl⟩;dsimp only;go_wp2_with (at_builtin;refine z0k rfl rfl z87 (z0n HOW.out ((Below.refl _ _).alloc (Nat.le_refl _) _)) rfl (z0i _ [.string part] _ 1 1 rfl (by decide) _ (by simp)) rfl (HBI.out.alloc HBI.out.size _) (HBI.out.alloc HBI.out.size _).size (by simp [Value.oneCell']) (by omega) (by unfold maxLen;omega) ?_;intro A' c' w5 hown5 hbl5)
    have HN:=hd_ (HSP.out w5 (.slice A' (k+1) c') HST.out hbl5 (by rw[List.map_append];exact hown5))
    clear hown5 hbl5;go_wp2_with fail;go_roundw
    case rel=>exact⟨k+1,done++[part],_,_,by go_num,by rw[HNX2.out],rfl,by have:=HLT.out;omega,HN⟩
    case measure=>have:=HLT.out;simp [intOf];omega
   | true =>
    have hroom:=HRM.out HST.out;have h3:=HF.out.len;have hlc:za1 p.parts k<caps.length:=by omega
    obtain⟨ad3,rfl,hab3,t0⟩:=Strs.at_ (A:=Ac) (c:=cc) (by have:=HC.out.below (z0r HA3.out HI.out.low);exact this) hlc
    have hcr:caps.drop (za1 p.parts k)=caps[za1 p.parts k] :: caps.drop (za1 p.parts k+1):=List.drop_eq_getElem_cons hlc;have hmem:caps[za1 p.parts k]∈caps.take (za2 p):=List.mem_take_iff_getElem.2 ⟨za1 p.parts k,by omega,rfl⟩
    generalize caps[za1 p.parts k]=c at t0 hcr hmem;have HCO:=hd_ (fun X=>z8s c X (by have:=HF.out.size c (List.mem_of_mem_take hmem);unfold maxLen;omega))
    rw[HF.out.comp c hmem] at HCO;have HCR:=hd_ hcr;have hcz:c.size≤1000000:=HF.out.size c (List.mem_of_mem_take hmem);have z0:(za1 p.parts k:Int)<(nc:Int):=by have:=HNC.out;omega
    have HS12:Hid (za1 p.parts k≤12):=hd_ (by omega)
    have hnx:za1 p.parts (k+1)=za1 p.parts k+1:=by rw[HNX.out];rfl
    have HNX2:=hd_ hnx;have hsu:(z80 part).size≤1000000:=Nat.le_trans HSU.out HSZ.out;have z1:¬ 9223372036854775807<c.size+(z80 part).size:=by omega
    have q9:IntKind.i64.wrap ((za1 p.parts k:Int)+1)=((za1 p.parts k+1:Nat):Int):=by rw[IntKind.wrap_i64];have:=HS12.out;omega
    generalize hsf:z80 part=sf at HT HSS z1;clear hcr hab3 hmem hroom h3 hlc hnx hsf;go_wp2_with fail;refine (HT.out _).mono ?_;rintro e w' ⟨rfl,rfl⟩;dsimp only;go_wp2_with fail;refine (HCO.out _).mono ?_;rintro e w' ⟨rfl,rfl⟩;dsimp only;clear s0;go_wp2_with (at_builtin;refine z0k rfl rfl z87 (z0n HOW.out ((Below.refl _ _).alloc (Nat.le_refl _) _)) rfl (z0i _ [.string (c++sf)] _ 1 1 rfl (by decide) _ (by simp)) rfl (HBI.out.alloc HBI.out.size _) (HBI.out.alloc HBI.out.size _).size (by simp [Value.oneCell']) (by omega) (by unfold maxLen;omega) ?_;intro A' c' w5 hown5 hbl5)
    have HN:=hd_ (HSS.out w5 (.slice A' (k+1) c') _ c HST.out HCR.out hbl5 (by rw[List.map_append];exact hown5))
    clear hown5 hbl5;go_wp2_with fail;go_roundw
    case rel=>exact⟨k+1,done++[c++sf],_,_,by go_num,by rw[HNX2.out];first | rfl | (simp;done) | (congr 1;have:=HS12.out;simp [wrap64];omega),rfl,by have:=HLT.out;omega,HN⟩
    case measure=>have:=HLT.out;simp [intOf];omega
  ·have hke:k=p.parts.length:=by omega
   subst hke;have HFA:Hid (zbs p.parts caps=done):=hd_ (by
    have:=HI.out.is;rw[List.drop_length] at this;rw[← this];unfold zbs;simp)
   have hge:¬((p.parts.length:Int)<(p.parts.length:Int)):=by omega
   have HOW:=hd_ HI.out.own;have HLW:=hd_ HI.out.low;have HLN:=hd_ HI.out.len;have d1:wr.cell? ⟨w.heap.size,1,none⟩=some (.bool b):=(HB3.out.below HLW.out HB3.out.lt).cell 1;cases b with
   | false =>
    have HFB:Hid (zbt p caps=done):=hd_ (by unfold zbt;rw[HBR.out,HFA.out];simp)
    have hpos:0<p.parts.length:=by have h1:=HF.out.some;rw[HFB.out,HLN.out] at h1;exact h1
    obtain⟨gq,cq,eq⟩:=z0s HOW.out hpos;injection eq with eq1 eq2 eq3
    subst eq1 eq3;have hJ:=z93 (done.map (·.data.toList)) gq 0 c2 wr (fun j hj=>by
     rw[List.length_map] at hj;rw[Nat.zero_add];have:=(zac HOW.out (j:=j) (u:=.string done[j]) (by rw[List.getElem?_map,List.getElem?_eq_getElem hj];rfl)).1
     exact this.trans (by rw[zbw])) (by rw[List.length_map,HLN.out];exact hpos) (by rw[List.length_map,HLN.out];exact (zbx HOW.out).1) (by rw[List.length_map,HLN.out];omega) (by have:=HF.out.join;rw[HFB.out] at this;omega)
    rw[List.length_map,HLN.out] at hJ;have HJ:=hd_ hJ;have HST:Hid (zbu p caps=baL (z8j (done.map (·.data.toList)))):=hd_ (by unfold zbu;rw[HFB.out])
    clear hJ HI;go_wp2_with fail;refine HJ.out.mono ?_;rintro e w6 ⟨rfl,hb6⟩;dsimp only;have HB6:=hd_ (z0r HA3.out (z0r HLW.out hb6));clear hb6;go_wp2_with fail;go_ret2;exact⟨by rw[HST.out];rfl,HB6.out⟩
   | true =>
    have hdl:(caps.drop (za2 p)).length=1:=by rw[List.length_drop,HF.out.len,HBR.out];simp
    obtain⟨c,hcc⟩:=List.length_eq_one_iff.1 hdl;have hlc:za2 p<caps.length:=by rw[HNC.out];have:=HLEN.out;simp at this;omega
    have e5:caps[za2 p]=c:=by have h5:=List.drop_eq_getElem_cons hlc;rw[hcc] at h5;injection h5 with h5 _;exact h5.symm
    obtain⟨ad3,rfl,hab3,t0⟩:=Strs.at_ (A:=Ac) (c:=cc) (by have:=HC.out.below (z0r HA3.out HLW.out);exact this) hlc
    rw[e5] at t0;have hcm:c∈caps:=List.mem_of_mem_drop (by rw[hcc];exact List.mem_cons_self ..)
    have HCZ:=hd_ (HF.out.size c hcm);have HCL:=hd_ (HF.out.last HBR.out c (by rw[hcc];exact List.mem_cons_self ..))
    have HFB:Hid (zbt p caps=done++[c]):=hd_ (by unfold zbt;rw[HBR.out,HFA.out,if_pos rfl,hcc])
    have HSP:=hd_ (z6z c wr (HE.out.below (z0r HA3.out HLW.out)) (by have:=HCZ.out;omega))
    have HSN:=hd_ (fun q (hq:q∈z1a c.data.toList)=>(z1e hq).2);have HJN:Hid (Lib.join ((done.map (·.data.toList))++z1a c.data.toList) [47]=Lib.join ((zbt p caps).map (·.data.toList)) [47]):=hd_ (by rw[zob,HFB.out,List.map_append];rfl)
    have HPO:Hid (0<(z1a c.data.toList).length):=hd_ (List.length_pos_iff.2 (z1b _));have hn0:(za1 p.parts p.parts.length:Int)<(nc:Int):=by rw[za4,← HNC.out];omega
    rw[za4] at hn0 ⊢;clear hdl hcc hab3 hcm e5 hlc HI;go_wp2_with fail;refine HSP.out.mono ?_;rintro e w5 ⟨rfl,hw5⟩;dsimp only;have hb5:Below wr.heap.size wr w5:=hw5 ▸ (Below.refl _ _).alloc (Nat.le_refl _) _;have hk5:Blk w5 wr.heap.size 9 (z6v (z1a c.data.toList)):=hw5 ▸ z0l wr _ _;have HL5:=hd_ (z0r HLW.out hb5);have HK5:=hd_ hk5;have HO5:=hd_ (z0n HOW.out hb5);have HNE:Hid ((Value.slice A2 p.parts.length c2).ownBlock≠some wr.heap.size):=hd_ (fun e=>by have:=(HOW.out.lt _ e).2;omega)
    have hsl:(z1a c.data.toList).length≤1000001:=by have:=z1g c.data.toList;have h2:=HCZ.out;have:c.data.toList.length=c.size:=rfl;omega
    clear hw5 hb5 hk5 t0 d1 hn0;generalize wr.heap.size=g5 at HK5 HNE ⊢;generalize z1a c.data.toList=ps at HCL HSN HK5 HJN HPO hsl ⊢;go_wp2_with fail;go_loopw [7,65] (fun av i wr=>∃(j:Nat) (A4:Option Addr) (c4:Nat),i=.int .i64 j∧av=.slice A4 (p.parts.length+j) c4∧j≤ps.length∧Hid (Below w3.heap.size w3 wr∧Blk wr g5 9 (z6v ps)∧wr.ownsRow w3.heap.size 9 1 av (p.parts.length+j) ((done++(ps.take j).map baL).map .string)∧av.ownBlock≠some g5)) (fun _ i _=>ps.length - (intOf i).toNat)
    case atStart=>exact⟨0,_,_,rfl,rfl,Nat.zero_le _,hd_ ⟨HL5.out,HK5.out,by simpa using HO5.out,HNE.out⟩⟩
    case round =>
     obtain⟨j,A4,c4,rfl,rfl,hj,HI⟩:=hrel;by_cases hlt:j<ps.length
     ·have t1:=HI.out.2.1.strs j hlt;have HCO:=hd_ (fun X=>z8s (baL ps[j]) X (by rw[z6x];have:=HSN.out _ (List.getElem_mem hlt);have:=HCZ.out;have:c.data.toList.length=c.size:=rfl;unfold maxLen;omega))
      have hcp:z0v (baL ps[j])=true:=List.all_eq_true.1 HCL.out _ (List.getElem_mem hlt);rw[hcp] at HCO;have HTK:Hid ((ps.take (j+1)).map baL=(ps.take j).map baL++[baL ps[j]]):=hd_ (by rw[List.take_succ_eq_append_getElem hlt,List.map_append];rfl)
      generalize baL ps[j]=pk at t1 HCO HTK;have HLT:=hd_ hlt;have HOW:=hd_ (z0n HI.out.2.2.1 ((Below.refl wr.heap.size wr).alloc (Nat.le_refl _) (.cells #[.string pk] 9)));have HBW:=hd_ (HI.out.1.alloc HI.out.1.size (.cells #[.string pk] 9));have HKW:=hd_ (HI.out.2.1.alloc (.cells #[.string pk] 9));have hrow:=z0i wr [.string pk] 9 1 1 rfl (by unfold maxLen;omega) wr.heap.size rfl
      clear hcp;go_wp2_with fail;refine (HCO.out _).mono ?_;rintro e w' ⟨rfl,rfl⟩;dsimp only;go_wp2_with (at_builtin;refine z0j rfl rfl zln HOW.out rfl hrow rfl (by simp [Value.oneCell']) (by omega) (by unfold maxLen;omega) HBW.out.size ?_;intro A' c' w6 hown hgr hob)
      have HN:Hid (Below w3.heap.size w3 w6∧Blk w6 g5 9 (z6v ps)∧w6.ownsRow w3.heap.size 9 1 (.slice A' (p.parts.length+j+1) c') (p.parts.length+j+1) ((done++(ps.take (j+1)).map baL).map .string)∧(Value.slice A' (p.parts.length+j+1) c').ownBlock≠some g5):=hd_ ⟨zo9 HBW.out hgr (fun k e=>(HOW.out.lt k e).1),HKW.out.grown hgr (fun e=>HI.out.2.2.2 e.symm),by rw[HTK.out,← List.append_assoc,List.map_append];exact hown,by
       rcases hob with e | e
       ·rw[e];exact HI.out.2.2.2
       ·rw[e];intro e2;injection e2 with e2;have:=HI.out.2.1.lt;simp at e2;omega⟩
      clear hown hgr hob hrow t1;go_wp2_with fail;go_roundw
      case rel=>exact⟨j+1,A',c',by go_num,by first | rfl | simp [Nat.add_assoc],by have:=HLT.out;omega,HN⟩
      case measure=>have:=HLT.out;simp [intOf];omega
     ·have hke:j=ps.length:=by omega
      subst hke;have hge2:¬((ps.length:Int)<(ps.length:Int)):=by omega
      have HO6:Hid (wr.ownsRow w3.heap.size 9 1 (.slice A4 (p.parts.length+ps.length) c4) (p.parts.length+ps.length) ((done++ps.map baL).map .string)):=hd_ (by have:=HI.out.2.2.1;rw[List.take_length] at this;exact this)
      have HB6:=hd_ HI.out.1;obtain⟨gq,cq,eq⟩:=z0s HO6.out (by have:=HPO.out;omega)
      injection eq with eq1 eq2 eq3
      subst eq1 eq3;have hll:((done++ps.map baL).map (·.data.toList)).length=p.parts.length+ps.length:=by rw[List.length_map,List.length_append,List.length_map,HLN.out]
      have hml:(done++ps.map baL).map (·.data.toList)=done.map (·.data.toList)++ps:=by rw[List.map_append,List.map_map];congr 1;simp [Function.comp_def,baL]
      have hJ:=z93 ((done++ps.map baL).map (·.data.toList)) gq 0 c4 wr (fun j hj=>by
       rw[List.length_map] at hj;rw[Nat.zero_add];have:=(zac HO6.out (j:=j) (u:=.string (done++ps.map baL)[j]) (by rw[List.getElem?_map,List.getElem?_eq_getElem hj];rfl)).1
       exact this.trans (by rw[zbw])) (by rw[hll];have:=HPO.out;omega) (by rw[hll];exact (zbx HO6.out).1) (by rw[hll];omega) (by rw[hml,HJN.out];have:=HF.out.join;omega)
      rw[hll] at hJ;have HJ:=hd_ hJ;have HST:Hid (zbu p caps=baL (z8j ((done++ps.map baL).map (·.data.toList)))):=hd_ (by unfold zbu z8j;rw[hml,HJN.out])
      clear hJ HI hll hml;go_wp2_with fail;refine HJ.out.mono ?_;rintro e w7 ⟨rfl,hb7⟩;dsimp only;have HB7:=hd_ (z0r HA3.out (z0r HB6.out hb7));clear hb7;go_wp2_with fail;go_ret2;exact⟨by rw[HST.out];rfl,HB7.out⟩
theorem zod (p:Pat)(caps:List ByteArray)(A:Option Addr)(a:Nat)(cv:Value)(w:World)(he:Env w)(hp:za9 w (.slice A p.parts.length a) p)(hc:Strs w cv caps)(hf:zbv p caps):
  Calls prog 226 #[.agg #[.slice A p.parts.length a,.bool p.rest],cv] w fun e w'=>e=.returned (.tuple #[.string (zbu p caps),.int .i64 0])∧Below w.heap.size w w':=zoc p p.rest rfl caps A a cv w he hp hc hf
structure Frm (wr w':World)(g gw:Nat)(cv cv':Value):Prop where
 os:w'.os=wr.os
 tape:w'.tape=wr.tape
 output:w'.output=wr.output
 size:wr.heap.size≤w'.heap.size
 block:∀ k,k<wr.heap.size→k≠g→k≠gw→cv.ownBlock≠some k→w'.heap[k]? = wr.heap[k]?
 ob:cv'.ownBlock=cv.ownBlock∨∀ x,cv'.ownBlock=some x→wr.heap.size≤x
theorem Frm.of_kept {wr w':World}{g gw:Nat}{cv:Value}(h:z6t [g] wr w'):Frm wr w' g gw cv cv:=⟨h.os,h.tape,h.output,h.size,fun k hk h1 _ _=>h.block k hk (by simpa using h1),.inl rfl⟩
theorem Frm.trans {w1 w2 w3:World}{g gw:Nat}{a b c:Value}(h:Frm w1 w2 g gw a b)(h2:Frm w2 w3 g gw b c):Frm w1 w3 g gw a c:=by
 refine⟨h2.os.trans h.os,h2.tape.trans h.tape,h2.output.trans h.output,Nat.le_trans h.size h2.size,fun k hk h3 h4 h5=>(h2.block k (Nat.lt_of_lt_of_le hk h.size) h3 h4 ?_).trans (h.block k hk h3 h4 h5),?_⟩
 ·rcases h.ob with e | e
  ·rw[e];exact h5
  ·intro e2;have:=e k e2;omega
 ·rcases h2.ob with e | e
  ·rcases h.ob with e' | e'
   ·exact .inl (e.trans e')
   ·exact .inr fun x hx=>e' x (by rw[← e];exact hx)
  ·exact .inr fun x hx=>Nat.le_trans h.size (e x hx)
theorem Frm.blk {wr w':World}{g gw k:Nat}{cv cv':Value}{e:TypeId}{cs:List Value}(h:Frm wr w' g gw cv cv')(hB:Blk wr k e cs)(h1:k≠g)(h2:k≠gw)(h3:cv.ownBlock≠some k):Blk w' k e cs:=(h.block k hB.lt h1 h2 h3).trans hB
theorem WsB.set_at {w wr:World}{U g gw m k i:Nat}{D:List Rev}{dv dr cv u:Value}{l:List Cnk}(h:WsB w wr U g gw m D dv dr cv l)(h1:w.heap.size≤k)(h2:k≠gw)(h3:cv.ownBlock≠some k)(h4:dv.ownBlock≠some k):WsB w (wr.setCell ⟨k,i,none⟩ u) U g gw m D dv dr cv l:=by
 have hb:Below w.heap.size wr (wr.setCell ⟨k,i,none⟩ u):=(Below.refl _ _).setCell (p:=⟨k,i,none⟩) h1 u;exact⟨h.kept.onto hb,h.tape.onto h.UU hb,h.box.far (p:=⟨k,i,none⟩) h2 u,z4r h.cnk (p:=⟨k,i,none⟩) h3 u,Row.set_far h.revs h4,h.gU,h.UU,h.le,fun x hx=>⟨(h.far x hx).1,Nat.lt_of_lt_of_le (h.far x hx).2.1 hb.size,(h.far x hx).2.2⟩⟩
def WcPost (w wr:World)(U g gw m:Nat)(D:List Rev)(dv dr cv:Value)(n:Nat)(e:Ending)(w':World):Prop:=∃(s z:Nat) (cv':Value) (l':List Cnk),e=.returned (.agg #[.int .u64 s,.int .i64 z])∧WsB w w' U g gw m D dv dr cv' l'∧l'.length≤n+1∧Frm wr w' g gw cv cv'
theorem zpa {w wr:World}{U g gw m:Nat}{D:List Rev}{dv dr cv:Value}{l:List Cnk}(h:WsB w wr U g gw m D dv dr cv l)(hl:l.length≤100000)(hm:m≤90000):
  Calls prog 91 #[.pointer (some ⟨gw,0,none⟩),.pointer (some ⟨g,0,none⟩)] wr (WcPost w wr U g gw (m+5) D dv dr cv l.length):=by
 have hA:Below wr.heap.size wr (wr.alloc (.cells #[.int .u64 0,.int .i64 0] 64)):=(Below.refl _ _).alloc (Nat.le_refl _) _;have hX:Blk _ _ 64 [.int .u64 0,.int .i64 0]:=z0l wr _ _;have hg:=h.gU;have hUU:=h.UU;have hle:=h.le;have hbl:=h.box.lt;have HO:Hid (g<wr.heap.size∧gw<wr.heap.size∧(∀ x,cv.ownBlock=some x→x<wr.heap.size)∧U≤wr.heap.size):=hd_ ⟨by omega,hbl,fun x hx=>(h.cnk.lt x hx).2,by omega⟩
 have HDV:Hid (w.heap.size≤wr.heap.size∧∀ x,dv.ownBlock=some x→x<wr.heap.size):=hd_ ⟨h.kept.size,fun x hx=>(h.far x hx).2.1⟩;have HS:=hd_ (h.under hA);have HF:=hd_ (Frm.of_kept (gw:=gw) (cv:=cv) (z6t.below (S:=[g]) hA));have HX:=hd_ hX;have HY:=hd_ (zp8 U g m _ (HS.out.tape) (by have:=hA.size;omega) (by omega))
 clear h hA hX hg hUU hle hbl;go_enter func91,ntmps91;go_upto_region 1 with fail;generalize wr.alloc (.cells #[.int .u64 0,.int .i64 0] 64)=W1 at HS HF HX HY ⊢;have HG4:=hd_ (rfl:wr.heap.size=wr.heap.size);generalize hg4:wr.heap.size=g4 at HX HO HDV HG4 ⊢;go_wp2_with fail;refine HY.out.mono ?_;rintro e w2 ⟨v5,n,rfl,hn,hM,hT2,hK2⟩;dsimp only;have HS2:=hd_ (HS.out.next hK2 hT2);have HF2:=hd_ (HF.out.trans (Frm.of_kept hK2));have HX2:=hd_ (hK2.blk HX.out (by have:=HO.out.1;simp;omega))
 obtain⟨bs,hbs,hB⟩:=hM.row;obtain⟨A5,c5,rfl⟩:∃ A c,v5=.slice A n c:=by obtain⟨g',cap,cur,fz,e1,-⟩:=hM;exact⟨_,_,e1⟩
 have HOF:=hd_ (rOf_any bs _ w2 hB);rw[hbs] at HOF;clear hM hT2 hK2 hbs hB HY HS HF HX;go_wp2_with fail;refine HOF.out.mono ?_;rintro e w3 ⟨⟨r,rfl⟩,hb3⟩;dsimp only;have hb4:=z0r hb3 ((Below.refl w3.heap.size w3).alloc (Nat.le_refl _) (.cells #[.int .u64 r,.int .i64 n] 64));have HS4:=hd_ (HS2.out.under hb4);have HF4:=hd_ (HF2.out.trans (Frm.of_kept (z6t.below hb4)));have HX4:=hd_ (HX2.out.below hb4 HX2.out.lt);have HI4:Hid (Blk _ _ 64 [.int .u64 r,.int .i64 n]):=hd_ (z0l w3 _ _);have HO4:Hid (g4≠w3.heap.size∧g4<w3.heap.size):=hd_ (by have h1:=HX2.out.lt;have h2:=hb3.size;omega)
 clear hb3 hb4 HS2 HF2 HX2 HOF;go_upto_region 3 with fail;generalize w3.alloc (.cells #[.int .u64 r,.int .i64 n] 64)=W4 at HS4 HF4 HX4 HI4 ⊢;generalize w3.heap.size=g6 at HI4 HO4 ⊢;have x0:W4.cell? ⟨g6,0,none⟩=some (.int .u64 r):=HI4.out.cell 0;have x1:W4.cell? ⟨g6,1,none⟩=some (.int .i64 n):=HI4.out.cell 1;have HFI:=hd_ (zp9 HS4.out r n (by omega))
 go_wp2_with fail;refine HFI.out.mono ?_;rintro e w5 ⟨⟨A6,n6,c6,b,rfl⟩,hb5⟩;dsimp only;have HS5:=hd_ (HS4.out.under hb5);have HF5:=hd_ (HF4.out.trans (Frm.of_kept (z6t.below hb5)));have HX5:=hd_ (HX4.out.below hb5 HX4.out.lt);have HI5:=hd_ (HI4.out.below hb5 HI4.out.lt);clear hb5 x0 x1 HFI HS4 HF4 HX4 HI4;go_upto_if 20 with fail
 go_cut [] (fun wx=>Hid (∃ cv' l',WsB w wx U g gw (m+5) D dv dr cv' l'∧l'.length≤l.length+1∧Frm wr wx g gw cv cv'∧Blk wx g4 64 [.int .u64 0,.int .i64 0]∧Blk wx g6 64 [.int .u64 r,.int .i64 n]))
 case first =>
  cases b with
  | true =>
   go_wp2_with fail;go_meet
   exact hd_ ⟨cv,l,HS5.out,by omega,HF5.out,HX5.out,HI5.out⟩
  | false =>
   obtain⟨Ac,cc,rfl⟩:=z0o HS5.out.cnk;have HEND:Hid (∀ Y W A' c',Below w5.heap.size w5 Y→Y.grownBy W (Value.slice Ac l.length cc).ownBlock→W.ownsRow (gw+1) 207 3 (.slice A' (l.length+1) c') (l.length+1) (l.flatMap Cnk.cells++[.int .u64 r,.int .i64 n,.slice A5 n c5])→((Value.slice A' (l.length+1) c').ownBlock=(Value.slice Ac l.length cc).ownBlock∨(Value.slice A' (l.length+1) c').ownBlock=some Y.heap.size) →
     (W.cell? ⟨gw,2,none⟩=some (.slice Ac l.length cc)∧W.frozen? ⟨gw,2,none⟩=false)∧Hid (∃ cv' l',WsB w (W.setCell ⟨gw,2,none⟩ (.slice A' (l.length+1) c')) U g gw (m+5) D dv dr cv' l'∧l'.length≤l.length+1∧Frm wr (W.setCell ⟨gw,2,none⟩ (.slice A' (l.length+1) c')) g gw (.slice Ac l.length cc) cv'∧Blk (W.setCell ⟨gw,2,none⟩ (.slice A' (l.length+1) c')) g4 64 [.int .u64 0,.int .i64 0]∧Blk (W.setCell ⟨gw,2,none⟩ (.slice A' (l.length+1) c')) g6 64 [.int .u64 r,.int .i64 n])):=hd_ fun Y W A' c' hY hG hOw hob=>by
    have hSY:=HS5.out.under hY;have hne:some gw≠(Value.slice Ac l.length cc).ownBlock:=fun e=>by have:=(HS5.out.cnk.lt gw e.symm).1;omega
    have hbx:=hSY.box.grown hG hne;have hn4:some g4≠(Value.slice Ac l.length cc).ownBlock:=fun e=>by have:=HO.out.2.2.1 g4 e.symm;omega
    have hn6:some g6≠(Value.slice Ac l.length cc).ownBlock:=fun e=>by have:=HO.out.2.2.1 g6 e.symm;have:=HO4.out.2;omega
    have hgw4:gw≠g4:=by have:=HO.out.2.1;omega
    have hgw6:gw≠g6:=by have:=HO.out.2.1;have:=HO4.out.2;omega
    refine⟨⟨hbx.cell 2,hbx.frozen 2⟩,hd_ ⟨_,l++[⟨r,n,A5,n,c5⟩],hSY.turn hG (by rw[List.length_append,List.flatMap_append];exact hOw) hob,by rw[List.length_append];exact Nat.le_refl _,⟨?_,?_,?_,?_,fun k hk h1 h2 h3=>?_,?_⟩,Blk.far ((HX5.out.below hY HX5.out.lt).grown hG hn4) hgw4 _,Blk.far ((HI5.out.below hY HI5.out.lt).grown hG hn6) hgw6 _⟩⟩
    ·exact (hG.os.trans hY.os).trans HF5.out.os
    ·exact (hG.tape.trans hY.tape).trans HF5.out.tape
    ·exact (hG.output.trans hY.output).trans HF5.out.output
    ·have h1:=HF5.out.size;have h2:=hY.size;have h3:=hG.size;have h4:=(z6u W gw 2 (.slice A' (l.length+1) c')).size;omega
    ·have h4:=(z6u W gw 2 (.slice A' (l.length+1) c')).block k (by have:=hG.size;have:=hY.size;have:=HF5.out.size;omega) (by intro e;injection e with e;exact h2 e)
     have h5:=hG.block k (by have:=hY.size;have:=HF5.out.size;omega) (fun e=>h3 e.symm)
     exact h4.trans (h5.trans ((hY.block k (by have:=HF5.out.size;omega)).trans (HF5.out.block k (by omega) h1 h2 h3)))
    ·rcases hob with e | e
     ·exact .inl e
     ·refine .inr fun x hx=>?_;rw[e] at hx;injection hx with hx
      have:=HF5.out.size;have:=hY.size;omega
   have hdr:Below w5.heap.size w5 w5.drew:=(Below.refl _ _).drew;have hda:Below w5.heap.size w5 (w5.alloc (.cells #[.int .u64 r,.int .i64 n,.slice A5 n c5] 207)).drew:=(zcf (Below.refl _ _) _).drew;have HL:Hid (∀ Y,Below w5.heap.size w5 Y→Y.cell? ⟨gw,2,none⟩=some (.slice Ac l.length cc)∧Y.cell? ⟨g6,0,none⟩=some (.int .u64 r)∧Y.cell? ⟨g6,1,none⟩=some (.int .i64 n)):=hd_ fun Y hY=>⟨(HS5.out.box.below hY HS5.out.box.lt).cell 2,(HI5.out.below hY HI5.out.lt).cell 0,(HI5.out.below hY HI5.out.lt).cell 1⟩;have HOW:Hid (∀ Y,Below w5.heap.size w5 Y→Y.ownsRow (gw+1) 207 3 (.slice Ac l.length cc) l.length (l.flatMap Cnk.cells)):=hd_ fun Y hY=>z0n HS5.out.cnk hY;have HDA:=hd_ hda;have HSZ:Hid (gw+1≤(w5.alloc (.cells #[.int .u64 r,.int .i64 n,.slice A5 n c5] 207)).drew.heap.size):=hd_ (by have:=HS5.out.box.lt;have:=hda.size;omega)
   obtain⟨b0,x0,x1⟩:=HL.out w5 (Below.refl _ _);obtain⟨b1,x2,x3⟩:=HL.out _ hdr;obtain⟨b2,x4,x5⟩:=HL.out _ hda;have hl2:l.length≤100000:=hl;go_upto_region 5 with fail;clear hdr hda;refine wp_region_noPanic ?_;go_region_law (first
    | (refine zce (base:=gw+1) rfl rfl cnkElem (HOW.out _ HDA.out) (by simp [Act.eval,Act.put];done) (Row.drew (z0i w5 [.int .u64 r,.int .i64 n,.slice A5 n c5] _ 3 1 rfl (by decide) _ rfl)) (by simp [Act.eval,Act.put];done) (by simp [Value.oneCell']) (by omega) (by unfold maxLen;omega) HSZ.out ?_;intro A' c' w6 hO6 hG6 hw6;obtain⟨⟨k1,k2⟩,hfin⟩:=HEND.out _ _ _ _ HDA.out hG6 hO6 hw6))
   all_goals
    refine NoPanic.normal ?_;go_wp2_with fail;go_meet
    exact hfin
 case rest =>
  obtain⟨cv',l',hS,hll,hF,hX,hI⟩:=hcut.out;have HE:=hd_ (And.intro hS (And.intro hll hF));obtain⟨x0,x1⟩:=(⟨hI.cell 0,hI.cell 1⟩:wc.cell? ⟨g6,0,none⟩=some (.int .u64 r)∧wc.cell? ⟨g6,1,none⟩=some (.int .i64 n));obtain⟨y0,y1⟩:=(⟨hX.cell 0,hX.cell 1⟩:wc.cell? ⟨g4,0,none⟩=some (.int .u64 0)∧wc.cell? ⟨g4,1,none⟩=some (.int .i64 0));obtain⟨f0,f1⟩:=(⟨hX.frozen 0,hX.frozen 1⟩:wc.frozen? ⟨g4,0,none⟩=false∧wc.frozen? ⟨g4,1,none⟩=false);have HX:=hd_ hX;have HNB:Hid (cv'.ownBlock≠some g4):=hd_ (zky hS.cnk hX (by decide))
  clear hcut hS hll hF hX hI HS5 HF5 HX5 HI5;go_wp2_with fail;have hd4:dv.ownBlock≠some g4:=fun e=>by have:=HDV.out.2 g4 e;omega
  have hw4:w.heap.size≤g4:=HDV.out.1;have hn4:g4≠gw:=by have:=HO.out.2.1;omega
  have hE:=(HX.out.set_ 0 (.int .u64 (r:Int))).set_ 1 (.int .i64 (n:Int));have hS8:=(HE.out.1.set_at (k:=g4) (i:=0) (u:=.int .u64 (r:Int)) hw4 hn4 HNB.out hd4).set_at (k:=g4) (i:=1) (u:=.int .i64 (n:Int)) hw4 hn4 HNB.out hd4;have hg1:=z6u wc g4 0 (.int .u64 (r:Int));have hg2:=z6u (wc.setCell ⟨g4,0,none⟩ (.int .u64 (r:Int))) g4 1 (.int .i64 (n:Int));have hF8:Frm wr ((wc.setCell ⟨g4,0,none⟩ (.int .u64 (r:Int))).setCell ⟨g4,1,none⟩ (.int .i64 (n:Int))) g gw cv cv':=by
   have hF:=HE.out.2.2;refine⟨(hg2.os.trans hg1.os).trans hF.os,(hg2.tape.trans hg1.tape).trans hF.tape,(hg2.output.trans hg1.output).trans hF.output,Nat.le_trans hF.size (Nat.le_trans hg1.size hg2.size),fun k hk h1 h2 h3=>?_,hF.ob⟩;have hk4:k≠g4:=by omega
   have hsz:=hF.size;exact (hg2.block k (by have:=hg1.size;omega) (by intro e;injection e with e;exact hk4 e)).trans ((hg1.block k (by omega) (by intro e;injection e with e;exact hk4 e)).trans (hF.block k hk h1 h2 h3))
  clear hg1 hg2;generalize (wc.setCell ⟨g4,0,none⟩ (.int .u64 (r:Int))).setCell ⟨g4,1,none⟩ (.int .i64 (n:Int))=W8 at hE hS8 hF8 ⊢;have e0:=hE.cell 0;have e1:=hE.cell 1;exact bodyPost_ret (v:=.agg #[.int .u64 (r:Int),.int .i64 (n:Int)]) (by simp [results,results91,go_sem,e0,e1]) rfl ⟨r,n,cv',l',rfl,hS8,HE.out.2.1,hF8⟩
section
variable {u0 u1 u2 u3 u4 u5 u6 u7 u8 u9 gn gt gu gx gy gz gA gC gD gE gF gG gH gI gJ gK gL gM gN gO gP gQ gR gT gV gW gX gY gZ i6 i7 i8 ia ib ic ie ig ii ij ik il im io ip iq ir iu iv iw ix iy iz iA iB iC iD iE iF iG iH iI iJ iK iL iM iN iO iP iQ iR iS iT iU iV iW iX iY iZ j0 j1 j2 j5 j6 j7 j8 j9 jb jd je jf bw bz bA bB bD bE bF bG bH bI bJ bK bL bM bN bO bP bQ bT bU bV bW bX bY bZ ca cj ck cn cx cy cz cA cB cD cE cG cH cI cJ cM cN cO cP cQ cT cU cW cZ da db dc dd de df dg dh di dj dm du dw dz dA dB dC dD dE dF dG dH dI dJ dK dL dM dN dO dP dQ dR dS dT dU dV dW dX dY dZ ec : Value}
theorem zpb {V W:World}{g:Nat}(h:V.grownBy W (some g))(i:Nat)(u:Value):V.grownBy (W.setCell ⟨g,i,none⟩ u) (some g):=by
 have h2:=z6u W g i u;exact⟨h2.os.trans h.os,h2.tape.trans h.tape,h2.output.trans h.output,Nat.le_trans h.size h2.size,fun k hk hne=>(h2.block k (Nat.lt_of_lt_of_le hk h.size) hne).trans (h.block k hk hne)⟩
theorem zpc {V W:World}{row:Option Nat}(h:V.grownBy W row):V.grownBy W.drew row:=⟨h.os,h.tape,h.output,h.size,h.block⟩
theorem zpd (V:World)(row:Option Nat):V.grownBy V row:=⟨rfl,rfl,rfl,Nat.le_refl _,fun _ _ _=>rfl⟩
theorem chR20 (ops:Array Oper)(hops:Tryz.f59.body.bind (zci 20)=some ops)(Q:Exit→Act→World→Prop)(V:World)(g18 g20:Nat)(v:Rev)(x:Edt)(h18:Blk V g18 66 [.string v.path,.int .i64 v.num,.int .i64 v.chg,.int .i64 v.act,.int .i64 v.ty.base,.bool v.ty.k,.bool v.ty.l,.bool v.ty.x,.int .u64 v.sum,.int .i64 v.size,.string v.frm,.int .i64 v.fnum])(h20:Blk V g20 90 [.string x.path,.int .i64 x.act,.int .i64 x.ty.base,.bool x.ty.k,.bool x.ty.l,.bool x.ty.x,.int .u64 x.sum,.int .i64 x.size,.int .i64 x.base,.string x.frm,.int .i64 x.fnum,.int .i64 x.fence])(hne:g20≠g18)
  (hQ:∀(az aA aB aC:Value) (w':World),Blk w' g20 90 [.string x.path,.int .i64 5,.int .i64 v.ty.base,.bool v.ty.k,.bool v.ty.l,.bool v.ty.x,.int .u64 x.sum,.int .i64 x.size,.int .i64 x.base,.string x.frm,.int .i64 x.fnum,.int .i64 x.fence]→V.grownBy w' (some g20)→Q .normal ⟨#[u0,u1,u2,u3,u4,u5,u6,u7,u8,u9,gn,gt,gu,gx,gy,gz,gA,gC,.pointer (some ⟨g18,0,none⟩),gE,.pointer (some ⟨g20,0,none⟩),gG,gH,gI,gJ,gK,gL,gM,gN,gO,gP,gQ,gR,gT,gV,gW,gX,gY,gZ,i6,i7,i8,ia,ib,ic,ie,ig,ii,ij,ik,il,im,io,ip,iq,ir,iu,iv,iw,ix,iy,iz,iA,iB,iC,iD,iE,iF,iG,iH,iI,iJ,iK,iL,iM,iN,iO,iP,iQ,iR,iS,iT,iU,iV,iW,iX,iY,iZ,j0,j1,j2,j5,j6,j7,j8,j9,jb,jd,je,jf,bw,bz,bA,bB,bD,bE,bF,bG,bH,bI,bJ,bK,bL,bM,bN,bO,bP,bQ,bT,bU,az,aA,aB,aC,bZ,ca,cj,ck,cn,cx,cy,cz,cA,cB,cD,cE,cG,cH,cI,cJ,cM,cN,cO,cP,cQ,cT,cU,cW,cZ,da,db,dc,dd,de,df,dg,dh,di,dj,dm,du,dw,dz,dA,dB,dC,dD,dE,dF,dG,dH,dI,dJ,dK,dL,dM,dN,dO,dP,dQ,dR,dS,dT,dU,dV,dW,dX,dY,dZ,ec],[]⟩ w'):
  (Code.region 20 ops true).wp prog Q ⟨#[u0,u1,u2,u3,u4,u5,u6,u7,u8,u9,gn,gt,gu,gx,gy,gz,gA,gC,.pointer (some ⟨g18,0,none⟩),gE,.pointer (some ⟨g20,0,none⟩),gG,gH,gI,gJ,gK,gL,gM,gN,gO,gP,gQ,gR,gT,gV,gW,gX,gY,gZ,i6,i7,i8,ia,ib,ic,ie,ig,ii,ij,ik,il,im,io,ip,iq,ir,iu,iv,iw,ix,iy,iz,iA,iB,iC,iD,iE,iF,iG,iH,iI,iJ,iK,iL,iM,iN,iO,iP,iQ,iR,iS,iT,iU,iV,iW,iX,iY,iZ,j0,j1,j2,j5,j6,j7,j8,j9,jb,jd,je,jf,bw,bz,bA,bB,bD,bE,bF,bG,bH,bI,bJ,bK,bL,bM,bN,bO,bP,bQ,bT,bU,bV,bW,bX,bY,bZ,ca,cj,ck,cn,cx,cy,cz,cA,cB,cD,cE,cG,cH,cI,cJ,cM,cN,cO,cP,cQ,cT,cU,cW,cZ,da,db,dc,dd,de,df,dg,dh,di,dj,dm,du,dw,dz,dA,dB,dC,dD,dE,dF,dG,dH,dI,dJ,dK,dL,dM,dN,dO,dP,dQ,dR,dS,dT,dU,dV,dW,dX,dY,dZ,ec],[]⟩ V:=by
 simp only[Tryz.f59,Option.bind_some,zci] at hops
 simp at hops
 subst hops;have HQ:=hd_ hQ;have H20:=hd_ h20;obtain⟨r0,r1,r2,r3,r4,r5,r6,r7,r8,r9,r10,r11⟩:=z7z h18;obtain⟨x0,x1,x2,x3,x4,x5,x6,x7,x8,x9,x10,x11⟩:=z7z h20;obtain⟨f0,f1,f2,f3,f4,f5,f6,f7,f8,f9,f10,f11⟩:=zdz h20;have hne2:¬(g18=g20):=fun e=>hne e.symm;clear hQ h18 h20;refine wp_region_noPanic ?_;go_region_law (fail)
 all_goals refine NoPanic.normal ?_
 all_goals exact HQ.out _ _ _ _ _ (Blk.drew' ((((((H20.out).set_ 1 (.int .i64 5)).set_ 2 (.int .i64 v.ty.base)).set_ 3 (.bool v.ty.k)).set_ 4 (.bool v.ty.l)).set_ 5 (.bool v.ty.x))) (zpc (zpb (zpb (zpb (zpb (zpb (zpd _ _) 1 (.int .i64 5)) 2 (.int .i64 v.ty.base)) 3 (.bool v.ty.k)) 4 (.bool v.ty.l)) 5 (.bool v.ty.x)))
theorem chR30 (ops:Array Oper)(hops:Tryz.f59.body.bind (zci 30)=some ops)(Q:Exit→Act→World→Prop)(V:World)(g18 g20:Nat)(v:Rev)(x:Edt)(h18:Blk V g18 66 [.string v.path,.int .i64 v.num,.int .i64 v.chg,.int .i64 v.act,.int .i64 v.ty.base,.bool v.ty.k,.bool v.ty.l,.bool v.ty.x,.int .u64 v.sum,.int .i64 v.size,.string v.frm,.int .i64 v.fnum])(h20:Blk V g20 90 [.string x.path,.int .i64 x.act,.int .i64 x.ty.base,.bool x.ty.k,.bool x.ty.l,.bool x.ty.x,.int .u64 x.sum,.int .i64 x.size,.int .i64 x.base,.string x.frm,.int .i64 x.fnum,.int .i64 x.fence])(hne:g20≠g18)
  (hQ:∀(bh bi bj bq:Value) (w':World),Blk w' g20 90 [.string x.path,.int .i64 3,.int .i64 v.ty.base,.bool v.ty.k,.bool v.ty.l,.bool v.ty.x,.int .u64 x.sum,.int .i64 x.size,.int .i64 x.base,.string x.frm,.int .i64 x.fnum,.int .i64 x.fence]→V.grownBy w' (some g20)→Q .normal ⟨#[u0,u1,u2,u3,u4,u5,u6,u7,u8,u9,gn,gt,gu,gx,gy,gz,gA,gC,.pointer (some ⟨g18,0,none⟩),gE,.pointer (some ⟨g20,0,none⟩),gG,gH,gI,gJ,gK,gL,gM,gN,gO,gP,gQ,gR,gT,gV,gW,gX,gY,gZ,i6,i7,i8,ia,ib,ic,ie,ig,ii,ij,ik,il,im,io,ip,iq,ir,iu,iv,iw,ix,iy,iz,iA,iB,iC,iD,iE,iF,iG,iH,iI,iJ,iK,iL,iM,iN,iO,iP,iQ,iR,iS,iT,iU,iV,iW,iX,iY,iZ,j0,j1,j2,j5,j6,j7,j8,j9,jb,jd,je,jf,bw,bz,bA,bB,bD,bE,bF,bG,bH,bI,bJ,bK,bL,bM,bN,bO,bP,bQ,bT,bU,bV,bW,bX,bY,bZ,ca,cj,ck,cn,cx,cy,cz,cA,cB,cD,cE,cG,cH,cI,cJ,cM,cN,cO,cP,cQ,cT,cU,cW,cZ,da,db,dc,dd,de,df,dg,dh,di,dj,dm,du,dw,dz,dA,dB,dC,dD,dE,dF,dG,dH,dI,dJ,dK,dL,dM,dN,dO,dP,bh,bi,bj,bq,dU,dV,dW,dX,dY,dZ,ec],[]⟩ w'):
  (Code.region 30 ops true).wp prog Q ⟨#[u0,u1,u2,u3,u4,u5,u6,u7,u8,u9,gn,gt,gu,gx,gy,gz,gA,gC,.pointer (some ⟨g18,0,none⟩),gE,.pointer (some ⟨g20,0,none⟩),gG,gH,gI,gJ,gK,gL,gM,gN,gO,gP,gQ,gR,gT,gV,gW,gX,gY,gZ,i6,i7,i8,ia,ib,ic,ie,ig,ii,ij,ik,il,im,io,ip,iq,ir,iu,iv,iw,ix,iy,iz,iA,iB,iC,iD,iE,iF,iG,iH,iI,iJ,iK,iL,iM,iN,iO,iP,iQ,iR,iS,iT,iU,iV,iW,iX,iY,iZ,j0,j1,j2,j5,j6,j7,j8,j9,jb,jd,je,jf,bw,bz,bA,bB,bD,bE,bF,bG,bH,bI,bJ,bK,bL,bM,bN,bO,bP,bQ,bT,bU,bV,bW,bX,bY,bZ,ca,cj,ck,cn,cx,cy,cz,cA,cB,cD,cE,cG,cH,cI,cJ,cM,cN,cO,cP,cQ,cT,cU,cW,cZ,da,db,dc,dd,de,df,dg,dh,di,dj,dm,du,dw,dz,dA,dB,dC,dD,dE,dF,dG,dH,dI,dJ,dK,dL,dM,dN,dO,dP,dQ,dR,dS,dT,dU,dV,dW,dX,dY,dZ,ec],[]⟩ V:=by
 simp only[Tryz.f59,Option.bind_some,zci] at hops
 simp at hops
 subst hops;have HQ:=hd_ hQ;have H20:=hd_ h20;obtain⟨r0,r1,r2,r3,r4,r5,r6,r7,r8,r9,r10,r11⟩:=z7z h18;obtain⟨x0,x1,x2,x3,x4,x5,x6,x7,x8,x9,x10,x11⟩:=z7z h20;obtain⟨f0,f1,f2,f3,f4,f5,f6,f7,f8,f9,f10,f11⟩:=zdz h20;have hne2:¬(g18=g20):=fun e=>hne e.symm;clear hQ h18 h20;refine wp_region_noPanic ?_;go_region_law (fail)
 all_goals refine NoPanic.normal ?_
 all_goals exact HQ.out _ _ _ _ _ (Blk.drew' ((((((H20.out).set_ 1 (.int .i64 3)).set_ 2 (.int .i64 v.ty.base)).set_ 3 (.bool v.ty.k)).set_ 4 (.bool v.ty.l)).set_ 5 (.bool v.ty.x))) (zpc (zpb (zpb (zpb (zpb (zpb (zpd _ _) 1 (.int .i64 3)) 2 (.int .i64 v.ty.base)) 3 (.bool v.ty.k)) 4 (.bool v.ty.l)) 5 (.bool v.ty.x)))
end
section
variable {u0 u1 u2 u3 u4 u5 u6 u7 u8 u9 gn gt gu gx gy gz gA gC gD gE gF gG gH gI gJ gK gL gM gN gO gP gQ gR gT gV gW gX gY gZ i6 i7 i8 ia ib ic ie ig ii ij ik il im io ip iq ir iu iv iw ix iy iz iA iB iC iD iE iF iG iH iI iJ iK iL iM iN iO iP iQ iR iS iT iU iV iW iX iY iZ j0 j1 j2 j5 j6 j7 j8 j9 jb jd je jf bw bz bA bB bD bE bF bG bH bI bJ bK bL bM bN bO bP bQ bT bU bV bW bX bY bZ ca cj ck cn cx cy cz cA cB cD cE cG cH cI cJ cM cN cO cP cQ cT cU cW cZ da db dc dd de df dg dh di dj dm du dw dz dA dB dC dD dE dF dG dH dI dJ dK dL dM dN dO dP dQ dR dS dT dU dV dW dX dY dZ ec : Value}
theorem chR23 (ops:Array Oper)(hops:Tryz.f59.body.bind (zci 23)=some ops)(Q:Exit→Act→World→Prop)(V:World)(g18 g20:Nat)(v:Rev)(x:Edt)(h18:Blk V g18 66 [.string v.path,.int .i64 v.num,.int .i64 v.chg,.int .i64 v.act,.int .i64 v.ty.base,.bool v.ty.k,.bool v.ty.l,.bool v.ty.x,.int .u64 v.sum,.int .i64 v.size,.string v.frm,.int .i64 v.fnum])(h20:Blk V g20 90 [.string x.path,.int .i64 x.act,.int .i64 x.ty.base,.bool x.ty.k,.bool x.ty.l,.bool x.ty.x,.int .u64 x.sum,.int .i64 x.size,.int .i64 x.base,.string x.frm,.int .i64 x.fnum,.int .i64 x.fence])(hne:g20≠g18)
  (hQ:∀(aR aS aT aU aV aW aX aY aZ ba bd bf bg:Value) (w':World),Blk w' g20 90 [.string x.path,.int .i64 4,.int .i64 v.ty.base,.bool v.ty.k,.bool v.ty.l,.bool v.ty.x,.int .u64 v.sum,.int .i64 v.size,.int .i64 x.base,.string v.path,.int .i64 v.num,.int .i64 x.fence]→V.grownBy w' (some g20)→Q .normal ⟨#[u0,u1,u2,u3,u4,u5,u6,u7,u8,u9,gn,gt,gu,gx,gy,gz,gA,gC,gD,gE,.pointer (some ⟨g20,0,none⟩),.pointer (some ⟨g18,0,none⟩),gH,gI,gJ,gK,gL,gM,gN,gO,gP,gQ,gR,gT,gV,gW,gX,gY,gZ,i6,i7,i8,ia,ib,ic,ie,ig,ii,ij,ik,il,im,io,ip,iq,ir,iu,iv,iw,ix,iy,iz,iA,iB,iC,iD,iE,iF,iG,iH,iI,iJ,iK,iL,iM,iN,iO,iP,iQ,iR,iS,iT,iU,iV,iW,iX,iY,iZ,j0,j1,j2,j5,j6,j7,j8,j9,jb,jd,je,jf,bw,bz,bA,bB,bD,bE,bF,bG,bH,bI,bJ,bK,bL,bM,bN,bO,bP,bQ,bT,bU,bV,bW,bX,bY,bZ,ca,cj,ck,cn,cx,cy,cz,cA,cB,cD,cE,cG,cH,cI,cJ,aR,aS,aT,aU,aV,aW,aX,aY,aZ,ba,bd,bf,bg,de,df,dg,dh,di,dj,dm,du,dw,dz,dA,dB,dC,dD,dE,dF,dG,dH,dI,dJ,dK,dL,dM,dN,dO,dP,dQ,dR,dS,dT,dU,dV,dW,dX,dY,dZ,ec],[]⟩ w'):
  (Code.region 23 ops true).wp prog Q ⟨#[u0,u1,u2,u3,u4,u5,u6,u7,u8,u9,gn,gt,gu,gx,gy,gz,gA,gC,gD,gE,.pointer (some ⟨g20,0,none⟩),.pointer (some ⟨g18,0,none⟩),gH,gI,gJ,gK,gL,gM,gN,gO,gP,gQ,gR,gT,gV,gW,gX,gY,gZ,i6,i7,i8,ia,ib,ic,ie,ig,ii,ij,ik,il,im,io,ip,iq,ir,iu,iv,iw,ix,iy,iz,iA,iB,iC,iD,iE,iF,iG,iH,iI,iJ,iK,iL,iM,iN,iO,iP,iQ,iR,iS,iT,iU,iV,iW,iX,iY,iZ,j0,j1,j2,j5,j6,j7,j8,j9,jb,jd,je,jf,bw,bz,bA,bB,bD,bE,bF,bG,bH,bI,bJ,bK,bL,bM,bN,bO,bP,bQ,bT,bU,bV,bW,bX,bY,bZ,ca,cj,ck,cn,cx,cy,cz,cA,cB,cD,cE,cG,cH,cI,cJ,cM,cN,cO,cP,cQ,cT,cU,cW,cZ,da,db,dc,dd,de,df,dg,dh,di,dj,dm,du,dw,dz,dA,dB,dC,dD,dE,dF,dG,dH,dI,dJ,dK,dL,dM,dN,dO,dP,dQ,dR,dS,dT,dU,dV,dW,dX,dY,dZ,ec],[]⟩ V:=by
 simp only[Tryz.f59,Option.bind_some,zci] at hops
 simp at hops
 subst hops;have HQ:=hd_ hQ;have H20:=hd_ h20;obtain⟨r0,r1,r2,r3,r4,r5,r6,r7,r8,r9,r10,r11⟩:=z7z h18;obtain⟨x0,x1,x2,x3,x4,x5,x6,x7,x8,x9,x10,x11⟩:=z7z h20;obtain⟨f0,f1,f2,f3,f4,f5,f6,f7,f8,f9,f10,f11⟩:=zdz h20;have hne2:¬(g18=g20):=fun e=>hne e.symm;have H18:=hd_ h18;have HC:Hid (∀ w',Blk w' g18 66 [.string v.path,.int .i64 v.num,.int .i64 v.chg,.int .i64 v.act,.int .i64 v.ty.base,.bool v.ty.k,.bool v.ty.l,.bool v.ty.x,.int .u64 v.sum,.int .i64 v.size,.string v.frm,.int .i64 v.fnum]→w'.cell? ⟨g18,0,none⟩=some (.string v.path)∧w'.cell? ⟨g18,1,none⟩=some (.int .i64 v.num)∧w'.cell? ⟨g18,4,none⟩=some (.int .i64 v.ty.base)∧w'.cell? ⟨g18,5,none⟩=some (.bool v.ty.k)∧w'.cell? ⟨g18,6,none⟩=some (.bool v.ty.l)∧w'.cell? ⟨g18,7,none⟩=some (.bool v.ty.x)∧w'.cell? ⟨g18,8,none⟩=some (.int .u64 v.sum)∧w'.cell? ⟨g18,9,none⟩=some (.int .i64 v.size)):=hd_ fun w' h=>⟨h.cell 0,h.cell 1,h.cell 4,h.cell 5,h.cell 6,h.cell 7,h.cell 8,h.cell 9⟩;clear hQ h18 h20;go_region_held3 (fun w'=>Blk w' g18 66 [.string v.path,.int .i64 v.num,.int .i64 v.chg,.int .i64 v.act,.int .i64 v.ty.base,.bool v.ty.k,.bool v.ty.l,.bool v.ty.x,.int .u64 v.sum,.int .i64 v.size,.string v.frm,.int .i64 v.fnum]∧w'.cell? ⟨g18,0,none⟩=some (.string v.path)∧w'.cell? ⟨g18,1,none⟩=some (.int .i64 v.num)∧w'.cell? ⟨g18,4,none⟩=some (.int .i64 v.ty.base)∧w'.cell? ⟨g18,5,none⟩=some (.bool v.ty.k)∧w'.cell? ⟨g18,6,none⟩=some (.bool v.ty.l)∧w'.cell? ⟨g18,7,none⟩=some (.bool v.ty.x)∧w'.cell? ⟨g18,8,none⟩=some (.int .u64 v.sum)∧w'.cell? ⟨g18,9,none⟩=some (.int .i64 v.size))
  ((refine z3n ?_ (HC.out _);repeat (first | with_reducible assumption | with_reducible exact H18.out | with_reducible refine Blk.drew' ?_ | with_reducible refine Blk.far ?_ hne _)))
  (fail)
 all_goals exact HQ.out _ _ _ _ _ _ _ _ _ _ _ _ _ _ (Blk.drew' ((((((((((H20.out).set_ 1 (.int .i64 4)).set_ 9 (.string v.path)).set_ 10 (.int .i64 v.num)).set_ 2 (.int .i64 v.ty.base)).set_ 3 (.bool v.ty.k)).set_ 4 (.bool v.ty.l)).set_ 5 (.bool v.ty.x)).set_ 6 (.int .u64 v.sum)).set_ 7 (.int .i64 v.size))) (zpc (zpb (zpb (zpb (zpb (zpb (zpb (zpb (zpb (zpb (zpd _ _) 1 (.int .i64 4)) 9 (.string v.path)) 10 (.int .i64 v.num)) 2 (.int .i64 v.ty.base)) 3 (.bool v.ty.k)) 4 (.bool v.ty.l)) 5 (.bool v.ty.x)) 6 (.int .u64 v.sum)) 7 (.int .i64 v.size)))
end
theorem WsB.mono {w wr:World}{U g gw m m':Nat}{D:List Rev}{dv dr cv:Value}{l:List Cnk}(h:WsB w wr U g gw m D dv dr cv l)(hm:m≤m'):WsB w wr U g gw m' D dv dr cv l:=
 ⟨h.kept,h.tape.mono hm,h.box,h.cnk,h.revs,h.gU,h.UU,h.le,h.far⟩
structure EdK (D:List Rev)(i:Nat)(es:List Edt):Prop where
 six:∀ x∈es,∃(j:Nat) (hj:j<zff.length),j<i∧zff[j]=x.path
 nd:(es.map (·.path)).Nodup
 base:∀ x∈es,x.base=(zec (zgs D x.path)).num
 len:es.length≤i
theorem zpe:zff.Nodup:=by decide
theorem edK_0 (D:List Rev):EdK D 0 []:=⟨(fun x h=>by cases h),List.nodup_nil,(fun x h=>by cases h),Nat.le_refl _⟩
theorem EdK.skip {D:List Rev}{i:Nat}{es:List Edt}(h:EdK D i es):EdK D (i+1) es:=
 ⟨fun x hx=>by obtain⟨j,hj,h1,h2⟩:=h.six x hx;exact⟨j,hj,by omega,h2⟩,h.nd,h.base,Nat.le_succ_of_le h.len⟩
theorem EdK.push {D:List Rev}{i:Nat}{es:List Edt}{x:Edt}(h:EdK D i es)(hi:i<zff.length)(hx:x.path=zff[i])(hb:x.base=(zec (zgs D x.path)).num):EdK D (i+1) (es++[x]):=by
 refine⟨fun y hy=>?_,?_,fun y hy=>?_,by rw[List.length_append];exact Nat.succ_le_succ h.len⟩
 ·rcases List.mem_append.1 hy with hy | hy
  ·obtain⟨j,hj,h1,h2⟩:=h.six y hy;exact⟨j,hj,by omega,h2⟩
  ·rw[List.mem_singleton] at hy;subst hy;exact⟨i,hi,by omega,hx.symm⟩
 ·rw[List.map_append,List.nodup_append];refine⟨h.nd,by simp,fun a ha b hb e=>?_⟩
  obtain⟨y,hy,rfl⟩:=List.mem_map.1 ha;have hb':b=x.path:=by simpa using hb
  obtain⟨j,hj,h1,h2⟩:=h.six y hy;have e2:zff[j]=zff[i]:=by rw[h2,e,hb',hx]
  have:=(List.getElem_inj zpe).1 e2;omega
 ·rcases List.mem_append.1 hy with hy | hy
  ·exact h.base y hy
  ·rw[List.mem_singleton] at hy;subst hy;exact hb
structure zpf (w wr wx:World)(U g gw m:Nat)(D:List Rev)(dv dr cv0 cv:Value)(l:List Cnk)(g6 g7 gp B:Nat)(num:Int)(es:List Edt)(ev:Value):Prop where
 ws:WsB w wx U g gw m D dv dr cv l
 frm:Frm wr wx g gw cv0 cv
 b6:Blk wx g6 95 [.int .i64 0,.string ⟨#[]⟩,.string ⟨#[]⟩,.slice none 0 0,.slice none 0 0]
 b7:Blk wx g7 95 [.int .i64 num,.string ⟨#[]⟩,.string ⟨#[]⟩,ev,.slice none 0 0]
 bp:Blk wx gp 9 (zff.map .string)
 own:wx.ownsRow B 90 12 ev es.length (es.flatMap Edt.cells)
 ord:wr.heap.size≤g6∧g6<g7∧g7<gp∧gp<B∧B≤wx.heap.size
 lo:w.heap.size≤wr.heap.size∧gw<wr.heap.size∧∀ x,dv.ownBlock=some x→x<wr.heap.size
theorem zpg {w w':World}{B k n:Nat}{e:TypeId}{v:Value}{xs:List Value}(h:w.ownsRow B e k v n xs)(hk:∀ x,v.ownBlock=some x→w'.heap[x]? = w.heap[x]?):w'.ownsRow B e k v n xs:=by
 refine⟨h.1,?_⟩;rcases h.2 with e1 | ⟨g,cap,cur,e1,h1,h2,h3⟩
 ·exact .inl e1
 ·exact .inr ⟨g,cap,cur,e1,h1,(hk g (by rw[e1];rfl)).trans h2,h3⟩
theorem WsB.grownAt {w wr w':World}{U g gw m:Nat}{D:List Rev}{dv dr cv:Value}{l:List Cnk}{row:Option Nat}(h:WsB w wr U g gw m D dv dr cv l)(hg:wr.grownBy w' row)(hr:∀ k,row=some k→w.heap.size≤k∧k≠gw∧cv.ownBlock≠some k∧dv.ownBlock≠some k):WsB w w' U g gw m D dv dr cv l:=by
 have hK:z6t [g] w w':=h.kept.grown_own hg (fun k e=>(hr k e).1);have h1:=h.UU;refine⟨hK,h.tape.keep hg.size (fun x hx=>hg.block x (by have:=h.kept.size;omega) (fun e=>by have:=(hr x e.symm).1;omega)),h.box.grown hg (fun e=>(hr gw e.symm).2.1 rfl),zpg h.cnk (fun x hx=>hg.block x (h.cnk.lt x hx).2 (fun e=>(hr x e.symm).2.2.1 hx)),Row.heap h.revs hg.size (fun x hx e=>hg.block x hx (fun e2=>(hr x e2.symm).2.2.2 e)),h.gU,h1,h.le,fun x hx=>⟨(h.far x hx).1,Nat.lt_of_lt_of_le (h.far x hx).2.1 hg.size,(h.far x hx).2.2⟩⟩
theorem Frm.grownAt {wr wx w':World}{g gw:Nat}{cv cv':Value}{row:Option Nat}(h:Frm wr wx g gw cv cv')(hg:wx.grownBy w' row)(hr:∀ k,row=some k→wr.heap.size≤k):Frm wr w' g gw cv cv':=
 ⟨hg.os.trans h.os,hg.tape.trans h.tape,hg.output.trans h.output,Nat.le_trans h.size hg.size,fun k hk h1 h2 h3=>(hg.block k (Nat.lt_of_lt_of_le hk h.size) (fun e=>by have:=hr k e.symm;omega)).trans (h.block k hk h1 h2 h3),h.ob⟩
theorem zph {w:World}{B1 B2 k1 k2 n1 n2 x:Nat}{e1 e2:TypeId}{v1 v2:Value}{xs ys:List Value}(h1:w.ownsRow B1 e1 k1 v1 n1 xs)(h2:w.ownsRow B2 e2 k2 v2 n2 ys)(he:e1≠e2)(hx:v1.ownBlock=some x):v2.ownBlock≠some x:=by
 intro hy;rcases h1.2 with⟨rfl,_⟩ | ⟨g,cap,cur,rfl,_,hg,_⟩
 ·cases hx
 ·rcases h2.2 with⟨rfl,_⟩ | ⟨g',cap',cur',rfl,_,hg',_⟩
  ·cases hy
  ·injection hx with hx
   injection hy with hy
   have e:g=g':=hx.trans hy.symm;subst e;rw[hg] at hg';injection hg' with hg'
   injection hg' with _ h2 _
   exact he h2
section
variable {w wr wx w' : World} {U g gw m m' g6 g7 gp B : Nat} {D : List Rev} {dv dr cv0 cv cv' ev : Value} {l l' : List Cnk} {num : Int} {es : List Edt}
theorem zpf.step (h:zpf w wr wx U g gw m D dv dr cv0 cv l g6 g7 gp B num es ev)(hF:Frm wx w' g gw cv cv')(hS:WsB w w' U g gw m' D dv dr cv' l'):zpf w wr w' U g gw m' D dv dr cv0 cv' l' g6 g7 gp B num es ev:=by
 obtain⟨o1,o2,o3,o4,o5⟩:=h.ord;have h1:=h.ws.gU;have h2:=h.ws.UU;have h3:=h.ws.le;have h4:=h.ws.kept.size;have h5:=h.frm.size;have h6:=h.lo;refine⟨hS,h.frm.trans hF,hF.blk h.b6 (by omega) (by omega) (zky h.ws.cnk h.b6 (by decide)),hF.blk h.b7 (by omega) (by omega) (zky h.ws.cnk h.b7 (by decide)),hF.blk h.bp (by omega) (by omega) (zky h.ws.cnk h.bp (by decide)),?_,⟨o1,o2,o3,o4,Nat.le_trans o5 hF.size⟩,h.lo⟩
 refine zpg h.own fun x hx=>?_;have hlt:=h.own.lt x hx;exact hF.block x hlt.2 (by omega) (by omega) (zph h.own h.ws.cnk (by decide) hx)
theorem zpf.next (h:zpf w wr wx U g gw m D dv dr cv0 cv l g6 g7 gp B num es ev)(hK:z6t [g] wx w')(hT:zgf w' U g m'):zpf w wr w' U g gw m' D dv dr cv0 cv l g6 g7 gp B num es ev:=h.step (Frm.of_kept hK) (h.ws.next hK hT)
theorem zpf.under (h:zpf w wr wx U g gw m D dv dr cv0 cv l g6 g7 gp B num es ev)(hb:Below wx.heap.size wx w'):zpf w wr w' U g gw m D dv dr cv0 cv l g6 g7 gp B num es ev:=h.next (z6t.below hb) (h.ws.tape.below hb)
theorem zpf.grownAt {row:Option Nat}(h:zpf w wr wx U g gw m D dv dr cv0 cv l g6 g7 gp B num es ev)(hg:wx.grownBy w' row)(hr:∀ k,row=some k→B≤k∧cv.ownBlock≠some k∧ev.ownBlock≠some k):zpf w wr w' U g gw m D dv dr cv0 cv l g6 g7 gp B num es ev:=by
 obtain⟨o1,o2,o3,o4,o5⟩:=h.ord;obtain⟨l1,l2,l3⟩:=h.lo;have hn:∀ k,k<B→some k≠row:=fun k hk e=>by have:=(hr k e.symm).1;omega
 exact⟨h.ws.grownAt hg (fun k e=>⟨by have:=(hr k e).1;omega,by have:=(hr k e).1;omega,(hr k e).2.1,fun e2=>by have:=l3 k e2;have:=(hr k e).1;omega⟩),h.frm.grownAt hg (fun k e=>by have:=(hr k e).1;omega),h.b6.grown hg (hn g6 (by omega)),h.b7.grown hg (hn g7 (by omega)),h.bp.grown hg (hn gp (by omega)),zpg h.own (fun x hx=>hg.block x (h.own.lt x hx).2 (fun e=>(hr x e.symm).2.2 hx)),⟨o1,o2,o3,o4,Nat.le_trans o5 hg.size⟩,h.lo⟩
theorem zpf.push {w5:World}{ev':Value}{es':List Edt}(h:zpf w wr wx U g gw m D dv dr cv0 cv l g6 g7 gp B num es ev)(hg:wx.grownBy w5 ev.ownBlock)(ho:w5.ownsRow B 90 12 ev' es'.length (es'.flatMap Edt.cells)):
  (w5.cell? ⟨g7,3,none⟩=some ev∧w5.frozen? ⟨g7,3,none⟩=false)∧zpf w wr (w5.setCell ⟨g7,3,none⟩ ev') U g gw m D dv dr cv0 cv l g6 g7 gp B num es' ev':=by
 obtain⟨o1,o2,o3,o4,o5⟩:=h.ord;obtain⟨l1,l2,l3⟩:=h.lo;have hlt:=h.own.lt;have hn:∀ k,k<B→some k≠ev.ownBlock:=fun k hk e=>by have:=(hlt k e.symm).1;omega
 have hws:=h.ws.grownAt hg (fun k e=>⟨by have:=(hlt k e).1;omega,by have:=(hlt k e).1;omega,zph h.own h.ws.cnk (by decide) e,fun e2=>by have:=l3 k e2;have:=(hlt k e).1;omega⟩)
 have hfr:=h.frm.grownAt hg (fun k e=>by have:=(hlt k e).1;omega)
 have hb7:=h.b7.grown hg (hn g7 (by omega))
 have hg2:=z6u w5 g7 3 ev';have hcn:cv.ownBlock≠some g7:=zky hws.cnk hb7 (by decide)
 refine⟨⟨hb7.cell 3,hb7.frozen 3⟩,hws.grownAt hg2 (fun k e=>by injection e with e;subst e;exact⟨by omega,by omega,hcn,fun e2=>by have:=l3 g7 e2;omega⟩),hfr.grownAt hg2 (fun k e=>by injection e with e;omega),Blk.far (h.b6.grown hg (hn g6 (by omega))) (by show g7≠g6;omega) _,hb7.set_ 3 ev',Blk.far (h.bp.grown hg (hn gp (by omega))) (by show g7≠gp;omega) _,z4r ho (p:=⟨g7,3,none⟩) (fun e=>by have:=(ho.lt g7 e).1;omega) _,⟨o1,o2,o3,o4,Nat.le_trans o5 (Nat.le_trans hg.size hg2.size)⟩,h.lo⟩
end
section
variable {u0 u1 u2 u3 u4 u5 u6 u7 u8 u9 gn gt gu gx gy gz gA gC gD gE gF gG gH gI gJ gK gL gM gN gO gP gQ gR gT gV gW gX gY gZ i6 i7 i8 ia ib ic ie ig ii ij ik il im io ip iq ir iu iv iw ix iy iz iA iB iC iD iE iF iG iH iI iJ iK iL iM iN iO iP iQ iR iS iT iU iV iW iX iY iZ j0 j1 j2 j5 j6 j7 j8 j9 jb jd je jf bw bz bA bB bD bE bF bG bH bI bJ bK bL bM bN bO bP bQ bT bU bV bW bX bY bZ ca cj ck cn cx cy cz cA cB cD cE cG cH cI cJ cM cN cO cP cQ cT cU cW cZ da db dc dd de df dg dh di dj dm du dw dz dA dB dC dD dE dF dG dH dI dJ dK dL dM dN dO dP dQ dR dS dT dU dV dW dX dY dZ ec : Value}
theorem chR16 (ops:Array Oper)(hops:Tryz.f59.body.bind (zci 16)=some ops)(Q:Exit→Act→World→Prop)(V:World)(g gw g18 g20:Nat)(v:Rev)(x:Edt)(F:World→Prop)(h18:Blk V g18 66 [.string v.path,.int .i64 v.num,.int .i64 v.chg,.int .i64 v.act,.int .i64 v.ty.base,.bool v.ty.k,.bool v.ty.l,.bool v.ty.x,.int .u64 v.sum,.int .i64 v.size,.string v.frm,.int .i64 v.fnum])(hne:g20≠g18)
  (hCO:∀ X,Below V.heap.size V X→Calls prog 91 #[.pointer (some ⟨gw,0,none⟩),.pointer (some ⟨g,0,none⟩)] X fun e w'=>∃ s z:Nat,e=.returned (.agg #[.int .u64 s,.int .i64 z])∧Blk w' g18 66 [.string v.path,.int .i64 v.num,.int .i64 v.chg,.int .i64 v.act,.int .i64 v.ty.base,.bool v.ty.k,.bool v.ty.l,.bool v.ty.x,.int .u64 v.sum,.int .i64 v.size,.string v.frm,.int .i64 v.fnum]∧Blk w' g20 90 [.string x.path,.int .i64 x.act,.int .i64 x.ty.base,.bool x.ty.k,.bool x.ty.l,.bool x.ty.x,.int .u64 x.sum,.int .i64 x.size,.int .i64 x.base,.string x.frm,.int .i64 x.fnum,.int .i64 x.fence]∧F w')
  (hQ:∀(ab ac af ag ah ai aj ak:Value) (s z:Nat) (w8 w':World),F w8→Blk w' g20 90 [.string x.path,.int .i64 2,.int .i64 v.ty.base,.bool v.ty.k,.bool v.ty.l,.bool v.ty.x,.int .u64 s,.int .i64 z,.int .i64 x.base,.string x.frm,.int .i64 x.fnum,.int .i64 x.fence]→Blk w8 g18 66 [.string v.path,.int .i64 v.num,.int .i64 v.chg,.int .i64 v.act,.int .i64 v.ty.base,.bool v.ty.k,.bool v.ty.l,.bool v.ty.x,.int .u64 v.sum,.int .i64 v.size,.string v.frm,.int .i64 v.fnum]→w8.grownBy w' (some g20)→Q .normal ⟨#[.pointer (some ⟨gw,0,none⟩),.pointer (some ⟨g,0,none⟩),u2,u3,u4,u5,u6,u7,u8,u9,gn,gt,gu,gx,gy,gz,gA,gC,.pointer (some ⟨g18,0,none⟩),gE,.pointer (some ⟨g20,0,none⟩),gG,gH,gI,gJ,gK,gL,gM,gN,gO,gP,gQ,gR,gT,gV,gW,gX,gY,gZ,i6,i7,i8,ia,ib,ic,ie,ig,ii,ij,ik,il,im,io,ip,iq,ir,iu,iv,iw,ix,iy,iz,iA,iB,iC,iD,iE,iF,iG,iH,iI,iJ,iK,iL,iM,iN,iO,iP,iQ,iR,iS,iT,iU,iV,iW,iX,iY,iZ,j0,j1,j2,j5,j6,j7,j8,j9,jb,jd,je,jf,bw,bz,ab,ac,af,ag,ah,ai,aj,ak,bJ,bK,bL,bM,bN,bO,bP,bQ,bT,bU,bV,bW,bX,bY,bZ,ca,cj,ck,cn,cx,cy,cz,cA,cB,cD,cE,cG,cH,cI,cJ,cM,cN,cO,cP,cQ,cT,cU,cW,cZ,da,db,dc,dd,de,df,dg,dh,di,dj,dm,du,dw,dz,dA,dB,dC,dD,dE,dF,dG,dH,dI,dJ,dK,dL,dM,dN,dO,dP,dQ,dR,dS,dT,dU,dV,dW,dX,dY,dZ,ec],[]⟩ w'):
  (Code.region 16 ops true).wp prog Q ⟨#[.pointer (some ⟨gw,0,none⟩),.pointer (some ⟨g,0,none⟩),u2,u3,u4,u5,u6,u7,u8,u9,gn,gt,gu,gx,gy,gz,gA,gC,.pointer (some ⟨g18,0,none⟩),gE,.pointer (some ⟨g20,0,none⟩),gG,gH,gI,gJ,gK,gL,gM,gN,gO,gP,gQ,gR,gT,gV,gW,gX,gY,gZ,i6,i7,i8,ia,ib,ic,ie,ig,ii,ij,ik,il,im,io,ip,iq,ir,iu,iv,iw,ix,iy,iz,iA,iB,iC,iD,iE,iF,iG,iH,iI,iJ,iK,iL,iM,iN,iO,iP,iQ,iR,iS,iT,iU,iV,iW,iX,iY,iZ,j0,j1,j2,j5,j6,j7,j8,j9,jb,jd,je,jf,bw,bz,bA,bB,bD,bE,bF,bG,bH,bI,bJ,bK,bL,bM,bN,bO,bP,bQ,bT,bU,bV,bW,bX,bY,bZ,ca,cj,ck,cn,cx,cy,cz,cA,cB,cD,cE,cG,cH,cI,cJ,cM,cN,cO,cP,cQ,cT,cU,cW,cZ,da,db,dc,dd,de,df,dg,dh,di,dj,dm,du,dw,dz,dA,dB,dC,dD,dE,dF,dG,dH,dI,dJ,dK,dL,dM,dN,dO,dP,dQ,dR,dS,dT,dU,dV,dW,dX,dY,dZ,ec],[]⟩ V:=by
 simp only[Tryz.f59,Option.bind_some,zci] at hops
 simp at hops
 subst hops;have HQ:=hd_ hQ;have HCO:=hd_ hCO;obtain⟨r0,r1,r2,r3,r4,r5,r6,r7,r8,r9,r10,r11⟩:=z7z h18;have hne2:¬(g18=g20):=fun e=>hne e.symm;clear hQ h18 hCO;refine wp_region_noPanic ?_;go_region_law (first
  | (go_simp;go_at_call 91;refine (HCO.out _ (by repeat (first | exact Below.refl _ _ | refine Below.drew ?_))).mono ?_;rintro e w8 ⟨s,z,rfl,h18,h20,hF⟩;obtain⟨p0,p1,p2,p3,p4,p5,p6,p7,p8,p9,p10,p11⟩:=z7z h18;obtain⟨x0,x1,x2,x3,x4,x5,x6,x7,x8,x9,x10,x11⟩:=z7z h20;obtain⟨f0,f1,f2,f3,f4,f5,f6,f7,f8,f9,f10,f11⟩:=zdz h20))
 all_goals refine NoPanic.normal ?_
 all_goals first
  | exact HQ.out _ _ _ _ _ _ _ _ s z w8 _ hF ((((((((h20).set_ 1 (.int .i64 2)).set_ 2 (.int .i64 v.ty.base)).set_ 3 (.bool v.ty.k)).set_ 4 (.bool v.ty.l)).set_ 5 (.bool v.ty.x)).set_ 6 (.int .u64 s)).set_ 7 (.int .i64 z)) h18 (zpb (zpb (zpb (zpb (zpb (zpb (zpb (zpd _ _) 1 (.int .i64 2)) 2 (.int .i64 v.ty.base)) 3 (.bool v.ty.k)) 4 (.bool v.ty.l)) 5 (.bool v.ty.x)) 6 (.int .u64 s)) 7 (.int .i64 z))
  | exact HQ.out _ _ _ _ _ _ _ _ s z w8 _ hF (Blk.drew' ((((((((h20).set_ 1 (.int .i64 2)).set_ 2 (.int .i64 v.ty.base)).set_ 3 (.bool v.ty.k)).set_ 4 (.bool v.ty.l)).set_ 5 (.bool v.ty.x)).set_ 6 (.int .u64 s)).set_ 7 (.int .i64 z))) h18 (zpc (zpb (zpb (zpb (zpb (zpb (zpb (zpb (zpd _ _) 1 (.int .i64 2)) 2 (.int .i64 v.ty.base)) 3 (.bool v.ty.k)) 4 (.bool v.ty.l)) 5 (.bool v.ty.x)) 6 (.int .u64 s)) 7 (.int .i64 z)))
end
end Go.Proofs.YtegeboijhifmcaaGreatDoor
