/- A part of the proof. -/
import Derived.Test.YtegeboijhifmcaaGreatDoorMgs22
import Derived.Test.YtegeboijhifmcaaGreatDoorMgs21
set_option linter.unusedVariables false
set_option linter.unusedSimpArgs false
set_option maxHeartbeats 8000000
set_option maxRecDepth 100000
namespace Go.Proofs.YtegeboijhifmcaaGreatDoor
open Go.Proofs.Tryz
open Go.RowKit
def zo3 (b:Pat)(hs:List zd1)(p:ByteArray):Bool:=(z8e b p).isSome && !zdp hs p
theorem zo4 (b:Pat)(hs:List zd1)(A H:Option Addr)(a hc:Nat)(p:ByteArray)(w:World)(he:Env w)(hb:za9 w (.slice A b.parts.length a) b)(hh:zd2 w (.slice H hs.length hc) hs)(hz:p.size≤1000000)(hn:hs.length≤1000):
  Calls prog 187 #[.agg #[.slice A b.parts.length a,.bool b.rest,.slice H hs.length hc],.string p] w fun e w'=>e=.returned (.bool (zo3 b hs p))∧Below w.heap.size w w':=by
 have hB:=z0l w [.slice A b.parts.length a,.bool b.rest,.slice H hs.length hc] 115;have hA:Below w.heap.size w (w.alloc (.cells #[.slice A b.parts.length a,.bool b.rest,.slice H hs.length hc] 115)):=(Below.refl _ _).alloc (Nat.le_refl _) _;have HM:=hd_ (fun X (hX:Below w.heap.size w X)=>zcd b p A a X (he.below hX) hz (hb.below hX).1 hb.small);have HMQ:=hd_ (fun(q:Pat) (Q:Option Addr) (c:Nat) X (hX:Below w.heap.size w X) (hq:za9 X (.slice Q q.parts.length c) q)=>zcd q p Q c X (he.below hX) hz hq.1 hq.small);have HNO:Hid (∀ k (hk:k<hs.length),(z8e hs[k].1 p).isSome=true→zdp hs p=true):=hd_ (fun k hk h=>List.any_eq_true.2 ⟨_,List.getElem_mem hk,h⟩);have HYE:Hid ((∀ k (hk:k<hs.length),(z8e hs[k].1 p).isSome=false)→zdp hs p=false):=hd_ (fun h=>by
  unfold zdp;rw[List.any_eq_false];intro q hq;obtain⟨k,hk,rfl⟩:=List.getElem_of_mem hq;rw[h k hk];decide)
 have HHB:Hid (zo3 b hs p=((z8e b p).isSome && !zdp hs p)):=hd_ rfl;generalize zdp hs p=r at HNO HYE HHB;have HH:=hd_ hh;clear he hb hh;go_enter func187,ntmps187;go_upto_region 1 with fail;generalize w.alloc (.cells #[.slice A b.parts.length a,.bool b.rest,.slice H hs.length hc] 115)=W1 at hA hB ⊢;obtain⟨d0,d1⟩:=(⟨hB.cell 0,hB.cell 1⟩:W1.cell? ⟨w.heap.size,0,none⟩=some (.slice A b.parts.length a)∧W1.cell? ⟨w.heap.size,1,none⟩=some (.bool b.rest));have HB:=hd_ hB;have HA:=hd_ hA;have HC1:=hd_ (HM.out W1 hA);clear hA hB HM;go_wp2_with fail;refine HC1.out.mono ?_;rintro e w2 ⟨A',n,c',rfl,hb2,-⟩;dsimp only;have HB2:=hd_ (z0r HA.out hb2);have HX2:=hd_ (HB.out.below hb2 HB.out.lt);clear hb2 d0 d1 HC1;generalize (z8e b p).isSome=o at HHB ⊢;cases o with
 | false =>
  have HF:Hid (zo3 b hs p=false):=hd_ (by rw[HHB.out];rfl)
  go_wp2_with fail;go_ret;exact⟨z0w HF.out.symm,HB2.out⟩
 | true =>
  have HF:Hid (zo3 b hs p=!r):=hd_ (by rw[HHB.out];rfl)
  have d2:w2.cell? ⟨w.heap.size,2,none⟩=some (.slice H hs.length hc):=HX2.out.cell 2;go_wp2_with fail;clear d2;go_loopw [23] (fun i wr=>∃ k:Nat,i=.int .i64 k∧k≤hs.length∧Hid ((∀ j (hj:j<hs.length),j<k→(z8e hs[j].1 p).isSome=false)∧Below w2.heap.size w2 wr)) (fun i _=>hs.length - (intOf i).toNat)
  case atStart=>exact⟨0,rfl,Nat.zero_le _,hd_ ⟨fun j _ h=>by omega,Below.refl _ _⟩⟩
  case round =>
   obtain⟨k,rfl,hk,HI⟩:=hrel;by_cases hlt:k<hs.length
   ·have HHX:=hd_ (HH.out.below (z0r HB2.out HI.out.2));obtain⟨ad,rfl,hab,s0,s1⟩:=HHX.out.at_ hlt;have HPK:=hd_ (HHX.out.2 hs[k] (List.getElem_mem hlt));have HY:=hd_ (HNO.out k hlt);have HN:Hid ((z8e hs[k].1 p).isSome=false→∀ j (hj:j<hs.length),j<k+1→(z8e hs[j].1 p).isSome=false):=hd_ (fun h j hj hjk=>by
     by_cases e:j=k
     ·subst e;exact h
     ·exact HI.out.1 j hj (by omega))
    have HBI:=hd_ HI.out.2;have HLT:=hd_ hlt;generalize hs[k]=q at s0 s1 HPK HY HN;obtain⟨q,Aq,cq⟩:=q;change wr.cell? _=some (.slice Aq q.parts.length cq) at s0;change wr.cell? _=some (.bool q.rest) at s1;have hX:Below wr.heap.size wr (wr.alloc (.cells #[.slice Aq q.parts.length cq,.bool q.rest] 97)):=(Below.refl _ _).alloc (Nat.le_refl _) _;have HBX:=hd_ (z0r HBI.out hX);have HCQ:=hd_ (HMQ.out q Aq cq _ (z0r HB2.out HBX.out) (HPK.out.below hX));clear hab hX HI;dsimp only at HY HN
    go_wp2_with fail;refine HCQ.out.mono ?_;rintro e w4 ⟨A4,n4,c4,rfl,hb4,-⟩;dsimp only;have HB4:=hd_ (z0r HBX.out hb4);clear hb4 s0 s1;generalize (z8e q p).isSome=oq at HY HN ⊢;cases oq with
    | false =>
     have HN2:=hd_ (HN.out rfl);go_wp2_with fail;go_roundw
     case rel=>exact⟨k+1,by go_num,by have:=HLT.out;omega,hd_ ⟨HN2.out,HB4.out⟩⟩
     case measure=>have:=HLT.out;simp [intOf];omega
    | true =>
     have HR:=hd_ (HY.out rfl);have HB5:=hd_ (z0r HB2.out HB4.out);go_wp2_with fail;go_ret;exact⟨z0w (by rw[HF.out,HR.out];rfl),HB5.out⟩
   ·have hke:k=hs.length:=by omega
    have HR:=hd_ (HYE.out (fun j hj=>HI.out.1 j hj (by omega)))
    have HB5:=hd_ (z0r HB2.out HI.out.2);clear HI;subst hke;go_wp2_with fail;go_ret;exact⟨z0w (by rw[HF.out,HR.out];rfl),HB5.out⟩
theorem rBy_ok (es:List zd8)(v:Value)(p:ByteArray)(w:World)(he:Env w)(hE:zdi w v es)(hl32:es.length≤32)(hz:p.size≤1000000)
  (hF:∀ x∈es,∀ X,Below w.heap.size w X→Calls prog 188 #[.agg #[.bool false,x.l.v,.bool x.l.1.rest,x.r.v,.bool x.r.1.rest],.string p] X (zc3 X (zc2 x.l.1 x.r.1 p))):
  Calls prog 140 #[v,.string p] w (zc3 w (zdt es p)):=by
 obtain⟨A,c,rfl,-⟩:=id hE.1;have HE:=hd_ (fun X (hX:Below w.heap.size w X)=>hE.below hX);have HEV:=hd_ (fun X (hX:Below w.heap.size w X)=>he.below hX);have HF:=hd_ hF;have HAT:=hd_ (fun k hk=>@zdv es p k hk);have HNO:=hd_ (@zdw es p);generalize zdt es p=r at HAT HNO ⊢;clear hE he hF;go_enter func140,ntmps140;go_wp2_with fail;go_loopw [10] (fun i wr=>∃ k:Nat,i=.int .i64 k∧k≤es.length∧Hid (Below w.heap.size w wr∧∀ j (hj:j<es.length),j<k→zds es[j] p=none)) (fun i _=>es.length - (intOf i).toNat)
 case atStart=>exact⟨0,rfl,Nat.zero_le _,hd_ ⟨Below.refl _ _,fun j _ h=>by omega⟩⟩
 case round =>
  obtain⟨k,rfl,hk,HI⟩:=hrel;by_cases hlt:k<es.length
  ·have HBW:=hd_ HI.out.1;have HEX:=hd_ (HE.out wr HBW.out);obtain⟨ad,rfl,hab,s0,s1,s2,s3,s4⟩:=HEX.out.at_ hlt;have HXI:=hd_ (HEX.out.2 es[k] (List.getElem_mem hlt));have HXF:=hd_ (HF.out es[k] (List.getElem_mem hlt));have HR1:=hd_ (HAT.out k hlt HI.out.2);have HJ:Hid (zds es[k] p=none→∀ j (hj:j<es.length),j<k+1→zds es[j] p=none):=hd_ (fun h j hj hjk=>by
    by_cases e:j=k
    ·subst e;exact h
    ·exact HI.out.2 j hj (by omega))
   generalize es[k]=x at s0 s1 s2 s3 s4 HXI HXF HR1 HJ;obtain⟨H,hc,hhv⟩:=HXI.out.holes;obtain⟨⟨pl,Al,cl⟩,⟨pr,Ar,cr⟩,hv,hs⟩:=x;change hv=.slice H hs.length hc at hhv;subst hhv;change wr.cell? _=some (.slice Al pl.parts.length cl) at s0;change wr.cell? _=some (.bool pl.rest) at s1;change wr.cell? _=some (.slice Ar pr.parts.length cr) at s2;change wr.cell? _=some (.bool pr.rest) at s3;change wr.cell? _=some (.slice H hs.length hc) at s4;have hX:Below wr.heap.size wr (wr.alloc (.cells #[.slice Al pl.parts.length cl,.bool pl.rest,.slice Ar pr.parts.length cr,.bool pr.rest,.slice H hs.length hc] 100)):=(Below.refl _ _).alloc (Nat.le_refl _) _;have HXP:=hd_ (HXI.out.below hX);have HX:=hd_ (z0r HBW.out hX);have HN:Hid (Blk (wr.alloc (.cells #[.slice Al pl.parts.length cl,.bool pl.rest,.slice Ar pr.parts.length cr,.bool pr.rest,.slice H hs.length hc] 100)) wr.heap.size 100 [.slice Al pl.parts.length cl,.bool pl.rest,.slice Ar pr.parts.length cr,.bool pr.rest,.slice H hs.length hc]):=hd_ (z0l wr _ _);have HLT:=hd_ hlt;clear hab hX;go_upto_region 4 with fail;generalize wr.alloc (.cells #[.slice Al pl.parts.length cl,.bool pl.rest,.slice Ar pr.parts.length cr,.bool pr.rest,.slice H hs.length hc] 100)=W4 at HX HN HXP ⊢;generalize wr.heap.size=g7 at HN ⊢;clear s0 s1 s2 s3 s4;obtain⟨x0,x1,x4⟩:=(⟨HN.out.cell 0,HN.out.cell 1,HN.out.cell 4⟩:W4.cell? ⟨g7,0,none⟩=some (.slice Al pl.parts.length cl)∧W4.cell? ⟨g7,1,none⟩=some (.bool pl.rest)∧W4.cell? ⟨g7,4,none⟩=some (.slice H hs.length hc));have HHA:=hd_ (zo4 pl hs Al H cl hc p W4 (HEV.out W4 HX.out) HXP.out.l HXP.out.h hz HXP.out.n);have HONE:Hid (zds ⟨(pl,Al,cl),(pr,Ar,cr),.slice H hs.length hc,hs⟩ p=if zo3 pl hs p then zc2 pl pr p else none):=hd_ (by
    unfold zds zo3 zc2;cases z8e pl p <;> cases zdp hs p <;> simp)
   have HSM:Hid (zo3 pl hs p=true→(zc2 pl pr p).isSome=true):=hd_ (by
    unfold zo3 zc2;cases z8e pl p <;> simp)
   generalize zo3 pl hs p=o at HHA HONE HSM;generalize zc2 pl pr p=q at HXF HONE HSM;go_wp2_with fail;refine HHA.out.mono ?_;rintro e w5 ⟨rfl,hb⟩;dsimp only;have HB:=hd_ (z0r HX.out hb);have HN5:=hd_ (HN.out.below hb HN.out.lt);clear hb x0 x1 x4 HHA HN;cases o with
   | false =>
    have HNX:=hd_ (HJ.out HONE.out);go_wp2_with fail;go_roundw
    case rel=>exact⟨k+1,by go_num,by omega,hd_ ⟨HB.out,HNX.out⟩⟩
    case measure=>simp [intOf];omega
   | true =>
    have HRR:Hid (r=q):=hd_ (by
     have h1:=HR1.out;rw[HONE.out] at h1;rw[h1];have h2:=HSM.out rfl;cases q with
     | none=>cases h2
     | some s=>rfl)
    have HFW:=hd_ (HXF.out w5 HB.out);obtain⟨x0,x1,x2,x3⟩:=(⟨HN5.out.cell 0,HN5.out.cell 1,HN5.out.cell 2,HN5.out.cell 3⟩:w5.cell? ⟨g7,0,none⟩=some (.slice Al pl.parts.length cl)∧w5.cell? ⟨g7,1,none⟩=some (.bool pl.rest)∧w5.cell? ⟨g7,2,none⟩=some (.slice Ar pr.parts.length cr)∧w5.cell? ⟨g7,3,none⟩=some (.bool pr.rest));go_wp2_with fail;refine HFW.out.mono ?_;rintro e w6 ⟨rfl,hb⟩;dsimp only;have HB6:=hd_ (z0r HB.out hb);clear hb x0 x1 x2 x3;go_wp2_with fail;go_ret2;exact⟨by rw[HRR.out];rfl,HB6.out⟩
  ·have hke:k=es.length:=by omega
   subst hke;have HR:=hd_ (HNO.out (fun j hj=>HI.out.2 j hj hj));have HB:=hd_ HI.out.1;have hge:¬((es.length:Int)<(es.length:Int)):=by omega
   go_wp2_with fail;go_ret2;exact⟨by rw[HR.out];rfl,HB.out⟩
theorem zoc (p:Pat)(b:Bool)(hbr:p.rest=b)(caps:List ByteArray)(A:Option Addr)(a:Nat)(cv:Value)(w:World)(he:Env w)(hp:za9 w (.slice A p.parts.length a) p)(hc:Strs w cv caps)(hf:zbv p caps):
  Calls prog 226 #[.agg #[.slice A p.parts.length a,.bool b],cv] w fun e w'=>e=.returned (.tuple #[.string (zbu p caps),.int .i64 0])∧Below w.heap.size w w':=by
 have hB:=z0l w [.slice A p.parts.length a,.bool b] 97;have hA:Below w.heap.size w (w.alloc (.cells #[.slice A p.parts.length a,.bool b] 97)):=(Below.refl _ _).alloc (Nat.le_refl _) _;have HKC:Hid (∀ X,Below w.heap.size w X→Calls prog 181 #[.agg #[.slice A p.parts.length a,.bool b]] X fun e w'=>e=.returned (.int .i64 0)∧Below X.heap.size X w'):=hd_ (fun X hX=>by have:=zca p A a X (hp.below hX).1 hp.small;rw[hbr,hf.pat] at this;exact this)
 have HW:=hd_ (fun X (hX:Below w.heap.size w X)=>zo8 p b hbr A a X (hp.below hX) hf.pat);have HP:=hd_ hp;have HC:=hd_ hc;have HF:=hd_ hf;have HE:=hd_ he;have hl12:=zao hf.pat;have hs12:za2 p≤12:=Nat.le_trans (List.length_filter_le ..) hl12;obtain⟨Ac,cc,rfl,-⟩:=id hc;obtain⟨nc,hnc⟩:∃ nc,caps.length=nc:=⟨_,rfl⟩;have hlen:nc=za2 p+(if b then 1 else 0):=hnc.symm.trans (by rw[hf.len,hbr])
 have HNC:=hd_ hnc;rw[hnc];have HBR:=hd_ hbr;clear hp hc hf he hnc hbr;rw[← hlen] at HW;have HLEN:=hd_ hlen;have q0:((nc:Int) != (nc:Int))=false:=by simp
 clear hlen;go_enter func226,ntmps226;go_upto_region 1 with fail;generalize w.alloc (.cells #[.slice A p.parts.length a,.bool b] 97)=W1 at hB hA ⊢;have d0:W1.cell? ⟨w.heap.size,0,none⟩=some (.slice A p.parts.length a):=hB.cell 0;have d1:W1.cell? ⟨w.heap.size,1,none⟩=some (.bool b):=hB.cell 1;have HB:=hd_ hB;have HA:=hd_ hA;have HK1:=hd_ (HKC.out W1 hA);clear hB hA HKC;go_wp2_with fail;refine HK1.out.mono ?_;rintro e w2 ⟨rfl,hb⟩;dsimp only;have HA2:=hd_ (z0r HA.out hb);have HB2:=hd_ (HB.out.below hb HB.out.lt);have HW2:=hd_ (HW.out w2 HA2.out);clear hb d0 d1 HK1 HB HA HW;have d0:w2.cell? ⟨w.heap.size,0,none⟩=some (.slice A p.parts.length a):=HB2.out.cell 0;have d1:w2.cell? ⟨w.heap.size,1,none⟩=some (.bool b):=HB2.out.cell 1;go_wp2_with fail;refine HW2.out.mono ?_;rintro e w3 ⟨rfl,hb⟩;dsimp only;have HA3:=hd_ (z0r HA2.out hb);have HB3:=hd_ (HB2.out.below hb HB2.out.lt);clear hb d0 d1 HW2 HB2 HA2;have d0:w3.cell? ⟨w.heap.size,0,none⟩=some (.slice A p.parts.length a):=HB3.out.cell 0;go_wp2_with fail;go_loopw [7,8,28] (fun av z i wr=>∃(k:Nat) (done:List ByteArray) (A2:Option Addr) (c2:Nat),i=.int .i64 k∧z=.int .i64 (za1 p.parts k)∧av=.slice A2 k c2∧k≤p.parts.length∧Hid (RfSt w3 wr p.parts caps k done av)) (fun _ _ i _=>p.parts.length - (intOf i).toNat)
 case atStart=>exact⟨0,[],_,_,rfl,by simp [za1],rfl,Nat.zero_le _,hd_ ⟨Below.refl _ _,World.ownsRow_nil _ _ _ _,rfl,by simp [za1]⟩⟩
 case round =>
  obtain⟨k,done,A2,c2,rfl,rfl,rfl,hk,HI⟩:=hrel;clear d0;by_cases hlt:k<p.parts.length
  ·have HPX:=hd_ (HP.out.below (z0r HA3.out HI.out.low));obtain⟨ad,rfl,hab,s0⟩:=Strs.at_ HPX.out.1 hlt;have hform:=zcc HF.out.pat hlt;have HT:Hid (∀ X,Calls prog 217 #[.string p.parts[k]] X fun e w'=>e=.returned (.tuple #[.string (if z79 p.parts[k] then z80 p.parts[k] else z2l),.bool (z79 p.parts[k])])∧X=w'):=hd_ (fun X=>by
    have:=z9n p.parts[k] X (HP.out.small _ (List.getElem_mem hlt));unfold z9k at this;rw[z9b hform] at this;exact this)
   have HSZ:=hd_ (HP.out.2 _ (List.getElem_mem hlt));have HLT:=hd_ hlt;have HSP:=hd_ (fun wy av'=>HI.out.plain (wy:=wy) (av':=av') hlt);have HSS:=hd_ (fun wy av' r c=>HI.out.star (wy:=wy) (av':=av') (r:=r) (c:=c) hlt);have HRM:=hd_ (fun h=>zc1 hlt h);have HNX:=hd_ (za3 hlt);have HSU:=hd_ (show (z80 p.parts[k]).size≤p.parts[k].size from by unfold z80;rw[ByteArray.size_extract];omega)
   generalize p.parts[k]=part at s0 HT HSP HSS HRM HSZ HNX HSU;obtain⟨st,hst⟩:∃ st,z79 part=st:=⟨_,rfl⟩;have HST:=hd_ hst;rw[hst] at HT HNX;clear hst hab hform;have HOW:=hd_ HI.out.own;have HBI:=hd_ HI.out.low;cases st with
   | false =>
    have hnx:za1 p.parts (k+1)=za1 p.parts k:=by rw[HNX.out];rfl
    have HNX2:=hd_ hnx;clear hnx;go_wp2_with fail;refine (HT.out _).mono ?_;rintro e w' ⟨rfl,rfl⟩;dsimp only;go_wp2_with (at_builtin;refine z0k rfl rfl z87 (z0n HOW.out ((Below.refl _ _).alloc (Nat.le_refl _) _)) rfl (z0i _ [.string part] _ 1 1 rfl (by decide) _ (by simp)) rfl (HBI.out.alloc HBI.out.size _) (HBI.out.alloc HBI.out.size _).size (by simp [Value.oneCell']) (by omega) (by unfold maxLen;omega) ?_;intro A' c' w5 hown5 hbl5)
    have HN:=hd_ (HSP.out w5 (.slice A' (k+1) c') HST.out hbl5 (by rw[List.map_append];exact hown5))
    clear hown5 hbl5;go_wp2_with fail;go_roundw
    case rel=>exact⟨k+1,done++[part],_,_,by go_num,by rw[HNX2.out],rfl,by have:=HLT.out;omega,HN⟩
    case measure=>have:=HLT.out;simp [intOf];omega
   | true =>
    have hroom:=HRM.out HST.out;have h3:=HF.out.len;have hlc:za1 p.parts k<caps.length:=by omega
    obtain⟨ad3,rfl,hab3,t0⟩:=Strs.at_ (A:=Ac) (c:=cc) (by have:=HC.out.below (z0r HA3.out HI.out.low);exact this) hlc
    have hcr:caps.drop (za1 p.parts k)=caps[za1 p.parts k] :: caps.drop (za1 p.parts k+1):=List.drop_eq_getElem_cons hlc;have hmem:caps[za1 p.parts k]∈caps.take (za2 p):=List.mem_take_iff_getElem.2 ⟨za1 p.parts k,by omega,rfl⟩
    generalize caps[za1 p.parts k]=c at t0 hcr hmem;have HCO:=hd_ (fun X=>z8s c X (by have:=HF.out.size c (List.mem_of_mem_take hmem);unfold maxLen;omega))
    rw[HF.out.comp c hmem] at HCO;have HCR:=hd_ hcr;have hcz:c.size≤1000000:=HF.out.size c (List.mem_of_mem_take hmem);have z0:(za1 p.parts k:Int)<(nc:Int):=by have:=HNC.out;omega
    have HS12:Hid (za1 p.parts k≤12):=hd_ (by omega)
    have hnx:za1 p.parts (k+1)=za1 p.parts k+1:=by rw[HNX.out];rfl
    have HNX2:=hd_ hnx;have hsu:(z80 part).size≤1000000:=Nat.le_trans HSU.out HSZ.out;have z1:¬ 9223372036854775807<c.size+(z80 part).size:=by omega
    have q9:IntKind.i64.wrap ((za1 p.parts k:Int)+1)=((za1 p.parts k+1:Nat):Int):=by rw[IntKind.wrap_i64];have:=HS12.out;omega
    generalize hsf:z80 part=sf at HT HSS z1;clear hcr hab3 hmem hroom h3 hlc hnx hsf;go_wp2_with fail;refine (HT.out _).mono ?_;rintro e w' ⟨rfl,rfl⟩;dsimp only;go_wp2_with fail;refine (HCO.out _).mono ?_;rintro e w' ⟨rfl,rfl⟩;dsimp only;clear s0;go_wp2_with (at_builtin;refine z0k rfl rfl z87 (z0n HOW.out ((Below.refl _ _).alloc (Nat.le_refl _) _)) rfl (z0i _ [.string (c++sf)] _ 1 1 rfl (by decide) _ (by simp)) rfl (HBI.out.alloc HBI.out.size _) (HBI.out.alloc HBI.out.size _).size (by simp [Value.oneCell']) (by omega) (by unfold maxLen;omega) ?_;intro A' c' w5 hown5 hbl5)
    have HN:=hd_ (HSS.out w5 (.slice A' (k+1) c') _ c HST.out HCR.out hbl5 (by rw[List.map_append];exact hown5))
    clear hown5 hbl5;go_wp2_with fail;go_roundw
    case rel=>exact⟨k+1,done++[c++sf],_,_,by go_num,by rw[HNX2.out];first | rfl | (simp;done) | (congr 1;have:=HS12.out;simp [wrap64];omega),rfl,by have:=HLT.out;omega,HN⟩
    case measure=>have:=HLT.out;simp [intOf];omega
  ·have hke:k=p.parts.length:=by omega
   subst hke;have HFA:Hid (zbs p.parts caps=done):=hd_ (by
    have:=HI.out.is;rw[List.drop_length] at this;rw[← this];unfold zbs;simp)
   have hge:¬((p.parts.length:Int)<(p.parts.length:Int)):=by omega
   have HOW:=hd_ HI.out.own;have HLW:=hd_ HI.out.low;have HLN:=hd_ HI.out.len;have d1:wr.cell? ⟨w.heap.size,1,none⟩=some (.bool b):=(HB3.out.below HLW.out HB3.out.lt).cell 1;cases b with
   | false =>
    have HFB:Hid (zbt p caps=done):=hd_ (by unfold zbt;rw[HBR.out,HFA.out];simp)
    have hpos:0<p.parts.length:=by have h1:=HF.out.some;rw[HFB.out,HLN.out] at h1;exact h1
    obtain⟨gq,cq,eq⟩:=z0s HOW.out hpos;injection eq with eq1 eq2 eq3
    subst eq1 eq3;have hJ:=z93 (done.map (·.data.toList)) gq 0 c2 wr (fun j hj=>by
     rw[List.length_map] at hj;rw[Nat.zero_add];have:=(zac HOW.out (j:=j) (u:=.string done[j]) (by rw[List.getElem?_map,List.getElem?_eq_getElem hj];rfl)).1
     exact this.trans (by rw[zbw])) (by rw[List.length_map,HLN.out];exact hpos) (by rw[List.length_map,HLN.out];exact (zbx HOW.out).1) (by rw[List.length_map,HLN.out];omega) (by have:=HF.out.join;rw[HFB.out] at this;omega)
    rw[List.length_map,HLN.out] at hJ;have HJ:=hd_ hJ;have HST:Hid (zbu p caps=baL (z8j (done.map (·.data.toList)))):=hd_ (by unfold zbu;rw[HFB.out])
    clear hJ HI;go_wp2_with fail;refine HJ.out.mono ?_;rintro e w6 ⟨rfl,hb6⟩;dsimp only;have HB6:=hd_ (z0r HA3.out (z0r HLW.out hb6));clear hb6;go_wp2_with fail;go_ret2;exact⟨by rw[HST.out];rfl,HB6.out⟩
   | true =>
    have hdl:(caps.drop (za2 p)).length=1:=by rw[List.length_drop,HF.out.len,HBR.out];simp
    obtain⟨c,hcc⟩:=List.length_eq_one_iff.1 hdl;have hlc:za2 p<caps.length:=by rw[HNC.out];have:=HLEN.out;simp at this;omega
    have e5:caps[za2 p]=c:=by have h5:=List.drop_eq_getElem_cons hlc;rw[hcc] at h5;injection h5 with h5 _;exact h5.symm
    obtain⟨ad3,rfl,hab3,t0⟩:=Strs.at_ (A:=Ac) (c:=cc) (by have:=HC.out.below (z0r HA3.out HLW.out);exact this) hlc
    rw[e5] at t0;have hcm:c∈caps:=List.mem_of_mem_drop (by rw[hcc];exact List.mem_cons_self ..)
    have HCZ:=hd_ (HF.out.size c hcm);have HCL:=hd_ (HF.out.last HBR.out c (by rw[hcc];exact List.mem_cons_self ..))
    have HFB:Hid (zbt p caps=done++[c]):=hd_ (by unfold zbt;rw[HBR.out,HFA.out,if_pos rfl,hcc])
    have HSP:=hd_ (z6z c wr (HE.out.below (z0r HA3.out HLW.out)) (by have:=HCZ.out;omega))
    have HSN:=hd_ (fun q (hq:q∈z1a c.data.toList)=>(z1e hq).2);have HJN:Hid (Lib.join ((done.map (·.data.toList))++z1a c.data.toList) [47]=Lib.join ((zbt p caps).map (·.data.toList)) [47]):=hd_ (by rw[zob,HFB.out,List.map_append];rfl)
    have HPO:Hid (0<(z1a c.data.toList).length):=hd_ (List.length_pos_iff.2 (z1b _));have hn0:(za1 p.parts p.parts.length:Int)<(nc:Int):=by rw[za4,← HNC.out];omega
    rw[za4] at hn0 ⊢;clear hdl hcc hab3 hcm e5 hlc HI;go_wp2_with fail;refine HSP.out.mono ?_;rintro e w5 ⟨rfl,hw5⟩;dsimp only;have hb5:Below wr.heap.size wr w5:=hw5 ▸ (Below.refl _ _).alloc (Nat.le_refl _) _;have hk5:Blk w5 wr.heap.size 9 (z6v (z1a c.data.toList)):=hw5 ▸ z0l wr _ _;have HL5:=hd_ (z0r HLW.out hb5);have HK5:=hd_ hk5;have HO5:=hd_ (z0n HOW.out hb5);have HNE:Hid ((Value.slice A2 p.parts.length c2).ownBlock≠some wr.heap.size):=hd_ (fun e=>by have:=(HOW.out.lt _ e).2;omega)
    have hsl:(z1a c.data.toList).length≤1000001:=by have:=z1g c.data.toList;have h2:=HCZ.out;have:c.data.toList.length=c.size:=rfl;omega
    clear hw5 hb5 hk5 t0 d1 hn0;generalize wr.heap.size=g5 at HK5 HNE ⊢;generalize z1a c.data.toList=ps at HCL HSN HK5 HJN HPO hsl ⊢;go_wp2_with fail;go_loopw [7,65] (fun av i wr=>∃(j:Nat) (A4:Option Addr) (c4:Nat),i=.int .i64 j∧av=.slice A4 (p.parts.length+j) c4∧j≤ps.length∧Hid (Below w3.heap.size w3 wr∧Blk wr g5 9 (z6v ps)∧wr.ownsRow w3.heap.size 9 1 av (p.parts.length+j) ((done++(ps.take j).map baL).map .string)∧av.ownBlock≠some g5)) (fun _ i _=>ps.length - (intOf i).toNat)
    case atStart=>exact⟨0,_,_,rfl,rfl,Nat.zero_le _,hd_ ⟨HL5.out,HK5.out,by simpa using HO5.out,HNE.out⟩⟩
    case round =>
     obtain⟨j,A4,c4,rfl,rfl,hj,HI⟩:=hrel;by_cases hlt:j<ps.length
     ·have t1:=HI.out.2.1.strs j hlt;have HCO:=hd_ (fun X=>z8s (baL ps[j]) X (by rw[z6x];have:=HSN.out _ (List.getElem_mem hlt);have:=HCZ.out;have:c.data.toList.length=c.size:=rfl;unfold maxLen;omega))
      have hcp:z0v (baL ps[j])=true:=List.all_eq_true.1 HCL.out _ (List.getElem_mem hlt);rw[hcp] at HCO;have HTK:Hid ((ps.take (j+1)).map baL=(ps.take j).map baL++[baL ps[j]]):=hd_ (by rw[List.take_succ_eq_append_getElem hlt,List.map_append];rfl)
      generalize baL ps[j]=pk at t1 HCO HTK;have HLT:=hd_ hlt;have HOW:=hd_ (z0n HI.out.2.2.1 ((Below.refl wr.heap.size wr).alloc (Nat.le_refl _) (.cells #[.string pk] 9)));have HBW:=hd_ (HI.out.1.alloc HI.out.1.size (.cells #[.string pk] 9));have HKW:=hd_ (HI.out.2.1.alloc (.cells #[.string pk] 9));have hrow:=z0i wr [.string pk] 9 1 1 rfl (by unfold maxLen;omega) wr.heap.size rfl
      clear hcp;go_wp2_with fail;refine (HCO.out _).mono ?_;rintro e w' ⟨rfl,rfl⟩;dsimp only;go_wp2_with (at_builtin;refine z0j rfl rfl zln HOW.out rfl hrow rfl (by simp [Value.oneCell']) (by omega) (by unfold maxLen;omega) HBW.out.size ?_;intro A' c' w6 hown hgr hob)
      have HN:Hid (Below w3.heap.size w3 w6∧Blk w6 g5 9 (z6v ps)∧w6.ownsRow w3.heap.size 9 1 (.slice A' (p.parts.length+j+1) c') (p.parts.length+j+1) ((done++(ps.take (j+1)).map baL).map .string)∧(Value.slice A' (p.parts.length+j+1) c').ownBlock≠some g5):=hd_ ⟨zo9 HBW.out hgr (fun k e=>(HOW.out.lt k e).1),HKW.out.grown hgr (fun e=>HI.out.2.2.2 e.symm),by rw[HTK.out,← List.append_assoc,List.map_append];exact hown,by
       rcases hob with e | e
       ·rw[e];exact HI.out.2.2.2
       ·rw[e];intro e2;injection e2 with e2;have:=HI.out.2.1.lt;simp at e2;omega⟩
      clear hown hgr hob hrow t1;go_wp2_with fail;go_roundw
      case rel=>exact⟨j+1,A',c',by go_num,by first | rfl | simp [Nat.add_assoc],by have:=HLT.out;omega,HN⟩
      case measure=>have:=HLT.out;simp [intOf];omega
     ·have hke:j=ps.length:=by omega
      subst hke;have hge2:¬((ps.length:Int)<(ps.length:Int)):=by omega
      have HO6:Hid (wr.ownsRow w3.heap.size 9 1 (.slice A4 (p.parts.length+ps.length) c4) (p.parts.length+ps.length) ((done++ps.map baL).map .string)):=hd_ (by have:=HI.out.2.2.1;rw[List.take_length] at this;exact this)
      have HB6:=hd_ HI.out.1;obtain⟨gq,cq,eq⟩:=z0s HO6.out (by have:=HPO.out;omega)
      injection eq with eq1 eq2 eq3
      subst eq1 eq3;have hll:((done++ps.map baL).map (·.data.toList)).length=p.parts.length+ps.length:=by rw[List.length_map,List.length_append,List.length_map,HLN.out]
      have hml:(done++ps.map baL).map (·.data.toList)=done.map (·.data.toList)++ps:=by rw[List.map_append,List.map_map];congr 1;simp [Function.comp_def,baL]
      have hJ:=z93 ((done++ps.map baL).map (·.data.toList)) gq 0 c4 wr (fun j hj=>by
       rw[List.length_map] at hj;rw[Nat.zero_add];have:=(zac HO6.out (j:=j) (u:=.string (done++ps.map baL)[j]) (by rw[List.getElem?_map,List.getElem?_eq_getElem hj];rfl)).1
       exact this.trans (by rw[zbw])) (by rw[hll];have:=HPO.out;omega) (by rw[hll];exact (zbx HO6.out).1) (by rw[hll];omega) (by rw[hml,HJN.out];have:=HF.out.join;omega)
      rw[hll] at hJ;have HJ:=hd_ hJ;have HST:Hid (zbu p caps=baL (z8j ((done++ps.map baL).map (·.data.toList)))):=hd_ (by unfold zbu z8j;rw[hml,HJN.out])
      clear hJ HI hll hml;go_wp2_with fail;refine HJ.out.mono ?_;rintro e w7 ⟨rfl,hb7⟩;dsimp only;have HB7:=hd_ (z0r HA3.out (z0r HB6.out hb7));clear hb7;go_wp2_with fail;go_ret2;exact⟨by rw[HST.out];rfl,HB7.out⟩
theorem zod (p:Pat)(caps:List ByteArray)(A:Option Addr)(a:Nat)(cv:Value)(w:World)(he:Env w)(hp:za9 w (.slice A p.parts.length a) p)(hc:Strs w cv caps)(hf:zbv p caps):
  Calls prog 226 #[.agg #[.slice A p.parts.length a,.bool p.rest],cv] w fun e w'=>e=.returned (.tuple #[.string (zbu p caps),.int .i64 0])∧Below w.heap.size w w':=zoc p p.rest rfl caps A a cv w he hp hc hf
end Go.Proofs.YtegeboijhifmcaaGreatDoor
