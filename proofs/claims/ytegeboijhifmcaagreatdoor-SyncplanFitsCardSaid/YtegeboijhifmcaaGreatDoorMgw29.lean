/- syncplan.forward: the closure, the holes. -/
import Derived.Test.YtegeboijhifmcaaGreatDoorMgw20
import Derived.Test.YtegeboijhifmcaaGreatDoorMgw15
import Derived.Test.YtegeboijhifmcaaGreatDoorMgw25
import Derived.Test.YtegeboijhifmcaaGreatDoorMgw24
import Derived.Test.YtegeboijhifmcaaGreatDoorMgw14
import Derived.Test.YtegeboijhifmcaaGreatDoorMgw28
namespace Go.Proofs.YtegeboijhifmcaaGreatDoor
set_option linter.unusedVariables false
set_option linter.unusedSimpArgs false
set_option maxHeartbeats 8000000
set_option maxRecDepth 100000
open Go.RowKit
theorem zdo (q:Pat)(A:Option Addr)(c b:Nat)(p:ByteArray)(w:World)(he:Env w)(hq:za9 w (.slice A q.parts.length c) q)(hp:w.cell? ⟨b,0,none⟩=some (.string p))(hz:p.size≤1000000):
  Calls Tryz.prog 70 #[.agg #[.slice A q.parts.length c,.bool q.rest],.pointer (some ⟨b,0,none⟩)] w fun e w'=>e=.returned (.bool (z8e q p).isSome)∧Below w.heap.size w w':=by
 have hB:=z0l w [.slice A q.parts.length c,.bool q.rest] 97;have hA:Below w.heap.size w (w.alloc (.cells #[.slice A q.parts.length c,.bool q.rest] 97)):=(Below.refl _ _).alloc (Nat.le_refl _) _;have HM:=hd_ (fun X (hX:Below w.heap.size w X)=>zbk q p A c X (he.below hX) hz (hq.below hX).1 hq.small);have d2:(w.alloc (.cells #[.slice A q.parts.length c,.bool q.rest] 97)).cell? ⟨b,0,none⟩=some (.string p):=(hA.cell (block_lt_of_cell hp)).trans hp;clear he hq hp;go_enter Tryz.func70,Tryz.ntmps70;go_upto_region 1 with fail;generalize w.alloc (.cells #[.slice A q.parts.length c,.bool q.rest] 97)=W1 at hB hA d2 ⊢;have d0:W1.cell? ⟨w.heap.size,0,none⟩=some (.slice A q.parts.length c):=hB.cell 0;have d1:W1.cell? ⟨w.heap.size,1,none⟩=some (.bool q.rest):=hB.cell 1;have HC:=hd_ (HM.out W1 hA);have HA:=hd_ hA;clear hA hB HM;generalize z8e q p=o at HC ⊢;go_wp2_with fail;refine HC.out.mono ?_;rintro e w2 ⟨A',n,c',rfl,hb,-⟩;have HB:=hd_ (z0r HA.out hb);clear hb d0 d1 d2;go_wp2_with fail;go_ret;exact⟨rfl,HB.out⟩
def zdp (hs:List zd1)(p:ByteArray):Bool:=hs.any fun q=>(z8e q.1 p).isSome
theorem zdq (hs:List zd1)(H:Option Addr)(hc b:Nat)(p:ByteArray)(w:World)(he:Env w)(hh:zd2 w (.slice H hs.length hc) hs)(hp:w.cell? ⟨b,0,none⟩=some (.string p))(hz:p.size≤1000000)(hn:hs.length≤1000):
  Calls Tryz.prog 106 #[.slice H hs.length hc,.func (.func 70) #[] #[.pointer (some ⟨b,0,none⟩)]] w fun e w'=>(∃ i:Int,e=.returned (.int .i64 i)∧decide (0≤i)=zdp hs p)∧Below w.heap.size w w':=by
 have HE:=hd_ he;have HH:=hd_ hh;have HP:=hd_ hp;have HNO:Hid (∀ k (hk:k<hs.length),(z8e hs[k].1 p).isSome=true→zdp hs p=true):=hd_ (fun k hk h=>List.any_eq_true.2 ⟨_,List.getElem_mem hk,h⟩);have HYE:Hid ((∀ k (hk:k<hs.length),(z8e hs[k].1 p).isSome=false)→zdp hs p=false):=hd_ (fun h=>by
  unfold zdp;rw[List.any_eq_false];intro q hq;obtain⟨k,hk,rfl⟩:=List.getElem_of_mem hq;rw[h k hk];decide)
 generalize zdp hs p=r at HNO HYE ⊢;clear he hh hp;go_enter Tryz.func106,Tryz.ntmps106;go_wp2_with fail;go_loopw [8] (fun i wr=>∃ k:Nat,i=.int .i64 k∧k≤hs.length∧Hid (Below w.heap.size w wr∧∀ j (hj:j<hs.length),j<k→(z8e hs[j].1 p).isSome=false)) (fun i _=>hs.length - (intOf i).toNat)
 case atStart=>exact⟨0,rfl,Nat.zero_le _,hd_ ⟨Below.refl _ _,fun j _ h=>by omega⟩⟩
 case round =>
  obtain⟨k,rfl,hk,HI⟩:=hrel;by_cases hlt:k<hs.length
  ·have HHX:=hd_ (HH.out.below HI.out.1);obtain⟨ad,rfl,hab,s0,s1⟩:=HHX.out.at_ hlt;have HPK:=hd_ (HHX.out.2 hs[k] (List.getElem_mem hlt));have HNK:=hd_ (HNO.out k hlt);have HJ:Hid ((z8e hs[k].1 p).isSome=false→∀ j (hj:j<hs.length),j<k+1→(z8e hs[j].1 p).isSome=false):=hd_ (fun h j hj hjk=>by
    by_cases e:j=k
    ·subst e;exact h
    ·exact HI.out.2 j hj (by omega))
   generalize hs[k]=q at s0 s1 HPK HNK HJ;obtain⟨q,Aq,cq⟩:=q;change wr.cell? _=some (.slice Aq q.parts.length cq) at s0;change wr.cell? _=some (.bool q.rest) at s1;have HC:=hd_ (zdo q Aq cq b p wr (HE.out.below HI.out.1) HPK.out ((HI.out.1.cell (block_lt_of_cell HP.out)).trans HP.out) hz);obtain⟨o,ho⟩:∃ o,(z8e q p).isSome=o:=⟨_,rfl⟩;rw[ho] at HC;have HO:=hd_ ho;have HLT:=hd_ hlt;clear hab ho;cases o with
   | true =>
    have HR:=hd_ (HNK.out HO.out);go_wp2_with fail;refine HC.out.mono ?_;rintro e w2 ⟨rfl,hb⟩;have HB:=hd_ (z0r HI.out.1 hb);clear hb s0 s1;go_wp2_with fail;go_ret;exact⟨⟨(k:Int),rfl,by rw[HR.out];exact decide_eq_true (by omega)⟩,HB.out⟩
   | false =>
    have HR:=hd_ (HJ.out HO.out);go_wp2_with fail;refine HC.out.mono ?_;rintro e w2 ⟨rfl,hb⟩;have HB:=hd_ (z0r HI.out.1 hb);clear hb s0 s1;go_wp2_with fail;go_roundw
    case rel=>exact⟨k+1,by go_num,by omega,hd_ ⟨HB.out,HR.out⟩⟩
    case measure=>simp [intOf];omega
  ·have hke:k=hs.length:=by omega
   subst hke;have HR:=hd_ (HYE.out (fun j hj=>HI.out.2 j hj hj));have HB:=hd_ HI.out.1;have hge:¬((hs.length:Int)<(hs.length:Int)):=by omega
   go_wp2_with fail;go_ret;exact⟨⟨-1,rfl,by rw[HR.out];decide⟩,HB.out⟩
theorem zdr (hs:List zd1)(H:Option Addr)(hc b:Nat)(p:ByteArray)(w:World)(he:Env w)(hh:zd2 w (.slice H hs.length hc) hs)(hp:w.cell? ⟨b,0,none⟩=some (.string p))(hz:p.size≤1000000)(hn:hs.length≤1000):
  Calls Tryz.prog 69 #[.slice H hs.length hc,.func (.func 70) #[] #[.pointer (some ⟨b,0,none⟩)]] w fun e w'=>e=.returned (.bool (zdp hs p))∧Below w.heap.size w w':=by
 have HC:=hd_ (zdq hs H hc b p w he hh hp hz hn);clear he hh hp;generalize zdp hs p=r at HC ⊢;go_enter Tryz.func69,Tryz.ntmps69;go_wp2_with fail;refine HC.out.mono ?_;rintro e w2 ⟨⟨i,rfl,hi⟩,hb⟩;have HI:=hd_ hi;have HB:=hd_ hb;clear hi hb;go_wp2_with fail;go_ret;exact⟨by rw[← HI.out];rfl,HB.out⟩
def zds (x:zd8)(p:ByteArray):Option ByteArray:=match zc2 x.l.1 x.r.1 p with
 | none=>none
 | some s=>if zdp x.hs p then none else some s
def zdt (es:List zd8)(p:ByteArray):Option ByteArray:=es.findSome? (zds · p)
def zdu (es:List zd8)(p:ByteArray):Prop:=∀ x∈es,∀ caps,z8e x.l.1 p=some caps→zbv x.r.1 caps
theorem zdv {es:List zd8}{p:ByteArray}{k:Nat}(hk:k<es.length)(h0:∀ j (hj:j<es.length),j<k→zds es[j] p=none):zdt es p=(zds es[k] p).or (zdt (es.drop (k+1)) p):=by
 induction es generalizing k with
 | nil=>simp at hk
 | cons x es ih =>
  unfold zdt;rw[List.findSome?_cons];cases k with
  | zero =>
   simp only[List.getElem_cons_zero,Nat.zero_add,List.drop_succ_cons,List.drop_zero]
   cases zds x p <;> rfl
  | succ k =>
   have hx:zds x p=none:=h0 0 (by simp) (by omega)
   rw[hx];exact ih (by simpa using hk) fun j hj hjk=>h0 (j+1) (by simpa using hj) (by omega)
theorem zdw {es:List zd8}{p:ByteArray}(h0:∀ j (hj:j<es.length),zds es[j] p=none):zdt es p=none:=by
 unfold zdt;rw[List.findSome?_eq_none_iff];intro x hx;obtain⟨k,hk,rfl⟩:=List.getElem_of_mem hx;exact h0 k hk
theorem zdx (es:List zd8)(v:Value)(p:ByteArray)(w:World)(he:Env w)(hE:zdi w v es)(hM:zdj es)(hF:zdu es p)(hz:p.size≤1000000):
  Calls Tryz.prog 42 #[v,.string p] w (zc3 w (zdt es p)):=by
 obtain⟨A,c,rfl,-⟩:=id hE.1;have hl32:=hM.len;have hA:Below w.heap.size w (w.alloc (.cells #[.string p] 9)):=(Below.refl _ _).alloc (Nat.le_refl _) _;have hS:=z0l w [.string p] 9;have HE:=hd_ (fun X (hX:Below w.heap.size w X)=>hE.below hX);have HEV:=hd_ (fun X (hX:Below w.heap.size w X)=>he.below hX);have HM:=hd_ hM;have HF:=hd_ hF;have HAT:=hd_ (fun k hk=>@zdv es p k hk);have HNO:=hd_ (@zdw es p);generalize zdt es p=r at HAT HNO ⊢;have HA:=hd_ hA;have HS:=hd_ hS;clear hE hM hF he hA hS;go_enter Tryz.func42,Tryz.ntmps42;go_upto_region 1 with fail;generalize w.alloc (.cells #[.string p] 9)=W1 at HA HS ⊢;go_wp2_with fail;go_loopw [12] (fun i wr=>∃ k:Nat,i=.int .i64 k∧k≤es.length∧Hid (Below W1.heap.size W1 wr∧∀ j (hj:j<es.length),j<k→zds es[j] p=none)) (fun i _=>es.length - (intOf i).toNat)
 case atStart=>exact⟨0,rfl,Nat.zero_le _,hd_ ⟨Below.refl _ _,fun j _ h=>by omega⟩⟩
 case round =>
  obtain⟨k,rfl,hk,HI⟩:=hrel;by_cases hlt:k<es.length
  ·have HBW:=hd_ (z0r HA.out HI.out.1);have HEX:=hd_ (HE.out wr HBW.out);obtain⟨ad,rfl,hab,s0,s1,s2,s3,s4⟩:=HEX.out.at_ hlt;have HXI:=hd_ (HEX.out.2 es[k] (List.getElem_mem hlt));have HXO:=hd_ (HM.out.ok es[k] (List.getElem_mem hlt));have HXF:=hd_ (HF.out es[k] (List.getElem_mem hlt));have HR1:=hd_ (HAT.out k hlt HI.out.2);have HJ:Hid (zds es[k] p=none→∀ j (hj:j<es.length),j<k+1→zds es[j] p=none):=hd_ (fun h j hj hjk=>by
    by_cases e:j=k
    ·subst e;exact h
    ·exact HI.out.2 j hj (by omega))
   generalize es[k]=x at s0 s1 s2 s3 s4 HXI HXO HXF HR1 HJ;obtain⟨H,hc,hhv⟩:=HXI.out.holes;obtain⟨⟨pl,Al,cl⟩,⟨pr,Ar,cr⟩,hv,hs⟩:=x;change hv=.slice H hs.length hc at hhv;subst hhv;change wr.cell? _=some (.slice Al pl.parts.length cl) at s0;change wr.cell? _=some (.bool pl.rest) at s1;change wr.cell? _=some (.slice Ar pr.parts.length cr) at s2;change wr.cell? _=some (.bool pr.rest) at s3;change wr.cell? _=some (.slice H hs.length hc) at s4;have hX:Below wr.heap.size wr (wr.alloc (.cells #[.slice Al pl.parts.length cl,.bool pl.rest,.slice Ar pr.parts.length cr,.bool pr.rest,.slice H hs.length hc] 100)):=(Below.refl _ _).alloc (Nat.le_refl _) _;have HXP:=hd_ (HXI.out.below hX);have HX:=hd_ (z0r HI.out.1 hX);have HN:Hid (Blk (wr.alloc (.cells #[.slice Al pl.parts.length cl,.bool pl.rest,.slice Ar pr.parts.length cr,.bool pr.rest,.slice H hs.length hc] 100)) wr.heap.size 100 [.slice Al pl.parts.length cl,.bool pl.rest,.slice Ar pr.parts.length cr,.bool pr.rest,.slice H hs.length hc]):=hd_ (z0l wr _ _);have HLT:=hd_ hlt;clear hab hX;go_upto_region 4 with fail;generalize wr.alloc (.cells #[.slice Al pl.parts.length cl,.bool pl.rest,.slice Ar pr.parts.length cr,.bool pr.rest,.slice H hs.length hc] 100)=W4 at HX HN HXP ⊢;generalize wr.heap.size=g7 at HN ⊢;clear s0 s1 s2 s3 s4;obtain⟨x0,x1,x2,x3,x4⟩:=(⟨HN.out.cell 0,HN.out.cell 1,HN.out.cell 2,HN.out.cell 3,HN.out.cell 4⟩:W4.cell? ⟨g7,0,none⟩=some (.slice Al pl.parts.length cl)∧W4.cell? ⟨g7,1,none⟩=some (.bool pl.rest)∧W4.cell? ⟨g7,2,none⟩=some (.slice Ar pr.parts.length cr)∧W4.cell? ⟨g7,3,none⟩=some (.bool pr.rest)∧W4.cell? ⟨g7,4,none⟩=some (.slice H hs.length hc));have p0:W4.cell? ⟨w.heap.size,0,none⟩=some (.string p):=(HS.out.below HX.out HS.out.lt).cell 0;have HRF:=hd_ (zc5 false pl pr p Al Ar cl cr W4 (HEV.out W4 (z0r HA.out HX.out)) hz HXP.out.l HXP.out.r HXO.out.rule HXF.out);have HONE:Hid (zds ⟨(pl,Al,cl),(pr,Ar,cr),.slice H hs.length hc,hs⟩ p=match zc2 pl pr p with | none=>none | some s=>if zdp hs p then none else some s):=hd_ rfl
   obtain⟨o,ho⟩:∃ o,zc2 pl pr p=o:=⟨_,rfl⟩;rw[ho] at HRF HONE;clear ho;cases o with
   | none =>
    have HNX:=hd_ (HJ.out HONE.out);go_wp2_with fail;refine HRF.out.mono ?_;rintro e w5 ⟨rfl,hb⟩;have HB:=hd_ (z0r HX.out hb);clear hb x0 x1 x2 x3 x4 p0;go_wp2_with fail;go_roundw
    case rel=>exact⟨k+1,by go_num,by omega,hd_ ⟨HB.out,HNX.out⟩⟩
    case measure=>simp [intOf];omega
   | some s =>
    have HCH:=hd_ (fun X (hX:Below W4.heap.size W4 X)=>zdr hs H hc w.heap.size p X (HEV.out X (z0r HA.out (z0r HX.out hX))) (HXP.out.h.below hX) ((HS.out.below (z0r HX.out hX) HS.out.lt).cell 0) hz HXP.out.n);go_wp2_with fail;refine HRF.out.mono ?_;rintro e w5 ⟨rfl,hb⟩;have HB:=hd_ (z0r HX.out hb);have HC5:=hd_ (HCH.out w5 hb);have x4':w5.cell? ⟨g7,4,none⟩=some (.slice H hs.length hc):=(HN.out.below hb HN.out.lt).cell 4;clear hb x0 x1 x2 x3 x4 p0 HCH;obtain⟨hb9,hh9⟩:∃ b,zdp hs p=b:=⟨_,rfl⟩;rw[hh9] at HC5 HONE;clear hh9;cases hb9 with
    | true =>
     have HNX:=hd_ (HJ.out HONE.out);go_wp2_with fail;refine HC5.out.mono ?_;rintro e w6 ⟨rfl,hb⟩;have HB6:=hd_ (z0r HB.out hb);clear hb x4';go_wp2_with fail;go_roundw
     case rel=>exact⟨k+1,by go_num,by omega,hd_ ⟨HB6.out,HNX.out⟩⟩
     case measure=>simp [intOf];omega
    | false =>
     have HRR:Hid (r=some s):=hd_ (by rw[HR1.out,HONE.out];rfl)
     go_wp2_with fail;refine HC5.out.mono ?_;rintro e w6 ⟨rfl,hb⟩;have HB6:=hd_ (z0r HB.out hb);clear hb x4';go_wp2_with fail;go_ret2;exact⟨by rw[HRR.out];rfl,z0r HA.out HB6.out⟩
  ·have hke:k=es.length:=by omega
   subst hke;have HR:=hd_ (HNO.out (fun j hj=>HI.out.2 j hj hj));have HB:=hd_ (z0r HA.out HI.out.1);have hge:¬((es.length:Int)<(es.length:Int)):=by omega
   go_wp2_with fail;go_ret2;exact⟨by rw[HR.out];rfl,HB.out⟩
structure zfs (es:List zd8):Prop where
 map:zdj es
 fits:∀ p∈zff,zdu es p
 small:∀ p∈zff,∀ s,zdt es p=some s→s.size≤200
theorem zft:∀ x∈zff,z2s x=true∧x.size≤1000000:=by decide +kernel
theorem zfu {D:List Rev}{f:ByteArray→Option ByteArray}{m:Int}{p:ByteArray}(h:z30 D p (fun v:Rev=>decide (v.chg≤m))=none):zfj D f m p=none:=by unfold zfj;rw[h]
theorem zfv {D:List Rev}{f:ByteArray→Option ByteArray}{m:Int}{p:ByteArray}{r:Rev}(h:z30 D p (fun v:Rev=>decide (v.chg≤m))=some r)(hl:z2v r.act=false):zfj D f m p=none:=by unfold zfj;rw[h];simp only;rw[if_neg (by rw[hl];decide)]
theorem zfw {D:List Rev}{f:ByteArray→Option ByteArray}{m:Int}{p:ByteArray}{r:Rev}(h:z30 D p (fun v:Rev=>decide (v.chg≤m))=some r)(hf:f p=none):zfj D f m p=none:=by unfold zfj;rw[h];simp only;rw[hf];split <;> rfl
theorem zfx {D:List Rev}{f:ByteArray→Option ByteArray}{m:Int}{p s:ByteArray}{r:Rev}(h:z30 D p (fun v:Rev=>decide (v.chg≤m))=some r)(hl:z2v r.act=true)(hf:f p=some s):zfj D f m p=some ⟨p,r.num,s⟩:=by unfold zfj;rw[h];simp only;rw[if_pos hl,hf];rfl
theorem fm_take {α β:Type}(f:α→Option β)(l:List α)(k:Nat)(hk:k<l.length):(l.take (k+1)).filterMap f=(l.take k).filterMap f++(f l[k]).toList:=by
 rw[List.take_succ_eq_append_getElem hk,List.filterMap_append];cases h:f l[k] with
 | none=>simp [h]
 | some b=>simp [h]
theorem zfy {D:List Rev}{f:ByteArray→Option ByteArray}{m:Int}{l:List ByteArray}(hs:z5x (fun q:ByteArray=>q) l)(hm:∀ q,q∈l↔∃ r∈D,r.path=q)(h6:∀ r∈D,r.path∈zff):l.filterMap (zfj D f m)=zfk D f m:=by
 have hno:∀ p,p∉l→zfj D f m p=none:=fun p hp=>zfu (by
  cases hg:z30 D p (fun v:Rev=>decide (v.chg≤m)) with
  | none=>rfl
  | some r =>
   obtain⟨h1,h2,-⟩:=zfl hg;exact absurd ((hm p).2 ⟨r,h1,h2⟩) hp)
 have he:l=zff.filter (fun p=>decide (p∈l)):=z66 hs (z6a zfg _) fun a=>by
  rw[List.mem_filter,decide_eq_true_eq];refine⟨fun h=>⟨?_,h⟩,fun h=>h.2⟩;obtain⟨r,hr,rfl⟩:=(hm a).1 h;exact h6 r hr
 unfold zfk;suffices h:∀(L:List ByteArray),(L.filter (fun p=>decide (p∈l))).filterMap (zfj D f m)=L.filterMap (zfj D f m) by
  rw[← h zff,← he]
 intro L;induction L with
 | nil=>rfl
 | cons a L ih =>
  by_cases ha:a∈l
  ·rw[List.filter_cons_of_pos (by simpa using ha),List.filterMap_cons,List.filterMap_cons,ih]
  ·rw[List.filter_cons_of_neg (by simpa using ha),List.filterMap_cons,hno a ha,ih]
def zfz (w:World)(l:List Hav)(e:Ending)(w':World):Prop:=∃ v,e=.returned (.tuple #[v,.int .i64 0])∧z4b w' v l∧Below w.heap.size w w'
theorem zg0 (D:List Rev)(es:List zd8)(m:Int)(dv dr mv:Value)(w:World)(he:Env w)(hR:z45 w dv D)(hE:zdi w mv es)(hl:D.length≤1000000)(h6:∀ r∈D,r.path∈zff)(hS:zfs es):
  Calls Tryz.prog 13 #[.agg #[dv,dr],mv,.int .i64 m] w (zfz w (zfk D (zdt es) m)):=by
 obtain⟨Ar,cr,rfl,-⟩:=id hR;have hBox:=z0l w [.slice Ar D.length cr,dr] 26;have hA:Below w.heap.size w (w.alloc (.cells #[.slice Ar D.length cr,dr] 26)):=(Below.refl _ _).alloc (Nat.le_refl _) _;have HCK:=hd_ (fun X (hX:Below w.heap.size w X)=>zdn es mv X (hE.below hX) hS.map);have HPA:=hd_ (fun X (hX:Below w.heap.size w X)=>zbb D zff (.slice Ar D.length cr) dr X (hR.below hX) hl h6 (by decide) zft)
 have HAT:=hd_ (fun X (hX:Below w.heap.size w X) p=>at_any D p m (.slice Ar D.length cr) dr X (hR.below hX) hl);have HFW:=hd_ (fun X (hX:Below w.heap.size w X) p (hp:p∈zff)=>zdx es mv p X (he.below hX) (hE.below hX) hS.map (hS.fits p hp) (zft p hp).2);have HSM:=hd_ hS.small;have H6:=hd_ h6;have HA:=hd_ hA;have HBX:=hd_ hBox;have HW:Hid (∀ l,z5x (fun q:ByteArray=>q) l→(∀ q,q∈l↔∃ r∈D,r.path=q)→l.filterMap (zfj D (zdt es) m)=zfk D (zdt es) m):=hd_ (fun l h1 h2=>zfy h1 h2 h6);generalize zfk D (zdt es) m=WL at HW ⊢;clear he hR hE hS h6 hA hBox;go_enter Tryz.func13,Tryz.ntmps13;go_upto_region 1 with fail;generalize w.alloc (.cells #[.slice Ar D.length cr,dr] 26)=W1 at HA HBX ⊢;have HC1:=hd_ (HCK.out W1 HA.out);go_wp2_with fail;refine HC1.out.mono ?_;rintro e w2 ⟨rfl,hb⟩;have HB2:=hd_ (z0r HA.out hb);have HBX2:=hd_ (HBX.out.below hb HBX.out.lt);have d0:w2.cell? ⟨w.heap.size,0,none⟩=some (.slice Ar D.length cr):=HBX2.out.cell 0;have d1:w2.cell? ⟨w.heap.size,1,none⟩=some dr:=HBX2.out.cell 1;have HC2:=hd_ (HPA.out w2 HB2.out);clear hb HCK HPA HC1;go_wp2_with fail;refine HC2.out.mono ?_;rintro e w3 ⟨v3,l,rfl,hb,hS3,hst,hmem⟩;obtain⟨A3,c3,rfl,hcc3,hmm3,-⟩:=id hS3;have HB3:=hd_ (z0r HB2.out hb);have HBX3:=hd_ (HBX2.out.below hb HBX2.out.lt);have HL3:=hd_ hS3;have HWL:=hd_ (HW.out l hst hmem);have HMEM:Hid (∀ k (hk:k<l.length),l[k]∈zff):=hd_ (fun k hk=>by
  obtain⟨r,hr,e⟩:=(hmem l[k]).1 (List.getElem_mem hk);rw[← e];exact H6.out r hr)
 have hlen6:l.length≤6:=by
  have hn:l.Nodup:=hst.imp fun {a b} h=>z5z h;exact zb6 (B:=zff) hn fun x hx=>by
   obtain⟨r,hr,e⟩:=(hmem x).1 hx;rw[← e];exact H6.out r hr
 unfold maxLen at hmm3;clear hb hS3 hst hmem d0 d1 HC2 HW;go_wp2_with fail;go_loopw [10,27] (fun lv i wr=>∃(k n:Nat) (A:Option Addr) (c:Nat),lv=.slice A n c∧i=.int .i64 k∧k≤l.length∧n≤k∧Hid (n=((l.take k).filterMap (zfj D (zdt es) m)).length∧Below w3.heap.size w3 wr∧wr.ownsRow w3.heap.size 44 3 (.slice A n c) n (((l.take k).filterMap (zfj D (zdt es) m)).flatMap Hav.cells))) (fun _ i _=>l.length - (intOf i).toNat)
 case atStart=>exact⟨0,0,none,0,rfl,rfl,Nat.zero_le _,Nat.le_refl _,hd_ ⟨rfl,Below.refl _ _,World.ownsRow_nil _ _ _ _⟩⟩
 case round =>
  obtain⟨k,n,A,c,rfl,rfl,hk,hnk,HI⟩:=hrel;by_cases hlt:k<l.length
  ·have HBW:=hd_ (z0r HB3.out HI.out.2.1);obtain⟨ad,rfl,hab,s0⟩:=Strs.at_ (HL3.out.below HI.out.2.1) hlt;have HT:=hd_ (fm_take (zfj D (zdt es) m) l k hlt);have HP6:=hd_ (HMEM.out k hlt);generalize l[k]=p at s0 HT HP6;have HA1:=hd_ (HAT.out wr HBW.out p);have HWN:=hd_ (@zfu D (zdt es) m p);have HWG:=hd_ (fun r=>@zfv D (zdt es) m p r);have HWO:=hd_ (fun r=>@zfw D (zdt es) m p r);have HWY:=hd_ (fun r s=>@zfx D (zdt es) m p s r);have HFP:=hd_ (fun X hX=>HFW.out X hX p HP6.out);have HSP:=hd_ (HSM.out p HP6.out);have HBD:=hd_ (HBX3.out.below HI.out.2.1 HBX3.out.lt);have d0:wr.cell? ⟨w.heap.size,0,none⟩=some (.slice Ar D.length cr):=HBD.out.cell 0;have d1:wr.cell? ⟨w.heap.size,1,none⟩=some dr:=HBD.out.cell 1;have HLT:=hd_ hlt;clear hab;obtain⟨o,ho⟩:∃ o,z30 D p (fun v:Rev=>decide (v.chg≤m))=o:=⟨_,rfl⟩;rw[ho] at HA1 HWN HWG HWO HWY;generalize zfj D (zdt es) m p=wo at HT HWN HWG HWO HWY;clear ho;cases o with
   | none =>
    have HW0:=hd_ (HWN.out rfl);generalize hz:zec none=r at HA1;clear hz;go_wp2_with fail;refine HA1.out.mono ?_;rintro e w5 ⟨rfl,hb⟩;have HB5:=hd_ (z0r HI.out.2.1 (hb.alloc hb.size (.cells #[.string r.path,.int .i64 r.num,.int .i64 r.chg,.int .i64 r.act,.int .i64 r.ty.base,.bool r.ty.k,.bool r.ty.l,.bool r.ty.x,.int .u64 r.sum,.int .i64 r.size,.string r.frm,.int .i64 r.fnum] 66)));have HO5:=hd_ (z0n HI.out.2.2 (hb.alloc hb.size (.cells #[.string r.path,.int .i64 r.num,.int .i64 r.chg,.int .i64 r.act,.int .i64 r.ty.base,.bool r.ty.k,.bool r.ty.l,.bool r.ty.x,.int .u64 r.sum,.int .i64 r.size,.string r.frm,.int .i64 r.fnum] 66)));clear hb s0 d0 d1;go_wp2_with fail;go_roundw
    case rel=>exact⟨k+1,n,A,c,rfl,by go_num,by omega,by omega,hd_ (by rw[HT.out,HW0.out];simp only[Option.toList,List.append_nil];exact⟨HI.out.1,HB5.out,HO5.out⟩)⟩
    case measure=>simp [intOf];omega
   | some r =>
    change Hid (Calls _ _ _ _ fun e w'=>e=.returned (.tuple #[.agg #[.string r.path,.int .i64 r.num,.int .i64 r.chg,.int .i64 r.act,.int .i64 r.ty.base,.bool r.ty.k,.bool r.ty.l,.bool r.ty.x,.int .u64 r.sum,.int .i64 r.size,.string r.frm,.int .i64 r.fnum],.bool true])∧_) at HA1;have hX:=fun(X:World)=>z0l X [.string r.path,.int .i64 r.num,.int .i64 r.chg,.int .i64 r.act,.int .i64 r.ty.base,.bool r.ty.k,.bool r.ty.l,.bool r.ty.x,.int .u64 r.sum,.int .i64 r.size,.string r.frm,.int .i64 r.fnum] 66;by_cases h3:r.act=3∨r.act=5
    ·have HW0:=hd_ (HWG.out r rfl (by unfold z2v;rcases h3 with h | h <;> rw[h] <;> rfl))
     have HSPLIT:Hid (((r.act == 3)=true)∨((r.act == 3)=false∧(r.act == 5)=true)):=hd_ (by
      rcases h3 with h | h
      ·exact .inl (by rw[h];rfl)
      ·exact .inr ⟨by rw[h];rfl,by rw[h];rfl⟩)
     clear h3;go_wp2_with fail;refine HA1.out.mono ?_;rintro e w5 ⟨rfl,hb⟩;have hb5:=hb.alloc hb.size (.cells #[.string r.path,.int .i64 r.num,.int .i64 r.chg,.int .i64 r.act,.int .i64 r.ty.base,.bool r.ty.k,.bool r.ty.l,.bool r.ty.x,.int .u64 r.sum,.int .i64 r.size,.string r.frm,.int .i64 r.fnum] 66);have HB5:=hd_ (z0r HI.out.2.1 hb5);have HO5:=hd_ (z0n HI.out.2.2 hb5);have e3:(w5.alloc (.cells #[.string r.path,.int .i64 r.num,.int .i64 r.chg,.int .i64 r.act,.int .i64 r.ty.base,.bool r.ty.k,.bool r.ty.l,.bool r.ty.x,.int .u64 r.sum,.int .i64 r.size,.string r.frm,.int .i64 r.fnum] 66)).cell? ⟨w5.heap.size,3,none⟩=some (.int .i64 r.act):=(hX w5).cell 3;clear hb hb5 s0 d0 d1 hX;go_upto_region 9 with fail;generalize w5.alloc (.cells #[.string r.path,.int .i64 r.num,.int .i64 r.chg,.int .i64 r.act,.int .i64 r.ty.base,.bool r.ty.k,.bool r.ty.l,.bool r.ty.x,.int .u64 r.sum,.int .i64 r.size,.string r.frm,.int .i64 r.fnum] 66)=W5 at HB5 HO5 e3 ⊢;rcases HSPLIT.out with q | ⟨q,q'⟩
     all_goals
      go_wp2_with fail;go_roundw
      case rel=>exact⟨k+1,n,A,c,rfl,by go_num,by omega,by omega,hd_ (by rw[HT.out,HW0.out];simp only[Option.toList,List.append_nil];exact⟨HI.out.1,HB5.out,HO5.out⟩)⟩
      case measure=>simp [intOf];omega
    ·have q3:(r.act == 3)=false:=by rw[beq_eq_false_iff_ne];exact fun h=>h3 (.inl h)
     have q5:(r.act == 5)=false:=by rw[beq_eq_false_iff_ne];exact fun h=>h3 (.inr h)
     have HLV:Hid (z2v r.act=true):=hd_ (by unfold z2v;rw[bne,bne,q3,q5];rfl)
     clear h3;go_wp2_with fail;refine HA1.out.mono ?_;rintro e w5 ⟨rfl,hb⟩;have hb5:=hb.alloc hb.size (.cells #[.string r.path,.int .i64 r.num,.int .i64 r.chg,.int .i64 r.act,.int .i64 r.ty.base,.bool r.ty.k,.bool r.ty.l,.bool r.ty.x,.int .u64 r.sum,.int .i64 r.size,.string r.frm,.int .i64 r.fnum] 66);have HB5:=hd_ (z0r HI.out.2.1 hb5);have HO5:=hd_ (z0n HI.out.2.2 hb5);have HX5:=hd_ (hX w5);have e3:(w5.alloc (.cells #[.string r.path,.int .i64 r.num,.int .i64 r.chg,.int .i64 r.act,.int .i64 r.ty.base,.bool r.ty.k,.bool r.ty.l,.bool r.ty.x,.int .u64 r.sum,.int .i64 r.size,.string r.frm,.int .i64 r.fnum] 66)).cell? ⟨w5.heap.size,3,none⟩=some (.int .i64 r.act):=(hX w5).cell 3;clear hb hb5 s0 d0 d1 hX;go_upto_region 9 with fail;generalize w5.alloc (.cells #[.string r.path,.int .i64 r.num,.int .i64 r.chg,.int .i64 r.act,.int .i64 r.ty.base,.bool r.ty.k,.bool r.ty.l,.bool r.ty.x,.int .u64 r.sum,.int .i64 r.size,.string r.frm,.int .i64 r.fnum] 66)=W5 at HB5 HO5 HX5 e3 ⊢;generalize w5.heap.size=g13 at HX5 e3 ⊢;have HF5:=hd_ (HFP.out W5 (z0r HB3.out HB5.out));obtain⟨fo,hfo⟩:∃ fo,zdt es p=fo:=⟨_,rfl⟩;rw[hfo] at HF5;have HFO:=hd_ hfo;clear hfo;cases fo with
     | none =>
      have HW0:=hd_ (HWO.out r rfl HFO.out);go_wp2_with fail;refine HF5.out.mono ?_;rintro e w6 ⟨rfl,hb⟩;have HB6:=hd_ (z0r HB5.out hb);have HO6:=hd_ (z0n HO5.out hb);clear hb e3;go_wp2_with fail;go_roundw
      case rel=>exact⟨k+1,n,A,c,rfl,by go_num,by omega,by omega,hd_ (by rw[HT.out,HW0.out];simp only[Option.toList,List.append_nil];exact⟨HI.out.1,HB6.out,HO6.out⟩)⟩
      case measure=>simp [intOf];omega
     | some s =>
      have HW0:=hd_ (HWY.out r s rfl HLV.out HFO.out);have hsz:=HSP.out s HFO.out;have q200:decide ((200:Int)<(s.size:Int))=false:=by simp;omega
      have q200':decide (200<s.size)=false:=by simp;omega
      go_wp2_with fail;refine HF5.out.mono ?_;rintro e w6 ⟨rfl,hb⟩;have HB6:=hd_ (z0r HB5.out hb);have HO6:=hd_ (z0n HO5.out hb);have e1:w6.cell? ⟨g13,1,none⟩=some (.int .i64 r.num):=(HX5.out.below hb HX5.out.lt).cell 1;clear hb e3;have hba:Below w6.heap.size w6 (w6.alloc (.cells #[.string p,.int .i64 r.num,.string s] 44)):=(Below.refl _ _).alloc (Nat.le_refl _) _;have HO7:=hd_ (z0n HO6.out hba);have HB7:=hd_ (z0r HB6.out hba);have hrow:=z0i w6 [.string p,.int .i64 r.num,.string s] 44 3 1 rfl (by decide) _ rfl
      clear hba;go_wp2_with (at_builtin;refine z0k rfl rfl z54 HO7.out rfl hrow rfl HB7.out HB7.out.size (z55 ⟨p,r.num,s⟩) (by omega) (by unfold maxLen;omega) ?_;intro A' c' w8 hown8 hbl8)
      have HN:Hid (n+1=((l.take (k+1)).filterMap (zfj D (zdt es) m)).length∧Below w3.heap.size w3 w8∧w8.ownsRow w3.heap.size 44 3 (.slice A' (n+1) c') (n+1) (((l.take (k+1)).filterMap (zfj D (zdt es) m)).flatMap Hav.cells)):=hd_ (by
       rw[HT.out,HW0.out];refine⟨by rw[List.length_append,← HI.out.1];rfl,hbl8,?_⟩
       rw[List.flatMap_append];exact hown8)
      clear hown8 hbl8;go_wp2_with fail;go_roundw
      case rel=>exact⟨k+1,n+1,A',c',rfl,by go_num,by omega,by omega,HN⟩
      case measure=>simp [intOf];omega
  ·have hke:k=l.length:=by omega
   subst hke;rw[List.take_length,HWL.out] at HI;have hge:¬((l.length:Int)<(l.length:Int)):=by omega
   go_wp2_with fail;go_ret2;refine⟨_,rfl,?_,z0r HB3.out HI.out.2.1⟩;have h:=Row.of_own HI.out.2.2;rw[HI.out.1] at h ⊢;exact h
def zo0 (w:World)(v:Value)(b:Bool)(e:Ending)(w':World):Prop:=Below w.heap.size w w'∧∃ H n c,e=.returned (.tuple #[.agg #[v,.bool b,.slice H n c],.bool true])
theorem zo1 (A C H:Option Addr)(nl nr a c hc:Nat)(bl br:Bool)(w:World):
  Calls Tryz.prog 138 #[.agg #[.slice A nl a,.bool bl,.slice C nr c,.bool br,.slice H 0 hc]] w (zo0 w (.slice C nr c) br):=by
 obtain⟨W1,hW1⟩:∃ W,W=(w.alloc (.cells #[.slice A nl a,.bool bl,.slice C nr c,.bool br,.slice H 0 hc] 100)).alloc (.cells #[.slice none 0 0,.bool false,.slice none 0 0] 115):=⟨_,rfl⟩;have hA:Below w.heap.size w W1:=by rw[hW1];exact ((Below.refl _ _).alloc (Nat.le_refl _) _).alloc (by simp) _
 have h1:Blk W1 w.heap.size 100 [.slice A nl a,.bool bl,.slice C nr c,.bool br,.slice H 0 hc]:=by rw[hW1];exact (z0l w _ _).alloc _
 have h2:Blk W1 (w.heap.size+1) 115 [.slice none 0 0,.bool false,.slice none 0 0]:=by
  rw[hW1];have:=z0l (w.alloc (.cells #[.slice A nl a,.bool bl,.slice C nr c,.bool br,.slice H 0 hc] 100)) [.slice none 0 0,.bool false,.slice none 0 0] 115;simp only[World.size_alloc] at this
  exact this
 have HW1:=hd_ hW1;have HA:=hd_ hA;have H1:=hd_ h1;have H2:=hd_ h2;clear hW1 hA h1 h2;go_enter Tryz.func138,Tryz.ntmps138;go_upto_region 1 with fail;rw[← HW1.out];have y4:W1.cell? ⟨w.heap.size,4,none⟩=some (.slice H 0 hc):=H1.out.cell 4;clear HW1;go_wp2_with fail;clear y4;go_loopw [4,13] (fun v i wr=>v=.slice none 0 0∧i=.int .i64 0∧wr=W1) (fun _ i _=>0)
 case atStart=>exact⟨rfl,rfl,rfl⟩
 case round =>
  obtain⟨rfl,rfl,rfl⟩:=hrel;obtain⟨y2,y3⟩:=(⟨H1.out.cell 2,H1.out.cell 3⟩:wr.cell? ⟨w.heap.size,2,none⟩=some (.slice C nr c)∧wr.cell? ⟨w.heap.size,3,none⟩=some (.bool br));have HS:=hd_ (znx C nr c br wr);go_wp2_with fail;refine HS.out.mono ?_;rintro e w2 ⟨hb,H9,n9,c9,rfl⟩;dsimp only;have HB2:=hd_ (z0r HA.out hb);have HX2:=hd_ (H2.out.below hb H2.out.lt);obtain⟨u0,u1,u2⟩:=(⟨HX2.out.cell 0,HX2.out.cell 1,HX2.out.cell 2⟩:w2.cell? ⟨w.heap.size+1,0,none⟩=some (.slice none 0 0)∧w2.cell? ⟨w.heap.size+1,1,none⟩=some (.bool false)∧w2.cell? ⟨w.heap.size+1,2,none⟩=some (.slice none 0 0));obtain⟨f0,f1,f2⟩:=(⟨HX2.out.frozen 0,HX2.out.frozen 1,HX2.out.frozen 2⟩:w2.frozen? ⟨w.heap.size+1,0,none⟩=false∧w2.frozen? ⟨w.heap.size+1,1,none⟩=false∧w2.frozen? ⟨w.heap.size+1,2,none⟩=false);clear hb y2 y3 HS;go_wp2_with fail;have hE:=((HX2.out.set_ 0 (.slice C nr c)).set_ 1 (.bool br)).set_ 2 (.slice H9 n9 c9);have hb:=((HB2.out.setCell (p:=⟨w.heap.size+1,0,none⟩) (by simp) (.slice C nr c)).setCell (p:=⟨w.heap.size+1,1,none⟩) (by simp) (.bool br)).setCell (p:=⟨w.heap.size+1,2,none⟩) (by simp) (.slice H9 n9 c9)
  generalize ((w2.setCell ⟨w.heap.size+1,0,none⟩ (.slice C nr c)).setCell ⟨w.heap.size+1,1,none⟩ (.bool br)).setCell ⟨w.heap.size+1,2,none⟩ (.slice H9 n9 c9)=W8 at hE hb ⊢;have e0:=hE.cell 0;have e1:=hE.cell 1;have e2:=hE.cell 2;exact bodyPost_ret (v:=.tuple #[.agg #[.slice C nr c,.bool br,.slice H9 n9 c9],.bool true]) (by simp [results,Tryz.results138,go_sem,e0,e1,e2]) rfl ⟨hb,H9,n9,c9,rfl⟩
end Go.Proofs.YtegeboijhifmcaaGreatDoor
