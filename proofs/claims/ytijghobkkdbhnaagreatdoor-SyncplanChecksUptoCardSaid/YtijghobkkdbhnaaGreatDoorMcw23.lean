/- A part. -/
import Derived.Test.YtijghobkkdbhnaaGreatDoorMcw21
import Derived.Test.YtijghobkkdbhnaaGreatDoorMcw22
set_option linter.unusedVariables false
set_option linter.unusedSimpArgs false
set_option maxHeartbeats 8000000
set_option maxRecDepth 100000
namespace Go.Proofs.YtijghobkkdbhnaaGreatDoor
open Go.Proofs.Tryz
open Go.RowKit
theorem zd7 (q:Pat)(A:Option Addr)(c b:Nat)(p:ByteArray)(w:World)(he:Env w)(hq:z9j w (.slice A q.parts.length c) q)(hp:w.cell? ⟨b,0,none⟩=some (.string p))(hz:p.size≤1000000):
  Calls prog 76 #[.agg #[.slice A q.parts.length c,.bool q.rest],.pointer (some ⟨b,0,none⟩)] w fun e w'=>e=.returned (.bool (z8g q p).isSome)∧zB w w':=by
 have hB:=z0l w [.slice A q.parts.length c,.bool q.rest] 68;have hA:zB w (w.alloc (.cells #[.slice A q.parts.length c,.bool q.rest] 68)):=(Below.refl _ _).alloc (Nat.le_refl _) _;have HM:=hd_ (fun X (hX:zB w X)=>zb2 q p A c X (he.below hX) hz (hq.below hX).1 hq.small);have d2:(w.alloc (.cells #[.slice A q.parts.length c,.bool q.rest] 68)).cell? ⟨b,0,none⟩=some (.string p):=(hA.cell (block_lt_of_cell hp)).trans hp;clear he hq hp;go_enter func76,ntmps76;go_upto_region 1 with fail;generalize w.alloc (.cells #[.slice A q.parts.length c,.bool q.rest] 68)=W1 at hB hA d2 ⊢;have d0:W1.cell? ⟨w.heap.size,0,none⟩=some (.slice A q.parts.length c):=hB.cell 0;have d1:W1.cell? ⟨w.heap.size,1,none⟩=some (.bool q.rest):=hB.cell 1;have HC:=hd_ (HM.out W1 hA);have HA:=hd_ hA;clear hA hB HM;generalize z8g q p=o at HC ⊢;go_wp2_with fail;refine HC.out.mono ?_;rintro e w2 ⟨A',n,c',rfl,hb,-⟩;have HB:=hd_ (z0r HA.out hb);clear hb d0 d1 d2;go_wp2_with fail;go_ret;exact⟨rfl,HB.out⟩
def zd8 (hs:List zco)(p:ByteArray):Bool:=hs.any fun q=>(z8g q.1 p).isSome
theorem zd9 (hs:List zco)(H:Option Addr)(hc b:Nat)(p:ByteArray)(w:World)(he:Env w)(hh:zcp w (.slice H hs.length hc) hs)(hp:w.cell? ⟨b,0,none⟩=some (.string p))(hz:p.size≤1000000)(hn:hs.length≤1000):
  Calls prog 131 #[.slice H hs.length hc,.func (.func 76) #[] #[.pointer (some ⟨b,0,none⟩)]] w fun e w'=>(∃ i:Int,e=.returned (.int .i64 i)∧decide (0≤i)=zd8 hs p)∧zB w w':=by
 have HE:=hd_ he;have HH:=hd_ hh;have HP:=hd_ hp;have HNO:Hid (∀ k (hk:k<hs.length),(z8g hs[k].1 p).isSome=true→zd8 hs p=true):=hd_ (fun k hk h=>List.any_eq_true.2 ⟨_,List.getElem_mem hk,h⟩);have HYE:Hid ((∀ k (hk:k<hs.length),(z8g hs[k].1 p).isSome=false)→zd8 hs p=false):=hd_ (fun h=>by
  unfold zd8;rw[List.any_eq_false];intro q hq;obtain⟨k,hk,rfl⟩:=List.getElem_of_mem hq;rw[h k hk];decide)
 generalize zd8 hs p=r at HNO HYE ⊢;clear he hh hp;go_enter func131,ntmps131;go_wp2_with fail;go_loopw [8] (fun i wr=>∃ k:Nat,i=.int .i64 k∧k≤hs.length∧Hid (zB w wr∧∀ j (hj:j<hs.length),j<k→(z8g hs[j].1 p).isSome=false)) (fun i _=>hs.length - (intOf i).toNat)
 case atStart=>exact⟨0,rfl,Nat.zero_le _,hd_ ⟨Below.refl _ _,fun j _ h=>by omega⟩⟩
 case round =>
  obtain⟨k,rfl,hk,HI⟩:=hrel;by_cases hlt:k<hs.length
  ·have HHX:=hd_ (HH.out.below HI.out.1);obtain⟨ad,rfl,hab,s0,s1⟩:=HHX.out.at_ hlt;have HPK:=hd_ (HHX.out.2 hs[k] (List.getElem_mem hlt));have HNK:=hd_ (HNO.out k hlt);have HJ:Hid ((z8g hs[k].1 p).isSome=false→∀ j (hj:j<hs.length),j<k+1→(z8g hs[j].1 p).isSome=false):=hd_ (fun h j hj hjk=>by
    by_cases e:j=k
    ·subst e;exact h
    ·exact HI.out.2 j hj (by omega))
   generalize hs[k]=q at s0 s1 HPK HNK HJ;obtain⟨q,Aq,cq⟩:=q;change wr.cell? _=some (.slice Aq q.parts.length cq) at s0;change wr.cell? _=some (.bool q.rest) at s1;have HC:=hd_ (zd7 q Aq cq b p wr (HE.out.below HI.out.1) HPK.out ((HI.out.1.cell (block_lt_of_cell HP.out)).trans HP.out) hz);obtain⟨o,ho⟩:∃ o,(z8g q p).isSome=o:=⟨_,rfl⟩;rw[ho] at HC;have HO:=hd_ ho;have HLT:=hd_ hlt;clear hab ho;cases o with
   | true =>
    have HR:=hd_ (HNK.out HO.out);go_wp2_with fail;refine HC.out.mono ?_;rintro e w2 ⟨rfl,hb⟩;have HB:=hd_ (z0r HI.out.1 hb);clear hb s0 s1;go_wp2_with fail;go_ret;exact⟨⟨(k:Int),rfl,by rw[HR.out];exact decide_eq_true (by omega)⟩,HB.out⟩
   | false =>
    have HR:=hd_ (HJ.out HO.out);go_wp2_with fail;refine HC.out.mono ?_;rintro e w2 ⟨rfl,hb⟩;have HB:=hd_ (z0r HI.out.1 hb);clear hb s0 s1;go_wp2_with fail;go_roundw
    case rel=>exact⟨k+1,by go_num,by omega,hd_ ⟨HB.out,HR.out⟩⟩
    case measure=>simp [intOf];omega
  ·have hke:k=hs.length:=by omega
   subst hke;have HR:=hd_ (HYE.out (fun j hj=>HI.out.2 j hj hj));have HB:=hd_ HI.out.1;have hge:¬((hs.length:Int)<(hs.length:Int)):=by omega
   go_wp2_with fail;go_ret;exact⟨⟨-1,rfl,by rw[HR.out];decide⟩,HB.out⟩
theorem zda (hs:List zco)(H:Option Addr)(hc b:Nat)(p:ByteArray)(w:World)(he:Env w)(hh:zcp w (.slice H hs.length hc) hs)(hp:w.cell? ⟨b,0,none⟩=some (.string p))(hz:p.size≤1000000)(hn:hs.length≤1000):
  Calls prog 75 #[.slice H hs.length hc,.func (.func 76) #[] #[.pointer (some ⟨b,0,none⟩)]] w fun e w'=>e=.returned (.bool (zd8 hs p))∧zB w w':=by
 have HC:=hd_ (zd9 hs H hc b p w he hh hp hz hn);clear he hh hp;generalize zd8 hs p=r at HC ⊢;go_enter func75,ntmps75;go_wp2_with fail;refine HC.out.mono ?_;rintro e w2 ⟨⟨i,rfl,hi⟩,hb⟩;have HI:=hd_ hi;have HB:=hd_ hb;clear hi hb;go_wp2_with fail;go_ret;exact⟨by rw[← HI.out];rfl,HB.out⟩
def zdb (x:zcv)(p:ByteArray):Option ByteArray:=match zbh x.l.1 x.r.1 p with
 | none=>none
 | some s=>if zd8 x.hs p then none else some s
def zdc (es:List zcv)(p:ByteArray):Option ByteArray:=es.findSome? (zdb · p)
def zdd (es:List zcv)(p:ByteArray):Prop:=∀ x∈es,∀ caps,z8g x.l.1 p=some caps→zba x.r.1 caps
theorem zde {es:List zcv}{p:ByteArray}{k:Nat}(hk:k<es.length)(h0:∀ j (hj:j<es.length),j<k→zdb es[j] p=none):zdc es p=(zdb es[k] p).or (zdc (es.drop (k+1)) p):=by
 induction es generalizing k with
 | nil=>simp at hk
 | cons x es ih =>
  unfold zdc;rw[List.findSome?_cons];cases k with
  | zero =>
   simp only[List.getElem_cons_zero,Nat.zero_add,List.drop_succ_cons,List.drop_zero]
   cases zdb x p <;> rfl
  | succ k =>
   have hx:zdb x p=none:=h0 0 (by simp) (by omega)
   rw[hx];exact ih (by simpa using hk) fun j hj hjk=>h0 (j+1) (by simpa using hj) (by omega)
theorem zdf {es:List zcv}{p:ByteArray}(h0:∀ j (hj:j<es.length),zdb es[j] p=none):zdc es p=none:=by
 unfold zdc;rw[List.findSome?_eq_none_iff];intro x hx;obtain⟨k,hk,rfl⟩:=List.getElem_of_mem hx;exact h0 k hk
theorem zdg (es:List zcv)(v:Value)(p:ByteArray)(w:World)(he:Env w)(hE:zd1 w v es)(hM:zd2 es)(hF:zdd es p)(hz:p.size≤1000000):
  Calls prog 36 #[v,.string p] w (zbi w (zdc es p)):=by
 obtain⟨A,c,rfl,-⟩:=id hE.1;have hl32:=hM.len;have hA:zB w (w.alloc (.cells #[.string p] 9)):=(Below.refl _ _).alloc (Nat.le_refl _) _;have hS:=z0l w [.string p] 9;have HE:=hd_ (fun X (hX:zB w X)=>hE.below hX);have HEV:=hd_ (fun X (hX:zB w X)=>he.below hX);have HM:=hd_ hM;have HF:=hd_ hF;have HAT:=hd_ (fun k hk=>@zde es p k hk);have HNO:=hd_ (@zdf es p);generalize zdc es p=r at HAT HNO ⊢;have HA:=hd_ hA;have HS:=hd_ hS;clear hE hM hF he hA hS;go_enter func36,ntmps36;go_upto_region 1 with fail;generalize w.alloc (.cells #[.string p] 9)=W1 at HA HS ⊢;go_wp2_with fail;go_loopw [12] (fun i wr=>∃ k:Nat,i=.int .i64 k∧k≤es.length∧Hid (zB W1 wr∧∀ j (hj:j<es.length),j<k→zdb es[j] p=none)) (fun i _=>es.length - (intOf i).toNat)
 case atStart=>exact⟨0,rfl,Nat.zero_le _,hd_ ⟨Below.refl _ _,fun j _ h=>by omega⟩⟩
 case round =>
  obtain⟨k,rfl,hk,HI⟩:=hrel;by_cases hlt:k<es.length
  ·have HBW:=hd_ (z0r HA.out HI.out.1);have HEX:=hd_ (HE.out wr HBW.out);obtain⟨ad,rfl,hab,s0,s1,s2,s3,s4⟩:=HEX.out.at_ hlt;have HXI:=hd_ (HEX.out.2 es[k] (List.getElem_mem hlt));have HXO:=hd_ (HM.out.ok es[k] (List.getElem_mem hlt));have HXF:=hd_ (HF.out es[k] (List.getElem_mem hlt));have HR1:=hd_ (HAT.out k hlt HI.out.2);have HJ:Hid (zdb es[k] p=none→∀ j (hj:j<es.length),j<k+1→zdb es[j] p=none):=hd_ (fun h j hj hjk=>by
    by_cases e:j=k
    ·subst e;exact h
    ·exact HI.out.2 j hj (by omega))
   generalize es[k]=x at s0 s1 s2 s3 s4 HXI HXO HXF HR1 HJ;obtain⟨H,hc,hhv⟩:=HXI.out.holes;obtain⟨⟨pl,Al,cl⟩,⟨pr,Ar,cr⟩,hv,hs⟩:=x;change hv=.slice H hs.length hc at hhv;subst hhv;change wr.cell? _=some (.slice Al pl.parts.length cl) at s0;change wr.cell? _=some (.bool pl.rest) at s1;change wr.cell? _=some (.slice Ar pr.parts.length cr) at s2;change wr.cell? _=some (.bool pr.rest) at s3;change wr.cell? _=some (.slice H hs.length hc) at s4;have hX:zB wr (wr.alloc (.cells #[.slice Al pl.parts.length cl,.bool pl.rest,.slice Ar pr.parts.length cr,.bool pr.rest,.slice H hs.length hc] 71)):=(Below.refl _ _).alloc (Nat.le_refl _) _;have HXP:=hd_ (HXI.out.below hX);have HX:=hd_ (z0r HI.out.1 hX);have HN:Hid (Blk (wr.alloc (.cells #[.slice Al pl.parts.length cl,.bool pl.rest,.slice Ar pr.parts.length cr,.bool pr.rest,.slice H hs.length hc] 71)) wr.heap.size 71 [.slice Al pl.parts.length cl,.bool pl.rest,.slice Ar pr.parts.length cr,.bool pr.rest,.slice H hs.length hc]):=hd_ (z0l wr _ _);have HLT:=hd_ hlt;clear hab hX;go_upto_region 4 with fail;generalize wr.alloc (.cells #[.slice Al pl.parts.length cl,.bool pl.rest,.slice Ar pr.parts.length cr,.bool pr.rest,.slice H hs.length hc] 71)=W4 at HX HN HXP ⊢;generalize wr.heap.size=g7 at HN ⊢;clear s0 s1 s2 s3 s4;obtain⟨x0,x1,x2,x3,x4⟩:=(⟨HN.out.cell 0,HN.out.cell 1,HN.out.cell 2,HN.out.cell 3,HN.out.cell 4⟩:W4.cell? ⟨g7,0,none⟩=some (.slice Al pl.parts.length cl)∧W4.cell? ⟨g7,1,none⟩=some (.bool pl.rest)∧W4.cell? ⟨g7,2,none⟩=some (.slice Ar pr.parts.length cr)∧W4.cell? ⟨g7,3,none⟩=some (.bool pr.rest)∧W4.cell? ⟨g7,4,none⟩=some (.slice H hs.length hc));have p0:W4.cell? ⟨w.heap.size,0,none⟩=some (.string p):=(HS.out.below HX.out HS.out.lt).cell 0;have HRF:=hd_ (zbk false pl pr p Al Ar cl cr W4 (HEV.out W4 (z0r HA.out HX.out)) hz HXP.out.l HXP.out.r HXO.out.rule HXF.out);have HONE:Hid (zdb ⟨(pl,Al,cl),(pr,Ar,cr),.slice H hs.length hc,hs⟩ p=match zbh pl pr p with | none=>none | some s=>if zd8 hs p then none else some s):=hd_ rfl
   obtain⟨o,ho⟩:∃ o,zbh pl pr p=o:=⟨_,rfl⟩;rw[ho] at HRF HONE;clear ho;cases o with
   | none =>
    have HNX:=hd_ (HJ.out HONE.out);go_wp2_with fail;refine HRF.out.mono ?_;rintro e w5 ⟨rfl,hb⟩;have HB:=hd_ (z0r HX.out hb);clear hb x0 x1 x2 x3 x4 p0;go_wp2_with fail;go_roundw
    case rel=>exact⟨k+1,by go_num,by omega,hd_ ⟨HB.out,HNX.out⟩⟩
    case measure=>simp [intOf];omega
   | some s =>
    have HCH:=hd_ (fun X (hX:zB W4 X)=>zda hs H hc w.heap.size p X (HEV.out X (z0r HA.out (z0r HX.out hX))) (HXP.out.h.below hX) ((HS.out.below (z0r HX.out hX) HS.out.lt).cell 0) hz HXP.out.n);go_wp2_with fail;refine HRF.out.mono ?_;rintro e w5 ⟨rfl,hb⟩;have HB:=hd_ (z0r HX.out hb);have HC5:=hd_ (HCH.out w5 hb);have x4':w5.cell? ⟨g7,4,none⟩=some (.slice H hs.length hc):=(HN.out.below hb HN.out.lt).cell 4;clear hb x0 x1 x2 x3 x4 p0 HCH;obtain⟨hb9,hh9⟩:∃ b,zd8 hs p=b:=⟨_,rfl⟩;rw[hh9] at HC5 HONE;clear hh9;cases hb9 with
    | true =>
     have HNX:=hd_ (HJ.out HONE.out);go_wp2_with fail;refine HC5.out.mono ?_;rintro e w6 ⟨rfl,hb⟩;have HB6:=hd_ (z0r HB.out hb);clear hb x4';go_wp2_with fail;go_roundw
     case rel=>exact⟨k+1,by go_num,by omega,hd_ ⟨HB6.out,HNX.out⟩⟩
     case measure=>simp [intOf];omega
    | false =>
     have HRR:Hid (r=some s):=hd_ (by rw[HR1.out,HONE.out];rfl)
     go_wp2_with fail;refine HC5.out.mono ?_;rintro e w6 ⟨rfl,hb⟩;have HB6:=hd_ (z0r HB.out hb);clear hb x4';go_wp2_with fail;go_ret2;exact⟨by rw[HRR.out];rfl,z0r HA.out HB6.out⟩
  ·have hke:k=es.length:=by omega
   subst hke;have HR:=hd_ (HNO.out (fun j hj=>HI.out.2 j hj hj));have HB:=hd_ (z0r HA.out HI.out.1);have hge:¬((es.length:Int)<(es.length:Int)):=by omega
   go_wp2_with fail;go_ret2;exact⟨by rw[HR.out];rfl,HB.out⟩
structure zfd (es:List zcv):Prop where
 map:zd2 es
 fits:∀ p∈zf0,zdd es p
 small:∀ p∈zf0,∀ s,zdc es p=some s→s.size≤200
theorem zfe:∀ x∈zf0,z2x x=true∧x.size≤1000000:=by decide +kernel
theorem zff {D:List Rev}{f:ByteArray→Option ByteArray}{m:Int}{p:ByteArray}(h:z36 D p (fun v:Rev=>decide (v.chg≤m))=none):zf4 D f m p=none:=by unfold zf4;rw[h]
theorem zfg {D:List Rev}{f:ByteArray→Option ByteArray}{m:Int}{p:ByteArray}{r:Rev}(h:z36 D p (fun v:Rev=>decide (v.chg≤m))=some r)(hl:z30 r.act=false):zf4 D f m p=none:=by unfold zf4;rw[h];simp only;rw[if_neg (by rw[hl];decide)]
theorem zfh {D:List Rev}{f:ByteArray→Option ByteArray}{m:Int}{p:ByteArray}{r:Rev}(h:z36 D p (fun v:Rev=>decide (v.chg≤m))=some r)(hf:f p=none):zf4 D f m p=none:=by unfold zf4;rw[h];simp only;rw[hf];split <;> rfl
theorem zfi {D:List Rev}{f:ByteArray→Option ByteArray}{m:Int}{p s:ByteArray}{r:Rev}(h:z36 D p (fun v:Rev=>decide (v.chg≤m))=some r)(hl:z30 r.act=true)(hf:f p=some s):zf4 D f m p=some ⟨p,r.num,s⟩:=by unfold zf4;rw[h];simp only;rw[if_pos hl,hf];rfl
theorem fm_take {α β:Type}(f:α→Option β)(l:List α)(k:Nat)(hk:k<l.length):(l.take (k+1)).filterMap f=(l.take k).filterMap f++(f l[k]).toList:=by
 rw[List.take_succ_eq_append_getElem hk,List.filterMap_append];cases h:f l[k] with
 | none=>simp [h]
 | some b=>simp [h]
theorem zfj {D:List Rev}{f:ByteArray→Option ByteArray}{m:Int}{l:List ByteArray}(hs:z63 (fun q:ByteArray=>q) l)(hm:∀ q,q∈l↔∃ r∈D,r.path=q)(h6:∀ r∈D,r.path∈zf0):l.filterMap (zf4 D f m)=zf5 D f m:=by
 have hno:∀ p,p∉l→zf4 D f m p=none:=fun p hp=>zff (by
  cases hg:z36 D p (fun v:Rev=>decide (v.chg≤m)) with
  | none=>rfl
  | some r =>
   obtain⟨h1,h2,-⟩:=zf6 hg;exact absurd ((hm p).2 ⟨r,h1,h2⟩) hp)
 have he:l=zf0.filter (fun p=>decide (p∈l)):=z6c hs (z6h zf1 _) fun a=>by
  rw[List.mem_filter,decide_eq_true_eq];refine⟨fun h=>⟨?_,h⟩,fun h=>h.2⟩;obtain⟨r,hr,rfl⟩:=(hm a).1 h;exact h6 r hr
 unfold zf5;suffices h:∀(L:List ByteArray),(L.filter (fun p=>decide (p∈l))).filterMap (zf4 D f m)=L.filterMap (zf4 D f m) by
  rw[← h zf0,← he]
 intro L;induction L with
 | nil=>rfl
 | cons a L ih =>
  by_cases ha:a∈l
  ·rw[List.filter_cons_of_pos (by simpa using ha),List.filterMap_cons,List.filterMap_cons,ih]
  ·rw[List.filter_cons_of_neg (by simpa using ha),List.filterMap_cons,hno a ha,ih]
def WnPost (w:World)(l:List Hav)(e:Ending)(w':World):Prop:=∃ v,e=.returned (.tuple #[v,.int .i64 0])∧z4h w' v l∧zB w w'
theorem zfk (D:List Rev)(es:List zcv)(m:Int)(dv dr mv:Value)(w:World)(he:Env w)(hR:z4c w dv D)(hE:zd1 w mv es)(hl:D.length≤1000000)(h6:∀ r∈D,r.path∈zf0)(hS:zfd es)(h1e:OneE es):
  Calls prog 8 #[.agg #[dv,dr],mv,.int .i64 m] w (WnPost w (zf5 D (zdc es) m)):=by
 obtain⟨Ar,cr,rfl,-⟩:=id hR;have hBox:=z0l w [.slice Ar D.length cr,dr] 27;have hA:zB w (w.alloc (.cells #[.slice Ar D.length cr,dr] 27)):=(Below.refl _ _).alloc (Nat.le_refl _) _;have HCK:=hd_ (fun X (hX:zB w X)=>zd6 es mv X (hE.below hX) hS.map h1e);have HPA:=hd_ (fun X (hX:zB w X)=>zat D zf0 (.slice Ar D.length cr) dr X (hR.below hX) hl h6 (by decide) zfe)
 have HAT:=hd_ (fun X (hX:zB w X) p=>at_any D p m (.slice Ar D.length cr) dr X (hR.below hX) hl);have HFW:=hd_ (fun X (hX:zB w X) p (hp:p∈zf0)=>zdg es mv p X (he.below hX) (hE.below hX) hS.map (hS.fits p hp) (zfe p hp).2);have HSM:=hd_ hS.small;have H6:=hd_ h6;have HA:=hd_ hA;have HBX:=hd_ hBox;have HW:Hid (∀ l,z63 (fun q:ByteArray=>q) l→(∀ q,q∈l↔∃ r∈D,r.path=q)→l.filterMap (zf4 D (zdc es) m)=zf5 D (zdc es) m):=hd_ (fun l h1 h2=>zfj h1 h2 h6);generalize zf5 D (zdc es) m=WL at HW ⊢;clear he hR hE hS h6 hA hBox;go_enter func8,ntmps8;go_upto_region 1 with fail;generalize w.alloc (.cells #[.slice Ar D.length cr,dr] 27)=W1 at HA HBX ⊢;have HC1:=hd_ (HCK.out W1 HA.out);go_wp2_with fail;refine HC1.out.mono ?_;rintro e w2 ⟨rfl,hb⟩;have HB2:=hd_ (z0r HA.out hb);have HBX2:=hd_ (HBX.out.below hb HBX.out.lt);have d0:w2.cell? ⟨w.heap.size,0,none⟩=some (.slice Ar D.length cr):=HBX2.out.cell 0;have d1:w2.cell? ⟨w.heap.size,1,none⟩=some dr:=HBX2.out.cell 1;have HC2:=hd_ (HPA.out w2 HB2.out);clear hb HCK HPA HC1;go_wp2_with fail;refine HC2.out.mono ?_;rintro e w3 ⟨v3,l,rfl,hb,hS3,hst,hmem⟩;obtain⟨A3,c3,rfl,hcc3,hmm3,-⟩:=id hS3;have HB3:=hd_ (z0r HB2.out hb);have HBX3:=hd_ (HBX2.out.below hb HBX2.out.lt);have HL3:=hd_ hS3;have HWL:=hd_ (HW.out l hst hmem);have HMEM:Hid (∀ k (hk:k<l.length),l[k]∈zf0):=hd_ (fun k hk=>by
  obtain⟨r,hr,e⟩:=(hmem l[k]).1 (List.getElem_mem hk);rw[← e];exact H6.out r hr)
 have hlen6:l.length≤6:=by
  have hn:l.Nodup:=hst.imp fun {a b} h=>z65 h;exact zao (B:=zf0) hn fun x hx=>by
   obtain⟨r,hr,e⟩:=(hmem x).1 hx;rw[← e];exact H6.out r hr
 unfold maxLen at hmm3;clear hb hS3 hst hmem d0 d1 HC2 HW;go_wp2_with fail;go_loopw [10,27] (fun lv i wr=>∃(k n:Nat) (A:Option Addr) (c:Nat),lv=.slice A n c∧i=.int .i64 k∧k≤l.length∧n≤k∧Hid (n=((l.take k).filterMap (zf4 D (zdc es) m)).length∧zB w3 wr∧wr.ownsRow w3.heap.size 96 3 (.slice A n c) n (((l.take k).filterMap (zf4 D (zdc es) m)).flatMap Hav.cells))) (fun _ i _=>l.length - (intOf i).toNat)
 case atStart=>exact⟨0,0,none,0,rfl,rfl,Nat.zero_le _,Nat.le_refl _,hd_ ⟨rfl,Below.refl _ _,World.ownsRow_nil _ _ _ _⟩⟩
 case round =>
  obtain⟨k,n,A,c,rfl,rfl,hk,hnk,HI⟩:=hrel;by_cases hlt:k<l.length
  ·have HBW:=hd_ (z0r HB3.out HI.out.2.1);obtain⟨ad,rfl,hab,s0⟩:=Strs.at_ (HL3.out.below HI.out.2.1) hlt;have HT:=hd_ (fm_take (zf4 D (zdc es) m) l k hlt);have HP6:=hd_ (HMEM.out k hlt);generalize l[k]=p at s0 HT HP6;have HA1:=hd_ (HAT.out wr HBW.out p);have HWN:=hd_ (@zff D (zdc es) m p);have HWG:=hd_ (fun r=>@zfg D (zdc es) m p r);have HWO:=hd_ (fun r=>@zfh D (zdc es) m p r);have HWY:=hd_ (fun r s=>@zfi D (zdc es) m p s r);have HFP:=hd_ (fun X hX=>HFW.out X hX p HP6.out);have HSP:=hd_ (HSM.out p HP6.out);have HBD:=hd_ (HBX3.out.below HI.out.2.1 HBX3.out.lt);have d0:wr.cell? ⟨w.heap.size,0,none⟩=some (.slice Ar D.length cr):=HBD.out.cell 0;have d1:wr.cell? ⟨w.heap.size,1,none⟩=some dr:=HBD.out.cell 1;have HLT:=hd_ hlt;clear hab;obtain⟨o,ho⟩:∃ o,z36 D p (fun v:Rev=>decide (v.chg≤m))=o:=⟨_,rfl⟩;rw[ho] at HA1 HWN HWG HWO HWY;generalize zf4 D (zdc es) m p=wo at HT HWN HWG HWO HWY;clear ho;cases o with
   | none =>
    have HW0:=hd_ (HWN.out rfl);generalize hz:zdv none=r at HA1;clear hz;go_wp2_with fail;refine HA1.out.mono ?_;rintro e w5 ⟨rfl,hb⟩;have HB5:=hd_ (z0r HI.out.2.1 (hb.alloc hb.size (.cells #[.string r.path,.int .i64 r.num,.int .i64 r.chg,.int .i64 r.act,.int .i64 r.ty.base,.bool r.ty.k,.bool r.ty.l,.bool r.ty.x,.int .u64 r.sum,.int .i64 r.size,.string r.frm,.int .i64 r.fnum] 90)));have HO5:=hd_ (z0n HI.out.2.2 (hb.alloc hb.size (.cells #[.string r.path,.int .i64 r.num,.int .i64 r.chg,.int .i64 r.act,.int .i64 r.ty.base,.bool r.ty.k,.bool r.ty.l,.bool r.ty.x,.int .u64 r.sum,.int .i64 r.size,.string r.frm,.int .i64 r.fnum] 90)));clear hb s0 d0 d1;go_wp2_with fail;go_roundw
    case rel=>exact⟨k+1,n,A,c,rfl,by go_num,by omega,by omega,hd_ (by rw[HT.out,HW0.out];simp only[Option.toList,List.append_nil];exact⟨HI.out.1,HB5.out,HO5.out⟩)⟩
    case measure=>simp [intOf];omega
   | some r =>
    change Hid (Calls _ _ _ _ fun e w'=>e=.returned (.tuple #[.agg #[.string r.path,.int .i64 r.num,.int .i64 r.chg,.int .i64 r.act,.int .i64 r.ty.base,.bool r.ty.k,.bool r.ty.l,.bool r.ty.x,.int .u64 r.sum,.int .i64 r.size,.string r.frm,.int .i64 r.fnum],.bool true])∧_) at HA1;have hX:=fun(X:World)=>z0l X [.string r.path,.int .i64 r.num,.int .i64 r.chg,.int .i64 r.act,.int .i64 r.ty.base,.bool r.ty.k,.bool r.ty.l,.bool r.ty.x,.int .u64 r.sum,.int .i64 r.size,.string r.frm,.int .i64 r.fnum] 90;by_cases h3:r.act=3∨r.act=5
    ·have HW0:=hd_ (HWG.out r rfl (by unfold z30;rcases h3 with h | h <;> rw[h] <;> rfl))
     have HSPLIT:Hid (((r.act == 3)=true)∨((r.act == 3)=false∧(r.act == 5)=true)):=hd_ (by
      rcases h3 with h | h
      ·exact .inl (by rw[h];rfl)
      ·exact .inr ⟨by rw[h];rfl,by rw[h];rfl⟩)
     clear h3;go_wp2_with fail;refine HA1.out.mono ?_;rintro e w5 ⟨rfl,hb⟩;have hb5:=hb.alloc hb.size (.cells #[.string r.path,.int .i64 r.num,.int .i64 r.chg,.int .i64 r.act,.int .i64 r.ty.base,.bool r.ty.k,.bool r.ty.l,.bool r.ty.x,.int .u64 r.sum,.int .i64 r.size,.string r.frm,.int .i64 r.fnum] 90);have HB5:=hd_ (z0r HI.out.2.1 hb5);have HO5:=hd_ (z0n HI.out.2.2 hb5);have e3:(w5.alloc (.cells #[.string r.path,.int .i64 r.num,.int .i64 r.chg,.int .i64 r.act,.int .i64 r.ty.base,.bool r.ty.k,.bool r.ty.l,.bool r.ty.x,.int .u64 r.sum,.int .i64 r.size,.string r.frm,.int .i64 r.fnum] 90)).cell? ⟨w5.heap.size,3,none⟩=some (.int .i64 r.act):=(hX w5).cell 3;clear hb hb5 s0 d0 d1 hX;go_upto_region 9 with fail;generalize w5.alloc (.cells #[.string r.path,.int .i64 r.num,.int .i64 r.chg,.int .i64 r.act,.int .i64 r.ty.base,.bool r.ty.k,.bool r.ty.l,.bool r.ty.x,.int .u64 r.sum,.int .i64 r.size,.string r.frm,.int .i64 r.fnum] 90)=W5 at HB5 HO5 e3 ⊢;rcases HSPLIT.out with q | ⟨q,q'⟩
     all_goals
      go_wp2_with fail;go_roundw
      case rel=>exact⟨k+1,n,A,c,rfl,by go_num,by omega,by omega,hd_ (by rw[HT.out,HW0.out];simp only[Option.toList,List.append_nil];exact⟨HI.out.1,HB5.out,HO5.out⟩)⟩
      case measure=>simp [intOf];omega
    ·have q3:(r.act == 3)=false:=by rw[beq_eq_false_iff_ne];exact fun h=>h3 (.inl h)
     have q5:(r.act == 5)=false:=by rw[beq_eq_false_iff_ne];exact fun h=>h3 (.inr h)
     have HLV:Hid (z30 r.act=true):=hd_ (by unfold z30;rw[bne,bne,q3,q5];rfl)
     clear h3;go_wp2_with fail;refine HA1.out.mono ?_;rintro e w5 ⟨rfl,hb⟩;have hb5:=hb.alloc hb.size (.cells #[.string r.path,.int .i64 r.num,.int .i64 r.chg,.int .i64 r.act,.int .i64 r.ty.base,.bool r.ty.k,.bool r.ty.l,.bool r.ty.x,.int .u64 r.sum,.int .i64 r.size,.string r.frm,.int .i64 r.fnum] 90);have HB5:=hd_ (z0r HI.out.2.1 hb5);have HO5:=hd_ (z0n HI.out.2.2 hb5);have HX5:=hd_ (hX w5);have e3:(w5.alloc (.cells #[.string r.path,.int .i64 r.num,.int .i64 r.chg,.int .i64 r.act,.int .i64 r.ty.base,.bool r.ty.k,.bool r.ty.l,.bool r.ty.x,.int .u64 r.sum,.int .i64 r.size,.string r.frm,.int .i64 r.fnum] 90)).cell? ⟨w5.heap.size,3,none⟩=some (.int .i64 r.act):=(hX w5).cell 3;clear hb hb5 s0 d0 d1 hX;go_upto_region 9 with fail;generalize w5.alloc (.cells #[.string r.path,.int .i64 r.num,.int .i64 r.chg,.int .i64 r.act,.int .i64 r.ty.base,.bool r.ty.k,.bool r.ty.l,.bool r.ty.x,.int .u64 r.sum,.int .i64 r.size,.string r.frm,.int .i64 r.fnum] 90)=W5 at HB5 HO5 HX5 e3 ⊢;generalize w5.heap.size=g13 at HX5 e3 ⊢;have HF5:=hd_ (HFP.out W5 (z0r HB3.out HB5.out));obtain⟨fo,hfo⟩:∃ fo,zdc es p=fo:=⟨_,rfl⟩;rw[hfo] at HF5;have HFO:=hd_ hfo;clear hfo;cases fo with
     | none =>
      have HW0:=hd_ (HWO.out r rfl HFO.out);go_wp2_with fail;refine HF5.out.mono ?_;rintro e w6 ⟨rfl,hb⟩;have HB6:=hd_ (z0r HB5.out hb);have HO6:=hd_ (z0n HO5.out hb);clear hb e3;go_wp2_with fail;go_roundw
      case rel=>exact⟨k+1,n,A,c,rfl,by go_num,by omega,by omega,hd_ (by rw[HT.out,HW0.out];simp only[Option.toList,List.append_nil];exact⟨HI.out.1,HB6.out,HO6.out⟩)⟩
      case measure=>simp [intOf];omega
     | some s =>
      have HW0:=hd_ (HWY.out r s rfl HLV.out HFO.out);have hsz:=HSP.out s HFO.out;have q200:decide ((200:Int)<(s.size:Int))=false:=by simp;omega
      have q200':decide (200<s.size)=false:=by simp;omega
      go_wp2_with fail;refine HF5.out.mono ?_;rintro e w6 ⟨rfl,hb⟩;have HB6:=hd_ (z0r HB5.out hb);have HO6:=hd_ (z0n HO5.out hb);have e1:w6.cell? ⟨g13,1,none⟩=some (.int .i64 r.num):=(HX5.out.below hb HX5.out.lt).cell 1;clear hb e3;have hba:zB w6 (w6.alloc (.cells #[.string p,.int .i64 r.num,.string s] 96)):=(Below.refl _ _).alloc (Nat.le_refl _) _;have HO7:=hd_ (z0n HO6.out hba);have HB7:=hd_ (z0r HB6.out hba);have hrow:=z0i w6 [.string p,.int .i64 r.num,.string s] 96 3 1 rfl (by decide) _ rfl
      clear hba;go_wp2_with (at_builtin;refine z0k rfl rfl z5a HO7.out rfl hrow rfl HB7.out HB7.out.size (z5b ⟨p,r.num,s⟩) (by omega) (by unfold maxLen;omega) ?_;intro A' c' w8 hown8 hbl8)
      have HN:Hid (n+1=((l.take (k+1)).filterMap (zf4 D (zdc es) m)).length∧zB w3 w8∧w8.ownsRow w3.heap.size 96 3 (.slice A' (n+1) c') (n+1) (((l.take (k+1)).filterMap (zf4 D (zdc es) m)).flatMap Hav.cells)):=hd_ (by
       rw[HT.out,HW0.out];refine⟨by rw[List.length_append,← HI.out.1];rfl,hbl8,?_⟩
       rw[List.flatMap_append];exact hown8)
      clear hown8 hbl8;go_wp2_with fail;go_roundw
      case rel=>exact⟨k+1,n+1,A',c',rfl,by go_num,by omega,by omega,HN⟩
      case measure=>simp [intOf];omega
  ·have hke:k=l.length:=by omega
   subst hke;rw[List.take_length,HWL.out] at HI;have hge:¬((l.length:Int)<(l.length:Int)):=by omega
   go_wp2_with fail;go_ret2;refine⟨_,rfl,?_,z0r HB3.out HI.out.2.1⟩;have h:=Row.of_own HI.out.2.2;rw[HI.out.1] at h ⊢;exact h
structure zfl where
 l:Pat
 r:Pat
 hs:List Pat
def zcv.pl (x:zcv):zfl:=⟨x.l.1,x.r.1,x.hs.map (·.1)⟩
def zfm (c:UInt8):ByteArray:=⟨#[c]⟩
def zfn:ByteArray:=⟨#[42]⟩
def zfo:Nat→List zfl
 | 0=>[⟨⟨[zfm 100],true⟩,⟨[zfm 99],true⟩,[]⟩]
 | 1=>[⟨⟨[zfm 100],true⟩,⟨[zfm 99],true⟩,[⟨[zfm 100,zfm 120],true⟩]⟩]
 | 2=>[⟨⟨[zfm 100,zfm 120],true⟩,⟨[zfm 99],true⟩,[]⟩,⟨⟨[zfm 101],true⟩,⟨[zfm 119],true⟩,[]⟩]
 | 3=>[⟨⟨[zfm 100,zfm 97],false⟩,⟨[zfm 99,zfm 98],false⟩,[]⟩,⟨⟨[zfm 100,zfm 98],false⟩,⟨[zfm 99,zfm 97],false⟩,[]⟩,⟨⟨[zfm 100,zfm 120],true⟩,⟨[zfm 99,zfm 120],true⟩,[]⟩]
 | 4=>[⟨⟨[zfm 100,zfm 97],false⟩,⟨[zfm 99,zfm 97],false⟩,[]⟩,⟨⟨[zfm 100,zfm 98],false⟩,⟨[zfm 99,zfm 98],false⟩,[]⟩,⟨⟨[zfm 101,zfm 97],false⟩,⟨[zfm 99,zfm 101],false⟩,[]⟩]
 | 5=>[⟨⟨[zfm 101],true⟩,⟨[zfm 99],true⟩,[]⟩,⟨⟨[zfm 100,zfn,zfm 97],false⟩,⟨[zfm 119,zfn,zfm 122],false⟩,[]⟩]
 | 6=>[⟨⟨[zfm 100],true⟩,⟨[zfm 99],true⟩,[]⟩,⟨⟨[zfm 101],true⟩,⟨[zfm 119],true⟩,[]⟩]
 | _=>[]
def regP (b:Pat)(hs:List Pat):Int:=if z7g b≠0 then 50 else if (hs.all fun q=>decide (z7g q=0))=false then 51 else if 64<hs.length then 52 else 0
theorem regE_pl (b:Pat)(hs:List zco):zcq b hs=regP b (hs.map (·.1)):=by
 unfold zcq regP;rw[List.length_map,List.all_map];rfl
def zfp (p:Pat):Bool:=p.rest && decide (z7g p=0) && p.parts.all fun x=>!z7b x
theorem zfq {p:Pat}(h:zfp p=true):zcg p:=by
 unfold zfp at h;simp only[Bool.and_eq_true,List.all_eq_true,Bool.not_eq_true',decide_eq_true_eq] at h
 exact⟨h.1.1,h.1.2,h.2⟩
def wiB (p q:Pat):Bool:=decide (q.parts.length≤p.parts.length) && (List.range q.parts.length).all fun k=>z9u ((p.parts[k]?).getD z2q) ((q.parts[k]?).getD z2q)
theorem wiB_ok {p q:Pat}(h:wiB p q=true):WiOk p q:=by
 unfold wiB at h;simp only[Bool.and_eq_true,List.all_eq_true,decide_eq_true_eq,List.mem_range] at h
 refine⟨h.1,fun k hk=>?_⟩;have:=h.2 k hk;rw[List.getElem?_eq_getElem hk,List.getElem?_eq_getElem (Nat.lt_of_lt_of_le hk h.1)] at this;exact this
def narB (l r h:Pat):Bool:=match za2 l h with
 | none=>false
 | some m=>zfp l && zfp r && decide (z9i l r=0) && decide (z7g h=0) && m.rest && decide (z7g m=0) && wiB m l && decide (r.parts.length+(m.parts.length - l.parts.length)≤12)
theorem narB_ok {l r h:Pat}(e:narB l r h=true):∃ m,zck l r h m:=by
 unfold narB at e;cases hm:za2 l h with
 | none=>rw[hm] at e;cases e
 | some m =>
  rw[hm] at e;simp only[Bool.and_eq_true,decide_eq_true_eq] at e
  obtain⟨⟨⟨⟨⟨⟨⟨e1,e2⟩,e3⟩,e4⟩,e5⟩,e6⟩,e7⟩,e8⟩:=e;exact⟨m,zfq e1,zfq e2,e3,e4,hm,e5,e6,wiB_ok e7,e8⟩
def fillB (p:Pat)(caps:List ByteArray):Bool:=
 decide (z7g p=0) && decide (caps.length=z9c p+(if p.rest then 1 else 0)) && (caps.take (z9c p)).all z12 && (!p.rest || (caps.drop (z9c p)).all fun c=>(z1f c.data.toList).all z0z) &&
  (caps.all fun c=>decide (c.size≤1000000)) && decide ((Lib.join ((zb8 p caps).map (·.data.toList)) [47]).length≤1000000) && decide (0<(zb8 p caps).length)
theorem zfr {p:Pat}{caps:List ByteArray}(h:fillB p caps=true):zba p caps:=by
 unfold fillB at h;simp only[Bool.and_eq_true,Bool.or_eq_true,Bool.not_eq_true',List.all_eq_true,decide_eq_true_eq] at h
 obtain⟨⟨⟨⟨⟨⟨h1,h2⟩,h3⟩,h4⟩,h5⟩,h6⟩,h7⟩:=h;refine⟨h1,h2,h3,fun hr c hc=>?_,h5,h6,h7⟩;rcases h4 with h4 | h4
 ·rw[h4] at hr;cases hr
 ·exact List.all_eq_true.2 (h4 c hc)
def entB (x:zfl):Bool:=decide (z9i x.l x.r=0) && decide (regP x.l x.hs=0) && x.hs.all (narB x.l x.r)
def mapB (es:List zfl):Bool:=decide (es.length≤32) && es.all entB && (List.range es.length).all fun i=>(List.range i).all fun j=>match es[i]?,es[j]? with
 | some x,some y=>(za2 x.l y.l).isNone && (za2 x.r y.r).isNone
 | _,_=>false
theorem mapB_ok {es:List zcv}(h:mapB (es.map zcv.pl)=true):zd2 es:=by
 unfold mapB at h;simp only[Bool.and_eq_true,List.all_eq_true,decide_eq_true_eq,List.mem_range,List.length_map,List.mem_map,forall_exists_index,and_imp,forall_apply_eq_imp_iff₂] at h
 obtain⟨⟨h1,h2⟩,h3⟩:=h;refine⟨h1,fun x hx=>?_,fun i j hi hj=>?_⟩
 ·have:=h2 x hx;unfold entB at this;simp only[Bool.and_eq_true,List.all_eq_true,decide_eq_true_eq] at this
  refine⟨this.1.1,by rw[regE_pl];exact this.1.2,fun q hq=>?_⟩
  exact narB_ok (this.2 q.1 (List.mem_map.2 ⟨q,hq,rfl⟩))
 ·have:=h3 i hi j hj;rw[List.getElem?_map,List.getElem?_map,List.getElem?_eq_getElem hi,List.getElem?_eq_getElem (Nat.lt_trans hj hi)] at this;simp only[Option.map_some,Bool.and_eq_true,Option.isNone_iff_eq_none] at this
  exact this
def zfs (x:zfl)(p:ByteArray):Option ByteArray:=match zbh x.l x.r p with
 | none=>none
 | some s=>if x.hs.any (fun q=>(z8g q p).isSome) then none else some s
def fwdP (es:List zfl)(p:ByteArray):Option ByteArray:=es.findSome? (zfs · p)
theorem fwdM_pl (es:List zcv)(p:ByteArray):zdc es p=fwdP (es.map zcv.pl) p:=by
 unfold zdc fwdP;induction es with
 | nil=>rfl
 | cons x es ih =>
  rw[List.map_cons,List.findSome?_cons,List.findSome?_cons,ih];have:zdb x p=zfs x.pl p:=by
   unfold zdb zfs zd8;show (match zbh x.l.1 x.r.1 p with | none=>none | some s=>_)=(match zbh x.l.1 x.r.1 p with | none=>none | some s=>if (x.hs.map (·.1)).any _=true then none else some s)
   rw[List.any_map];rfl
  rw[this]
theorem maps_B:∀ k<8,mapB (zfo k)=true:=by decide +kernel
theorem zft:∀ k<8,∀ p∈zf0,fwdP (zfo k) p=zfb k p:=by decide +kernel
theorem zfu:∀ k<8,∀ p∈zf0,∀ x∈zfo k,((z8g x.l p).map (fillB x.r)).getD true=true:=by decide +kernel
theorem zfv:∀ k<8,∀ p∈zf0,((zfb k p).map fun s=>decide (s.size≤200)).getD true=true:=by decide +kernel
theorem zfw {es:List zcv}{k:Nat}(hk:k<8)(h:es.map zcv.pl=zfo k):zfd es∧∀ p∈zf0,zdc es p=zfb k p:=by
 have hf:∀ p∈zf0,zdc es p=zfb k p:=fun p hp=>by rw[fwdM_pl,h];exact zft k hk p hp
 refine⟨⟨mapB_ok (by rw[h];exact maps_B k hk),fun p hp x hx caps hc=>?_,fun p hp s hs=>?_⟩,hf⟩
 ·have:=zfu k hk p hp x.pl (by rw[← h];exact List.mem_map.2 ⟨x,hx,rfl⟩)
  have e:z8g x.pl.l p=some caps:=hc;rw[e] at this;exact zfr this
 ·rw[hf p hp] at hs;have:=zfv k hk p hp;rw[hs] at this;simpa using this
theorem zfx {D:List Rev}{f g:ByteArray→Option ByteArray}{m:Int}(h:∀ p∈zf0,f p=g p):zf5 D f m=zf5 D g m:=by
 unfold zf5;refine z6w fun p hp=>?_;unfold zf4;rw[h p hp]
theorem zoa (x:Int):∃ r:Nat,r<18446744073709551616∧IntKind.u64.wrap x=r:=
 ⟨(x % 18446744073709551616).toNat,by omega,by simp [IntKind.wrap,IntKind.bits,IntKind.signed];omega⟩
theorem zob (a b:Int):∃ r:Nat,r<18446744073709551616∧∀ w,Calls prog 238 #[.int .u64 a,.int .u64 b] w fun e w'=>e=.returned (.int .u64 r)∧w'=w:=by
 obtain⟨s,hs,q0⟩:=zoa (a+b);by_cases h:(2305843009213693951:Int)≤s
 ·have q1:decide ((2305843009213693951:Int)≤s)=true:=by simpa using h
  obtain⟨x,hx,q2⟩:=zoa ((s:Int) - 2305843009213693951);clear h;by_cases h:(2305843009213693951:Int)≤x
  ·have q3:decide ((2305843009213693951:Int)≤x)=true:=by simpa using h
   obtain⟨y,hy,q4⟩:=zoa ((x:Int) - 2305843009213693951);clear h;refine⟨y,hy,fun w=>?_⟩;go_enter func238,ntmps238;go_wp2_with fail;go_ret;exact⟨rfl,rfl⟩
  ·have q3:decide ((2305843009213693951:Int)≤x)=false:=by simpa using h
   clear h;refine⟨x,hx,fun w=>?_⟩;go_enter func238,ntmps238;go_wp2_with fail;go_ret;exact⟨rfl,rfl⟩
 ·have q1:decide ((2305843009213693951:Int)≤s)=false:=by simpa using h
  clear h;refine⟨s,hs,fun w=>?_⟩;go_enter func238,ntmps238;go_wp2_with fail;go_ret;exact⟨rfl,rfl⟩
theorem rMul_ex (a b:Nat)(ha:a<18446744073709551616)(hb:b<18446744073709551616):∃ r:Nat,r<18446744073709551616∧∀ w,Calls prog 239 #[.int .u64 a,.int .u64 b] w fun e w'=>e=.returned (.int .u64 r)∧w'=w:=by
 have HM:=hd_ (fun w=>Tryz.bits_Mul64 a b ha hb w);generalize a * b / 18446744073709551616=hi at HM;generalize a * b % 18446744073709551616=lo at HM;obtain⟨r,hr,hP⟩:=zob (bits .and .u64 lo 2305843009213693951) (bits .or .u64 (IntKind.u64.wrap (hi * 8)) (lo / 2305843009213693952));have HP:=hd_ hP;clear hP;refine⟨r,hr,fun w=>?_⟩;go_enter func239,ntmps239;go_wp2_with fail;refine (HM.out _).mono ?_;rintro e w' ⟨rfl,rfl⟩;dsimp only;go_wp2_with fail;refine (HP.out _).mono ?_;rintro e w' ⟨rfl,rfl⟩;dsimp only;go_wp2_with fail;go_ret;exact⟨rfl,rfl⟩
theorem zoc (l:List UInt8)(v:Value)(w:World)(hb:Bytes w v l):
  Calls prog 210 #[v] w fun e w'=>(∃ r:Nat,r<18446744073709551616∧e=.returned (.int .u64 r))∧zB w w':=by
 obtain⟨A,c,rfl,hcc,hmm,-⟩:=id hb;have HB:=hd_ hb;unfold maxLen at hmm;clear hb;go_enter func210,ntmps210;go_wp2_with fail;go_loopw [3,4] (fun u i wr=>∃ k s:Nat,i=.int .i64 k∧u=.int .u64 s∧k≤l.length∧Hid (s<18446744073709551616∧zB w wr)) (fun _ i _=>l.length - (intOf i).toNat)
 case atStart=>exact⟨0,0,rfl,rfl,Nat.zero_le _,hd_ ⟨by decide,Below.refl _ _⟩⟩
 case round =>
  obtain⟨k,s,rfl,rfl,hk,HI⟩:=hrel;by_cases hlt:k<l.length
  ·obtain⟨ad,rfl,hab,x0⟩:=Bytes.at_ (HB.out.below HI.out.2) hlt;generalize l[k].toNat=xn at x0;obtain⟨m,hm,hM⟩:=rMul_ex s 747382712868975713 HI.out.1 (by decide)
   obtain⟨x1,hx1,q1⟩:=zoa xn;obtain⟨x2,hx2,q2⟩:=zoa ((x1:Int)+1);obtain⟨r,hr,hP⟩:=zob m x2;have HM:=hd_ hM;have HP:=hd_ hP;have HRR:=hd_ hr;have hzk:(k:Int)<(l.length:Int):=by omega
   have HLT:=hd_ hlt;clear hM hP hr hm hx1 hx2 hab hlt;go_upto_region 5 with fail;go_quiet ((first | (go_at_call 239;exact Calls.quiet_of_same (HM.out _)) | (go_at_call 238;exact Calls.quiet_of_same (HP.out _))))
   clear q1 q2 x0;go_wp2_with fail;go_roundw
   case rel=>exact⟨k+1,r,by go_num,rfl,by have:=HLT.out;omega,hd_ ⟨HRR.out,z0p HI.out.2 _⟩⟩
   case measure=>have:=HLT.out;simp [intOf];omega
  ·have hge:¬((k:Int)<(l.length:Int)):=by omega
   have HF:=hd_ HI.out;clear HI;go_wp2_with fail;go_ret;exact⟨⟨s,HF.out.1,rfl⟩,HF.out.2⟩
theorem rOf_any (l:List UInt8)(v:Value)(w:World)(hb:Bytes w v l):
  Calls prog 162 #[v] w fun e w'=>(∃ r:Nat,e=.returned (.agg #[.int .u64 r,.int .i64 l.length]))∧zB w w':=by
 obtain⟨A,c,rfl,hcc,hmm,-⟩:=id hb;have hB:=z0l w [.int .u64 0,.int .i64 0] 88;have hA:zB w (w.alloc (.cells #[.int .u64 0,.int .i64 0] 88)):=(Below.refl _ _).alloc (Nat.le_refl _) _;have HS:=hd_ (zoc l (.slice A l.length c) _ (Row.below hb hA));have HA:=hd_ hA;have HB:=hd_ hB;clear hb hA hB;unfold maxLen at hmm;go_enter func162,ntmps162;go_upto_region 1 with fail;generalize w.alloc (.cells #[.int .u64 0,.int .i64 0] 88)=W at HS HB HA ⊢;go_wp2_with fail;refine HS.out.mono ?_;rintro e w2 ⟨⟨r,hr,rfl⟩,hb⟩;dsimp only;have HX:=hd_ (HB.out.below hb HB.out.lt);have HA2:=hd_ (z0r HA.out hb);clear hb HS hr;have c0:w2.cell? ⟨w.heap.size,0,none⟩=some (.int .u64 0):=HX.out.cell 0;have c1:w2.cell? ⟨w.heap.size,1,none⟩=some (.int .i64 0):=HX.out.cell 1;have f0:w2.frozen? ⟨w.heap.size,0,none⟩=false:=HX.out.frozen 0;have f1:w2.frozen? ⟨w.heap.size,1,none⟩=false:=HX.out.frozen 1;have HR:=hd_ ((HX.out.set_ 0 (.int .u64 (r:Int))).set_ 1 (.int .i64 (l.length:Int)));have HA3:=hd_ ((HA2.out.setCell (p:=⟨w.heap.size,0,none⟩) (Nat.le_refl _) (.int .u64 (r:Int))).setCell (p:=⟨w.heap.size,1,none⟩) (Nat.le_refl _) (.int .i64 (l.length:Int)));go_wp2_with fail;have r0:=HR.out.cell 0;have r1:=HR.out.cell 1;exact bodyPost_ret (v:=.agg #[.int .u64 (r:Int),.int .i64 (l.length:Int)]) (by simp at r0 r1;simp [results,results162,go_sem,r0,r1]) rfl ⟨⟨r,rfl⟩,HA3.out⟩
open Go.Sort (grow)
def zq0 (w:World)(l:List Hav)(e:Ending)(w':World):Prop:=∃ c:Int,e=.returned (.int .i64 c)∧(c=0↔z4m l=0)∧zB w w'
theorem zq0.no {w w':World}{l:List Hav}{c:Int}(hc:c≠0)(h:z4m l≠0)(hb:zB w w'):zq0 w l (.returned (.int .i64 c)) w':=⟨c,rfl,⟨fun e=>absurd e hc,fun e=>absurd e h⟩,hb⟩
theorem zq0.yes {w w':World}{l:List Hav}(h:z4m l=0)(hb:zB w w'):zq0 w l (.returned (.int .i64 0)) w':=⟨0,rfl,⟨fun _=>h,fun _=>rfl⟩,hb⟩
theorem zq1 (l:List Hav)(v:Value)(w:World)(he:Env w)(hL:z4h w v l)(hs:∀ x∈l,x.path.size≤2000000∧x.loc.size≤2000000):
  Calls prog 49 #[v] w (zq0 w l):=by
 obtain⟨A,c,rfl,hc,hm,-⟩:=id hL;have HE:=hd_ he;have HL:=hd_ hL;have HS:=hd_ hs;clear he hL hs;unfold maxLen at hm;by_cases h1:1024<l.length
 ·have HX:Hid (z4m l≠0):=hd_ (by rw[show z4m l=342 from if_pos h1];decide)
  go_enter func49,ntmps49;go_wp2_with fail;go_ret;exact zq0.no (by decide) HX.out (Below.refl _ _)
 have HLE:Hid (l.length≤1024):=hd_ (by omega)
 go_enter func49,ntmps49;go_wp2_with fail;go_loopw [3] (fun i wr=>∃ k:Nat,k≤l.length∧i=.int .i64 k∧Hid ((∀ j (hj:j<l.length),j<k→zpu l j hj)∧zB w wr)) (fun i _=>l.length - (intOf i).toNat)
 case atStart=>exact⟨0,Nat.zero_le _,rfl,hd_ ⟨fun j _ h=>by omega,Below.refl _ _⟩⟩
 case round =>
  obtain⟨k,hk,rfl,HI⟩:=hrel;by_cases hlt:k<l.length
  ·obtain⟨ad,rfl,hab,s0,s1,s2⟩:=z4h.at_ (HL.out.below HI.out.2) hlt;have hxs:=HS.out l[k] (List.getElem_mem _);have HNO:Hid (l[k].okB=false→z4m l≠0):=hd_ fun h e=>by
    have:=(zpw (zep.1 e).1 k hlt).ok;rw[h] at this;cases this
   have HLOC:Hid (∀ j (hj:j<k),(l[j]'(by omega)).loc=l[k].loc→z4m l≠0):=hd_ fun j hj h e=>(zpw (zep.1 e).1 k hlt).loc j hj h
   have HNX:Hid (l[k].okB=true→(∀ h:0<k,z2z (l[k - 1]'(Nat.lt_of_le_of_lt (Nat.sub_le k 1) hlt)).path l[k].path<0)→(∀ j (hj:j<k),(l[j]'(by omega)).loc≠l[k].loc)→∀ j (hj:j<l.length),j<k+1→zpu l j hj):=hd_ fun a1 a2 a3 j hj hjk=>by
    by_cases e:j=k
    ·subst e;exact⟨a1,a2,a3⟩
    ·exact HI.out.1 j hj (by omega)
   have HVC:=hd_ (fun X (hX:zB w X)=>zpm l[k] X (HE.out.below hX) hxs.1 hxs.2);have hprev:k=0∨∃(j:Nat) (hj:j<l.length),k=j+1:=by
    cases k with
    | zero=>exact .inl rfl
    | succ j=>exact .inr ⟨j,by omega,rfl⟩
   have hORD:∀ h:0<k,¬ z2z (l[k - 1]'(Nat.lt_of_le_of_lt (Nat.sub_le k 1) hlt)).path l[k].path<0→z4m l≠0:=fun h h2 e=>h2 ((zpw (zep.1 e).1 k hlt).up h);have HB:=hd_ HI.out.2;have HLT:=hd_ hlt;have HVK:Hid (∀ j (hj:j<l.length),j<k→l[j].okB=true):=hd_ fun j hj h=>(HI.out.1 j hj h).ok;generalize hx:l[k]=x at s0 s1 s2 hxs HNO HLOC HNX HVC hORD;have HX:=hd_ hx;have m0:=cell_regrown s0;have m1:=cell_regrown s1;have m2:=cell_regrown s2;clear hx HI hab;have hbr:∀ d os,zB w (grow (redrawn wr d) os):=fun d os=>z0q HB.out HB.out.size (below_regrown wr d os);cases hok:x.okB
   ·have HF:=hd_ (HNO.out hok);have cV:∀ d os,Calls prog 92 #[.agg #[.string x.path,.int .i64 x.num,.string x.loc]] (grow (redrawn wr d) os) fun e w''=>e=.returned (.bool false)∧∃ p:Regrown,w''=grow (redrawn wr p.d) p.os:=fun d os=>Calls.regrown_of (by have hh:=HVC.out (grow (redrawn wr d) os) (hbr d os);rw[hok] at hh;exact hh)
    clear hok hprev hORD hbr;go_wp2_with fail;refine wp_region_quiet_below (by kernel_rfl) (by kernel_rfl) ?_
    repeat (first | go_big_quiet_step (exact cV _ _) | quiet_step (exact cV _ _))
    refine wpQuiet_nil ?_;intro _ hw9;obtain⟨⟨dq,osq⟩,hw9⟩:=hw9;subst hw9;have HB4:=hd_ (z0q HB.out HB.out.size (below_regrown wr dq osq));generalize grow (redrawn wr dq) osq=W5 at HB4 ⊢;go_wp2_with fail;go_ret;exact zq0.no (by decide) HF.out HB4.out
   ·have HOK:=hd_ hok;have cV:∀ d os,Calls prog 92 #[.agg #[.string x.path,.int .i64 x.num,.string x.loc]] (grow (redrawn wr d) os) fun e w''=>e=.returned (.bool true)∧∃ p:Regrown,w''=grow (redrawn wr p.d) p.os:=fun d os=>Calls.regrown_of (by have hh:=HVC.out (grow (redrawn wr d) os) (hbr d os);rw[hok] at hh;exact hh)
    clear hok;rcases hprev with h0 | ⟨j,hj,hkj⟩
    focus
     have n0:decide (0<k)=false:=by simp;omega
     have HUP:Hid (∀ h:0<k,z2z (l[k - 1]'(Nat.lt_of_le_of_lt (Nat.sub_le k 1) HLT.out)).path x.path<0):=hd_ fun h=>by omega
     clear h0 hORD hbr;go_wp2_with fail;refine wp_region_quiet_below (by kernel_rfl) (by kernel_rfl) ?_
     repeat (first | go_big_quiet_step (exact cV _ _) | quiet_step (exact cV _ _))
     refine wpQuiet_nil ?_;intro _ hw9;obtain⟨⟨dq,osq⟩,hw9⟩:=hw9;subst hw9;have HB4:=hd_ (z0q HB.out HB.out.size (below_regrown wr dq osq));generalize grow (redrawn wr dq) osq=W5 at HB4 ⊢;clear cV m0 m1 m2 s0 s1 s2 n0;go_upto_region 9 with fail
    rotate_left
    focus
     obtain⟨ad2,had,hab2,u0,u1,u2⟩:=z4h.at_ (HL.out.below HB.out) hj;injection had with had
     subst had;have hys:=HS.out l[j] (List.getElem_mem _);have hyv:=(zem (zel (HVK.out j hj (by omega))).1).1
     have hxv:=(zem (zel HOK.out).1).1;have hkj':k - 1=j:=by omega
     have HYE:Hid (∀ h:0<k,(l[k - 1]'(Nat.lt_of_le_of_lt (Nat.sub_le k 1) HLT.out)).path=l[j].path):=hd_ fun h=>by simp only[hkj']
     generalize l[j]=y at u0 u1 u2 hys hyv HYE;have e0:=cell_regrown u0;have n0:decide (0<k)=true:=by simp;omega
     have n1:(k:Int) - 1=(j:Int):=by omega
     have HOR:=hd_ (fun X (hX:zB w X)=>zha y.path x.path X (HE.out.below hX) hys.1 hxs.1);rw[zh9 hyv hxv] at HOR;have cC:∀ d os,Calls prog 93 #[.string y.path,.string x.path] (grow (redrawn wr d) os) fun e w''=>e=.returned (.int .i64 (z2z y.path x.path))∧∃ p:Regrown,w''=grow (redrawn wr p.d) p.os:=fun d os=>Calls.regrown_of (by have hh:=HOR.out (grow (redrawn wr d) os) (hbr d os);exact hh)
     generalize hcv:z2z y.path x.path=cv at cC;by_cases hge:0≤cv
     ·have HF:Hid (z4m l≠0):=hd_ (hORD (by omega) (by rw[HYE.out (by omega),hcv];omega))
      have n2:decide ((0:Int)≤cv)=true:=decide_eq_true hge;clear hcv hge hORD hbr hkj' hkj hyv hxv hys hxs;go_wp2_with fail;refine wp_region_quiet_below (by kernel_rfl) (by kernel_rfl) ?_
      repeat (first | go_big_quiet_step (first | exact cV _ _ | exact cC _ _) | quiet_step (first | exact cV _ _ | exact cC _ _))
      refine wpQuiet_nil ?_;intro _ hw9;obtain⟨⟨dq,osq⟩,hw9⟩:=hw9;subst hw9;have HB4:=hd_ (z0q HB.out HB.out.size (below_regrown wr dq osq));generalize grow (redrawn wr dq) osq=W5 at HB4 ⊢;go_wp2_with fail;go_ret;exact zq0.no (by decide) HF.out HB4.out
     have HUP:Hid (∀ h:0<k,z2z (l[k - 1]'(Nat.lt_of_le_of_lt (Nat.sub_le k 1) HLT.out)).path x.path<0):=hd_ fun h=>by rw[HYE.out h,hcv];omega
     have n2:decide ((0:Int)≤cv)=false:=decide_eq_false hge;clear hcv hge hORD hbr hkj' hkj hyv hxv hys;go_wp2_with fail;refine wp_region_quiet_below (by kernel_rfl) (by kernel_rfl) ?_
     repeat (first | go_big_quiet_step (first | exact cV _ _ | exact cC _ _) | quiet_step (first | exact cV _ _ | exact cC _ _))
     refine wpQuiet_nil ?_;intro _ hw9;obtain⟨⟨dq,osq⟩,hw9⟩:=hw9;subst hw9;have HB4:=hd_ (z0q HB.out HB.out.size (below_regrown wr dq osq));generalize grow (redrawn wr dq) osq=W5 at HB4 ⊢;clear cV cC m0 m1 m2 s0 s1 s2 n0 n1 n2 e0 u0 u1 u2 HYE HOR hj;go_upto_region 9 with fail
    all_goals
     go_loopw [4] (fun i wr2=>∃ q:Nat,q≤k∧i=.int .i64 q∧Hid ((∀ j (hj:j<q) (hj2:j<l.length),l[j].loc≠x.loc)∧zB w wr2)) (fun i _=>k - (intOf i).toNat)
     case atStart=>exact⟨0,Nat.zero_le _,rfl,hd_ ⟨fun j hj _=>by omega,HB4.out⟩⟩
     case round =>
      obtain⟨q,hq,rfl,HJ⟩:=hrel;by_cases hqk:q<k
      ·obtain⟨ad2,e2,hab2,u0,u1,u2⟩:=z4h.at_ (HL.out.below HJ.out.2) (show q<l.length by omega)
       obtain⟨ad3,e3,hab3,hld3⟩:=z4h.at_ (HL.out.below HJ.out.2) hlt;injection e2 with e2
       injection e3 with e3
       subst e2 e3;obtain⟨-,-,t2⟩:=zpk HX.out hld3;have HYN:Hid ((l[q]'(by omega)).loc=x.loc→z4m l≠0):=hd_ (HLOC.out q hqk)
       have HNN:Hid ((l[q]'(by omega)).loc≠x.loc→∀ j (hj:j<q+1) (hj2:j<l.length),l[j].loc≠x.loc):=hd_ fun h j hj hj2=>by
        by_cases e:j=q
        ·subst e;exact h
        ·exact HJ.out.1 j (by omega) hj2
       generalize l[q]'(by omega)=y at u2 HYN HNN
       clear u0 u1 hld3 hab2 hab3;have HJB:=hd_ HJ.out.2;by_cases hl:y.loc=x.loc
       ·have q1:(y.loc.toList == x.loc.toList)=true:=by rw[z42,decide_eq_true hl]
        have HF:=hd_ (HYN.out hl);clear hl;go_upto_region 11 with fail;go_quiet (fail)
        go_wp2_with fail;go_ret;exact zq0.no (by decide) HF.out (z0p HJB.out _)
       ·have q1:(y.loc.toList == x.loc.toList)=false:=by rw[z42,decide_eq_false hl]
        have HF:=hd_ (HNN.out hl);clear hl;go_upto_region 11 with fail;go_quiet (fail)
        clear u2 t2;go_wp2_with fail;go_roundw
        case rel=>exact⟨q+1,by omega,by go_num,hd_ ⟨HF.out,z0p HJB.out _⟩⟩
        case measure=>simp [intOf];omega
      ·have hqe:q=k:=by omega
       subst hqe;have HF:=hd_ (HNX.out HOK.out HUP.out (fun j hj=>HJ.out.1 j hj (by have:=HLT.out;omega)))
       have HJB:=hd_ HJ.out.2;clear HJ;go_wp2_with fail;go_roundw
       case rel=>exact⟨q+1,by have:=HLT.out;omega,by go_num,hd_ ⟨HF.out,HJB.out⟩⟩
       case measure=>have:=HLT.out;simp [intOf];omega
  ·have hke:k=l.length:=by omega
   have HY:Hid (z4m l=0):=hd_ (zep.2 ⟨zpv fun j hj=>HI.out.1 j hj (by omega),HLE.out⟩)
   have HB:=hd_ HI.out.2;subst hke;clear HI;go_wp2_with fail;go_ret;exact zq0.yes HY.out HB.out
