/- A part of the proof. -/
import Derived.Test.YtegeboijhifmcaaGreatDoorMsAlR
import Derived.Test.YtegeboijhifmcaaGreatDoorMgs20
set_option linter.unusedVariables false
set_option linter.unusedSimpArgs false
set_option maxHeartbeats 8000000
set_option maxRecDepth 100000
namespace Go.Proofs.YtegeboijhifmcaaGreatDoor
open Go.Proofs.Tryz
open Go.RowKit
theorem zdo (q:Pat)(A:Option Addr)(c b:Nat)(p:ByteArray)(w:World)(he:Env w)(hq:za9 w (.slice A q.parts.length c) q)(hp:w.cell? ⟨b,0,none⟩=some (.string p))(hz:p.size≤1000000):
  Calls prog 70 #[.agg #[.slice A q.parts.length c,.bool q.rest],.pointer (some ⟨b,0,none⟩)] w fun e w'=>e=.returned (.bool (z8e q p).isSome)∧Below w.heap.size w w':=by
 have hB:=z0l w [.slice A q.parts.length c,.bool q.rest] 97;have hA:Below w.heap.size w (w.alloc (.cells #[.slice A q.parts.length c,.bool q.rest] 97)):=(Below.refl _ _).alloc (Nat.le_refl _) _;have HM:=hd_ (fun X (hX:Below w.heap.size w X)=>zbk q p A c X (he.below hX) hz (hq.below hX).1 hq.small);have d2:(w.alloc (.cells #[.slice A q.parts.length c,.bool q.rest] 97)).cell? ⟨b,0,none⟩=some (.string p):=(hA.cell (block_lt_of_cell hp)).trans hp;clear he hq hp;go_enter func70,ntmps70;go_upto_region 1 with fail;generalize w.alloc (.cells #[.slice A q.parts.length c,.bool q.rest] 97)=W1 at hB hA d2 ⊢;have d0:W1.cell? ⟨w.heap.size,0,none⟩=some (.slice A q.parts.length c):=hB.cell 0;have d1:W1.cell? ⟨w.heap.size,1,none⟩=some (.bool q.rest):=hB.cell 1;have HC:=hd_ (HM.out W1 hA);have HA:=hd_ hA;clear hA hB HM;generalize z8e q p=o at HC ⊢;go_wp2_with fail;refine HC.out.mono ?_;rintro e w2 ⟨A',n,c',rfl,hb,-⟩;have HB:=hd_ (z0r HA.out hb);clear hb d0 d1 d2;go_wp2_with fail;go_ret;exact⟨rfl,HB.out⟩
def zdp (hs:List zd1)(p:ByteArray):Bool:=hs.any fun q=>(z8e q.1 p).isSome
theorem zdq (hs:List zd1)(H:Option Addr)(hc b:Nat)(p:ByteArray)(w:World)(he:Env w)(hh:zd2 w (.slice H hs.length hc) hs)(hp:w.cell? ⟨b,0,none⟩=some (.string p))(hz:p.size≤1000000)(hn:hs.length≤1000):
  Calls prog 106 #[.slice H hs.length hc,.func (.func 70) #[] #[.pointer (some ⟨b,0,none⟩)]] w fun e w'=>(∃ i:Int,e=.returned (.int .i64 i)∧decide (0≤i)=zdp hs p)∧Below w.heap.size w w':=by
 have HE:=hd_ he;have HH:=hd_ hh;have HP:=hd_ hp;have HNO:Hid (∀ k (hk:k<hs.length),(z8e hs[k].1 p).isSome=true→zdp hs p=true):=hd_ (fun k hk h=>List.any_eq_true.2 ⟨_,List.getElem_mem hk,h⟩);have HYE:Hid ((∀ k (hk:k<hs.length),(z8e hs[k].1 p).isSome=false)→zdp hs p=false):=hd_ (fun h=>by
  unfold zdp;rw[List.any_eq_false];intro q hq;obtain⟨k,hk,rfl⟩:=List.getElem_of_mem hq;rw[h k hk];decide)
 generalize zdp hs p=r at HNO HYE ⊢;clear he hh hp;go_enter func106,ntmps106;go_wp2_with fail;go_loopw [8] (fun i wr=>∃ k:Nat,i=.int .i64 k∧k≤hs.length∧Hid (Below w.heap.size w wr∧∀ j (hj:j<hs.length),j<k→(z8e hs[j].1 p).isSome=false)) (fun i _=>hs.length - (intOf i).toNat)
 case atStart=>exact⟨0,rfl,Nat.zero_le _,hd_ ⟨Below.refl _ _,fun j _ h=>by omega⟩⟩
 case round =>
  obtain⟨k,rfl,hk,HI⟩:=hrel;by_cases hlt:k<hs.length
  ·have HHX:=hd_ (HH.out.below HI.out.1);obtain⟨ad,rfl,hab,s0,s1⟩:=HHX.out.at_ hlt;have HPK:=hd_ (HHX.out.2 hs[k] (List.getElem_mem hlt));have HNK:=hd_ (HNO.out k hlt);have HJ:Hid ((z8e hs[k].1 p).isSome=false→∀ j (hj:j<hs.length),j<k+1→(z8e hs[j].1 p).isSome=false):=hd_ (fun h j hj hjk=>by
    by_cases e:j=k
    ·subst e;exact h
    ·exact HI.out.2 j hj (by omega))
   generalize hs[k]=q at s0 s1 HPK HNK HJ;obtain⟨q,Aq,cq⟩:=q;change wr.cell? _=some (.slice Aq q.parts.length cq) at s0;change wr.cell? _=some (.bool q.rest) at s1;have HC:=hd_ (zdo q Aq cq b p wr (HE.out.below HI.out.1) HPK.out ((HI.out.1.cell (block_lt_of_cell HP.out)).trans HP.out) hz);obtain⟨o,ho⟩:∃ o,(z8e q p).isSome=o:=⟨_,rfl⟩;rw[ho] at HC;have HO:=hd_ ho;have HLT:=hd_ hlt;clear hab ho;cases o with
   | true =>
    have HR:=hd_ (HNK.out HO.out);go_wp2_with fail;refine HC.out.mono ?_;rintro e w2 ⟨rfl,hb⟩;have HB:=hd_ (z0r HI.out.1 hb);clear hb s0 s1;go_wp2_with fail;go_ret;exact⟨⟨(k:Int),rfl,by rw[HR.out];exact decide_eq_true (by omega)⟩,HB.out⟩
   | false =>
    have HR:=hd_ (HJ.out HO.out);go_wp2_with fail;refine HC.out.mono ?_;rintro e w2 ⟨rfl,hb⟩;have HB:=hd_ (z0r HI.out.1 hb);clear hb s0 s1;go_wp2_with fail;go_roundw
    case rel=>exact⟨k+1,by go_num,by omega,hd_ ⟨HB.out,HR.out⟩⟩
    case measure=>simp [intOf];omega
  ·have hke:k=hs.length:=by omega
   subst hke;have HR:=hd_ (HYE.out (fun j hj=>HI.out.2 j hj hj));have HB:=hd_ HI.out.1;have hge:¬((hs.length:Int)<(hs.length:Int)):=by omega
   go_wp2_with fail;go_ret;exact⟨⟨-1,rfl,by rw[HR.out];decide⟩,HB.out⟩
theorem zdr (hs:List zd1)(H:Option Addr)(hc b:Nat)(p:ByteArray)(w:World)(he:Env w)(hh:zd2 w (.slice H hs.length hc) hs)(hp:w.cell? ⟨b,0,none⟩=some (.string p))(hz:p.size≤1000000)(hn:hs.length≤1000):
  Calls prog 69 #[.slice H hs.length hc,.func (.func 70) #[] #[.pointer (some ⟨b,0,none⟩)]] w fun e w'=>e=.returned (.bool (zdp hs p))∧Below w.heap.size w w':=by
 have HC:=hd_ (zdq hs H hc b p w he hh hp hz hn);clear he hh hp;generalize zdp hs p=r at HC ⊢;go_enter func69,ntmps69;go_wp2_with fail;refine HC.out.mono ?_;rintro e w2 ⟨⟨i,rfl,hi⟩,hb⟩;have HI:=hd_ hi;have HB:=hd_ hb;clear hi hb;go_wp2_with fail;go_ret;exact⟨by rw[← HI.out];rfl,HB.out⟩
def zds (x:zd8)(p:ByteArray):Option ByteArray:=match zc2 x.l.1 x.r.1 p with
 | none=>none
 | some s=>if zdp x.hs p then none else some s
def zdt (es:List zd8)(p:ByteArray):Option ByteArray:=es.findSome? (zds · p)
def zdu (es:List zd8)(p:ByteArray):Prop:=∀ x∈es,∀ caps,z8e x.l.1 p=some caps→zbv x.r.1 caps
theorem zdv {es:List zd8}{p:ByteArray}{k:Nat}(hk:k<es.length)(h0:∀ j (hj:j<es.length),j<k→zds es[j] p=none):zdt es p=(zds es[k] p).or (zdt (es.drop (k+1)) p):=by
 induction es generalizing k with
 | nil=>simp at hk
 | cons x es ih =>
  unfold zdt;rw[List.findSome?_cons];cases k with
  | zero =>
   simp only[List.getElem_cons_zero,Nat.zero_add,List.drop_succ_cons,List.drop_zero]
   cases zds x p <;> rfl
  | succ k =>
   have hx:zds x p=none:=h0 0 (by simp) (by omega)
   rw[hx];exact ih (by simpa using hk) fun j hj hjk=>h0 (j+1) (by simpa using hj) (by omega)
theorem zdw {es:List zd8}{p:ByteArray}(h0:∀ j (hj:j<es.length),zds es[j] p=none):zdt es p=none:=by
 unfold zdt;rw[List.findSome?_eq_none_iff];intro x hx;obtain⟨k,hk,rfl⟩:=List.getElem_of_mem hx;exact h0 k hk
theorem zdx (es:List zd8)(v:Value)(p:ByteArray)(w:World)(he:Env w)(hE:zdi w v es)(hM:zdj es)(hF:zdu es p)(hz:p.size≤1000000):
  Calls prog 42 #[v,.string p] w (zc3 w (zdt es p)):=by
 obtain⟨A,c,rfl,-⟩:=id hE.1;have hl32:=hM.len;have hA:Below w.heap.size w (w.alloc (.cells #[.string p] 9)):=(Below.refl _ _).alloc (Nat.le_refl _) _;have hS:=z0l w [.string p] 9;have HE:=hd_ (fun X (hX:Below w.heap.size w X)=>hE.below hX);have HEV:=hd_ (fun X (hX:Below w.heap.size w X)=>he.below hX);have HM:=hd_ hM;have HF:=hd_ hF;have HAT:=hd_ (fun k hk=>@zdv es p k hk);have HNO:=hd_ (@zdw es p);generalize zdt es p=r at HAT HNO ⊢;have HA:=hd_ hA;have HS:=hd_ hS;clear hE hM hF he hA hS;go_enter func42,ntmps42;go_upto_region 1 with fail;generalize w.alloc (.cells #[.string p] 9)=W1 at HA HS ⊢;go_wp2_with fail;go_loopw [12] (fun i wr=>∃ k:Nat,i=.int .i64 k∧k≤es.length∧Hid (Below W1.heap.size W1 wr∧∀ j (hj:j<es.length),j<k→zds es[j] p=none)) (fun i _=>es.length - (intOf i).toNat)
 case atStart=>exact⟨0,rfl,Nat.zero_le _,hd_ ⟨Below.refl _ _,fun j _ h=>by omega⟩⟩
 case round =>
  obtain⟨k,rfl,hk,HI⟩:=hrel;by_cases hlt:k<es.length
  ·have HBW:=hd_ (z0r HA.out HI.out.1);have HEX:=hd_ (HE.out wr HBW.out);obtain⟨ad,rfl,hab,s0,s1,s2,s3,s4⟩:=HEX.out.at_ hlt;have HXI:=hd_ (HEX.out.2 es[k] (List.getElem_mem hlt));have HXO:=hd_ (HM.out.ok es[k] (List.getElem_mem hlt));have HXF:=hd_ (HF.out es[k] (List.getElem_mem hlt));have HR1:=hd_ (HAT.out k hlt HI.out.2);have HJ:Hid (zds es[k] p=none→∀ j (hj:j<es.length),j<k+1→zds es[j] p=none):=hd_ (fun h j hj hjk=>by
    by_cases e:j=k
    ·subst e;exact h
    ·exact HI.out.2 j hj (by omega))
   generalize es[k]=x at s0 s1 s2 s3 s4 HXI HXO HXF HR1 HJ;obtain⟨H,hc,hhv⟩:=HXI.out.holes;obtain⟨⟨pl,Al,cl⟩,⟨pr,Ar,cr⟩,hv,hs⟩:=x;change hv=.slice H hs.length hc at hhv;subst hhv;change wr.cell? _=some (.slice Al pl.parts.length cl) at s0;change wr.cell? _=some (.bool pl.rest) at s1;change wr.cell? _=some (.slice Ar pr.parts.length cr) at s2;change wr.cell? _=some (.bool pr.rest) at s3;change wr.cell? _=some (.slice H hs.length hc) at s4;have hX:Below wr.heap.size wr (wr.alloc (.cells #[.slice Al pl.parts.length cl,.bool pl.rest,.slice Ar pr.parts.length cr,.bool pr.rest,.slice H hs.length hc] 100)):=(Below.refl _ _).alloc (Nat.le_refl _) _;have HXP:=hd_ (HXI.out.below hX);have HX:=hd_ (z0r HI.out.1 hX);have HN:Hid (Blk (wr.alloc (.cells #[.slice Al pl.parts.length cl,.bool pl.rest,.slice Ar pr.parts.length cr,.bool pr.rest,.slice H hs.length hc] 100)) wr.heap.size 100 [.slice Al pl.parts.length cl,.bool pl.rest,.slice Ar pr.parts.length cr,.bool pr.rest,.slice H hs.length hc]):=hd_ (z0l wr _ _);have HLT:=hd_ hlt;clear hab hX;go_upto_region 4 with fail;generalize wr.alloc (.cells #[.slice Al pl.parts.length cl,.bool pl.rest,.slice Ar pr.parts.length cr,.bool pr.rest,.slice H hs.length hc] 100)=W4 at HX HN HXP ⊢;generalize wr.heap.size=g7 at HN ⊢;clear s0 s1 s2 s3 s4;obtain⟨x0,x1,x2,x3,x4⟩:=(⟨HN.out.cell 0,HN.out.cell 1,HN.out.cell 2,HN.out.cell 3,HN.out.cell 4⟩:W4.cell? ⟨g7,0,none⟩=some (.slice Al pl.parts.length cl)∧W4.cell? ⟨g7,1,none⟩=some (.bool pl.rest)∧W4.cell? ⟨g7,2,none⟩=some (.slice Ar pr.parts.length cr)∧W4.cell? ⟨g7,3,none⟩=some (.bool pr.rest)∧W4.cell? ⟨g7,4,none⟩=some (.slice H hs.length hc));have p0:W4.cell? ⟨w.heap.size,0,none⟩=some (.string p):=(HS.out.below HX.out HS.out.lt).cell 0;have HRF:=hd_ (zc5 false pl pr p Al Ar cl cr W4 (HEV.out W4 (z0r HA.out HX.out)) hz HXP.out.l HXP.out.r HXO.out.rule HXF.out);have HONE:Hid (zds ⟨(pl,Al,cl),(pr,Ar,cr),.slice H hs.length hc,hs⟩ p=match zc2 pl pr p with | none=>none | some s=>if zdp hs p then none else some s):=hd_ rfl
   obtain⟨o,ho⟩:∃ o,zc2 pl pr p=o:=⟨_,rfl⟩;rw[ho] at HRF HONE;clear ho;cases o with
   | none =>
    have HNX:=hd_ (HJ.out HONE.out);go_wp2_with fail;refine HRF.out.mono ?_;rintro e w5 ⟨rfl,hb⟩;have HB:=hd_ (z0r HX.out hb);clear hb x0 x1 x2 x3 x4 p0;go_wp2_with fail;go_roundw
    case rel=>exact⟨k+1,by go_num,by omega,hd_ ⟨HB.out,HNX.out⟩⟩
    case measure=>simp [intOf];omega
   | some s =>
    have HCH:=hd_ (fun X (hX:Below W4.heap.size W4 X)=>zdr hs H hc w.heap.size p X (HEV.out X (z0r HA.out (z0r HX.out hX))) (HXP.out.h.below hX) ((HS.out.below (z0r HX.out hX) HS.out.lt).cell 0) hz HXP.out.n);go_wp2_with fail;refine HRF.out.mono ?_;rintro e w5 ⟨rfl,hb⟩;have HB:=hd_ (z0r HX.out hb);have HC5:=hd_ (HCH.out w5 hb);have x4':w5.cell? ⟨g7,4,none⟩=some (.slice H hs.length hc):=(HN.out.below hb HN.out.lt).cell 4;clear hb x0 x1 x2 x3 x4 p0 HCH;obtain⟨hb9,hh9⟩:∃ b,zdp hs p=b:=⟨_,rfl⟩;rw[hh9] at HC5 HONE;clear hh9;cases hb9 with
    | true =>
     have HNX:=hd_ (HJ.out HONE.out);go_wp2_with fail;refine HC5.out.mono ?_;rintro e w6 ⟨rfl,hb⟩;have HB6:=hd_ (z0r HB.out hb);clear hb x4';go_wp2_with fail;go_roundw
     case rel=>exact⟨k+1,by go_num,by omega,hd_ ⟨HB6.out,HNX.out⟩⟩
     case measure=>simp [intOf];omega
    | false =>
     have HRR:Hid (r=some s):=hd_ (by rw[HR1.out,HONE.out];rfl)
     go_wp2_with fail;refine HC5.out.mono ?_;rintro e w6 ⟨rfl,hb⟩;have HB6:=hd_ (z0r HB.out hb);clear hb x4';go_wp2_with fail;go_ret2;exact⟨by rw[HRR.out];rfl,z0r HA.out HB6.out⟩
  ·have hke:k=es.length:=by omega
   subst hke;have HR:=hd_ (HNO.out (fun j hj=>HI.out.2 j hj hj));have HB:=hd_ (z0r HA.out HI.out.1);have hge:¬((es.length:Int)<(es.length:Int)):=by omega
   go_wp2_with fail;go_ret2;exact⟨by rw[HR.out];rfl,HB.out⟩
open Go.Sort (grow)
section
variable {u0 u1 u2 u3 u4 u5 u6 u7 u8 u9 gn gt gu gx gy gz gA gC gD gE gF gG gH gI gJ gK gL gM gN gO gP gQ gR gT gV gW gX gY gZ i6 i7 i8 ia ib ic ie ig ii ij ik il im io ip iq ir iu iv iw ix iy iz iA iB iC iD iE iF iG iH iI iJ iK iL iM iN iO iP iQ iR iS iT iU iV iW iX iY iZ j0 j1 j2 j5 j6 j7 j8 j9 jb jd je jf bw bz bA bB bD bE bF bG bH bI bJ bK bL bM bN bO bP bQ bT bU bV bW bX bY bZ ca cj : Value}
theorem zkz {P:Program}{W:World}{ops:Array Oper}{o:Oper}{a:Act}{K:Act→World→Prop}{Q:Exit→Act→World→Prop}{E:Prop}(hgd:o.guard=none){s x:Operand}{t:TypeId}
  (ho:o.op=.call { callee:=.builtin .append,args:=#[s,x],argTypes:=#[t,t] })
  {e:TypeId} {size bytes base:Nat} (he:z0e P t e size bytes) {v:Value} {n:Nat} {xs:List Value} (hown:zk1 W base e size v n xs) (hs:a.eval s=v)
  {ad:Addr} {m c:Nat} {news:List Value} (hx:a.eval x=.slice (some ad) m c) (hl:news.length=m * size) (hnews:∀ j u,news[j]? = some u→W.cell? (ad.add j)=some u) (h1:∀ u∈news,u.oneCell'=true) (hm:0<m) (hbytes:(n+m) * bytes≤140737488355328) (h63:n+m≤maxLen) (hbase:base≤W.heap.size)
  (h:∀ A' c' w',zk1 w' base e size (.slice A' (n+m) c') (n+m) (xs++news)→W.grownBy w' v.ownBlock →
   ((Value.slice A' (n+m) c').ownBlock=v.ownBlock∨(Value.slice A' (n+m) c').ownBlock=some W.heap.size)→K (a.put o.dst (.slice A' (n+m) c')) w'):
  if Region.wanted o (yielded ops a.tmps)=true then Oper.wp P o a W K Q else E:=by
 have hw:Region.wanted o (yielded ops a.tmps)=true:=by simp [Region.wanted,hgd]
 rw[if_pos hw];obtain⟨A',c',w',hrun,h2,h3,h4⟩:=zk3 (ty:=o.type) he hown hl hnews h1 hm hbytes h63 hbase;unfold Oper.wp execOp;simp only[ho,resolve,invoke,builtin,Sem.run_bind,Sem.run_pure,Result.andThen_ok,List.map_toArray,List.map_cons,List.map_nil,hs,hx]
 rw[hrun];exact h A' c' w' h2 h3 h4
theorem zl0 (W:World)(cs:List Value)(t:TypeId):∀ j u,cs[j]? = some u→(W.alloc (.cells cs.toArray t)).cell? ((⟨W.heap.size,0,none⟩:Addr).add j)=some u:=by
 intro j u hu;rw[Addr.add_lit,World.cell?_alloc_mark];simpa using hu
def zl1 (V w':World)(v:Value):Prop:=∃ Y,Below V.heap.size V Y∧Y.grownBy w' v.ownBlock
theorem zl1.block {V w':World}{v:Value}(h:zl1 V w' v){k:Nat}(hk:k<V.heap.size)(hne:v.ownBlock≠some k):w'.heap[k]? = V.heap[k]?:=by
 obtain⟨Y,h1,h2⟩:=h;exact (h2.block k (Nat.lt_of_lt_of_le hk h1.size) (fun e=>hne e.symm)).trans (h1.block k hk)
theorem zl1.size {V w':World}{v:Value}(h:zl1 V w' v):V.heap.size≤w'.heap.size:=by
 obtain⟨Y,h1,h2⟩:=h;exact Nat.le_trans h1.size h2.size
theorem zl1.low {V w' X:World}{v:Value}{B:Nat}(h:zl1 V w' v)(hX:Below B X V)(hB:B≤V.heap.size)(hv:∀ k,v.ownBlock=some k→B≤k):Below B X w':=by
 obtain⟨Y,h1,h2⟩:=h;exact (hX.trans (h1.mono hB)).grown h2 (Nat.le_trans hB h1.size) hv
theorem bkR26 (ops:Array Oper)(hops:Tryz.f38.body.bind (zci 26)=some ops)(Q:Exit→Act→World→Prop)(V1:World)(g n c i nq cq B2:Nat)(Aq:Option Addr)(xs:List Value)(p f:ByteArray)
  (hq:zk1 V1 B2 44 3 (.slice Aq nq cq) nq xs) (hp1:V1.cell? ⟨g,i * 5+1,none⟩=some (.string p)) (hp3:V1.cell? ⟨g,i * 5+3,none⟩=some (.string f)) (hi:i<n) (hB2:B2≤V1.heap.size) (hg:g<B2) (hnq:nq≤2000000)
  (hQ:∀(ao ap aq ar au aw ax ay az aA aB aC aD aE:Value) (A':Option Addr) (c':Nat) (w':World),Hid (zk1 w' B2 44 3 (.slice A' (nq+1) c') (nq+1) (xs++[.string p,.int .i64 0,.string f])∧zl1 V1 w' (.slice Aq nq cq)∧((Value.slice A' (nq+1) c').ownBlock=(Value.slice Aq nq cq).ownBlock∨∃ x,(Value.slice A' (nq+1) c').ownBlock=some x∧V1.heap.size≤x))→Q .normal ⟨#[u0,.slice (some ⟨g,0,none⟩) n c,u2,u3,u4,u5,u6,u7,.slice A' (nq+1) c',u9,gn,gt,gu,gx,gy,.int .i64 i,gA,gC,gD,gE,gF,gG,gH,gI,gJ,gK,gL,gM,gN,gO,gP,gQ,gR,gT,gV,gW,gX,gY,gZ,i6,i7,i8,ia,ib,ic,ie,ig,ii,ij,ik,il,im,io,ip,iq,ir,iu,iv,iw,ix,iy,iz,iA,iB,iC,iD,iE,iF,iG,iH,iI,iJ,iK,iL,iM,iN,iO,iP,iQ,iR,iS,iT,iU,iV,iW,iX,iY,iZ,j0,j1,j2,j5,j6,j7,j8,j9,jb,jd,je,jf,bw,bz,bA,bB,bD,bE,bF,bG,bH,bI,bJ,bK,ao,ap,aq,ar,au,aw,ax,ay,az,aA,aB,aC,aD,aE,cj],[]⟩ w'):
  (Code.region 26 ops true).wp prog Q ⟨#[u0,.slice (some ⟨g,0,none⟩) n c,u2,u3,u4,u5,u6,u7,.slice Aq nq cq,u9,gn,gt,gu,gx,gy,.int .i64 i,gA,gC,gD,gE,gF,gG,gH,gI,gJ,gK,gL,gM,gN,gO,gP,gQ,gR,gT,gV,gW,gX,gY,gZ,i6,i7,i8,ia,ib,ic,ie,ig,ii,ij,ik,il,im,io,ip,iq,ir,iu,iv,iw,ix,iy,iz,iA,iB,iC,iD,iE,iF,iG,iH,iI,iJ,iK,iL,iM,iN,iO,iP,iQ,iR,iS,iT,iU,iV,iW,iX,iY,iZ,j0,j1,j2,j5,j6,j7,j8,j9,jb,jd,je,jf,bw,bz,bA,bB,bD,bE,bF,bG,bH,bI,bJ,bK,bL,bM,bN,bO,bP,bQ,bT,bU,bV,bW,bX,bY,bZ,ca,cj],[]⟩ V1:=by
 simp only[Tryz.f38,Option.bind_some,zci] at hops
 simp at hops
 subst hops;have HQ:=hd_ hQ;have HQU:=hd_ hq;have hda:Below V1.heap.size V1 (V1.alloc (.cells #[.string p,.int .i64 0,.string f] 44)).drew:=(zcf (Below.refl _ _) _).drew;have HDA:=hd_ hda;have HSZ:Hid (B2≤(V1.alloc (.cells #[.string p,.int .i64 0,.string f] 44)).drew.heap.size):=hd_ (Nat.le_trans hB2 hda.size);have HN:Hid (∀ j u,[Value.string p,Value.int .i64 0,Value.string f][j]? = some u→(V1.alloc (.cells #[.string p,.int .i64 0,.string f] 44)).drew.cell? ((⟨V1.heap.size,0,none⟩:Addr).add j)=some u):=hd_ (zl0 V1 _ _);clear hQ hq hda hB2 hg;refine wp_region_noPanic ?_;go_region_law (first
  | (refine zkz (base:=B2) rfl rfl z54 (HQU.out.below HDA.out) (by simp [Act.eval,Act.put];done) (ad:=⟨V1.heap.size,0,none⟩) (m:=1) (c:=1) (by simp [Act.eval,Act.put];done) (news:=[.string p,.int .i64 0,.string f]) rfl HN.out (by simp [Value.oneCell']) (by omega) (by omega) (by unfold maxLen;omega) HSZ.out ?_;intro A6 c6 w6 hO6 hG6 hw6))
 all_goals exact NoPanic.normal (HQ.out _ _ _ _ _ _ _ _ _ _ _ _ _ _ _ _ _ (hd_ ⟨hO6,⟨_,HDA.out,hG6⟩,hw6.imp id (fun e=>⟨_,e,HDA.out.size⟩)⟩))
end
def zp5:List ByteArray:=[⟨#[97]⟩,⟨#[98,98]⟩,⟨#[36,73,100,36]⟩,⟨#[36,73,100,58,32,120,36,99]⟩,⟨#[97,98]⟩,⟨#[97,98,99]⟩,⟨#[120,47,121]⟩,⟨#[36,80,97,116,104,36,32,36,73,100,36]⟩]
theorem zp6:∀ s∈zp5,s.size≤20:=by decide
structure zp7 (w wr:World)(U g m:Nat)(v:Value)(n:Nat):Prop where
 kept:z6t [g] w wr
 tape:zgf wr U g m
 own:zoz wr w.heap.size v n
 gU:g<w.heap.size
 UU:U≤w.heap.size
section
variable {w wr w' : World} {U g m m' n : Nat} {v : Value}
theorem zp7.next (h:zp7 w wr U g m v n)(hK:z6t [g] wr w')(hT:zgf w' U g m'):zp7 w w' U g m' v n:=
 ⟨h.kept.trans hK,hT,h.own.keepAt fun x h1 h2 _=>hK.block x h2 (by have:=h.gU;rw[List.mem_singleton];omega),h.gU,h.UU⟩
theorem zp7.under (h:zp7 w wr U g m v n)(hb:Below wr.heap.size wr w'):zp7 w w' U g m v n:=h.next (z6t.below hb) (h.tape.below hb)
theorem zp7.push {v':Value}{n':Nat}(h:zp7 w wr U g m v n)(ho:zoz w' w.heap.size v' n')(hg:wr.grownBy w' v.ownBlock):zp7 w w' U g m v' n':=by
 have hlt:=h.own.lt;have hUU:=h.UU;exact⟨h.kept.grown_own hg (fun x e=>(hlt x e).1),h.tape.keep hg.size (fun x hx=>hg.block x (by have:=h.kept.size;omega) (fun e=>by have:=(hlt x e.symm).1;omega)),ho,h.gU,h.UU⟩
end
def WbPost (w:World)(U g m:Nat)(e:Ending)(w':World):Prop:=∃(v:Value) (n:Nat),e=.returned v∧n≤100∧zoz w' w.heap.size v n∧zgf w' U g m∧z6t [g] w w'
theorem zp8 (U g m:Nat)(w:World)(hT:zgf w U g m)(hU:U≤w.heap.size)(hm:m≤100000):
  Calls prog 131 #[.pointer (some ⟨g,0,none⟩)] w (WbPost w U g (m+5)):=by
 have hgl:g<w.heap.size:=by have:=hT.ltU;omega
 have hA:Below w.heap.size w (w.alloc (.cells (zp5.map Value.string).toArray 9)):=(Below.refl _ _).alloc (Nat.le_refl _) _;have HB:Hid (Blk _ _ 9 (zp5.map Value.string)):=hd_ (z0l w _ _);have HN:=hd_ (zgg U g m 8 _ (hT.below hA) (by omega) (by omega))
 have HA:=hd_ (z6t.below (S:=[g]) hA);have HG:Hid (g<w.heap.size∧U≤w.heap.size):=hd_ ⟨hgl,hU⟩;have hcv:=fun W s=>run_cvt (P:=prog) W 9 201 5 s underlying9 underlying201 underlying5;have HCV:=hd_ hcv;clear hT hU hA hgl hcv;go_enter func131,ntmps131;go_upto_region 2 with fail;change _ at HN;have e0:w.alloc (.cells (zp5.map Value.string).toArray 9)=w.alloc (.cells #[.string ⟨#[97]⟩,.string ⟨#[98,98]⟩,.string ⟨#[36,73,100,36]⟩,.string ⟨#[36,73,100,58,32,120,36,99]⟩,.string ⟨#[97,98]⟩,.string ⟨#[97,98,99]⟩,.string ⟨#[120,47,121]⟩,.string ⟨#[36,80,97,116,104,36,32,36,73,100,36]⟩] 9):=rfl;rw[← e0];clear e0;generalize w.alloc (.cells (zp5.map Value.string).toArray 9)=W1 at HB HN HA ⊢;go_wp2_with fail;refine HN.out.mono ?_;rintro e w2 ⟨k,rfl,hk,hT2,hK2⟩;dsimp only;obtain⟨j,rfl⟩:∃ j:Nat,k=j:=⟨k.toNat,by have:=hk.1;omega⟩
 have hj:j<8:=by have:=hk.2.1 (by omega);omega
 have s0:w2.cell? ⟨w.heap.size,j,none⟩=some (.string (zp5[j]'hj)):=((hK2.blk HB.out (by simp;have:=HG.out;omega)).cell j).trans (by rw[List.getElem?_map,List.getElem?_eq_getElem (show j<zp5.length from hj)];rfl)
 have hz:(zp5[j]'hj).size≤20:=zp6 _ (List.getElem_mem _);generalize zp5[j]'hj=s at s0 hz;have HS:Hid (zp7 w (cvtW w2 s 5) U g (m+1) (.slice (some (cvtA w2)) s.size (z0c w2 s 5)) s.size):=hd_ (by
  have hb:=z0d w2 s 5;have hsz:=hK2.size;have hsz2:=HA.out.size;have ho:=zp3 w2 s (by omega)
  refine⟨(HA.out.trans hK2).under hb,hT2.below hb,?_,HG.out.1,HG.out.2⟩;obtain⟨g',cap,cur,fz,e1,e2,e3⟩:=ho;exact⟨g',cap,cur,fz,e1,by omega,e3⟩)
 have hcv:=HCV.out;have hz8:(j:Int)<8:=by omega
 clear hk hT2 hK2 hj HB HN HA HCV;go_upto_region 3 with fail;generalize cvtW w2 s 5=W3 at HS ⊢;generalize cvtA w2=A0 at HS ⊢;generalize z0c w2 s 5=c0 at HS ⊢;clear s0 hcv hz8;have HX:=hd_ (zgg U g (m+1) 4 W3 HS.out.tape (by omega) (by omega))
 go_wp2_with fail;refine HX.out.mono ?_;rintro e w4 ⟨k,rfl,hk,hT4,hK4⟩;dsimp only;obtain⟨j4,rfl⟩:∃ j:Nat,k=j:=⟨k.toNat,by have:=hk.1;omega⟩
 have hj4:j4≤3:=by have:=hk.2.1 (by omega);omega
 have HS4:=hd_ (HS.out.next hK4 hT4);clear hk hT4 hK4 HX HS;go_wp2_with fail;go_loopw [4,5] (fun v i wr=>∃(j n:Nat) (A:Option Addr) (c:Nat),v=.slice A n c∧i=.int .i64 j∧n+j≤23∧j≤3∧Hid (∃ m',m'+j≤m+5∧zp7 w wr U g m' v n)) (fun _ i _=>(intOf i).toNat)
 case atStart=>exact⟨j4,s.size,some A0,c0,rfl,rfl,by omega,hj4,hd_ ⟨m+1+1,by omega,HS4.out⟩⟩
 case round =>
  obtain⟨j,n,A,c,rfl,rfl,hnj,hj3,HI⟩:=hrel;clear HS4;by_cases h1:0<j
  ·obtain⟨m',hm',hS⟩:=HI.out;have HS:=hd_ hS;have HM:=hd_ hm';have q1:decide ((0:Int)<(j:Int))=true:=by simp;omega
   have HX:=hd_ (zgg U g m' 3 wr hS.tape (by omega) (by omega))
   have HH:=hd_ (And.intro h1 (And.intro hnj hj3));clear hS hm' HI hnj hj3;go_wp2_with fail;refine HX.out.mono ?_;rintro e w5 ⟨k,rfl,hk,hT5,hK5⟩;dsimp only;have hk3:0≤k∧k<3:=⟨hk.1,hk.2.1 (by omega)⟩
   have q3:IntKind.i64.wrap (97+k)=97+k:=by rw[IntKind.wrap_i64];omega
   have q4:IntKind.u8.wrap (97+k)=97+k:=by simp [IntKind.wrap,IntKind.bits,IntKind.signed];omega
   have HS5:=hd_ ((HS.out.next hK5 hT5).under ((Below.refl w5.heap.size w5).alloc (Nat.le_refl _) (.cells #[.int .u8 (97+k)] 5)));have HY:Hid ((w5.alloc (.cells #[.int .u8 (97+k)] 5)).cell? ⟨w5.heap.size,0,none⟩=some (.int .u8 (97+k))):=hd_ ((z0l w5 [.int .u8 (97+k)] 5).cell 0);clear hk hT5 hK5 HX HS;go_wp2_with (at_builtin;refine zp4 rfl rfl HS5.out.own rfl rfl (k:=97+k) (by omega) HY.out (by have:=HH.out;omega) (by have:=HS5.out.kept.size;exact this) ?_;intro A' c' w6 ho hg)
   have HN:=hd_ (HS5.out.push ho hg);have q5:IntKind.i64.wrap ((j:Int) - 1)=((j - 1:Nat):Int):=by rw[IntKind.wrap_i64];have:=HH.out;omega
   have hj3:=HH.out.2.2;clear ho hg q3 q4;go_wp2_with fail;go_roundw
   case rel=>exact⟨j - 1,n+1,A',c',rfl,by first | rfl | go_num | (have:=HH.out;refine congrArg _ ?_;unfold wrap64;omega),by have:=HH.out;omega,by have:=HH.out;omega,hd_ ⟨m'+1,by have:=HM.out;have:=HH.out;omega,HN.out⟩⟩
   case measure=>have:=HH.out;simp [intOf,wrap64];omega
  ·have hj0:j=0:=by omega
   subst hj0;obtain⟨m',hm',hS⟩:=HI.out;have HF:Hid (WbPost w U g (m+5) (.returned (.slice A n c)) wr):=hd_ ⟨_,n,rfl,by omega,hS.own,hS.tape.mono (by omega),hS.kept⟩
   clear hS hm' HI;go_wp2_with fail;go_ret;exact HF.out
end Go.Proofs.YtegeboijhifmcaaGreatDoor
