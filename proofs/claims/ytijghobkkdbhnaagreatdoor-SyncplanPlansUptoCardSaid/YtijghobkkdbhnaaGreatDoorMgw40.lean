/- A part. -/
import Derived.Test.YtijghobkkdbhnaaGreatDoorMgw37
import Derived.Test.YtijghobkkdbhnaaGreatDoorMgw36
import Derived.Test.YtijghobkkdbhnaaGreatDoorMgw39
set_option linter.unusedVariables false
set_option linter.unusedSimpArgs false
set_option maxHeartbeats 16000000
set_option maxRecDepth 100000
namespace Go.Proofs.YtijghobkkdbhnaaGreatDoor
open Go.Proofs.Tryz
open Go.RowKit
theorem zgv {p:ByteArray}(h:p=knA∨p=knB):z2s p=true∧p.size≤200∧p.size≤140737488355328:=by
 rcases h with rfl | rfl
 ·exact⟨by decide,by decide,by decide⟩
 ·exact⟨by decide,by decide,by decide⟩
theorem knEvery (g bl be bn:Nat)(Ae:Option Addr)(ce:Nat)(w:World)(hk:Chk w g (.slice none 0 0) (.slice none 0 0) 1 ⟨#[]⟩ ⟨#[]⟩ (.slice Ae 2 ce) (.slice none 0 0) bl be bn)(hL:z7w w bl zgu)(hne:bl≠be)(hE:KnE w Ae ce){F:ByteArray→Option Edt}(hM:z7x w be F):
  Calls prog 141 #[.pointer (some ⟨g,0,none⟩)] w fun e w'=>e=.returned (.int .i64 0)∧w.grownBy w' (some be):=by
 obtain⟨-,-,-,k5,-,-,-,-⟩:=z4a hk;have hobj:=z2f.obj hM;have HE:=hd_ hE;have HK:=hd_ hk;have HL:=hd_ hL;have HM:=hd_ hM;clear hE hk hL hM;go_enter func141,ntmps141;go_wp2_with fail;go_loopw [3,13] (fun b i wr=>∃(k:Nat) (b0:ByteArray) (F:ByteArray→Option Edt),i=.int .i64 k∧k≤2∧b=.string b0∧b0.size≤200∧Hid ((k=0→b0=z2l)∧(k=1→b0=knA))∧w.grownBy wr (some be)∧z7x wr be F) (fun _ i _=>2 - (intOf i).toNat)
 case atStart=>exact⟨0,z2l,F,rfl,by omega,rfl,by decide,hd_ ⟨fun _=>rfl,fun e=>by cases e⟩,World.grownBy.refl _ _,HM.out⟩
 case round =>
  obtain⟨k,b0,G,rfl,hk,rfl,hb0,HB0,hg,hM⟩:=hrel;have hKr:=Blk.turn HK.out hobj hg;have hLr:=z2f.grown HL.out hg (by intro e;injection e with e;exact hne e)
  have hEr:KnE wr Ae ce:=Row.turn HE.out (by decide) hobj hg
  by_cases hlt:k<2
  ·obtain⟨ad,p,rfl,hab,⟨x0,x1,x2,x3,x4,x5,x6,x7,x8,x9,x10,x11⟩,hp0,hp1⟩:=hEr.at_ k hlt;have hpp:p=knA∨p=knB:=by
    rcases (by omega:k=0∨k=1) with h | h
    ·exact .inl (hp0 h)
    ·exact .inr (hp1 h)
   obtain⟨hv,h200,hxs⟩:=zgv hpp;have HST:Hid ((k+1=0→p=z2l)∧(k+1=1→p=knA)):=hd_ ⟨fun e=>by omega,fun e=>hp0 (by omega)⟩
   have hcase:b0=z2l∨(b0≠z2l∧z2u b0 p<0):=by
    rcases (by omega:k=0∨k=1) with h | h
    ·exact .inl (HB0.out.1 h)
    ·rw[HB0.out.2 h,hp1 h];exact .inr ⟨by decide,by decide⟩
   have hgx:=hg.trans (zb3 ((Below.refl wr.heap.size wr).alloc (Nat.le_refl _) (.cells #[.string p,.int .i64 1,.int .i64 1,.bool false,.bool false,.bool false,.int .u64 1,.int .i64 1,.int .i64 0,.string ⟨#[]⟩,.int .i64 0,.int .i64 0] 100)) _);have HVA:=hd_ (fun W=>zb5 p true hv W hxs);have hX:=z0l wr [.string p,.int .i64 1,.int .i64 1,.bool false,.bool false,.bool false,.int .u64 1,.int .i64 1,.int .i64 0,.string ⟨#[]⟩,.int .i64 0,.int .i64 0] 100;have hKx:=Blk.alloc hKr (.cells #[.string p,.int .i64 1,.int .i64 1,.bool false,.bool false,.bool false,.int .u64 1,.int .i64 1,.int .i64 0,.string ⟨#[]⟩,.int .i64 0,.int .i64 0] 100);have hLx:=z2f.alloc hLr (.cells #[.string p,.int .i64 1,.int .i64 1,.bool false,.bool false,.bool false,.int .u64 1,.int .i64 1,.int .i64 0,.string ⟨#[]⟩,.int .i64 0,.int .i64 0] 100);have hMx:=z2f.alloc hM (.cells #[.string p,.int .i64 1,.int .i64 1,.bool false,.bool false,.bool false,.int .u64 1,.int .i64 1,.int .i64 0,.string ⟨#[]⟩,.int .i64 0,.int .i64 0] 100);have qs:¬(200:Int)<(p.size:Int):=by omega
   have qs':¬ 200<p.size:=by omega
   have q2:decide ((k:Int)<2)=true:=by simp;omega
   have h200':=h200;clear hv hp0 hp1 hpp hKr hLr hEr hM HB0 h200;rcases hcase with hbe | ⟨hbe,hcp⟩
   ·have s1:=ze9 hbe;clear hbe;go_wp2_with fail;refine (HVA.out _).mono ?_;rintro e w1 ⟨rfl,rfl⟩;go_upto_region 9 with fail;clear s1 x0 x1 x2 x3 x4 x5 x6 x7 x8 x9 x10 x11;generalize wr.alloc (.cells #[.string p,.int .i64 1,.int .i64 1,.bool false,.bool false,.bool false,.int .u64 1,.int .i64 1,.int .i64 0,.string ⟨#[]⟩,.int .i64 0,.int .i64 0] 100)=W1 at hgx hX hKx hLx hMx ⊢;generalize wr.heap.size=g5 at hX ⊢;obtain⟨c0,c1,c2,c3,c4,c5,c6,c7,c8,c9,c10,c11⟩:=z84 hX;have HON:=hd_ (knOne p g bl be bn (some ad) ce _ hKx hLx);go_wp2_with fail;refine HON.out.mono ?_;rintro e w2 ⟨rfl,hb2⟩;have hX2:=hX.below hb2 hX.lt;have hg2:=hgx.trans (zb3 hb2 _);have hK2:=Blk.below hKx hb2 (Blk.lt hKx);have hM2:=z2f.below hMx hb2;obtain⟨w3,hup,hM3,hg3,hs3⟩:=z2f.update (w:=w2.drew) hM2 z7v underlying201 p (knE p);have hup':(Instr.mapUpdate 201 (.map (some be)) (.string p) (.agg #[.string p,.int .i64 1,.int .i64 1,.bool false,.bool false,.bool false,.int .u64 1,.int .i64 1,.int .i64 0,.string ⟨#[]⟩,.int .i64 0,.int .i64 0])).run prog w2.drew=.ok () w3:=hup;have hX3:=Blk.grown (w:=w2.drew) hX2 hg3 (by intro e;injection e with e;subst e;obtain⟨_,_,ho⟩:=z2f.obj hM2;unfold Blk at hX2;rw[ho] at hX2;cases hX2)
    have hgw3:w.grownBy w3 (some be):=(hg2.trans (zb3 (Below.refl _ _).drew _)).trans hg3;obtain⟨-,-,-,-,-,-,k8,-⟩:=z4a hK2;clear c0 c1 c2 c3 c4 c5 c6 c7 c8 c9 c10 c11;obtain⟨c0,c1,c2,c3,c4,c5,c6,c7,c8,c9,c10,c11⟩:=z84 hX2;clear hup;go_wp2_with fail;go_still_tail 7,(by kernel_rfl)
    change wpList _ _ _ _ _ w2.drew;clear c0 c1 c2 c3 c4 c5 c6 c7 c8 c9 c10 c11;obtain⟨c0,c1,c2,c3,c4,c5,c6,c7,c8,c9,c10,c11⟩:=z84 hX3;go_wp2_with fail;go_roundw
    case rel=>exact⟨k+1,p,_,by go_num,by omega,rfl,by omega,HST,hgw3,hM3⟩
    case measure=>simp [intOf];omega
   ·have s1:=zea hbe;have s2:=zeb hbe;clear hbe;have HCP:=hd_ (z3m b0 p (wr.alloc (.cells #[.string p,.int .i64 1,.int .i64 1,.bool false,.bool false,.bool false,.int .u64 1,.int .i64 1,.int .i64 0,.string ⟨#[]⟩,.int .i64 0,.int .i64 0] 100)) (by omega) hxs)
    have qc:¬ 0≤z2u b0 p:=by omega
    go_wp2_with fail;refine (HVA.out _).mono ?_;rintro e w1 ⟨rfl,rfl⟩;go_wp2_with fail;refine HCP.out.mono ?_;rintro e w1 ⟨rfl,hq1⟩;have hb1:=hq1.below (World.heap (wr.alloc (.cells #[.string p,.int .i64 1,.int .i64 1,.bool false,.bool false,.bool false,.int .u64 1,.int .i64 1,.int .i64 0,.string ⟨#[]⟩,.int .i64 0,.int .i64 0] 100))).size;have hX:=hX.below hb1 hX.lt;have hKx:=Blk.below hKx hb1 (Blk.lt hKx);have hLx:=z2f.below hLx hb1;have hMx:=z2f.below hMx hb1;have hgx:=hgx.trans (zb3 hb1 _);clear hq1 hb1;go_upto_region 9 with fail;clear s1 s2 qc hcp x0 x1 x2 x3 x4 x5 x6 x7 x8 x9 x10 x11;have W1:=w1;generalize wr.heap.size=g5 at hX ⊢;obtain⟨c0,c1,c2,c3,c4,c5,c6,c7,c8,c9,c10,c11⟩:=z84 hX;have HON:=hd_ (knOne p g bl be bn (some ad) ce _ hKx hLx);go_wp2_with fail;refine HON.out.mono ?_;rintro e w2 ⟨rfl,hb2⟩;have hX2:=hX.below hb2 hX.lt;have hg2:=hgx.trans (zb3 hb2 _);have hK2:=Blk.below hKx hb2 (Blk.lt hKx);have hM2:=z2f.below hMx hb2;obtain⟨w3,hup,hM3,hg3,hs3⟩:=z2f.update (w:=w2.drew) hM2 z7v underlying201 p (knE p);have hup':(Instr.mapUpdate 201 (.map (some be)) (.string p) (.agg #[.string p,.int .i64 1,.int .i64 1,.bool false,.bool false,.bool false,.int .u64 1,.int .i64 1,.int .i64 0,.string ⟨#[]⟩,.int .i64 0,.int .i64 0])).run prog w2.drew=.ok () w3:=hup;have hX3:=Blk.grown (w:=w2.drew) hX2 hg3 (by intro e;injection e with e;subst e;obtain⟨_,_,ho⟩:=z2f.obj hM2;unfold Blk at hX2;rw[ho] at hX2;cases hX2)
    have hgw3:w.grownBy w3 (some be):=(hg2.trans (zb3 (Below.refl _ _).drew _)).trans hg3;obtain⟨-,-,-,-,-,-,k8,-⟩:=z4a hK2;clear c0 c1 c2 c3 c4 c5 c6 c7 c8 c9 c10 c11;obtain⟨c0,c1,c2,c3,c4,c5,c6,c7,c8,c9,c10,c11⟩:=z84 hX2;clear hup;go_wp2_with fail;go_still_tail 7,(by kernel_rfl)
    change wpList _ _ _ _ _ w2.drew;clear c0 c1 c2 c3 c4 c5 c6 c7 c8 c9 c10 c11;obtain⟨c0,c1,c2,c3,c4,c5,c6,c7,c8,c9,c10,c11⟩:=z84 hX3;go_wp2_with fail;go_roundw
    case rel=>exact⟨k+1,p,_,by go_num,by omega,rfl,by omega,HST,hgw3,hM3⟩
    case measure=>simp [intOf];omega
  ·have q2:decide ((k:Int)<2)=false:=by simp;omega
   go_wp2_with fail;go_ret;exact⟨rfl,hg⟩
theorem znt {l r:Pat}(h:zad l r=0):z7j l=0∧z7j r=0∧za7 l=za7 r∧l.rest=r.rest:=by
 unfold zad at h;by_cases h1:z7j l=0
 ·by_cases h2:z7j r=0
  ·by_cases h3:za7 l=za7 r∧l.rest=r.rest
   ·exact⟨h1,h2,h3⟩
   ·rw[if_neg (by simp [h1]),if_neg (by simp [h2]),if_pos (by
     by_cases h4:za7 l=za7 r
     ·exact .inr fun h5=>h3 ⟨h4,h5⟩
     ·exact .inl h4)] at h
    cases h
  ·rw[if_neg (by simp [h1]),if_pos h2] at h;cases h
 ·rw[if_pos h1] at h;cases h
def symB (p q:Pat):Bool:=(List.range (zam p q).parts.length).all fun k=>z9x (((zal p q).parts[k]?).getD z2l) (((zam p q).parts[k]?).getD z2l) || !z9x (((zam p q).parts[k]?).getD z2l) (((zal p q).parts[k]?).getD z2l)
theorem znu {p q:Pat}(h:symB p q=true):zn6 p q:=by
 unfold symB at h;intro k hx hy hw;have:=List.all_eq_true.1 h k (List.mem_range.2 hy);rw[List.getElem?_eq_getElem hx,List.getElem?_eq_getElem hy] at this;simp only[Option.getD_some] at this
 rw[hw] at this;simpa using this
def oneB (x:EntP):Bool:=match x.hs with
 | []=>true
 | [h]=>match zan x.l h with
  | none=>false
  | some m=>symB x.l h && symB x.r (zd0 x.l x.r m)
 | _=>false
def refB (es:List EntP):Bool:=(es.all oneB) && (List.range es.length).all fun i=>(List.range i).all fun j=>match es[i]?,es[j]? with
 | some x,some y=>symB x.l y.l && symB x.r y.r
 | _,_=>false
theorem znv:∀ k<8,refB (zga k)=true:=by decide +kernel
structure znw (es:List zdd):Prop where
 map:zdo es
 one:∀ x∈es,x.hs=[]∨∃ q m,x.hs=[q]∧zd1 x.l.1 x.r.1 q.1 m∧zn6 x.l.1 q.1∧zn6 x.r.1 (zd0 x.l.1 x.r.1 m)
 sym:∀(i j:Nat) (hi:i<es.length) (hj:j<i),zn6 es[i].l.1 (es[j]'(Nat.lt_trans hj hi)).l.1∧zn6 es[i].r.1 (es[j]'(Nat.lt_trans hj hi)).r.1
theorem znx {es:List zdd}{k:Nat}(hk:k<8)(h:es.map zdd.pl=zga k):znw es:=by
 have hM:=(zgi hk h).1.map;have hB:=znv k hk;rw[← h] at hB;unfold refB at hB;simp only[Bool.and_eq_true,List.all_eq_true,List.mem_range,List.length_map,List.mem_map,forall_exists_index,and_imp,forall_apply_eq_imp_iff₂] at hB
 obtain⟨h1,h2⟩:=hB;refine⟨hM,fun x hx=>?_,fun i j hi hj=>?_⟩
 ·have ho:=h1 x hx;have hn:=(hM.ok x hx).nar;obtain⟨xl,xr,hv,hs⟩:=x;match hs,ho,hn with
  | [],_,_=>exact .inl rfl
  | [q],ho,hn =>
   obtain⟨m,hm⟩:=hn q (List.mem_cons_self ..);refine .inr ⟨q,m,rfl,hm,?_⟩;unfold oneB zdd.pl at ho;simp only[List.map_cons,List.map_nil] at ho
   have e:zan xl.1 q.1=some m:=hm.meet;rw[e] at ho;simp only[Bool.and_eq_true] at ho
   exact⟨znu ho.1,znu ho.2⟩
  | _ :: _ :: _,ho,_=>exact absurd ho (by simp [oneB,zdd.pl])
 ·have:=h2 i hi j hj;rw[List.getElem?_map,List.getElem?_map,List.getElem?_eq_getElem hi,List.getElem?_eq_getElem (Nat.lt_trans hj hi)] at this;simp only[Option.map_some,Bool.and_eq_true] at this
  exact⟨znu this.1,znu this.2⟩
theorem zny (es:List zdd)(v:Value)(w:World)(hE:zdn w v es)(hM:znw es):
  Calls prog 7 #[v] w fun e w'=>e=.returned (.tuple #[.int .i64 0,.int .i64 0])∧Below w.heap.size w w':=by
 obtain⟨A,c,rfl,-⟩:=id hE.1;have hR:∀ x∈es,∀ X,Below w.heap.size w X→Calls prog 31 #[x.val] X (znf X x.r.v x.r.1.rest):=by
  intro x hx X hX;have hI:=(hE.2 x hx).below hX;have hO:=hM.one x hx;obtain⟨H,hc,hhv⟩:=hI.holes;obtain⟨⟨pl,Al,cl⟩,⟨pr,Ar,cr⟩,hv,hs⟩:=x;change hv=.slice H hs.length hc at hhv;subst hhv;rcases hO with ho | ⟨q,m,ho,hn,hs1,hs2⟩
  ·change hs=[] at ho;subst ho;exact zng Al Ar H pl.parts.length pr.parts.length cl cr hc pl.rest pr.rest X
  ·change hs=[q] at ho;subst ho;obtain⟨ad,rfl,hab,s0,s1⟩:=zd7.at_ (k:=0) hI.h (by simp)
   have hq:=hI.h.2 q (List.mem_cons_self ..);obtain⟨q,B,b⟩:=q;have hcc:1≤hc:=by
    obtain⟨A',c',e,h1,-⟩:=hI.h.1;injection e with e1 e2 e3
    subst e3;exact h1
   have e0:ad.add (0 * 2)=ad:=by unfold Addr.add;simp
   rw[e0] at s0 s1;exact znh pl pr q m Al B Ar cl b cr ad hc X hI.l hI.r hq hn hs1 hs2 rfl hcc s0 s1
 refine znl w A c es _ hE hM.map.len (fun x hx X hX=>?_) (fun x hx X hX=>?_) hR (fun T hT W hW=>rcT16 T hT _ W A c es (hE.below hW) hM.map.len (fun i j hi hj=>⟨hM.map.apart i j hi hj,hM.sym i j hi hj⟩) (fun x hx X hX=>hR x hx X (z0r hW hX)) (fun w' hb=>⟨rfl,z0r hW hb⟩))
 ·have hI:=(hE.2 x hx).below hX;obtain⟨h1,h2,h3,h4⟩:=znt (hM.map.ok x hx).rule;obtain⟨⟨pl,Al,cl⟩,⟨pr,Ar,cr⟩,hv,hs⟩:=x;exact zmy false pl pr Al Ar cl cr X hI.l hI.r h1 h2 h3 h4
 ·have hI:=(hE.2 x hx).below hX;have hg:=(hM.map.ok x hx).reg;obtain⟨H,hc,hhv⟩:=hI.holes;obtain⟨⟨pl,Al,cl⟩,⟨pr,Ar,cr⟩,hv,hs⟩:=x;change hv=.slice H hs.length hc at hhv;subst hhv;have:=zn8 pl hs Al H cl hc X hI.l hI.h (Nat.le_trans hI.n (by decide))
  rw[show zd8 pl hs=0 from hg] at this;exact this
theorem znz (es:List zdd)(v:Value)(p:ByteArray)(w:World)(he:Env w)(hE:zdn w v es)(hM:znw es)(hF:zdz es p)(hz:p.size≤1000000):
  Calls prog 38 #[v,.string p] w (zc8 w (zdy es p)):=by
 refine znk es v p w he hE hM.map.len hz (zny es v w hE hM) fun x hx X hX=>?_;have hI:=(hE.2 x hx).below hX;obtain⟨h1,h2,h3,h4⟩:=znt (hM.map.ok x hx).rule;have hf:=hF x hx;obtain⟨⟨pl,Al,cl⟩,⟨pr,Ar,cr⟩,hv,hs⟩:=x;exact zmz false pl pr p Al Ar cl cr X (he.below hX) hz hI.l hI.r h1 h2 h3 h4 hf (fun Y caps cv hY hc hfo=>zns pr caps Ar cr cv Y ((he.below hX).below hY) (hI.r.below hY) hc hfo)
theorem zo2 {D:List Rev}{f:ByteArray→Option ByteArray}{m:Int}{p:ByteArray}{n:Nat}(h:zmd D n):
  (decide (0<(rAt D p m).num)=false→zfq D f m p=none)∧(decide (0<(rAt D p m).num)=true→(f p=none→zfq D f m p=none)∧(z2v (rAt D p m).act=false→zfq D f m p=none)∧∀ s,f p=some s→z2v (rAt D p m).act=true→zfq D f m p=some ⟨p,(rAt D p m).num,s⟩):=by
 obtain⟨h1,h2⟩:=dp_at h p m;unfold zfq;cases hg:z30 D p (fun v=>decide (v.chg≤m)) with
 | none =>
  rw[hg] at h2;refine⟨fun _=>rfl,fun h3=>?_⟩;rw[h3] at h2;cases h2
 | some r =>
  rw[hg] at h1 h2;have h1:r=rAt D p m:=h1;subst h1;refine⟨fun h3=>(by rw[h3] at h2;cases h2),fun _=>⟨fun e=>(by simp only;rw[e];split <;> rfl),fun e=>(by simp only;rw[if_neg (by rw[e];decide)]),fun s e1 e2=>(by simp only;rw[if_pos e2,e1];rfl)⟩⟩
def RwPost (w:World)(l:List Hav)(e:Ending)(w':World):Prop:=∃ v,e=.returned (.tuple #[v,.int .i64 0])∧w'.ownsRow w.heap.size 96 3 v l.length (l.flatMap Hav.cells)∧Below w.heap.size w w'
theorem zo3 (D:List Rev)(n:Nat)(es:List zdd)(m:Int)(dv dr mv:Value)(w:World)(he:Env w)(hR:z45 w dv D)(hE:zdn w mv es)(hD:zmd D n)(hl:D.length≤1000)(hM:znw es)(hS:zfz es)(hf:zfp (zdy es)):
  Calls prog 9 #[.agg #[dv,dr],mv,.int .i64 m] w (RwPost w (zfr D (zdy es) m)):=by
 obtain⟨Ar,cr,rfl,-⟩:=id hR;have hBox:=z0l w [.slice Ar D.length cr,dr] 27;have hA:Below w.heap.size w (w.alloc (.cells #[.slice Ar D.length cr,dr] 27)):=(Below.refl _ _).alloc (Nat.le_refl _) _;have HCK:=hd_ (fun X (hX:Below w.heap.size w X)=>zny es mv X (hE.below hX) hM);have HAT:=hd_ (fun X (hX:Below w.heap.size w X) p=>zhe D p m (.slice Ar D.length cr) dr X (hR.below hX) (by omega))
 have HFW:=hd_ (fun X (hX:Below w.heap.size w X) p (hp:p∈zfm)=>znz es mv p X (he.below hX) (hE.below hX) hM (hS.fits p hp) (zg0 p hp).2);have HEV:=hd_ (fun X (hX:Below w.heap.size w X)=>he.below hX);have HRV:=hd_ (fun X (hX:Below w.heap.size w X)=>hR.below hX);have HSM:=hd_ hS.small;have HDP:=hd_ hD;have HEND:=hd_ (fun out (h:zlk D (zdy es) m D.length out)=>zln h (zmf hD) hf);have HA:=hd_ hA;have HBX:=hd_ hBox;generalize zfr D (zdy es) m=WL at HEND ⊢;clear he hR hE hS hM hD hf hA hBox;go_enter func9,ntmps9;go_upto_region 1 with fail;generalize w.alloc (.cells #[.slice Ar D.length cr,dr] 27)=W1 at HA HBX ⊢;have HC1:=hd_ (HCK.out W1 HA.out);go_wp2_with fail;refine HC1.out.mono ?_;rintro e w2 ⟨rfl,hb⟩;dsimp only;have HB2:=hd_ (z0r HA.out hb);have HBX2:=hd_ (HBX.out.below hb HBX.out.lt);clear hb HCK HC1;have d0:w2.cell? ⟨w.heap.size,0,none⟩=some (.slice Ar D.length cr):=HBX2.out.cell 0;go_wp2_with fail;go_loopw [10,11] (fun lv i wr=>∃(k:Nat) (out:List Hav) (A:Option Addr) (c:Nat),lv=.slice A out.length c∧i=.int .i64 k∧k≤D.length∧Hid (zlk D (zdy es) m k out∧Below w2.heap.size w2 wr∧wr.ownsRow w2.heap.size 96 3 (.slice A out.length c) out.length (out.flatMap Hav.cells))) (fun _ i _=>D.length - (intOf i).toNat)
 case atStart=>exact⟨0,[],none,0,rfl,rfl,Nat.zero_le _,hd_ ⟨refW_0 _ _ _,Below.refl _ _,World.ownsRow_nil _ _ _ _⟩⟩
 case round =>
  obtain⟨k,out,A,c,rfl,rfl,hk,HI⟩:=hrel;clear d0;have HBD:=hd_ (HBX2.out.below HI.out.2.1 HBX2.out.lt);have d0:wr.cell? ⟨w.heap.size,0,none⟩=some (.slice Ar D.length cr):=HBD.out.cell 0;have d1:wr.cell? ⟨w.heap.size,1,none⟩=some dr:=HBD.out.cell 1;have HBW:=hd_ (z0r HB2.out HI.out.2.1);by_cases hlt:k<D.length
  ·obtain⟨ad,rfl,hab,hc⟩:=(HRV.out wr HBW.out).at_ hlt;have HNO:=hd_ (fun h=>refW_no HI.out.1 hlt h);have HPT:=hd_ (fun x h=>zlm (x:=x) HI.out.1 hlt HDP.out.six h);have H6:=hd_ (HDP.out.six _ (List.getElem_mem hlt));generalize D[k]=r at hc HNO HPT H6;obtain⟨c0,-⟩:=hc;have HT1:=hd_ (HAT.out wr HBW.out r.path);have HWC:=hd_ (zo2 (f:=zdy es) (m:=m) (p:=r.path) HDP.out);have HFP:=hd_ (fun X (hX:Below w.heap.size w X)=>HFW.out X hX r.path H6.out);have HSP:=hd_ (HSM.out r.path H6.out);have HLT:=hd_ hlt;generalize rAt D r.path m=v at HT1 HWC;generalize hbo:decide (0<v.num)=bo at HT1 HWC;generalize zdy es r.path=o at HFP HSP HWC;clear hab hbo hlt;go_wp2_with fail;refine HT1.out.mono ?_;rintro e w3 ⟨rfl,hb⟩;dsimp only;have HV:=hd_ (z0l w3 [.string v.path,.int .i64 v.num,.int .i64 v.chg,.int .i64 v.act,.int .i64 v.ty.base,.bool v.ty.k,.bool v.ty.l,.bool v.ty.x,.int .u64 v.sum,.int .i64 v.size,.string v.frm,.int .i64 v.fnum] 90);have hb4:=z0r hb ((Below.refl w3.heap.size w3).alloc (Nat.le_refl _) (.cells #[.string v.path,.int .i64 v.num,.int .i64 v.chg,.int .i64 v.act,.int .i64 v.ty.base,.bool v.ty.k,.bool v.ty.l,.bool v.ty.x,.int .u64 v.sum,.int .i64 v.size,.string v.frm,.int .i64 v.fnum] 90));have HB4:=hd_ (z0r HBW.out hb4);have HL4:=hd_ (z0r HI.out.2.1 hb4);have HO4:=hd_ (z0n HI.out.2.2 hb4);have HRF:=hd_ HI.out.1;clear hb hb4 c0 d0 d1 HT1 HI;go_upto_region 10 with fail;generalize w3.alloc (.cells #[.string v.path,.int .i64 v.num,.int .i64 v.chg,.int .i64 v.act,.int .i64 v.ty.base,.bool v.ty.k,.bool v.ty.l,.bool v.ty.x,.int .u64 v.sum,.int .i64 v.size,.string v.frm,.int .i64 v.fnum] 90)=W4 at HV HB4 HL4 HO4 ⊢;generalize w3.heap.size=g4 at HV ⊢;have HFC:=hd_ (HFP.out W4 HB4.out);go_wp2_with fail;refine HFC.out.mono ?_;rintro e w5 ⟨rfl,hb⟩;dsimp only;have HV5:=hd_ (HV.out.below hb HV.out.lt);have HB5:=hd_ (z0r HB4.out hb);have HL5:=hd_ (z0r HL4.out hb);have HO5:=hd_ (z0n HO4.out hb);clear hb HFC HV;cases bo with
   | false =>
    have HN:=hd_ (HNO.out (HWC.out.1 rfl));go_wp2_with fail;go_roundw
    case rel=>exact⟨k+1,out,_,_,rfl,by go_num,HLT.out,hd_ ⟨HN.out,HL5.out,HO5.out⟩⟩
    case measure=>have:=HLT.out;simp [intOf];omega
   | true =>
    have HW2:=hd_ (HWC.out.2 rfl);clear HWC;cases o with
    | none =>
     have HN:=hd_ (HNO.out (HW2.out.1 rfl));go_wp2_with fail;go_roundw
     case rel=>exact⟨k+1,out,_,_,rfl,by go_num,HLT.out,hd_ ⟨HN.out,HL5.out,HO5.out⟩⟩
     case measure=>have:=HLT.out;simp [intOf];omega
    | some s =>
     have HGO:=hd_ (zi3 v w5);obtain⟨y0,y1,y2,y3,y4,y5,y6,y7,y8,y9,y10,y11⟩:=z84 HV5.out;have hs200:=HSP.out s rfl;cases hlv:z2v v.act with
     | false =>
      have HN:=hd_ (HNO.out (HW2.out.2.1 hlv));rw[hlv] at HGO;clear hlv hs200;go_wp2_with fail;refine HGO.out.mono ?_;rintro e w6 ⟨rfl,hb⟩;dsimp only;have HL6:=hd_ (z0r HL5.out hb);have HO6:=hd_ (z0n HO5.out hb);clear hb y0 y1 y2 y3 y4 y5 y6 y7 y8 y9 y10 y11;go_wp2_with fail;go_roundw
      case rel=>exact⟨k+1,out,_,_,rfl,by go_num,HLT.out,hd_ ⟨HN.out,HL6.out,HO6.out⟩⟩
      case measure=>have:=HLT.out;simp [intOf];omega
     | true =>
      have HN:=hd_ (HPT.out _ (HW2.out.2.2 s rfl hlv));rw[hlv] at HGO;clear hlv;go_wp2_with fail;refine HGO.out.mono ?_;rintro e w6 ⟨rfl,hb⟩;dsimp only;have HV6:=hd_ (HV5.out.below hb HV5.out.lt);have HB6:=hd_ (z0r HB5.out hb);have HL6:=hd_ (z0r HL5.out hb);have HO6:=hd_ (z0n HO5.out hb);have HPU:Hid (Calls prog 40 #[.slice A out.length c,.agg #[.string r.path,.int .i64 v.num,.string s]] w6 (zo0 w6 (zlc out ⟨r.path,v.num,s⟩))):=hd_ (zo1 out _ ⟨r.path,v.num,s⟩ w6 (HEV.out w6 HB6.out) (Row.of_own HO6.out) (fun x hx=>zg0 _ (HRF.out.2.1 x hx)) (zg0 _ H6.out).1 (zg0 _ H6.out).2 (by have:=zlo HRF.out;omega))
      have y1:=HV6.out.cell 1;have z200:¬(200<(s.size:Int)):=by omega
      clear hb y0 y2 y3 y4 y5 y6 y7 y8 y9 y10 y11;go_wp2_with fail;refine HPU.out.mono ?_;rintro e w7 ⟨v7,rfl,hown,hb⟩;dsimp only;obtain⟨A7,c7,rfl⟩:=z0o hown;have HL7:=hd_ (z0r HL6.out hb);have HO7:=hd_ (z4p hown HL6.out.size);clear hb hown y1 z200;go_wp2_with fail;go_roundw
      case rel=>exact⟨k+1,zlc out ⟨r.path,v.num,s⟩,A7,c7,rfl,by go_num,HLT.out,hd_ ⟨HN.out,HL7.out,HO7.out⟩⟩
      case measure=>have:=HLT.out;simp [intOf];omega
  ·have hke:k=D.length:=by omega
   subst hke;have hge:¬((D.length:Int)<(D.length:Int)):=by omega
   have HB:=hd_ HBW.out;have HO:=hd_ (z4p HI.out.2.2 HB2.out.size);have e:=HEND.out out HI.out.1;subst e;go_wp2_with fail;go_ret2;exact⟨_,rfl,HO.out,HB.out⟩
theorem Env.keptT {w w':World}{U g m:Nat}(he:Env w)(hT:zgm w U g m)(hK:z6y [g] w w'):Env w':=by
 obtain⟨x,hx⟩:=he;obtain⟨l,A,c,a,h1,-⟩:=hT;refine⟨x,(World.cell?_of_block (hK.block _ (z03 hx) ?_)).trans hx⟩;intro e;rw[List.mem_singleton] at e;have h2:=h1.cell 0;rw[← e,hx] at h2;cases h2
def HvPost (w:World)(U g m:Nat)(e:Ending)(w':World):Prop:=∃(v:Value) (l:List Hav),e=.returned v∧z4b w' v l∧zf6 l∧(l.length≤6∧∀ x∈l,x.path∈zfm)∧zgm w' U g m∧z6y [g] w w'∧∀ x,v.ownBlock=some x→w.heap.size≤x
structure WlOk (WL:List Hav):Prop where
 ok:zf6 WL
 num:∀ x∈WL,1≤x.num∧x.num≤100000
 len:WL.length≤6
 six:∀ x∈WL,x.path∈zfm
theorem wl_ok {D:List Rev}{n k:Nat}{es:List zdd}{j:Int}(hD:zmd D n)(hn:n≤1000)(hk:k<8)(he:es.map zdd.pl=zga k):WlOk (zfr D (zdy es) j):=by
 have hf:zfp (zdy es):=(zfy k).of_congr (zgi hk he).2;refine⟨zfu (zmf hD) hf,fun x hx=>?_,Nat.le_trans (List.length_filterMap_le _ _) (by decide),zfv⟩
 obtain⟨p,hp,e⟩:=List.mem_filterMap.1 hx;obtain⟨-,-,r,hr,-,e4,-⟩:=zft e;have h1:=zmf hD r hr;have h2:=zmi hD r hr;omega
theorem zob (U g m n:Nat)(D:List Rev)(dv dr:Value)(w:World)(he:Env w)(hT:zgm w U g m)(hU:U≤w.heap.size)(hm:m≤100000)(hR:z45 w dv D)(hD:zmd D n)(hn:n≤1000)(htop:0≤zl3 D∧zl3 D≤100000):
  Calls prog 24 #[.pointer (some ⟨g,0,none⟩),.agg #[dv,dr]] w (HvPost w U g (m+26)):=by
 obtain⟨Ar,cr,rfl,-⟩:=id hR;have hg:=hT.ltU;have hBx:=z0l w [.slice Ar D.length cr,dr] 27;have hA:Below w.heap.size w (w.alloc (.cells #[.slice Ar D.length cr,dr] 27)):=(Below.refl _ _).alloc (Nat.le_refl _) _;have HGU:Hid (g<w.heap.size∧U≤w.heap.size):=hd_ ⟨by omega,hU⟩
 have HDL:Hid (D.length≤1000):=hd_ (by have:=hD.len;omega)
 have HD:=hd_ hD;have HN:=hd_ hn;go_enter func24,ntmps24;go_upto_region 1 with fail;generalize w.alloc (.cells #[.slice Ar D.length cr,dr] 27)=W1 at hBx hA ⊢;have HE1:=hd_ (he.below hA);have HT1:=hd_ (hT.below hA);have HR1:=hd_ (z45.below hR hA);have HA:=hd_ (z6y.below (S:=[g]) hA);have hns:=hT.nosb;have HC:Hid (∀ w',z6y [g] W1 w'→w'.cell? ⟨w.heap.size,0,none⟩=some (.slice Ar D.length cr)∧w'.cell? ⟨w.heap.size,1,none⟩=some dr):=hd_ fun w' hK=>by
  have:=hK.blk hBx (by simp;have:=HGU.out;omega)
  exact⟨this.cell 0,this.cell 1⟩
 have HMA:=hd_ (fun X (h:zgm X U g m)=>zmv U g m X h (by omega))
 have HTO:=hd_ (fun X (h:z6y [g] W1 X)=>zl5 D (.slice Ar D.length cr) dr X (z45.keptN HR1.out h HT1.out.nosb) (by have:=HDL.out;omega))
 have HNX:=hd_ (fun X (h:zgm X U g (m+1))=>zgn U g (m+1) (zl3 D+2) X h (by omega) (by omega))
 have HWA:=hd_ (fun k (es:List zdd) v (j:Int) X (hk:k<8) (hes:es.map zdd.pl=zga k) (hE:zdn X v es) (h:z6y [g] W1 X)=>zo3 D n es j (.slice Ar D.length cr) dr v X (HE1.out.keptT HT1.out h) (z45.keptN HR1.out h HT1.out.nosb) hE HD.out HDL.out (znx hk hes) (zgi hk hes).1 ((zfy k).of_congr (zgi hk hes).2));have q2:IntKind.i64.wrap (zl3 D+2)=zl3 D+2:=by rw[IntKind.wrap_i64];omega
 clear he hT hU hR hD hn hBx hA hns hg htop;go_cut [5] (fun v wx=>Hid (∃(WL:List Hav) (B:Nat),WlOk WL∧wx.ownsRow B 96 3 v WL.length (WL.flatMap Hav.cells)∧w.heap.size≤B∧B≤wx.heap.size∧zgm wx U g (m+2)∧z6y [g] w wx))
 case first =>
  go_region_held3 (fun w'=>z6y [g] W1 w'∧w'.cell? ⟨w.heap.size,0,none⟩=some (.slice Ar D.length cr)∧w'.cell? ⟨w.heap.size,1,none⟩=some dr)
   ((refine z3n ?_ (HC.out _);first | with_reducible assumption | with_reducible exact z6y.below (Below.refl _ _) | with_reducible exact z6y.below (Below.refl _ _).drew))
   (first
    | (go_at_call 22;(with_reducible refine (HMA.out _ (by first | with_reducible exact HT1.out | with_reducible exact HT1.out.below (Below.refl _ _).drew)).mono ?_);rintro e' w2 ⟨k,es,v,rfl,hk8,hes,hE2,hT2,hK2⟩;have hS2:z6y [g] W1 w2:=by first | with_reducible exact hK2 | exact (z6y.below (Below.refl _ _).drew).trans hK2)
    | (go_at_call 23;(with_reducible refine (HTO.out _ hS2).mono ?_);rintro e' w3 ⟨rfl,hb3⟩;have hS3:z6y [g] W1 w3:=hS2.under hb3;have hT3:=hT2.below hb3)
    | (go_at_call 15;(with_reducible refine (HNX.out _ hT3).mono ?_);rintro e' w4 ⟨j,rfl,hj,hT4,hK4⟩;have hS4:=hS3.trans hK4)
    | (go_at_call 9;(with_reducible refine (HWA.out k es v j w4 hk8 hes (hE2.keptN ((z6y.below hb3).trans hK4) hT2.nosb) hS4).mono ?_);rintro e' w5 ⟨v5,rfl,hown,hb5⟩;have hS5:z6y [g] W1 w5:=hS4.under hb5))
  all_goals
   go_wp2_with fail;go_meet
   exact hd_ ⟨zfr D (zdy es) j,w4.heap.size,wl_ok HD.out HN.out hk8 hes,hown,Nat.le_trans HA.out.size hS4.size,hb5.size,hT4.below hb5,HA.out.trans hS5⟩
 case rest =>
  obtain⟨WL,B,hW,hown,hB,hB2,hT,hK⟩:=hcut.out;obtain⟨A5,c5,rfl⟩:=z0o hown;have hl6:=hW.len;have HW:=hd_ hW;have HI0:Hid (HlSt w wc U g (m+2) B wc.heap.size WL 0 [] (.slice A5 WL.length c5) none 0):=hd_ ⟨hK,hT,⟨_,hown,fun j _=>rfl⟩,World.ownsRow_nil _ _ _ _,hB,fun x e=>(hown.lt x e).2,HGU.out.1,HGU.out.2,Nat.le_refl _⟩;have hI0sz:=hK.size;clear hcut hW hown hB hB2 hT hK HE1 HT1 HR1 HC HMA HTO HNX HWA q2;have HGU0:Hid (w.heap.size≤wc.heap.size):=hd_ hI0sz;generalize wc.heap.size=B2 at HI0 HGU0;go_wp2_with fail;go_loopw [7,8] (fun ov i wr=>∃(k:Nat) (out:List Hav) (A2:Option Addr) (c2:Nat),ov=.slice A2 out.length c2∧i=.int .i64 k∧k≤WL.length∧Hid (HvSt WL k out∧∃ m',m'≤m+2+4 * k∧HlSt w wr U g m' B B2 WL k out (.slice A5 WL.length c5) A2 c2)) (fun _ i _=>WL.length - (intOf i).toNat)
  case atStart=>exact⟨0,[],none,0,rfl,rfl,Nat.zero_le _,hd_ ⟨hv_0 WL,m+2,by omega,HI0.out⟩⟩
  case round =>
   obtain⟨k,out,A2,c2,rfl,rfl,hk,HI⟩:=hrel;clear HI0;by_cases hlt:k<WL.length
   ·obtain⟨hHS,m',hm',hHL⟩:=HI.out;obtain⟨gv,c,elv,hHR⟩:=hHL.into hlt;injection elv with e1 e2 e3
    subst e1 e3;have HXE:=hd_ (fun y (hy:zl1 WL[k] y) (hn:∀ x∈out,x.loc≠y.loc)=>hv_put hHS HW.out.ok hlt hy hn);have HXL:Hid (z3q (WL[k]).loc=true∧1≤(WL[k]).num∧(WL[k]).num≤100000):=hd_ ⟨(zf7 (HW.out.ok.ok _ (List.getElem_mem hlt))).2.1,HW.out.num _ (List.getElem_mem hlt)⟩;have HHS:=hd_ (And.intro (hv_skip hHS) (Nat.le_trans hHS.len hk));have HLT:=hd_ hlt;have HR:=hd_ hHR;have HM:=hd_ hm';have hm2:m'≤100030:=by omega
    have HX:=hd_ (zgn U g m' 6 wr hHR.tape (by omega) (by omega))
    generalize WL[k]=x at HR HXE HXL;clear hHS hHL hHR hm' e2 HI;go_wp2_with fail;refine HX.out.mono ?_;rintro e w2 ⟨k1,rfl,hk1,hT2,hK2⟩;dsimp only;have HR2:=hd_ (HR.out.next hK2 hT2);clear hk1 hT2 hK2 HX HR;by_cases h1:k1=0
    ·have q1:(k1 == 0)=true:=by simpa using h1
     have HB:=hd_ HR2.out.back;clear h1;go_wp2_with fail;go_roundw
     case rel=>exact⟨k+1,out,A2,c2,rfl,by go_num,by have:=HLT.out;omega,hd_ ⟨HHS.out.1,m'+1,by have:=HM.out;omega,HB.out⟩⟩
     case measure=>have:=HLT.out;simp [intOf];omega
    ·have q1:(k1 == 0)=false:=by simpa using h1
     have HX:=hd_ (zgn U g (m'+1) 6 w2 HR2.out.tape (by omega) (by omega))
     clear h1;go_wp2_with fail;refine HX.out.mono ?_;rintro e w3 ⟨k2,rfl,hk2,hT3,hK3⟩;dsimp only;have HR3:=hd_ (HR2.out.next hK3 hT3);obtain⟨b,q2⟩:∃ b,(k2 == 0)=b:=⟨_,rfl⟩;clear hk2 hT3 hK3 HX HR2 q1;go_upto_if 35 with fail
     clear q2;go_cut [] (fun wx=>Hid (∃ y,zmj w wx U g (m'+1+1) B B2 WL k out gv c5 A2 c2 y∧y.path=x.path∧y.loc=x.loc∧1≤y.num∧y.num≤x.num+1))
     case first =>
      obtain⟨⟨y0,y1,y2⟩,f1,f2⟩:=HR3.out.cells;cases b with
      | true =>
       have q3:IntKind.i64.wrap (x.num+1)=x.num+1:=by rw[IntKind.wrap_i64];have:=HXL.out;omega
       have hzl:(k:Int)<(WL.length:Int):=by have:=HLT.out;omega
       have HS:=hd_ (HR3.out.set_ 1 (.int .i64 (x.num+1)) ⟨x.path,x.num+1,x.loc⟩ (by omega) rfl)
       go_wp2_with fail;go_meet
       exact hd_ ⟨⟨x.path,x.num+1,x.loc⟩,HS.out,rfl,rfl,by have:=HXL.out;show 1≤x.num+1;omega,Int.le_refl _⟩
      | false =>
       go_wp2_with fail;go_meet
       exact hd_ ⟨x,HR3.out,rfl,rfl,HXL.out.2.1,by omega⟩
     case rest =>
      obtain⟨y,hy,hy1,hy2,hy3⟩:=hcut.out;have HY:=hd_ hy;have HYF:=hd_ (And.intro hy1 (And.intro hy2 hy3));have HLO:=hd_ (zl7 wc);clear hcut hy hy1 hy2 hy3 HR3;go_wp2_with fail;refine HLO.out.mono ?_;rintro e w4 ⟨rfl,hw4⟩;dsimp only;have hb4:Below wc.heap.size wc w4:=hw4 ▸ (Below.refl _ _).alloc (Nat.le_refl _) _;have HBL:Hid (Blk w4 wc.heap.size 9 (zkz.map .string)):=hd_ (hw4 ▸ z0l wc _ _);have HGL:Hid (wc.heap.size∉[g]):=hd_ (by have:=HY.out.kept.size;have:=HY.out.gU;simp;omega)
      have HR4:=hd_ (HY.out.under hb4);have HX:=hd_ (zgn U g (m'+1+1) 8 w4 HR4.out.tape (by omega) (by omega))
      clear hw4 hb4 HLO HY;generalize wc.heap.size=gl at HBL HGL ⊢;go_wp2_with fail;refine HX.out.mono ?_;rintro e w5 ⟨k3,rfl,hk3,hT5,hK5⟩;dsimp only;obtain⟨j3,rfl⟩:∃ j:Nat,k3=j:=⟨k3.toNat,by have:=hk3.1;omega⟩
      have hj8:j3<8:=by have:=hk3.2.1 (by omega);omega
      have HR5:=hd_ (HR4.out.next hK5 hT5);have z0:w5.cell? ⟨gl,j3,none⟩=some (.string (zkz[j3]'hj8)):=((hK5.blk HBL.out HGL.out).cell j3).trans (by rw[List.getElem?_map,List.getElem?_eq_getElem (show j3<zkz.length from hj8)];rfl)
      have HQ:Hid (z3q (zkz[j3]'hj8)=true):=hd_ (zl0 _ (List.getElem_mem _));generalize zkz[j3]'hj8=q at z0 HQ;have hz8:(j3:Int)<8:=by omega
      have HX6:=hd_ (zgn U g (m'+1+1+1) 6 w5 HR5.out.tape (by omega) (by omega))
      clear hk3 hT5 hK5 HX HR4 HBL HGL hj8;go_wp2_with fail;refine HX6.out.mono ?_;rintro e w3 ⟨k2,rfl,hk2,hT3,hK3⟩;dsimp only;have HR3:=hd_ (HR5.out.next hK3 hT3);obtain⟨b,q2⟩:∃ b,(k2 == 0)=b:=⟨_,rfl⟩;clear hk2 hT3 hK3 HX6 HR5 z0 hz8;go_upto_if 51 with fail
      clear q2;go_cut [] (fun wx=>Hid (∃ y,zmj w wx U g (m'+1+1+1+1) B B2 WL k out gv c5 A2 c2 y∧zl1 x y))
      case first =>
       obtain⟨⟨y0,y1,y2⟩,f1,f2⟩:=HR3.out.cells;cases b with
       | true =>
        have hzl:(k:Int)<(WL.length:Int):=by have:=HLT.out;omega
        have HS:=hd_ (HR3.out.set_ 2 (.string q) ⟨y.path,y.num,q⟩ (by omega) rfl)
        go_wp2_with fail;go_meet
        exact hd_ ⟨⟨y.path,y.num,q⟩,HS.out,HYF.out.1,HQ.out,HYF.out.2.2⟩
       | false =>
        go_wp2_with fail;go_meet
        exact hd_ ⟨y,HR3.out,HYF.out.1,by rw[HYF.out.2.1];exact HXL.out.1,HYF.out.2.2⟩
      case rest =>
       obtain⟨y',hy,hy1⟩:=hcut.out;have HY:=hd_ hy;have HTO:=hd_ hy1;clear hcut hy hy1 HR3 HYF HQ;have HAT:Hid (Calls prog 59 #[.slice A2 out.length c2,.string y'.loc] wc fun e w'=>∃ zz:Hav,e=.returned (.tuple #[.agg #[.string zz.path,.int .i64 zz.num,.string zz.loc],.bool (z5y Hav.loc out y'.loc).isSome])∧Below wc.heap.size wc w'):=hd_ ((zo8 out _ y'.loc wc (Row.of_own HY.out.out) (by have:=HHS.out.2;omega)).mono fun e w' h=>⟨_,h⟩)
       obtain⟨⟨y0,y1,y2⟩,-,-⟩:=HY.out.cells;have hzl:(k:Int)<(WL.length:Int):=by have:=HLT.out;omega
       cases ho:z5y Hav.loc out y'.loc with
       | none =>
        rw[ho] at HAT;have HNL:=hd_ (z62.1 ho);clear ho;go_wp2_with fail;refine HAT.out.mono ?_;rintro e w8 ⟨zz,rfl,hb⟩;dsimp only;have HR9:=hd_ ((HY.out.under hb).under ((Below.refl w8.heap.size w8).alloc (Nat.le_refl _) (.cells #[.string zz.path,.int .i64 zz.num,.string zz.loc] 96)));clear hb y0 y1 y2 HAT HY;go_upto_region 13 with fail;generalize w8.alloc (.cells #[.string zz.path,.int .i64 zz.num,.string zz.loc] 96)=W9 at HR9 ⊢;generalize w8.heap.size=g9;obtain⟨⟨y0,y1,y2⟩,-,-⟩:=HR9.out.cells;have HRA:=hd_ (HR9.out.under ((Below.refl W9.heap.size W9).alloc (Nat.le_refl _) (.cells #[.string y'.path,.int .i64 y'.num,.string y'.loc] 96)));have hrow:=z0i W9 [.string y'.path,.int .i64 y'.num,.string y'.loc] 96 3 1 rfl (by unfold maxLen;omega) W9.heap.size rfl
        have hol:out.length≤6:=by have:=HHS.out.2;omega
        go_wp2_with (at_builtin;refine z0j rfl rfl z54 HRA.out.out rfl hrow rfl (by simp [Value.oneCell']) (by omega) (by unfold maxLen;omega) HRA.out.b2 ?_;intro A' c' w6 hown hgr hob)
        have HN:=hd_ (HRA.out.push hown hgr);have HV:=hd_ (HXE.out y' HTO.out HNL.out);clear hown hgr hob hrow y0 y1 y2;go_wp2_with fail;go_roundw
        case rel=>exact⟨k+1,out++[y'],A',c',by simp,by go_num,by have:=HLT.out;omega,hd_ ⟨HV.out,m'+1+1+1+1,by have:=HM.out;omega,HN.out⟩⟩
        case measure=>have:=HLT.out;simp [intOf];omega
       | some hz =>
        rw[ho] at HAT;clear ho;go_wp2_with fail;refine HAT.out.mono ?_;rintro e w8 ⟨zz,rfl,hb⟩;dsimp only;have HR9:=hd_ ((HY.out.under hb).under ((Below.refl w8.heap.size w8).alloc (Nat.le_refl _) (.cells #[.string zz.path,.int .i64 zz.num,.string zz.loc] 96))).back;clear hb y0 y1 y2 HAT HY;go_wp2_with fail;go_roundw
        case rel=>exact⟨k+1,out,A2,c2,rfl,by go_num,by have:=HLT.out;omega,hd_ ⟨HHS.out.1,m'+1+1+1+1,by have:=HM.out;omega,HR9.out⟩⟩
        case measure=>have:=HLT.out;simp [intOf];omega
   ·have hke:k=WL.length:=by omega
    obtain⟨hHS,m',hm',hHL⟩:=HI.out;have HF:Hid (HvPost w U g (m+26) (.returned (.slice A2 out.length c2)) wr):=hd_ ⟨_,out,rfl,Row.of_own hHL.out,hv_end hHS,⟨by have:=hHS.len;omega,fun x hx=>by obtain⟨j,hj,-,e⟩:=hHS.of x hx;rw[e];exact HW.out.six _ (List.getElem_mem hj)⟩,hHL.tape.mono (by omega),hHL.kept,fun x e=>Nat.le_trans HGU0.out (hHL.out.lt x e).1⟩
    clear hHS hHL HI;subst hke;go_wp2_with fail;go_ret;exact HF.out
