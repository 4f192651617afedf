/- A part. -/
import Derived.Test.YtijghobkkdbhnaaGreatDoorMgw26
import Derived.Test.YtijghobkkdbhnaaGreatDoorMgw27
set_option linter.unusedVariables false
set_option linter.unusedSimpArgs false
set_option maxHeartbeats 8000000
set_option maxRecDepth 100000
namespace Go.Proofs.YtijghobkkdbhnaaGreatDoor
open Go.RowKit
section
variable {hs ws : List Hav} {op dt : List ByteArray}
theorem z6n {α:Type}{f:α→Bool}{a:α}(h:f a=true):(some a).filter f=some a:=by
 show (if f a=true then some a else none)=_
 rw[if_pos h]
theorem z6o {α:Type}{f:α→Bool}{a:α}(h:¬ f a=true):(some a).filter f=none:=by
 show (if f a=true then some a else none)=_
 rw[if_neg h]
theorem z6p {α:Type}{k:α→ByteArray}{l:List α}(h:z5x k l)(f:α→Bool)(p:ByteArray):z5y k (l.filter f) p=(z5y k l p).filter f:=by
 induction l with
 | nil=>rfl
 | cons a l ih =>
  rw[z63,List.filter_cons];by_cases e:k a=p
  ·rw[if_pos e];by_cases fa:f a=true
   ·rw[if_pos fa,z63,if_pos e,z6n fa]
   ·rw[if_neg fa,ih h.tail];have:z5y k l p=none:=z62.2 fun b hb eb=>z5z (h.head b hb) (e.trans eb.symm);rw[this,z6o fa];rfl
  ·rw[if_neg e];by_cases fa:f a=true
   ·rw[if_pos fa,z63,if_neg e];exact ih h.tail
   ·rw[if_neg fa];exact ih h.tail
theorem z6q {α β:Type}{f g:α→Option β}:∀ {l:List α},(∀ x∈l,f x=g x)→l.filterMap f=l.filterMap g
 | [],_=>rfl
 | a :: l,h=>by
  rw[List.filterMap_cons,List.filterMap_cons,h a (List.mem_cons_self ..),z6q fun x hx=>h x (List.mem_cons_of_mem _ hx)]
end
def zgw (revs:List Rev)(p:ByteArray):List Rev:=revs.filter fun r=>decide (r.path=p)
theorem zgx {revs:List Rev}{p:ByteArray}{v:Rev}:v∈zgw revs p↔v∈revs∧v.path=p:=by
 unfold zgw;simp
theorem zgy (a b:List Rev)(p:ByteArray):zgw (a++b) p=zgw a p++zgw b p:=by unfold zgw;rw[List.filter_append]
def zgz (D:List Rev)(p:ByteArray):Option Rev:=(zgw D p).getLast?
def atM (m:Int)(o v:Rev):Rev:=if v.chg≤m then v else o
def rAt (D:List Rev)(p:ByteArray)(m:Int):Rev:=(zgw D p).foldl (atM m) z2m
def gS (p:ByteArray)(f:Rev→Bool)(o:Option Rev)(r:Rev):Option Rev:=if r.path=p∧f r=true then (match o with
  | none=>some r
  | some b=>if b.num<r.num then some r else some b) else o
theorem zh9 (D:List Rev)(p:ByteArray)(f:Rev→Bool):z30 D p f=D.foldl (gS p f) none:=rfl
theorem gS_far {p:ByteArray}{f:Rev→Bool}{o:Option Rev}{r:Rev}(h:¬(r.path=p∧f r=true)):gS p f o r=o:=if_neg h
theorem gS_more {p:ByteArray}{f:Rev→Bool}{o:Option Rev}{r:Rev}(h:r.path=p∧f r=true)(ho:∀ b,o=some b→b.num<r.num):gS p f o r=some r:=by
 unfold gS;rw[if_pos h];cases o with
 | none=>rfl
 | some b=>exact if_pos (ho b rfl)
theorem zha (D:List Rev)(p:ByteArray)(f:Rev→Bool):z30 D p f=z30 (zgw D p) p f:=by
 rw[zh9,zh9];unfold zgw;rw[List.foldl_filter];congr 1
 funext o r
 by_cases h:r.path=p
 ·simp [h]
 ·rw[gS_far (fun e=>h e.1)];simp [h]
theorem zhb (m:Int)(p:ByteArray):∀(l:List Rev) (o:Option Rev),l.Pairwise (fun a b=>a.num<b.num)→(∀ v∈l,0<v.num∧v.path=p)→(∀ b,o=some b→0<b.num∧∀ v∈l,b.num<v.num) →
  zeh (l.foldl (gS p (fun v=>decide (v.chg≤m))) o)=l.foldl (atM m) (zeh o)∧(l.foldl (gS p (fun v=>decide (v.chg≤m))) o).isSome=decide (0<(l.foldl (atM m) (zeh o)).num)
 | [],o,_,_,ho=>by
  refine⟨rfl,?_⟩;cases o with
  | none=>rfl
  | some b=>have:=(ho b rfl).1;simp [zeh,this]
 | v :: l,o,hs,hn,ho=>by
  obtain⟨h1,h2⟩:=List.pairwise_cons.1 hs;have hv:=hn v (List.mem_cons_self ..);have hn2:∀ x∈l,0<x.num∧x.path=p:=fun x hx=>hn x (List.mem_cons_of_mem _ hx);rw[List.foldl_cons,List.foldl_cons];by_cases hc:v.chg≤m
  ·have e2:atM m (zeh o) v=zeh (some v):=by unfold atM;rw[if_pos hc];rfl
   rw[gS_more ⟨hv.2,by simpa using hc⟩ (fun b hb=>(ho b hb).2 v (List.mem_cons_self ..)),e2]
   exact zhb m p l (some v) h2 hn2 (fun b hb=>by injection hb with hb;subst hb;exact⟨hv.1,h1⟩)
  ·have e2:atM m (zeh o) v=zeh o:=by unfold atM;rw[if_neg hc]
   rw[gS_far (by simp [hc]),e2]
   exact zhb m p l o h2 hn2 (fun b hb=>⟨(ho b hb).1,fun x hx=>(ho b hb).2 x (List.mem_cons_of_mem _ hx)⟩)
open Go.Sort (grow)
def zkr (w:World)(pl:List Syn)(e:Ending)(w':World):Prop:=∃ v,e=.returned (.tuple #[v,.int .i64 0])∧z4z w' v pl∧Below w.heap.size w w'
theorem zks:∀(n:Nat) (hs ws:List Hav),(z6i n hs ws).length≤n:=by
 intro n;induction n with
 | zero=>intro hs ws;exact Nat.le_refl _
 | succ n ih =>
  intro hs ws;cases hs with
  | nil =>
   cases ws with
   | nil=>exact Nat.zero_le _
   | cons y ws=>exact Nat.succ_le_succ (ih [] ws)
  | cons x hs =>
   cases ws with
   | nil=>exact Nat.succ_le_succ (ih hs [])
   | cons y ws =>
    unfold z6i;split
    ·exact Nat.succ_le_succ (ih _ _)
    ·split
     ·exact Nat.succ_le_succ (ih _ _)
     ·split
      ·exact Nat.le_succ_of_le (ih _ _)
      ·exact Nat.succ_le_succ (ih _ _)
theorem zkt {hs ws:List Hav}{op dt:List ByteArray}(h1:zf6 hs)(h2:zf6 ws):∀ x∈zfe hs ws op dt,x.frm=zjp hs x.path:=by
 intro x hx;obtain⟨i1,i2⟩:=zfj (op:=op) (dt:=dt) h1 h2;have hg:z6f (zfe hs ws op dt) x.path=some x:=z65 i1 hx;rw[i2,Option.map_eq_some_iff] at hg;obtain⟨y,e1,e2⟩:=hg;have e3:x.frm=y.frm:=by rw[← e2];rfl
 rw[e3];unfold zjp;rcases zfi e1 with⟨a,e4,-,rfl⟩ | ⟨b,e4,-,rfl⟩ | ⟨a,b,e4,-,-,rfl⟩
 ·rw[e4];rfl
 ·rw[e4];rfl
 ·rw[e4];rfl
theorem zku {hs:List Hav}(h:zf6 hs):∀ x∈hs,x.path.size≤200∧x.loc.size≤200:=fun x hx=>by
 obtain⟨h1,h2,-⟩:=zf7 (h.ok x hx);exact⟨(zf8 h1).2.1,(zf8 h2).2.1⟩
theorem znc (A:Option Addr)(n a:Nat)(b:Bool)(w:World):
  Calls Tryz.prog 63 #[.agg #[.slice A n a,.bool b],.slice none 0 0] w (zma w (.slice A n a) b):=by
 have h2:=(z0l w [.slice A n a,.bool b] 68).alloc (.cells #[.slice none 0 0,.bool false,.slice none 0 0] 78);have h4:=z0l (w.alloc (.cells #[.slice A n a,.bool b] 68)) [.slice none 0 0,.bool false,.slice none 0 0] 78;have hA:Below w.heap.size w ((w.alloc (.cells #[.slice A n a,.bool b] 68)).alloc (.cells #[.slice none 0 0,.bool false,.slice none 0 0] 78)):=((Below.refl _ _).alloc (Nat.le_refl _) _).alloc (by simp) _
 rw[World.size_alloc] at h4;have H2:=hd_ h2;have H4:=hd_ h4;have HA:=hd_ hA;clear h2 h4 hA;go_enter Tryz.func63,Tryz.ntmps63;go_upto_region 1 with fail;generalize (w.alloc (.cells #[.slice A n a,.bool b] 68)).alloc (.cells #[.slice none 0 0,.bool false,.slice none 0 0] 78)=W1 at H2 H4 HA ⊢;go_wp2_with fail;go_loopw [5,20] (fun v i wr=>v=.slice none 0 0∧i=.int .i64 0∧wr=W1) (fun _ i _=>0)
 case atStart=>exact⟨rfl,rfl,rfl⟩
 case round =>
  obtain⟨rfl,rfl,rfl⟩:=hrel;rename ∀ a w,Code.wp _ (Code.seq (Code.seq (Code.region 9 _ _) _) _) _ a w→_=>hk7
  have HK7:=hd_ hk7;clear hk7;go_wp2_with fail;exact HK7.out _ _ (zmb _ (by kernel_rfl) w wr A n a w.heap.size (w.heap.size+1) b H2.out H4.out HA.out (by omega) _ _ _ _ _ _ _ _ _ _ _ _ _ _ _ _ _ _ _ _ _ _ _ _ _ _ _ _ _ _ _ _ _ _ _ _ _ _ _ _ _ _ _ _ _ _ _ _ _ _ _ _ _ _ _ _ _ _ _ _ _ _ _ _ _ _ _ _ _ _ _ _ _ _ _ _ _ _ _ _ _ _ _ _ _ _ _ _ _ _ _ _ _ _ _ _ _ _ _ _ _ _ _ _ _ _ _ _ _ _ _ _ _ _ _ _ _ _ _)
theorem znd {w:World}{base:Nat}{e:TypeId}{A:Option Addr}{c:Nat}{v0 v1:Value}(h:w.ownsRow base e 2 (.slice A (0+1) c) (0+1) [v0,v1]):
  ∃ g,A=some ⟨g,0,none⟩∧1≤c∧w.cell? ⟨g,0,none⟩=some v0∧w.cell? ⟨g,1,none⟩=some v1:=by
 have h2:=h.2;rcases h2 with⟨-,hn⟩ | ⟨g,cap,cur,hv,-,-,hnc,-⟩
 ·omega
 ·injection hv with e1 e2 e3
  subst e1 e3;exact⟨g,rfl,by omega,h.cells (g:=g) rfl 0 _ rfl,h.cells (g:=g) rfl 1 _ rfl⟩
def SmFst (W wr:World)(k:Nat)(v:Value):Prop:=Below W.heap.size W wr∧(v=.slice none 0 0∨k=1∧∃(g cap:Nat) (A:Option Addr) (n c:Nat) (b:Bool),v=.slice (some ⟨g,0,none⟩) 1 cap∧1≤cap∧wr.cell? ⟨g,0,none⟩=some (.slice A n c)∧wr.cell? ⟨g,1,none⟩=some (.bool b))
theorem zne (p h:Pat)(A B:Option Addr)(a b hg ch:Nat)(w:World)(hp:zae w (.slice A p.parts.length a) p)(hh:zae w (.slice B h.parts.length b) h)(hsym:zn6 p h)(hc:1≤ch)(h0:w.cell? ⟨hg,0,none⟩=some (.slice B h.parts.length b))(h1:w.cell? ⟨hg,1,none⟩=some (.bool h.rest)):
  Calls Tryz.prog 63 #[.agg #[.slice A p.parts.length a,.bool p.rest],.slice (some ⟨hg,0,none⟩) 1 ch] w (zma w (.slice A p.parts.length a) p.rest):=by
 have h2:=(z0l w [.slice A p.parts.length a,.bool p.rest] 68).alloc (.cells #[.slice none 0 0,.bool false,.slice none 0 0] 78);have h4:=z0l (w.alloc (.cells #[.slice A p.parts.length a,.bool p.rest] 68)) [.slice none 0 0,.bool false,.slice none 0 0] 78;have hA:Below w.heap.size w ((w.alloc (.cells #[.slice A p.parts.length a,.bool p.rest] 68)).alloc (.cells #[.slice none 0 0,.bool false,.slice none 0 0] 78)):=((Below.refl _ _).alloc (Nat.le_refl _) _).alloc (by simp) _
 rw[World.size_alloc] at h4;have H2:Hid (zbt _ _ _ _):=hd_ h2;have H4:=hd_ h4;have HA:=hd_ hA;have HME:=hd_ (fun X (hX:Below w.heap.size w X)=>zm9 p h A B a b X (hp.below hX) (hh.below hX) hsym);have HC:Hid (∀ X,Below w.heap.size w X→X.cell? ⟨hg,0,none⟩=some (.slice B h.parts.length b)∧X.cell? ⟨hg,1,none⟩=some (.bool h.rest)):=hd_ fun X hX=>⟨z04 h0 hX (z03 h0),z04 h1 hX (z03 h1)⟩;clear h2 h4 hA hp hh hsym h0 h1;go_enter Tryz.func63,Tryz.ntmps63;go_upto_region 1 with fail;generalize (w.alloc (.cells #[.slice A p.parts.length a,.bool p.rest] 68)).alloc (.cells #[.slice none 0 0,.bool false,.slice none 0 0] 78)=W1 at H2 H4 HA ⊢;go_wp2_with fail;go_loopw [5,20] (fun v i wr=>∃ k:Nat,i=.int .i64 k∧k≤1∧Hid (SmFst W1 wr k v)) (fun _ i _=>1 - (intOf i).toNat)
 case atStart=>exact⟨0,rfl,Nat.zero_le _,hd_ ⟨Below.refl _ _,Or.inl rfl⟩⟩
 case round =>
  obtain⟨k,rfl,hk,HI⟩:=hrel;by_cases hlt:k<1
  ·have hk0:k=0:=by omega
   subst hk0;obtain⟨hlow,rfl | ⟨h,-⟩⟩:=HI.out
   case inr=>omega
   obtain⟨s0,s1⟩:=HC.out wr (z0r HA.out hlow);have hX:Below wr.heap.size wr (wr.alloc (.cells #[.slice B h.parts.length b,.bool h.rest] 68)):=(Below.refl _ _).alloc (Nat.le_refl _) _;have HX5:=hd_ (z0l wr [.slice B h.parts.length b,.bool h.rest] 68);have HL5:=hd_ (z0r hlow hX);clear hX hlow HI;go_upto_region 5 with fail;clear s0 s1;generalize wr.alloc (.cells #[.slice B h.parts.length b,.bool h.rest] 68)=W5 at HX5 HL5 ⊢;generalize wr.heap.size=g7 at HX5 ⊢;obtain⟨y0,y1⟩:=(⟨HX5.out.cell 0,HX5.out.cell 1⟩:W5.cell? ⟨g7,0,none⟩=some (.slice B h.parts.length b)∧W5.cell? ⟨g7,1,none⟩=some (.bool h.rest));have HP5:=hd_ (H2.out.low HL5.out);have x0:=HP5.out.c0;have x1:=HP5.out.c1;have HC1:=hd_ (HME.out W5 (z0r HA.out HL5.out));go_wp2_with fail;refine HC1.out.mono ?_;clear HC1 x0 x1 y0 y1;rintro e w6 ⟨hb,⟨hmn,rfl⟩ | ⟨m,A6,c6,hmm,rfl,hown,hin⟩⟩
   ·dsimp only;have hX:Below w6.heap.size w6 (w6.alloc (.cells #[.slice none 0 0,.bool false] 68)):=(Below.refl _ _).alloc (Nat.le_refl _) _;have HN:=hd_ (z0r HL5.out (z0r hb hX));clear hb hX hmn;go_wp2_with fail;go_roundw
    case rel=>exact⟨1,by go_num,Nat.le_refl _,hd_ ⟨HN.out,Or.inl rfl⟩⟩
    case measure=>simp [intOf]
   ·dsimp only;have hX:Below w6.heap.size w6 (w6.alloc (.cells #[.slice A6 m.parts.length c6,.bool m.rest] 68)):=(Below.refl _ _).alloc (Nat.le_refl _) _;have HN:=hd_ (z0r HL5.out (z0r hb hX));have HX7:=hd_ (z0l w6 [.slice A6 m.parts.length c6,.bool m.rest] 68);clear hb hX hmm hown hin;go_upto_region 7 with fail;generalize w6.alloc (.cells #[.slice A6 m.parts.length c6,.bool m.rest] 68)=W7 at HN HX7 ⊢;generalize w6.heap.size=g8 at HX7 ⊢;obtain⟨y0,y1⟩:=(⟨HX7.out.cell 0,HX7.out.cell 1⟩:W7.cell? ⟨g8,0,none⟩=some (.slice A6 m.parts.length c6)∧W7.cell? ⟨g8,1,none⟩=some (.bool m.rest));have hrow:=z0i W7 [.slice A6 m.parts.length c6,.bool m.rest] 68 2 1 rfl (by unfold maxLen;omega) W7.heap.size rfl
    have HON:=hd_ (World.ownsRow_nil (W7.alloc (.cells #[.slice A6 m.parts.length c6,.bool m.rest] 68)) W7.heap.size 68 2);have HN8:=hd_ (z0r HN.out ((Below.refl W7.heap.size W7).alloc (Nat.le_refl _) (.cells #[.slice A6 m.parts.length c6,.bool m.rest] 68)));go_wp2_with (at_builtin;refine z0j rfl rfl zdi HON.out rfl hrow rfl (by simp [Value.oneCell']) (by omega) (by unfold maxLen;omega) (by simp) ?_;intro A' c' w8 hown hgr hob)
    have hb8:=zlv hgr rfl;have HN9:Hid (SmFst W1 w8 1 (.slice A' (0+1) c')):=hd_ (by
     obtain⟨g,rfl,hc1,q0,q1⟩:=znd hown;exact⟨z0r HN8.out hb8,Or.inr ⟨rfl,g,c',A6,m.parts.length,c6,m.rest,rfl,hc1,q0,q1⟩⟩)
    clear hown hgr hob hb8 y0 y1 hrow;go_roundw
    case rel=>exact⟨1,by go_num,Nat.le_refl _,HN9⟩
    case measure=>simp [intOf]
  ·have hk1:k=1:=by omega
   subst hk1;obtain⟨hlow,rfl | ⟨-,g,cap,Am,nm,cm,bm,rfl,hcap,hm0,hm1⟩⟩:=HI.out
   ·have HB:=hd_ hlow;clear hlow HI;rename ∀ a w,Code.wp _ (Code.seq (Code.seq (Code.region 9 _ _) _) _) _ a w→_=>hk7
    have HK7:=hd_ hk7;clear hk7;go_wp2_with fail;exact HK7.out _ _ (zmb _ (by kernel_rfl) w wr A p.parts.length a w.heap.size (w.heap.size+1) p.rest (H2.out.low HB.out) (H4.out.below HB.out H4.out.lt) (z0r HA.out HB.out) (by omega) _ _ _ _ _ _ _ _ _ _ _ _ _ _ _ _ _ _ _ _ _ _ _ _ _ _ _ _ _ _ _ _ _ _ _ _ _ _ _ _ _ _ _ _ _ _ _ _ _ _ _ _ _ _ _ _ _ _ _ _ _ _ _ _ _ _ _ _ _ _ _ _ _ _ _ _ _ _ _ _ _ _ _ _ _ _ _ _ _ _ _ _ _ _ _ _ _ _ _ _ _ _ _ _ _ _ _ _ _ _ _ _ _ _ _ _ _ _ _)
   ·have HB:=hd_ hlow;have HM0:=hd_ hm0;have HM1:=hd_ hm1;clear hlow HI hm0 hm1;rename ∀ a w,Code.wp _ (Code.seq (Code.seq (Code.region 9 _ _) _) _) _ a w→_=>hk7
    have HK7:=hd_ hk7;clear hk7;go_wp2_with fail;exact HK7.out _ _ (zmc _ (by kernel_rfl) w wr A Am p.parts.length a w.heap.size (w.heap.size+1) g cap nm cm p.rest bm (H2.out.low HB.out) (H4.out.below HB.out H4.out.lt) (z0r HA.out HB.out) (by omega) hcap HM0.out HM1.out _ _ _ _ _ _ _ _ _ _ _ _ _ _ _ _ _ _ _ _ _ _ _ _ _ _ _ _ _ _ _ _ _ _ _ _ _ _ _ _ _ _ _ _ _ _ _ _ _ _ _ _ _ _ _ _ _ _ _ _ _ _ _ _ _ _ _ _ _ _ _ _ _ _ _ _ _ _ _ _ _ _ _ _ _ _ _ _ _ _ _ _ _ _ _ _ _ _ _ _ _ _ _ _ _ _ _ _ _ _ _ _ _ _ _ _ _ _ _)
def znf (w:World)(v:Value)(b:Bool)(e:Ending)(w':World):Prop:=Below w.heap.size w w'∧∃ H n c,e=.returned (.tuple #[.agg #[v,.bool b,.slice H n c],.bool true])
theorem zng (A C H:Option Addr)(nl nr a c hc:Nat)(bl br:Bool)(w:World):
  Calls Tryz.prog 31 #[.agg #[.slice A nl a,.bool bl,.slice C nr c,.bool br,.slice H 0 hc]] w (znf w (.slice C nr c) br):=by
 obtain⟨W1,hW1⟩:∃ W,W=(w.alloc (.cells #[.slice A nl a,.bool bl,.slice C nr c,.bool br,.slice H 0 hc] 71)).alloc (.cells #[.slice none 0 0,.bool false,.slice none 0 0] 78):=⟨_,rfl⟩;have hA:Below w.heap.size w W1:=by rw[hW1];exact ((Below.refl _ _).alloc (Nat.le_refl _) _).alloc (by simp) _
 have h1:Blk W1 w.heap.size 71 [.slice A nl a,.bool bl,.slice C nr c,.bool br,.slice H 0 hc]:=by rw[hW1];exact (z0l w _ _).alloc _
 have h2:Blk W1 (w.heap.size+1) 78 [.slice none 0 0,.bool false,.slice none 0 0]:=by
  rw[hW1];have:=z0l (w.alloc (.cells #[.slice A nl a,.bool bl,.slice C nr c,.bool br,.slice H 0 hc] 71)) [.slice none 0 0,.bool false,.slice none 0 0] 78;simp only[World.size_alloc] at this
  exact this
 have HW1:=hd_ hW1;have HA:=hd_ hA;have H1:=hd_ h1;have H2:=hd_ h2;clear hW1 hA h1 h2;go_enter Tryz.func31,Tryz.ntmps31;go_upto_region 1 with fail;rw[← HW1.out];have y4:W1.cell? ⟨w.heap.size,4,none⟩=some (.slice H 0 hc):=H1.out.cell 4;clear HW1;go_wp2_with fail;clear y4;go_loopw [4,13] (fun v i wr=>v=.slice none 0 0∧i=.int .i64 0∧wr=W1) (fun _ i _=>0)
 case atStart=>exact⟨rfl,rfl,rfl⟩
 case round =>
  obtain⟨rfl,rfl,rfl⟩:=hrel;obtain⟨y2,y3⟩:=(⟨H1.out.cell 2,H1.out.cell 3⟩:wr.cell? ⟨w.heap.size,2,none⟩=some (.slice C nr c)∧wr.cell? ⟨w.heap.size,3,none⟩=some (.bool br));have HS:=hd_ (znc C nr c br wr);go_wp2_with fail;refine HS.out.mono ?_;rintro e w2 ⟨hb,H9,n9,c9,rfl⟩;dsimp only;have HB2:=hd_ (z0r HA.out hb);have HX2:=hd_ (H2.out.below hb H2.out.lt);obtain⟨u0,u1,u2⟩:=(⟨HX2.out.cell 0,HX2.out.cell 1,HX2.out.cell 2⟩:w2.cell? ⟨w.heap.size+1,0,none⟩=some (.slice none 0 0)∧w2.cell? ⟨w.heap.size+1,1,none⟩=some (.bool false)∧w2.cell? ⟨w.heap.size+1,2,none⟩=some (.slice none 0 0));obtain⟨f0,f1,f2⟩:=(⟨HX2.out.frozen 0,HX2.out.frozen 1,HX2.out.frozen 2⟩:w2.frozen? ⟨w.heap.size+1,0,none⟩=false∧w2.frozen? ⟨w.heap.size+1,1,none⟩=false∧w2.frozen? ⟨w.heap.size+1,2,none⟩=false);clear hb y2 y3 HS;go_wp2_with fail;have hE:=((HX2.out.set_ 0 (.slice C nr c)).set_ 1 (.bool br)).set_ 2 (.slice H9 n9 c9);have hb:=((HB2.out.setCell (p:=⟨w.heap.size+1,0,none⟩) (by simp) (.slice C nr c)).setCell (p:=⟨w.heap.size+1,1,none⟩) (by simp) (.bool br)).setCell (p:=⟨w.heap.size+1,2,none⟩) (by simp) (.slice H9 n9 c9)
  generalize ((w2.setCell ⟨w.heap.size+1,0,none⟩ (.slice C nr c)).setCell ⟨w.heap.size+1,1,none⟩ (.bool br)).setCell ⟨w.heap.size+1,2,none⟩ (.slice H9 n9 c9)=W8 at hE hb ⊢;have e0:=hE.cell 0;have e1:=hE.cell 1;have e2:=hE.cell 2;exact bodyPost_ret (v:=.tuple #[.agg #[.slice C nr c,.bool br,.slice H9 n9 c9],.bool true]) (by simp [results,Tryz.results31,go_sem,e0,e1,e2]) rfl ⟨hb,H9,n9,c9,rfl⟩
