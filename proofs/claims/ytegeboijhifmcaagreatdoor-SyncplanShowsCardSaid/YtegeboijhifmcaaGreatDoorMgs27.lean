/- A part of the proof. -/
import Derived.Test.YtegeboijhifmcaaGreatDoorMgs25
import Derived.Test.YtegeboijhifmcaaGreatDoorMgs26
import Derived.Test.YtegeboijhifmcaaGreatDoorMgs21
import Derived.Test.YtegeboijhifmcaaGreatDoorMgs22
set_option linter.unusedVariables false
set_option linter.unusedSimpArgs false
set_option maxHeartbeats 8000000
set_option maxRecDepth 100000
namespace Go.Proofs.YtegeboijhifmcaaGreatDoor
open Go.Proofs.Tryz
open Go.RowKit
theorem znx (A:Option Addr)(n a:Nat)(b:Bool)(w:World):
  Calls prog 184 #[.agg #[.slice A n a,.bool b],.slice none 0 0] w (zmo w (.slice A n a) b):=by
 have h2:=(z0l w [.slice A n a,.bool b] 97).alloc (.cells #[.slice none 0 0,.bool false,.slice none 0 0] 115);have h4:=z0l (w.alloc (.cells #[.slice A n a,.bool b] 97)) [.slice none 0 0,.bool false,.slice none 0 0] 115;have hA:Below w.heap.size w ((w.alloc (.cells #[.slice A n a,.bool b] 97)).alloc (.cells #[.slice none 0 0,.bool false,.slice none 0 0] 115)):=((Below.refl _ _).alloc (Nat.le_refl _) _).alloc (by simp) _
 rw[World.size_alloc] at h4;have H2:=hd_ h2;have H4:=hd_ h4;have HA:=hd_ hA;clear h2 h4 hA;go_enter func184,ntmps184;go_upto_region 1 with fail;generalize (w.alloc (.cells #[.slice A n a,.bool b] 97)).alloc (.cells #[.slice none 0 0,.bool false,.slice none 0 0] 115)=W1 at H2 H4 HA ⊢;go_wp2_with fail;go_loopw [5,20] (fun v i wr=>v=.slice none 0 0∧i=.int .i64 0∧wr=W1) (fun _ i _=>0)
 case atStart=>exact⟨rfl,rfl,rfl⟩
 case round =>
  obtain⟨rfl,rfl,rfl⟩:=hrel;rename ∀ a w,Code.wp _ (Code.seq (Code.seq (Code.region 9 _ _) _) _) _ a w→_=>hk7
  have HK7:=hd_ hk7;clear hk7;go_wp2_with fail;exact HK7.out _ _ (zmp _ (by kernel_rfl) w wr A n a w.heap.size (w.heap.size+1) b H2.out H4.out HA.out (by omega) _ _ _ _ _ _ _ _ _ _ _ _ _ _ _ _ _ _ _ _ _ _ _ _ _ _ _ _ _ _ _ _ _ _ _ _ _ _ _ _ _ _ _ _ _ _ _ _ _ _ _ _ _ _ _ _ _ _ _ _ _ _ _ _ _ _ _ _ _ _ _ _ _ _ _ _ _ _ _ _ _ _ _ _ _ _ _ _ _ _ _ _ _ _ _ _ _ _ _ _ _ _ _ _ _ _ _ _ _ _ _ _ _ _ _ _ _ _ _)
theorem zny {w:World}{base:Nat}{e:TypeId}{A:Option Addr}{c:Nat}{v0 v1:Value}(h:w.ownsRow base e 2 (.slice A (0+1) c) (0+1) [v0,v1]):
  ∃ g,A=some ⟨g,0,none⟩∧1≤c∧w.cell? ⟨g,0,none⟩=some v0∧w.cell? ⟨g,1,none⟩=some v1:=by
 have h2:=h.2;rcases h2 with⟨-,hn⟩ | ⟨g,cap,cur,hv,-,-,hnc,-⟩
 ·omega
 ·injection hv with e1 e2 e3
  subst e1 e3;exact⟨g,rfl,by omega,h.cells (g:=g) rfl 0 _ rfl,h.cells (g:=g) rfl 1 _ rfl⟩
def SmFst (W wr:World)(k:Nat)(v:Value):Prop:=Below W.heap.size W wr∧(v=.slice none 0 0∨k=1∧∃(g cap:Nat) (A:Option Addr) (n c:Nat) (b:Bool),v=.slice (some ⟨g,0,none⟩) 1 cap∧1≤cap∧wr.cell? ⟨g,0,none⟩=some (.slice A n c)∧wr.cell? ⟨g,1,none⟩=some (.bool b))
theorem znz (p h:Pat)(A B:Option Addr)(a b hg ch:Nat)(w:World)(hp:za9 w (.slice A p.parts.length a) p)(hh:za9 w (.slice B h.parts.length b) h)(hsym:znr p h)(hc:1≤ch)(h0:w.cell? ⟨hg,0,none⟩=some (.slice B h.parts.length b))(h1:w.cell? ⟨hg,1,none⟩=some (.bool h.rest)):
  Calls prog 184 #[.agg #[.slice A p.parts.length a,.bool p.rest],.slice (some ⟨hg,0,none⟩) 1 ch] w (zmo w (.slice A p.parts.length a) p.rest):=by
 have h2:=(z0l w [.slice A p.parts.length a,.bool p.rest] 97).alloc (.cells #[.slice none 0 0,.bool false,.slice none 0 0] 115);have h4:=z0l (w.alloc (.cells #[.slice A p.parts.length a,.bool p.rest] 97)) [.slice none 0 0,.bool false,.slice none 0 0] 115;have hA:Below w.heap.size w ((w.alloc (.cells #[.slice A p.parts.length a,.bool p.rest] 97)).alloc (.cells #[.slice none 0 0,.bool false,.slice none 0 0] 115)):=((Below.refl _ _).alloc (Nat.le_refl _) _).alloc (by simp) _
 rw[World.size_alloc] at h4;have H2:Hid (zbo _ _ _ _):=hd_ h2;have H4:=hd_ h4;have HA:=hd_ hA;have HME:=hd_ (fun X (hX:Below w.heap.size w X)=>zmn p h A B a b X (hp.below hX) (hh.below hX) hsym);have HC:Hid (∀ X,Below w.heap.size w X→X.cell? ⟨hg,0,none⟩=some (.slice B h.parts.length b)∧X.cell? ⟨hg,1,none⟩=some (.bool h.rest)):=hd_ fun X hX=>⟨z04 h0 hX (z03 h0),z04 h1 hX (z03 h1)⟩;clear h2 h4 hA hp hh hsym h0 h1;go_enter func184,ntmps184;go_upto_region 1 with fail;generalize (w.alloc (.cells #[.slice A p.parts.length a,.bool p.rest] 97)).alloc (.cells #[.slice none 0 0,.bool false,.slice none 0 0] 115)=W1 at H2 H4 HA ⊢;go_wp2_with fail;go_loopw [5,20] (fun v i wr=>∃ k:Nat,i=.int .i64 k∧k≤1∧Hid (SmFst W1 wr k v)) (fun _ i _=>1 - (intOf i).toNat)
 case atStart=>exact⟨0,rfl,Nat.zero_le _,hd_ ⟨Below.refl _ _,Or.inl rfl⟩⟩
 case round =>
  obtain⟨k,rfl,hk,HI⟩:=hrel;by_cases hlt:k<1
  ·have hk0:k=0:=by omega
   subst hk0;obtain⟨hlow,rfl | ⟨h,-⟩⟩:=HI.out
   case inr=>omega
   obtain⟨s0,s1⟩:=HC.out wr (z0r HA.out hlow);have hX:Below wr.heap.size wr (wr.alloc (.cells #[.slice B h.parts.length b,.bool h.rest] 97)):=(Below.refl _ _).alloc (Nat.le_refl _) _;have HX5:=hd_ (z0l wr [.slice B h.parts.length b,.bool h.rest] 97);have HL5:=hd_ (z0r hlow hX);clear hX hlow HI;go_upto_region 5 with fail;clear s0 s1;generalize wr.alloc (.cells #[.slice B h.parts.length b,.bool h.rest] 97)=W5 at HX5 HL5 ⊢;generalize wr.heap.size=g7 at HX5 ⊢;obtain⟨y0,y1⟩:=(⟨HX5.out.cell 0,HX5.out.cell 1⟩:W5.cell? ⟨g7,0,none⟩=some (.slice B h.parts.length b)∧W5.cell? ⟨g7,1,none⟩=some (.bool h.rest));have HP5:=hd_ (H2.out.low HL5.out);have x0:=HP5.out.c0;have x1:=HP5.out.c1;have HC1:=hd_ (HME.out W5 (z0r HA.out HL5.out));go_wp2_with fail;refine HC1.out.mono ?_;clear HC1 x0 x1 y0 y1;rintro e w6 ⟨hb,⟨hmn,rfl⟩ | ⟨m,A6,c6,hmm,rfl,hown,hin⟩⟩
   ·dsimp only;have hX:Below w6.heap.size w6 (w6.alloc (.cells #[.slice none 0 0,.bool false] 97)):=(Below.refl _ _).alloc (Nat.le_refl _) _;have HN:=hd_ (z0r HL5.out (z0r hb hX));clear hb hX hmn;go_wp2_with fail;go_roundw
    case rel=>exact⟨1,by go_num,Nat.le_refl _,hd_ ⟨HN.out,Or.inl rfl⟩⟩
    case measure=>simp [intOf]
   ·dsimp only;have hX:Below w6.heap.size w6 (w6.alloc (.cells #[.slice A6 m.parts.length c6,.bool m.rest] 97)):=(Below.refl _ _).alloc (Nat.le_refl _) _;have HN:=hd_ (z0r HL5.out (z0r hb hX));have HX7:=hd_ (z0l w6 [.slice A6 m.parts.length c6,.bool m.rest] 97);clear hb hX hmm hown hin;go_upto_region 7 with fail;generalize w6.alloc (.cells #[.slice A6 m.parts.length c6,.bool m.rest] 97)=W7 at HN HX7 ⊢;generalize w6.heap.size=g8 at HX7 ⊢;obtain⟨y0,y1⟩:=(⟨HX7.out.cell 0,HX7.out.cell 1⟩:W7.cell? ⟨g8,0,none⟩=some (.slice A6 m.parts.length c6)∧W7.cell? ⟨g8,1,none⟩=some (.bool m.rest));have hrow:=z0i W7 [.slice A6 m.parts.length c6,.bool m.rest] 97 2 1 rfl (by unfold maxLen;omega) W7.heap.size rfl
    have HON:=hd_ (World.ownsRow_nil (W7.alloc (.cells #[.slice A6 m.parts.length c6,.bool m.rest] 97)) W7.heap.size 97 2);have HN8:=hd_ (z0r HN.out ((Below.refl W7.heap.size W7).alloc (Nat.le_refl _) (.cells #[.slice A6 m.parts.length c6,.bool m.rest] 97)));go_wp2_with (at_builtin;refine z0j rfl rfl zdd HON.out rfl hrow rfl (by simp [Value.oneCell']) (by omega) (by unfold maxLen;omega) (by simp) ?_;intro A' c' w8 hown hgr hob)
    have hb8:=zm9 hgr rfl;have HN9:Hid (SmFst W1 w8 1 (.slice A' (0+1) c')):=hd_ (by
     obtain⟨g,rfl,hc1,q0,q1⟩:=zny hown;exact⟨z0r HN8.out hb8,Or.inr ⟨rfl,g,c',A6,m.parts.length,c6,m.rest,rfl,hc1,q0,q1⟩⟩)
    clear hown hgr hob hb8 y0 y1 hrow;go_roundw
    case rel=>exact⟨1,by go_num,Nat.le_refl _,HN9⟩
    case measure=>simp [intOf]
  ·have hk1:k=1:=by omega
   subst hk1;obtain⟨hlow,rfl | ⟨-,g,cap,Am,nm,cm,bm,rfl,hcap,hm0,hm1⟩⟩:=HI.out
   ·have HB:=hd_ hlow;clear hlow HI;rename ∀ a w,Code.wp _ (Code.seq (Code.seq (Code.region 9 _ _) _) _) _ a w→_=>hk7
    have HK7:=hd_ hk7;clear hk7;go_wp2_with fail;exact HK7.out _ _ (zmp _ (by kernel_rfl) w wr A p.parts.length a w.heap.size (w.heap.size+1) p.rest (H2.out.low HB.out) (H4.out.below HB.out H4.out.lt) (z0r HA.out HB.out) (by omega) _ _ _ _ _ _ _ _ _ _ _ _ _ _ _ _ _ _ _ _ _ _ _ _ _ _ _ _ _ _ _ _ _ _ _ _ _ _ _ _ _ _ _ _ _ _ _ _ _ _ _ _ _ _ _ _ _ _ _ _ _ _ _ _ _ _ _ _ _ _ _ _ _ _ _ _ _ _ _ _ _ _ _ _ _ _ _ _ _ _ _ _ _ _ _ _ _ _ _ _ _ _ _ _ _ _ _ _ _ _ _ _ _ _ _ _ _ _ _)
   ·have HB:=hd_ hlow;have HM0:=hd_ hm0;have HM1:=hd_ hm1;clear hlow HI hm0 hm1;rename ∀ a w,Code.wp _ (Code.seq (Code.seq (Code.region 9 _ _) _) _) _ a w→_=>hk7
    have HK7:=hd_ hk7;clear hk7;go_wp2_with fail;exact HK7.out _ _ (zmq _ (by kernel_rfl) w wr A Am p.parts.length a w.heap.size (w.heap.size+1) g cap nm cm p.rest bm (H2.out.low HB.out) (H4.out.below HB.out H4.out.lt) (z0r HA.out HB.out) (by omega) hcap HM0.out HM1.out _ _ _ _ _ _ _ _ _ _ _ _ _ _ _ _ _ _ _ _ _ _ _ _ _ _ _ _ _ _ _ _ _ _ _ _ _ _ _ _ _ _ _ _ _ _ _ _ _ _ _ _ _ _ _ _ _ _ _ _ _ _ _ _ _ _ _ _ _ _ _ _ _ _ _ _ _ _ _ _ _ _ _ _ _ _ _ _ _ _ _ _ _ _ _ _ _ _ _ _ _ _ _ _ _ _ _ _ _ _ _ _ _ _ _ _ _ _ _)
def zo0 (w:World)(v:Value)(b:Bool)(e:Ending)(w':World):Prop:=Below w.heap.size w w'∧∃ H n c,e=.returned (.tuple #[.agg #[v,.bool b,.slice H n c],.bool true])
theorem zo1 (A C H:Option Addr)(nl nr a c hc:Nat)(bl br:Bool)(w:World):
  Calls prog 138 #[.agg #[.slice A nl a,.bool bl,.slice C nr c,.bool br,.slice H 0 hc]] w (zo0 w (.slice C nr c) br):=by
 obtain⟨W1,hW1⟩:∃ W,W=(w.alloc (.cells #[.slice A nl a,.bool bl,.slice C nr c,.bool br,.slice H 0 hc] 100)).alloc (.cells #[.slice none 0 0,.bool false,.slice none 0 0] 115):=⟨_,rfl⟩;have hA:Below w.heap.size w W1:=by rw[hW1];exact ((Below.refl _ _).alloc (Nat.le_refl _) _).alloc (by simp) _
 have h1:Blk W1 w.heap.size 100 [.slice A nl a,.bool bl,.slice C nr c,.bool br,.slice H 0 hc]:=by rw[hW1];exact (z0l w _ _).alloc _
 have h2:Blk W1 (w.heap.size+1) 115 [.slice none 0 0,.bool false,.slice none 0 0]:=by
  rw[hW1];have:=z0l (w.alloc (.cells #[.slice A nl a,.bool bl,.slice C nr c,.bool br,.slice H 0 hc] 100)) [.slice none 0 0,.bool false,.slice none 0 0] 115;simp only[World.size_alloc] at this
  exact this
 have HW1:=hd_ hW1;have HA:=hd_ hA;have H1:=hd_ h1;have H2:=hd_ h2;clear hW1 hA h1 h2;go_enter func138,ntmps138;go_upto_region 1 with fail;rw[← HW1.out];have y4:W1.cell? ⟨w.heap.size,4,none⟩=some (.slice H 0 hc):=H1.out.cell 4;clear HW1;go_wp2_with fail;clear y4;go_loopw [4,13] (fun v i wr=>v=.slice none 0 0∧i=.int .i64 0∧wr=W1) (fun _ i _=>0)
 case atStart=>exact⟨rfl,rfl,rfl⟩
 case round =>
  obtain⟨rfl,rfl,rfl⟩:=hrel;obtain⟨y2,y3⟩:=(⟨H1.out.cell 2,H1.out.cell 3⟩:wr.cell? ⟨w.heap.size,2,none⟩=some (.slice C nr c)∧wr.cell? ⟨w.heap.size,3,none⟩=some (.bool br));have HS:=hd_ (znx C nr c br wr);go_wp2_with fail;refine HS.out.mono ?_;rintro e w2 ⟨hb,H9,n9,c9,rfl⟩;dsimp only;have HB2:=hd_ (z0r HA.out hb);have HX2:=hd_ (H2.out.below hb H2.out.lt);obtain⟨u0,u1,u2⟩:=(⟨HX2.out.cell 0,HX2.out.cell 1,HX2.out.cell 2⟩:w2.cell? ⟨w.heap.size+1,0,none⟩=some (.slice none 0 0)∧w2.cell? ⟨w.heap.size+1,1,none⟩=some (.bool false)∧w2.cell? ⟨w.heap.size+1,2,none⟩=some (.slice none 0 0));obtain⟨f0,f1,f2⟩:=(⟨HX2.out.frozen 0,HX2.out.frozen 1,HX2.out.frozen 2⟩:w2.frozen? ⟨w.heap.size+1,0,none⟩=false∧w2.frozen? ⟨w.heap.size+1,1,none⟩=false∧w2.frozen? ⟨w.heap.size+1,2,none⟩=false);clear hb y2 y3 HS;go_wp2_with fail;have hE:=((HX2.out.set_ 0 (.slice C nr c)).set_ 1 (.bool br)).set_ 2 (.slice H9 n9 c9);have hb:=((HB2.out.setCell (p:=⟨w.heap.size+1,0,none⟩) (by simp) (.slice C nr c)).setCell (p:=⟨w.heap.size+1,1,none⟩) (by simp) (.bool br)).setCell (p:=⟨w.heap.size+1,2,none⟩) (by simp) (.slice H9 n9 c9)
  generalize ((w2.setCell ⟨w.heap.size+1,0,none⟩ (.slice C nr c)).setCell ⟨w.heap.size+1,1,none⟩ (.bool br)).setCell ⟨w.heap.size+1,2,none⟩ (.slice H9 n9 c9)=W8 at hE hb ⊢;have e0:=hE.cell 0;have e1:=hE.cell 1;have e2:=hE.cell 2;exact bodyPost_ret (v:=.tuple #[.agg #[.slice C nr c,.bool br,.slice H9 n9 c9],.bool true]) (by simp [results,results138,go_sem,e0,e1,e2]) rfl ⟨hb,H9,n9,c9,rfl⟩
def SbV:Value→Bool
 | .string _=>true
 | .bool _=>true
 | _=>false
def zos (w:World)(g:Nat):Prop:=∀(off:Nat) u,w.cell? ⟨g,off,none⟩=some u→SbV u=false
theorem zot {w:World}{ad:Addr}{u:Value}(h:w.cell? ad=some u):w.cell? ⟨ad.block,ad.off,none⟩=some u:=by
 obtain⟨b,o,s⟩:=ad;cases s with
 | none=>exact h
 | some k =>
  unfold World.cell? at h
  split at h
  ·simp at h
  ·cases h
theorem Row.keptN {S:List Nat}{w w':World}{size n:Nat}{v:Value}{xs:List Value}(h:Row w size v n xs)(hK:z6t S w w')(hS:∀ g∈S,zos w g)(hx:0<n→∃(j:Nat) (u:Value),xs[j]? = some u∧SbV u=true):Row w' size v n xs:=by
 obtain⟨A,c,rfl,hc,hm,hl,h0,hr⟩:=id h;rcases Nat.eq_zero_or_pos n with hn | hn
 ·exact⟨A,c,rfl,hc,hm,hl,h0,fun hp=>by omega⟩
 ·obtain⟨ad,rfl,hb,hcell⟩:=hr hn;refine Row.kept h hK fun hmem=>?_;obtain⟨j,u,hj,hu⟩:=hx hn;have h1:=zot (hcell j u hj);rw[z00] at h1;rw[hS _ hmem _ _ h1] at hu;cases hu
theorem Strs.keptN {S:List Nat}{w w':World}{v:Value}{l:List ByteArray}(h:Strs w v l)(hK:z6t S w w')(hS:∀ g∈S,zos w g):Strs w' v l:=
 Row.keptN h hK hS fun hn=>⟨0,.string (l[0]'hn),by rw[List.getElem?_map,List.getElem?_eq_getElem hn];rfl,rfl⟩
theorem za9.keptN {S:List Nat}{w w':World}{v:Value}{p:Pat}(h:za9 w v p)(hK:z6t S w w')(hS:∀ g∈S,zos w g):za9 w' v p:=⟨h.1.keptN hK hS,h.2⟩
theorem zd2.keptN {S:List Nat}{w w':World}{v:Value}{hs:List zd1}(h:zd2 w v hs)(hK:z6t S w w')(hS:∀ g∈S,zos w g):zd2 w' v hs:=
 ⟨Row.keptN h.1 hK hS fun hn=>⟨1,.bool (hs[0]'hn).1.rest,by
  cases hs with
  | nil=>simp at hn
  | cons q hs=>rfl,rfl⟩,fun q hq=>(h.2 q hq).keptN hK hS⟩
theorem zdi.keptN {S:List Nat}{w w':World}{v:Value}{es:List zd8}(h:zdi w v es)(hK:z6t S w w')(hS:∀ g∈S,zos w g):zdi w' v es:=
 ⟨Row.keptN h.1 hK hS fun hn=>⟨1,.bool (es[0]'hn).l.1.rest,by
  cases es with
  | nil=>simp at hn
  | cons q hs=>rfl,rfl⟩,fun x hx=>⟨(h.2 x hx).l.keptN hK hS,(h.2 x hx).r.keptN hK hS,(h.2 x hx).h.keptN hK hS,(h.2 x hx).n⟩⟩
theorem z45.keptN {S:List Nat}{w w':World}{v:Value}{D:List Rev}(h:z45 w v D)(hK:z6t S w w')(hS:∀ g∈S,zos w g):z45 w' v D:=
 Row.keptN h hK hS fun hn=>⟨0,.string (D[0]'hn).path,by
  cases D with
  | nil=>simp at hn
  | cons q hs=>rfl,rfl⟩
theorem z4b.keptN {S:List Nat}{w w':World}{v:Value}{l:List Hav}(h:z4b w v l)(hK:z6t S w w')(hS:∀ g∈S,zos w g):z4b w' v l:=
 Row.keptN h hK hS fun hn=>⟨0,.string (l[0]'hn).path,by
  cases l with
  | nil=>simp at hn
  | cons q hs=>rfl,rfl⟩
theorem zos.blk {w:World}{g:Nat}{e:TypeId}{cs:List Value}(h:Blk w g e cs)(hc:∀ u∈cs,SbV u=false):zos w g:=fun off u hu=>by
 rw[h.cell off] at hu;exact hc u (List.mem_of_getElem? hu)
theorem zgf.nosb {w:World}{U g m:Nat}(h:zgf w U g m):∀ x∈[g],zos w x:=by
 obtain⟨l,A,c,a,h1,-⟩:=h;intro x hx;rw[List.mem_singleton] at hx;subst hx;exact zos.blk h1 (by simp [SbV])
structure Cnk where
 s:Int
 z:Int
 A:Option Addr
 n:Nat
 c:Nat
def Cnk.cells (x:Cnk):List Value:=[.int .u64 x.s,.int .i64 x.z,.slice x.A x.n x.c]
theorem cnkElem:z0e prog 73 207 3 40:=z0f underlying73 (z:=.agg #[.int .u64 0,.int .i64 0,.slice none 0 0]) (by kernel_rfl) rfl (by decide)
theorem eql_cid (a b c d:Int)(W:World):(binOp .eql 64 (.agg #[.int .u64 a,.int .i64 b]) (.agg #[.int .u64 c,.int .i64 d])).run prog W=.ok (.bool (decide (a=c) && decide (b=d))) W:=by
 rw[run_eql_struct,run_equalIn_agg W 9999 64 _ _ (by kernel_rfl) (by kernel_rfl)]
 simp [go_sem,Op.eqFields]
 by_cases h1:a=c <;> by_cases h2:b=d <;> simp [h1,h2]
structure WsB (w wr:World)(U g gw m:Nat)(D:List Rev)(dv dr cv:Value)(l:List Cnk):Prop where
 kept:z6t [g] w wr
 tape:zgf wr U g m
 box:Blk wr gw 75 [dv,dr,cv]
 cnk:wr.ownsRow (gw+1) 207 3 cv l.length (l.flatMap Cnk.cells)
 revs:z45 wr dv D
 gU:g<U
 UU:U≤w.heap.size
 le:w.heap.size≤gw
 far:∀ x,dv.ownBlock=some x→x≠gw∧x<wr.heap.size∧cv.ownBlock≠some x
theorem Row.heap {w w':World}{size n:Nat}{v:Value}{xs:List Value}(h:Row w size v n xs)(hs:w.heap.size≤w'.heap.size)(hk:∀ x,x<w.heap.size→v.ownBlock=some x→w'.heap[x]? = w.heap[x]?):Row w' size v n xs:=by
 obtain⟨A,c,rfl,hc,hm,hl,h0,hr⟩:=h;refine⟨A,c,rfl,hc,hm,hl,h0,fun hn=>?_⟩;obtain⟨ad,rfl,hb,hcell⟩:=hr hn;refine⟨ad,rfl,by omega,fun j u hu=>?_⟩
 rw[← hcell j u hu];refine World.cell?_of_block ?_;rw[z00];exact hk _ hb rfl
section
variable {w wr w' : World} {U g gw m m' : Nat} {D : List Rev} {dv dr cv : Value} {l : List Cnk}
theorem WsB.next (h:WsB w wr U g gw m D dv dr cv l)(hK:z6t [g] wr w')(hT:zgf w' U g m'):WsB w w' U g gw m' D dv dr cv l:=by
 have h1:=h.gU;have h2:=h.UU;have h3:=h.le;refine⟨h.kept.trans hK,hT,hK.blk h.box (by simp;omega),zlh h.cnk hK (fun x hx=>by have:=(h.cnk.lt x hx).1;simp;omega),z45.keptN h.revs hK h.tape.nosb,h1,h2,h3,fun x hx=>⟨(h.far x hx).1,Nat.lt_of_lt_of_le (h.far x hx).2.1 hK.size,(h.far x hx).2.2⟩⟩
theorem WsB.under (h:WsB w wr U g gw m D dv dr cv l)(hb:Below wr.heap.size wr w'):WsB w w' U g gw m D dv dr cv l:=h.next (z6t.below hb) (h.tape.below hb)
theorem WsB.turn {w5:World}{cv':Value}{l':List Cnk}(h:WsB w wr U g gw m D dv dr cv l)(hg:wr.grownBy w5 cv.ownBlock)(ho:w5.ownsRow (gw+1) 207 3 cv' l'.length (l'.flatMap Cnk.cells))(hob:cv'.ownBlock=cv.ownBlock∨cv'.ownBlock=some wr.heap.size):
  WsB w (w5.setCell ⟨gw,2,none⟩ cv') U g gw m D dv dr cv' l':=by
 have h1:=h.gU;have h2:=h.UU;have h3:=h.le;have hbl:=h.box.lt;have hlt:=h.cnk.lt;have hne:some gw≠cv.ownBlock:=fun e=>by have:=(hlt gw e.symm).1;omega
 have hne':cv'.ownBlock≠some gw:=by
  rcases hob with e | e
  ·rw[e];exact fun e=>hne e.symm
  ·rw[e];intro e2;injection e2 with e2;omega
 have hk:z6t [g] w w5:=h.kept.grown_own hg (fun x e=>by have:=(hlt x e).1;omega)
 have hb5:Below w.heap.size w5 (w5.setCell ⟨gw,2,none⟩ cv'):=(Below.refl _ _).setCell (p:=⟨gw,2,none⟩) h3 _;have ht5:zgf w5 U g m:=h.tape.keep hg.size (fun x hx=>hg.block x (by have:=h.kept.size;omega) (fun e=>by have:=(hlt x e.symm).1;omega))
 refine⟨hk.onto hb5,ht5.onto h2 hb5,(h.box.grown hg hne).set_ 2 cv',z4r ho (p:=⟨gw,2,none⟩) hne' _,?_,h1,h2,h3,fun x hx=>⟨(h.far x hx).1,Nat.lt_of_lt_of_le (h.far x hx).2.1 (Nat.le_trans hg.size hb5.size),?_⟩⟩
 ·have hr5:z45 w5 dv D:=Row.heap h.revs hg.size (fun x hx e=>hg.block x hx (fun e2=>(h.far x e).2.2 e2.symm));exact Row.set_far hr5 (fun e=>(h.far gw e).1 rfl)
 ·rcases hob with e | e
  ·rw[e];exact (h.far x hx).2.2
  ·rw[e];intro e2;injection e2 with e2;have:=(h.far x hx).2.1;omega
def FdPost (w:World)(e:Ending)(w':World):Prop:=(∃(A:Option Addr) (n c:Nat) (b:Bool),e=.returned (.tuple #[.slice A n c,.bool b]))∧Below w.heap.size w w'
theorem Cnk.at_ {w:World}{B:Nat}{A:Option Addr}{c:Nat}{l:List Cnk}(h:w.ownsRow B 207 3 (.slice A l.length c) l.length (l.flatMap Cnk.cells)){k:Nat}(hk:k<l.length):
  ∃ ad,A=some ad∧w.cell? (ad.add (k * 3))=some (.int .u64 l[k].s)∧w.cell? ⟨(ad.add (k * 3)).block,(ad.add (k * 3)).off+1,none⟩=some (.int .i64 l[k].z)∧w.cell? ⟨(ad.add (k * 3)).block,(ad.add (k * 3)).off+2,none⟩=some (.slice l[k].A l[k].n l[k].c):=by
 obtain⟨ad,e,hb,hc⟩:=z49 (f:=Cnk.cells) (n:=3) (fun _=>rfl) (Row.of_own h) hk;exact⟨ad,e,hc 0 _ rfl,hc 1 _ rfl,hc 2 _ rfl⟩
theorem zp9 (h:WsB w wr U g gw m D dv dr cv l)(s z:Int)(hl:l.length≤1000000):
  Calls prog 133 #[.pointer (some ⟨gw,0,none⟩),.agg #[.int .u64 s,.int .i64 z]] wr (FdPost wr):=by
 obtain⟨A,c,rfl⟩:=z0o h.cnk;have hA:Below wr.heap.size wr (wr.alloc (.cells #[.int .u64 s,.int .i64 z] 64)):=(Below.refl _ _).alloc (Nat.le_refl _) _;have HX:=hd_ (z0l wr [.int .u64 s,.int .i64 z] 64);have HB:=hd_ h.box;have HC:=hd_ h.cnk;have HA:=hd_ hA;clear h hA;go_enter func133,ntmps133;go_upto_region 1 with fail;generalize wr.alloc (.cells #[.int .u64 s,.int .i64 z] 64)=W1 at HX HA ⊢;generalize wr.heap.size=g3 at HX ⊢;go_wp2_with fail;go_loopw [6] (fun i wx=>∃ k:Nat,i=.int .i64 k∧k≤l.length∧Hid (Below W1.heap.size W1 wx)) (fun i _=>l.length - (intOf i).toNat)
 case atStart=>exact⟨0,rfl,Nat.zero_le _,hd_ (Below.refl _ _)⟩
 case round =>
  obtain⟨k,rfl,hk,HI⟩:=hrel;have HBX:=hd_ (z0r HA.out HI.out);have hb2:=(HB.out.below HBX.out HB.out.lt).cell 2;have b2:wr.cell? ⟨gw,2,none⟩=some (.slice A l.length c):=hb2;clear hb2;by_cases hlt:k<l.length
  ·obtain⟨ad,rfl,c0,c1,c2⟩:=Cnk.at_ (z0n HC.out HBX.out) hlt;have hX:=HX.out.below HI.out HX.out.lt;have x0:wr.cell? ⟨g3,0,none⟩=some (.int .u64 s):=hX.cell 0;have x1:wr.cell? ⟨g3,1,none⟩=some (.int .i64 z):=hX.cell 1;generalize l[k]=y at c0 c1 c2;obtain⟨s',z',A',n',c'⟩:=y;dsimp only at c0 c1 c2
   have heq:=eql_cid s' z' s z;generalize (decide (s'=s) && decide (z'=z))=b at heq;have hzk:(k:Int)<(l.length:Int):=by omega
   have HLT:=hd_ hlt;clear hX hlt;go_upto_region 4 with fail;go_quiet (fail)
   clear heq;cases b with
   | true =>
    go_wp2_with fail;go_ret2;exact⟨⟨_,_,_,_,rfl⟩,z0p HBX.out _⟩
   | false =>
    go_wp2_with fail;go_roundw
    case rel=>exact⟨k+1,by go_num,by have:=HLT.out;omega,hd_ (z0p HI.out _)⟩
    case measure=>have:=HLT.out;simp [intOf];omega
  ·have hke:k=l.length:=by omega
   subst hke;have hge:¬((l.length:Int)<(l.length:Int)):=by omega
   go_wp2_with fail;go_ret2;exact⟨⟨none,0,0,false,rfl⟩,HBX.out⟩
end
end Go.Proofs.YtegeboijhifmcaaGreatDoor
