/- A part of the proof. -/
import Derived.Test.YtegeboijhifmcaaGreatDoorMgs7
import Derived.Test.YtegeboijhifmcaaGreatDoorMgs8
import Derived.Test.YtegeboijhifmcaaGreatDoorMgs11
import Derived.Deep.CutBlock
set_option linter.unusedVariables false
set_option linter.unusedSimpArgs false
set_option maxHeartbeats 8000000
set_option maxRecDepth 100000
namespace Go.Proofs.YtegeboijhifmcaaGreatDoor
open Go.Proofs.Tryz
open Go.RowKit
def za8 (l r:Pat):Int:=if z7e l≠0 then 40 else if z7e r≠0 then 41 else if za2 l≠za2 r∨l.rest≠r.rest then 42 else 0
def za9 (w:World)(v:Value)(p:Pat):Prop:=Strs w v p.parts∧∀ x∈p.parts,x.size≤1000000
theorem za9.below {w w':World}{v:Value}{p:Pat}(h:za9 w v p)(hb:Below w.heap.size w w'):za9 w' v p:=⟨Strs.below h.1 hb,h.2⟩
theorem za9.small {w:World}{v:Value}{p:Pat}(h:za9 w v p):∀ x∈p.parts,x.size≤maxLen:=fun x hx=>by have:=h.2 x hx;unfold maxLen;omega
theorem zaa (ex:Bool)(l r:Pat)(A B:Option Addr)(a b:Nat)(w:World)(hL:za9 w (.slice A l.parts.length a) l)(hR:za9 w (.slice B r.parts.length b) r):
  Calls prog 84 #[.agg #[.bool ex,.slice A l.parts.length a,.bool l.rest,.slice B r.parts.length b,.bool r.rest]] w fun e w'=>e=.returned (.int .i64 (za8 l r))∧Below w.heap.size w w':=by
 have hB:=z0l w [.bool ex,.slice A l.parts.length a,.bool l.rest,.slice B r.parts.length b,.bool r.rest] 119;have hA:Below w.heap.size w (w.alloc (.cells #[.bool ex,.slice A l.parts.length a,.bool l.rest,.slice B r.parts.length b,.bool r.rest] 119)):=(Below.refl _ _).alloc (Nat.le_refl _) _;have HKL:=hd_ (fun X (hX:Below w.heap.size w X)=>za7 l A a X (hL.below hX).1 hL.small);have HKR:=hd_ (fun X (hX:Below w.heap.size w X)=>za7 r B b X (hR.below hX).1 hR.small);have HE:Hid (za8 l r=if z7e l≠0 then 40 else if z7e r≠0 then 41 else if za2 l≠za2 r∨l.rest≠r.rest then 42 else 0):=hd_ rfl;clear hL hR;go_enter func84,ntmps84;go_upto_region 1 with fail;generalize w.alloc (.cells #[.bool ex,.slice A l.parts.length a,.bool l.rest,.slice B r.parts.length b,.bool r.rest] 119)=W1 at hB hA ⊢;have d1:W1.cell? ⟨w.heap.size,1,none⟩=some (.slice A l.parts.length a):=hB.cell 1;have d2:W1.cell? ⟨w.heap.size,2,none⟩=some (.bool l.rest):=hB.cell 2;have HC:=hd_ (HKL.out W1 hA);have HB:=hd_ hB;have HA:=hd_ hA;clear hB hA HKL;go_wp2_with fail;refine HC.out.mono ?_;rintro e w2 ⟨n1,b1,rfl,hk1,hb⟩;have HB2:=hd_ (z0r HA.out hb);have hB2:=HB.out.below hb HB.out.lt;clear hb d1 d2 HC HB;obtain⟨pe,hpe⟩:∃ pe,z7e l=pe:=⟨_,rfl⟩;rw[hpe] at hk1 HE ⊢;clear hpe;by_cases h0:pe=0
 case neg =>
  have q:(pe != 0)=true:=by simpa using h0
  have HR:Hid (za8 l r=40):=hd_ (by rw[HE.out,if_pos h0])
  clear h0 hB2 HE hk1;go_wp2_with fail;go_ret;exact⟨z7j HR.out.symm,HB2.out⟩
 subst h0;obtain⟨rfl,rfl⟩:=hk1 rfl;have d3:w2.cell? ⟨w.heap.size,3,none⟩=some (.slice B r.parts.length b):=hB2.cell 3;have d4:w2.cell? ⟨w.heap.size,4,none⟩=some (.bool r.rest):=hB2.cell 4;have HC:=hd_ (HKR.out w2 HB2.out);clear hB2 HKR hk1;go_wp2_with fail;refine HC.out.mono ?_;rintro e w3 ⟨n2,b2,rfl,hk2,hb⟩;have HB3:=hd_ (z0r HB2.out hb);clear hb d3 d4 HC;obtain⟨pe,hpe⟩:∃ pe,z7e r=pe:=⟨_,rfl⟩;rw[hpe] at hk2 HE ⊢;clear hpe;by_cases h0:pe=0
 case neg =>
  have q:(pe != 0)=true:=by simpa using h0
  have HR:Hid (za8 l r=41):=hd_ (by rw[HE.out,if_neg (by decide),if_pos h0])
  clear h0 HE hk2;go_wp2_with fail;go_ret;exact⟨z7j HR.out.symm,HB3.out⟩
 subst h0;obtain⟨rfl,rfl⟩:=hk2 rfl;rw[if_neg (by decide),if_neg (by decide)] at HE
 clear hk2;by_cases h1:za2 l=za2 r
 ·have q1:((za2 l:Int) != (za2 r:Int))=false:=by rw[h1];simp
  rcases Bool.eq_false_or_eq_true l.rest with h2 | h2 <;> rcases Bool.eq_false_or_eq_true r.rest with h3 | h3 <;> (
   have HR:Hid (za8 l r=0∧l.rest=r.rest∨za8 l r=42∧l.rest≠r.rest):=hd_ (by
    by_cases h:l.rest=r.rest
    ·exact .inl ⟨by rw[HE.out,if_neg (by rintro (h4 | h4);exact h4 h1;exact h4 h)],h⟩
    ·exact .inr ⟨by rw[HE.out,if_pos (.inr h)],h⟩)
   rw[h2,h3] at HR ⊢;clear h1 h2 h3 HE;go_wp2_with fail;go_ret;rcases HR.out with⟨h4,h5⟩ | ⟨h4,h5⟩
   ·first
     | exact⟨z7j h4.symm,HB3.out⟩
     | cases h5
   ·first
     | exact⟨z7j h4.symm,HB3.out⟩
     | exact absurd rfl h5)
 ·have q1:((za2 l:Int) != (za2 r:Int))=true:=by simp;omega
  have HR:Hid (za8 l r=42):=hd_ (by rw[HE.out,if_pos (.inl h1)])
  clear h1 HE;go_wp2_with fail;go_ret;exact⟨z7j HR.out.symm,HB3.out⟩
theorem zab {w:World}{base:Nat}{e:TypeId}{size n c g j:Nat}{xs:List Value}(h:w.ownsRow base e size (.slice (some ⟨g,0,none⟩) n c) n xs)(u:Value):(w.setCell ⟨g,j,none⟩ u).ownsRow base e size (.slice (some ⟨g,0,none⟩) n c) n (xs.set j u):=by
 obtain⟨h1,h2 | ⟨g',cap,cur,e1,h3,h4,h5,h6,h7,h8⟩⟩:=h
 ·cases h2.1
 ·injection e1 with e1 _ e3
  injection e1 with e1
  injection e1 with e1
  subst e1 e3;refine⟨by rw[List.length_set];exact h1,.inr ⟨g,c,cur.setIfInBounds j u,rfl,h3,?_,h5,h6,by simp [h7],?_⟩⟩
  ·simp [World.setCell,Array.getElem?_modify,h4]
  ·rw[Array.toList_setIfInBounds,List.take_set,h8]
theorem zac {w:World}{base:Nat}{e:TypeId}{size n c g j:Nat}{xs:List Value}{u:Value}(h:w.ownsRow base e size (.slice (some ⟨g,0,none⟩) n c) n xs)(hj:xs[j]? = some u):w.cell? ⟨g,j,none⟩=some u∧w.frozen? ⟨g,j,none⟩=false∧base≤g:=by
 obtain⟨h1,h2 | ⟨g',cap,cur,e1,h3,h4,h5,h6,h7,h8⟩⟩:=h
 ·cases h2.1
 ·injection e1 with e1 _ e3
  injection e1 with e1
  injection e1 with e1
  subst e1 e3;refine⟨?_,by simp [World.frozen?,h4],h3⟩
  rw[cell_of_row w g j cur e (0,0) h4,← hj,← h8];have hlt:j<n * size:=by rw[← h1];exact (List.getElem?_eq_some_iff.1 hj).1
  rw[List.getElem?_take_of_lt hlt,Array.getElem?_toList]
def zad (n:Nat)(r:Bool)(m:Nat)(s:Bool):Bool:=if r && s then true else if r then decide (n<m) else if s then decide (m<n) else decide (n=m)
theorem zae (n m:Nat)(r s:Bool)(w:World):Calls prog 143 #[.int .i64 n,.bool r,.int .i64 m,.bool s] w fun e w'=>e=.returned (.bool (zad n r m s))∧w=w':=by
 have q1:decide ((n:Int)<(m:Int))=decide (n<m):=by rw[decide_eq_decide];omega
 have q2:decide ((m:Int)<(n:Int))=decide (m<n):=by rw[decide_eq_decide];omega
 have q3:((n:Int) == (m:Int))=decide (n=m):=by rw[Bool.eq_iff_iff,beq_iff_eq,decide_eq_true_eq];omega
 unfold zad;cases r <;> cases s <;> (
  go_enter func143,ntmps143;go_wp2_with fail;go_ret;first
   | exact⟨rfl,rfl⟩
   | exact⟨by simp,rfl⟩
   | exact⟨by simp [q1],rfl⟩
   | exact⟨by simp [q2],rfl⟩
   | exact⟨by simp [q3],rfl⟩)
def zaf:List ByteArray→List ByteArray→Option (List ByteArray)
 | xs,[]=>some xs
 | [],_ :: _=>none
 | x :: xs,y :: ys=>match z9t x y with
  | none=>none
  | some z=>(zaf xs ys).map (z :: ·)
def zag (p q:Pat):Pat:=if p.parts.length<q.parts.length then q else p
def zah (p q:Pat):Pat:=if p.parts.length<q.parts.length then p else q
def zai (p q:Pat):Option Pat:=
 if z7e p=0∧z7e q=0∧zad p.parts.length p.rest q.parts.length q.rest=true then (zaf (zag p q).parts (zah p q).parts).map (fun l=>⟨l,p.rest && q.rest⟩) else none
def zaj (xs ys:List ByteArray)(k:Nat)(done:List ByteArray):Prop:=done.length=k∧zaf xs ys=(zaf (xs.drop k) (ys.drop k)).map (done++·)
theorem zak (xs ys:List ByteArray):zaj xs ys 0 []:=⟨rfl,by simp⟩
theorem zal {xs ys:List ByteArray}{k:Nat}{done:List ByteArray}(h:zaj xs ys k done)(hx:k<xs.length)(hy:k<ys.length)(e:z9t xs[k] ys[k]=none):zaf xs ys=none:=by
 rw[h.2,List.drop_eq_getElem_cons hx,List.drop_eq_getElem_cons hy];unfold zaf;rw[e];rfl
theorem zam {xs ys:List ByteArray}{k:Nat}{done:List ByteArray}{z:ByteArray}(h:zaj xs ys k done)(hx:k<xs.length)(hy:k<ys.length)(e:z9t xs[k] ys[k]=some z):zaj xs ys (k+1) (done++[z]):=by
 refine⟨by rw[List.length_append,h.1];rfl,?_⟩
 rw[h.2,List.drop_eq_getElem_cons hx,List.drop_eq_getElem_cons hy];conv=>lhs;unfold zaf
 rw[e];simp only[Option.map_map]
 congr 1
 funext l
 simp
theorem zan {xs ys:List ByteArray}{done:List ByteArray}(h:zaj xs ys ys.length done):zaf xs ys=some (done++xs.drop ys.length):=by
 rw[h.2,List.drop_length];cases h2:xs.drop ys.length <;> rfl
theorem zao {p:Pat}(h:z7e p=0):p.parts.length≤12:=by
 unfold z7e at h;split at h
 ·cases h
 ·split at h
  ·cases h
  ·split at h
   ·cases h
   ·omega
theorem zap (l:List ByteArray)(v:Value)(w:World)(hb:Strs w v l)(hl:l.length≤1000000):
  Calls prog 144 #[v] w fun e w'=>∃ v',e=.returned v'∧w'.ownsRow w.heap.size 9 1 v' l.length (l.map .string)∧Below w.heap.size w w':=by
 obtain⟨A,c,rfl,hc,hm,hlen,h0,hx⟩:=id hb;cases A with
 | none =>
  have hc0:=h0 rfl;have hn0:l=[]:=List.eq_nil_of_length_eq_zero (by omega)
  subst hn0 hc0;have heq:∀ W,(binOp .eql 29 (.slice none 0 0) (.slice none 0 0)).run prog W=.ok (.bool true) W:=fun W=>by kernel_rfl
  clear hx hlen h0 hb;go_enter func144,ntmps144;go_wp2_with fail;go_ret;exact⟨_,rfl,World.ownsRow_nil _ _ _ _,Below.refl _ _⟩
 | some ad =>
  have heq:∀ W,(binOp .eql 29 (.slice (some ad) l.length c) (.slice none 0 0)).run prog W=.ok (.bool false) W:=fun W=>by kernel_rfl
  clear hx hlen h0;have HR:=hd_ hb;clear hb;have hb0:Below w.heap.size w (w.alloc (.cells #[] 9)):=(Below.refl _ _).alloc (Nat.le_refl _) _;have hown:(w.alloc (.cells #[] 9)).ownsRow w.heap.size 9 1 (.slice (some ⟨w.heap.size,0,none⟩) 0 0) 0 []:=⟨rfl,.inr ⟨w.heap.size,0,#[],rfl,Nat.le_refl _,heap_alloc_new w _,Nat.le_refl _,by unfold maxLen;omega,rfl,rfl⟩⟩
  have h1:∀ u∈l.map Value.string,u.oneCell'=true:=fun u hu=>by
   obtain⟨b,-,rfl⟩:=List.mem_map.1 hu;rfl
  have H1:=hd_ h1;clear h1;go_enter func144,ntmps144;go_wp2_with (at_builtin;refine z0k rfl rfl z87 hown rfl (HR.out.below hb0) rfl hb0 hb0.size H1.out (by omega) (by unfold maxLen;omega) ?_;intro A' c' w1 hown1 hbl1)
  go_ret;have h:=hown1;rw[List.nil_append,Nat.zero_add] at h;exact⟨_,rfl,h,hbl1⟩
theorem zbl {xs ys l:List ByteArray}(h:zaf xs ys=some l):∀ z∈l,z∈xs∨z∈ys:=by
 induction xs generalizing ys l with
 | nil =>
  cases ys with
  | nil=>unfold zaf at h;rw[← Option.some.inj h];intro z hz;cases hz
  | cons y ys=>cases h
 | cons x xs ih =>
  cases ys with
  | nil=>unfold zaf at h;rw[← Option.some.inj h];exact fun z hz=>.inl hz
  | cons y ys =>
   unfold zaf at h;cases hm:z9t x y with
   | none=>rw[hm] at h;cases h
   | some z =>
    rw[hm] at h;simp only[Option.map_eq_some_iff] at h
    obtain⟨l',h1,h2⟩:=h;subst h2;intro u hu;rcases List.mem_cons.1 hu with rfl | hu
    ·unfold z9t at hm;split at hm
     ·exact .inl (by rw[← Option.some.inj hm];exact List.mem_cons_self ..)
     ·split at hm
      ·exact .inr (by rw[← Option.some.inj hm];exact List.mem_cons_self ..)
      ·cases hm
    ·rcases ih h1 u hu with h3 | h3
     ·exact .inl (List.mem_cons_of_mem _ h3)
     ·exact .inr (List.mem_cons_of_mem _ h3)
theorem zbm {xs ys l:List ByteArray}(h:zaf xs ys=some l):l.length=xs.length:=by
 induction xs generalizing ys l with
 | nil =>
  cases ys with
  | nil=>unfold zaf at h;rw[← Option.some.inj h]
  | cons y ys=>cases h
 | cons x xs ih =>
  cases ys with
  | nil=>unfold zaf at h;rw[← Option.some.inj h]
  | cons y ys =>
   unfold zaf at h;cases hm:z9t x y with
   | none=>rw[hm] at h;cases h
   | some z =>
    rw[hm] at h;simp only[Option.map_eq_some_iff] at h
    obtain⟨l',h1,h2⟩:=h;subst h2;rw[List.length_cons,List.length_cons,ih h1]
def zbn (w:World)(p q:Pat)(e:Ending)(w':World):Prop:=
 Below w.heap.size w w'∧(zai p q=none∧e=.returned (.tuple #[.agg #[.slice none 0 0,.bool false],.bool false])∨∃ m A c,zai p q=some m∧e=.returned (.tuple #[.agg #[.slice A m.parts.length c,.bool m.rest],.bool true])∧(∀ x,(Value.slice A m.parts.length c).ownBlock=some x→w.heap.size≤x)∧za9 w' (.slice A m.parts.length c) m)
def zbo (w:World)(g:Nat)(v:Value)(b:Bool):Prop:=Blk w g 97 [v,.bool b]
theorem zbo.c0 {w:World}{g:Nat}{v:Value}{b:Bool}(h:zbo w g v b):w.cell? ⟨g,0,none⟩=some v:=Blk.cell h 0
theorem zbo.c1 {w:World}{g:Nat}{v:Value}{b:Bool}(h:zbo w g v b):w.cell? ⟨g,1,none⟩=some (.bool b):=Blk.cell h 1
theorem zbo.f0 {w:World}{g:Nat}{v:Value}{b:Bool}(h:zbo w g v b):w.frozen? ⟨g,0,none⟩=false:=Blk.frozen h 0
theorem zbo.f1 {w:World}{g:Nat}{v:Value}{b:Bool}(h:zbo w g v b):w.frozen? ⟨g,1,none⟩=false:=Blk.frozen h 1
theorem zbo.all {w:World}{g:Nat}{v:Value}{b:Bool}(h:zbo w g v b):w.frozen? ⟨g,0,none⟩=false∧w.frozen? ⟨g,1,none⟩=false∧w.cell? ⟨g,0,none⟩=some v∧w.cell? ⟨g,1,none⟩=some (.bool b):=⟨h.f0,h.f1,h.c0,h.c1⟩
theorem zbp {B:Nat}{w w':World}(h:Below B w w'){g:Nat}(hg:B≤g)(u0 u1:Value):Below B w ((w'.setCell ⟨g,0,none⟩ u0).setCell ⟨g,1,none⟩ u1):=(h.setCell (p:=⟨g,0,none⟩) hg u0).setCell (p:=⟨g,1,none⟩) hg u1
theorem zbo.low {w w':World}{g:Nat}{v:Value}{b:Bool}(h:zbo w g v b)(hb:Below w.heap.size w w'):zbo w' g v b:=Blk.below h hb (Blk.lt h)
theorem zbo.put {w:World}{g:Nat}{v:Value}{b:Bool}(h:zbo w g v b)(v':Value)(b':Bool):zbo ((w.setCell ⟨g,0,none⟩ v').setCell ⟨g,1,none⟩ (.bool b')) g v' b':=Blk.set_ (Blk.set_ h 0 v') 1 (.bool b')
theorem zbo.far {w:World}{g g':Nat}{v:Value}{b:Bool}(h:zbo w g v b)(hg:g'≠g)(u0 u1:Value):zbo ((w.setCell ⟨g',0,none⟩ u0).setCell ⟨g',1,none⟩ u1) g v b:=Blk.far (Blk.far h hg u0) hg u1
structure MtSt (w wx:World)(p q x y:Pat)(vx vy:Value):Prop where
 low:Below w.heap.size w wx
 b2:zbo wx w.heap.size vx x.rest
 b3:zbo wx (w.heap.size+1) vy y.rest
 b4:zbo wx (w.heap.size+1+1) (.slice none 0 0) false
 px:za9 wx vx x
 py:za9 wx vy y
 le:y.parts.length≤x.parts.length
 len:x.parts.length≤12
 is:zai p q=(zaf x.parts y.parts).map (fun l=>⟨l,x.rest && y.rest⟩)
theorem MtSt.next {w wx wy:World}{p q x y:Pat}{vx vy:Value}(h:MtSt w wx p q x y vx vy)(hb:Below wx.heap.size wx wy):MtSt w wy p q x y vx vy:=
 ⟨h.low.trans (hb.mono h.low.size),h.b2.low hb,h.b3.low hb,h.b4.low hb,h.px.below hb,h.py.below hb,h.le,h.len,h.is⟩
theorem zbq {xs done:List ByteArray}{k:Nat}(hd:done.length=k)(hx:k<xs.length):((done++xs.drop k).map Value.string)[k]? = some (.string xs[k]):=by
 subst hd;rw[List.getElem?_map,List.getElem?_append_right (Nat.le_refl _),Nat.sub_self,List.getElem?_drop,Nat.add_zero,List.getElem?_eq_getElem hx];rfl
theorem mt_set {xs done:List ByteArray}{k:Nat}{z:ByteArray}(hd:done.length=k)(hx:k<xs.length):((done++xs.drop k).map Value.string).set k (.string z)=((done++[z])++xs.drop (k+1)).map Value.string:=by
 subst hd;rw[List.drop_eq_getElem_cons hx,List.map_append,List.set_append_right _ _ (by simp),List.length_map,Nat.sub_self,List.map_cons,List.set_cons_zero,List.append_assoc,List.map_append];rfl
theorem zbr (p q:Pat)(A B:Option Addr)(a b:Nat)(w:World)(hp:za9 w (.slice A p.parts.length a) p)(hq:za9 w (.slice B q.parts.length b) q):
  Calls prog 99 #[.agg #[.slice A p.parts.length a,.bool p.rest],.agg #[.slice B q.parts.length b,.bool q.rest]] w (zbn w p q):=by
 have hA:Below w.heap.size w (((w.alloc (.cells #[.slice A p.parts.length a,.bool p.rest] 97)).alloc (.cells #[.slice B q.parts.length b,.bool q.rest] 97)).alloc (.cells #[.slice none 0 0,.bool false] 97)):=(((Below.refl _ _).alloc (Nat.le_refl _) _).alloc (by simp) _).alloc (by simp;omega) _
 have h2:zbo (((w.alloc (.cells #[.slice A p.parts.length a,.bool p.rest] 97)).alloc (.cells #[.slice B q.parts.length b,.bool q.rest] 97)).alloc (.cells #[.slice none 0 0,.bool false] 97)) w.heap.size (.slice A p.parts.length a) p.rest:=((z0l w [.slice A p.parts.length a,.bool p.rest] 97).alloc _).alloc _;have h3:zbo (((w.alloc (.cells #[.slice A p.parts.length a,.bool p.rest] 97)).alloc (.cells #[.slice B q.parts.length b,.bool q.rest] 97)).alloc (.cells #[.slice none 0 0,.bool false] 97)) (w.heap.size+1) (.slice B q.parts.length b) q.rest:=by
  have:=(z0l (w.alloc (.cells #[.slice A p.parts.length a,.bool p.rest] 97)) [.slice B q.parts.length b,.bool q.rest] 97).alloc (.cells #[.slice none 0 0,.bool false] 97);rw[World.size_alloc] at this;exact this
 have h4:zbo (((w.alloc (.cells #[.slice A p.parts.length a,.bool p.rest] 97)).alloc (.cells #[.slice B q.parts.length b,.bool q.rest] 97)).alloc (.cells #[.slice none 0 0,.bool false] 97)) (w.heap.size+1+1) (.slice none 0 0) false:=by
  have:=z0l ((w.alloc (.cells #[.slice A p.parts.length a,.bool p.rest] 97)).alloc (.cells #[.slice B q.parts.length b,.bool q.rest] 97)) [.slice none 0 0,.bool false] 97;rw[World.size_alloc,World.size_alloc] at this;exact this
 have HCP:=hd_ (fun X (hX:Below w.heap.size w X)=>za0 p A a X (hp.below hX).1 hp.small);have HCQ:=hd_ (fun X (hX:Below w.heap.size w X)=>za0 q B b X (hq.below hX).1 hq.small);have HP:=hd_ hp;have HQ:=hd_ hq;have HM:Hid (zai p q=if z7e p=0∧z7e q=0∧zad p.parts.length p.rest q.parts.length q.rest=true then (zaf (zag p q).parts (zah p q).parts).map (fun l=>⟨l,p.rest && q.rest⟩) else none):=hd_ rfl;clear hp hq;go_enter func99,ntmps99;go_upto_region 1 with fail;generalize ((w.alloc (.cells #[.slice A p.parts.length a,.bool p.rest] 97)).alloc (.cells #[.slice B q.parts.length b,.bool q.rest] 97)).alloc (.cells #[.slice none 0 0,.bool false] 97)=W1 at hA h2 h3 h4 ⊢;have H:=hd_ (And.intro hA (And.intro h2 (And.intro h3 h4)));have x0:=h2.c0;have x1:=h2.c1;have HC1:=hd_ (HCP.out W1 hA);clear h2 h3 h4 hA HCP;obtain⟨pe,hpe⟩:∃ pe,z7e p=pe:=⟨_,rfl⟩;rw[hpe] at HC1 HM;have HPE:=hd_ hpe;clear hpe;by_cases h0:pe=0
 case neg =>
  have qq:(pe != 0)=true:=by simpa using h0
  have HN:Hid (zai p q=none):=hd_ (by rw[HM.out];exact if_neg (fun h=>h0 h.1))
  clear h0 HM;go_wp2_with fail;refine HC1.out.mono ?_;rintro e w2 ⟨rfl,hb⟩;have HB:=hd_ (z0r H.out.1 hb);have HZ:=hd_ (H.out.2.2.2.low hb);clear hb x0 x1;obtain⟨f0,f1,c0,c1⟩:=HZ.out.all;go_wp2_with fail;have hE:=HZ.out.put (.slice none 0 0) false;have hb:=zbp HB.out (g:=w.heap.size+1+1) (by omega) (.slice none 0 0) (.bool false)
  generalize (w2.setCell ⟨w.heap.size+1+1,0,none⟩ (.slice none 0 0)).setCell ⟨w.heap.size+1+1,1,none⟩ (.bool false)=W3 at hE hb ⊢;clear f0 f1 c0 c1;obtain⟨-,-,c0,c1⟩:=hE.all;exact bodyPost_ret (v:=.tuple #[.agg #[.slice none 0 0,.bool false],.bool false]) (by simp [results,results99,go_sem,c0,c1]) rfl ⟨hb,.inl ⟨HN.out,rfl⟩⟩
 subst h0;obtain⟨qe,hqe⟩:∃ qe,z7e q=qe:=⟨_,rfl⟩;have HC2:=hd_ (fun X hX=>HCQ.out X hX);rw[hqe] at HC2 HM;have HQE:=hd_ hqe;clear hqe HCQ;by_cases h0:qe=0
 case neg =>
  have qq:(qe != 0)=true:=by simpa using h0
  have HN:Hid (zai p q=none):=hd_ (by rw[HM.out];exact if_neg (fun h=>h0 h.2.1))
  clear h0 HM;go_wp2_with fail;refine HC1.out.mono ?_;rintro e w2 ⟨rfl,hb⟩;have HB:=hd_ (z0r H.out.1 hb);have HZ:=hd_ (H.out.2.2.2.low hb);have hq2:=H.out.2.2.1.low hb;have y0:=hq2.c0;have y1:=hq2.c1;have HC3:=hd_ (HC2.out w2 HB.out);clear hb x0 x1 hq2;go_wp2_with fail;refine HC3.out.mono ?_;rintro e w3 ⟨rfl,hb⟩;have HZ:=hd_ (HZ.out.low hb);have HB:=hd_ (z0r HB.out hb);clear hb y0 y1;obtain⟨f0,f1,c0,c1⟩:=HZ.out.all;go_wp2_with fail;have hE:=HZ.out.put (.slice none 0 0) false;have hb:=zbp HB.out (g:=w.heap.size+1+1) (by omega) (.slice none 0 0) (.bool false)
  generalize (w3.setCell ⟨w.heap.size+1+1,0,none⟩ (.slice none 0 0)).setCell ⟨w.heap.size+1+1,1,none⟩ (.bool false)=W3 at hE hb ⊢;clear f0 f1 c0 c1;obtain⟨-,-,c0,c1⟩:=hE.all;exact bodyPost_ret (v:=.tuple #[.agg #[.slice none 0 0,.bool false],.bool false]) (by simp [results,results99,go_sem,c0,c1]) rfl ⟨hb,.inl ⟨HN.out,rfl⟩⟩
 subst h0;have HMM:Hid (zai p q=if zad p.parts.length p.rest q.parts.length q.rest=true then (zaf (zag p q).parts (zah p q).parts).map (fun l=>⟨l,p.rest && q.rest⟩) else none):=hd_ (by
  rw[HM.out];by_cases h:zad p.parts.length p.rest q.parts.length q.rest=true
  ·rw[if_pos ⟨rfl,rfl,h⟩,if_pos h]
  ·rw[if_neg (fun hh=>h hh.2.2),if_neg h])
 clear HM;have HCO:=hd_ (fun X=>zae p.parts.length q.parts.length p.rest q.rest X);generalize zad p.parts.length p.rest q.parts.length q.rest=cb at HMM HCO;go_wp2_with fail;refine HC1.out.mono ?_;rintro e w2 ⟨rfl,hb⟩;have HB:=hd_ (z0r H.out.1 hb);have HG:=hd_ (And.intro (H.out.2.1.low hb) (And.intro (H.out.2.2.1.low hb) (H.out.2.2.2.low hb)));have y0:=HG.out.2.1.c0;have y1:=HG.out.2.1.c1;have HC3:=hd_ (HC2.out w2 HB.out);clear hb x0 x1 H HC1 HC2;go_wp2_with fail;refine HC3.out.mono ?_;rintro e w3 ⟨rfl,hb⟩;have HG:=hd_ (And.intro (HG.out.1.low hb) (And.intro (HG.out.2.1.low hb) (HG.out.2.2.low hb)));have HB:=hd_ (z0r HB.out hb);clear hb y0 y1 HC3;have x0:=HG.out.1.c0;have x1:=HG.out.1.c1;have y0:=HG.out.2.1.c0;have y1:=HG.out.2.1.c1;cases cb with
 | false =>
  have HN:Hid (zai p q=none):=hd_ (by rw[HMM.out];rfl)
  have HZ:=hd_ HG.out.2.2;obtain⟨f0,f1,c0,c1⟩:=HZ.out.all;go_wp2_with (go_at_call 143;refine (HCO.out _).mono ?_;rintro e w' ⟨rfl,rfl⟩)
  clear x0 x1 y0 y1;have hE:=HZ.out.put (.slice none 0 0) false;have hb:=zbp HB.out (g:=w.heap.size+1+1) (by omega) (.slice none 0 0) (.bool false)
  generalize (w3.setCell ⟨w.heap.size+1+1,0,none⟩ (.slice none 0 0)).setCell ⟨w.heap.size+1+1,1,none⟩ (.bool false)=W3 at hE hb ⊢;clear f0 f1 c0 c1;obtain⟨-,-,c0,c1⟩:=hE.all;exact bodyPost_ret (v:=.tuple #[.agg #[.slice none 0 0,.bool false],.bool false]) (by simp [results,results99,go_sem,c0,c1]) rfl ⟨hb,.inl ⟨HN.out,rfl⟩⟩
 | true =>
  rw[if_pos rfl] at HMM;go_upto_region 5 with (go_at_call 143;refine (HCO.out _).mono ?_;rintro e w' ⟨rfl,rfl⟩)
  have HMB:Hid (zag p q=if p.parts.length<q.parts.length then q else p):=hd_ rfl;have HMS:Hid (zah p q=if p.parts.length<q.parts.length then p else q):=hd_ rfl;by_cases hlt:p.parts.length<q.parts.length
  focus
   have q1:decide ((p.parts.length:Int)<(q.parts.length:Int))=true:=by simp;omega
   obtain⟨f0,f1,-,-⟩:=HG.out.1.all;obtain⟨f2,f3,-,-⟩:=HG.out.2.1.all;have n1:¬(w.heap.size=w.heap.size+1):=by omega
   have HLT:=hd_ hlt;clear hlt;go_upto_region 7 with fail;have hx:=(HG.out.1.put (.slice B q.parts.length b) q.rest).far (g':=w.heap.size+1) (by omega) (.slice A p.parts.length a) (.bool p.rest)
   have hy:=(HG.out.2.1.far (g':=w.heap.size) (by omega) (.slice B q.parts.length b) (.bool q.rest)).put (.slice A p.parts.length a) p.rest
   have hz:=(HG.out.2.2.far (g':=w.heap.size) (by omega) (.slice B q.parts.length b) (.bool q.rest)).far (g':=w.heap.size+1) (by omega) (.slice A p.parts.length a) (.bool p.rest)
   have hb:=zbp (zbp HB.out (g:=w.heap.size) (Nat.le_refl _) (.slice B q.parts.length b) (.bool q.rest)) (g:=w.heap.size+1) (by omega) (.slice A p.parts.length a) (.bool p.rest)
   generalize (((w3.setCell ⟨w.heap.size,0,none⟩ (.slice B q.parts.length b)).setCell ⟨w.heap.size,1,none⟩ (.bool q.rest)).setCell ⟨w.heap.size+1,0,none⟩ (.slice A p.parts.length a)).setCell ⟨w.heap.size+1,1,none⟩ (.bool p.rest)=wx at hx hy hz hb ⊢;obtain⟨x,y,X,Y,c1,c2,HI⟩:∃(x y:Pat) (X Y:Option Addr) (c1 c2:Nat),Hid (MtSt w wx p q x y (.slice X x.parts.length c1) (.slice Y y.parts.length c2)):=⟨q,p,B,A,b,a,hd_ ⟨hb,hx,hy,hz,HQ.out.below hb,HP.out.below hb,by have:=HLT.out;omega,zao HQE.out,by rw[HMM.out,HMB.out,HMS.out,if_pos HLT.out,if_pos HLT.out,Bool.and_comm]⟩⟩
   clear x0 x1 y0 y1 q1 f0 f1 f2 f3 n1 hx hy hz hb HB HG HMM
  rotate_left
  focus
   have q1:decide ((p.parts.length:Int)<(q.parts.length:Int))=false:=by simp;omega
   have HLT:=hd_ hlt;clear hlt;go_upto_region 7 with fail;obtain⟨wx,rfl⟩:∃ X,X=w3:=⟨_,rfl⟩;obtain⟨x,y,X,Y,c1,c2,HI⟩:∃(x y:Pat) (X Y:Option Addr) (c1 c2:Nat),Hid (MtSt w wx p q x y (.slice X x.parts.length c1) (.slice Y y.parts.length c2)):=⟨p,q,A,B,a,b,hd_ ⟨HB.out,HG.out.1,HG.out.2.1,HG.out.2.2,HP.out.below HB.out,HQ.out.below HB.out,by have:=HLT.out;omega,zao HPE.out,by rw[HMM.out,HMB.out,HMS.out,if_neg HLT.out,if_neg HLT.out]⟩⟩
   clear x0 x1 y0 y1 q1 HB HG HMM
  all_goals
   clear HMB HMS HLT HP HQ HPE HQE;have x0:=HI.out.b2.c0;have x1:=HI.out.b2.c1;have HCL:=hd_ (zap x.parts _ _ HI.out.px.1 (by have:=HI.out.len;omega))
   go_wp2_with fail;refine HCL.out.mono ?_;rintro e w5 ⟨v',rfl,hown,hb⟩;have HO:=hd_ hown;have HB5:=hd_ hb;have y0:=(HI.out.next hb).b3.c0;clear x0 x1 hown hb HCL;have HLE:=hd_ HI.out.le;go_wp2_with fail;go_loopw [48] (fun i wr=>∃(k:Nat) (done:List ByteArray),i=.int .i64 k∧k≤y.parts.length∧Hid (zaj x.parts y.parts k done∧Below wx.heap.size wx wr∧wr.ownsRow wx.heap.size 9 1 v' x.parts.length ((done++x.parts.drop k).map .string))) (fun i _=>y.parts.length - (intOf i).toNat)
   case atStart=>exact⟨0,[],rfl,Nat.zero_le _,hd_ ⟨zak _ _,HB5.out,by simpa using HO.out⟩⟩
   case round =>
    obtain⟨k,done,rfl,hk,HJ⟩:=hrel;clear y0;have hyl:y.parts.length≤12:=by have:=HI.out.le;have:=HI.out.len;omega
    by_cases hlt:k<y.parts.length
    ·have hxl:k<x.parts.length:=by have:=HLE.out;omega
     obtain⟨ad,rfl,hab,s0⟩:=Strs.at_ (HI.out.next HJ.out.2.1).py.1 hlt;obtain⟨g,cg,rfl⟩:=z0s HJ.out.2.2 (by omega)
     obtain⟨r0,r1,r2⟩:=zac HJ.out.2.2 (zbq HJ.out.1.1 hxl);have HMP:=hd_ (fun X=>z9v x.parts[k] y.parts[k] X (HI.out.px.2 _ (List.getElem_mem _)) (HI.out.py.2 _ (List.getElem_mem _)));have HNO:=hd_ (fun h:z9t x.parts[k] y.parts[k]=none=>(by rw[HI.out.is,zal HJ.out.1 hxl hlt h];rfl:zai p q=none))
     have HYE:=hd_ (fun z (h:z9t x.parts[k] y.parts[k]=some z)=>zam HJ.out.1 hxl hlt h);generalize x.parts[k]=s at r0 HMP HNO HYE;generalize y.parts[k]=t at s0 HMP HNO HYE;generalize z9t s t=o at HMP HNO HYE;clear hab;have HXL:=hd_ hxl;have HLT:=hd_ hlt;have hxz:(k:Int)<(x.parts.length:Int):=by omega
     cases o with
     | none =>
      have HN:=hd_ (HNO.out rfl);go_wp2_with fail;refine (HMP.out _).mono ?_;rintro e w6 ⟨rfl,hb6⟩;have HI6:=hd_ (HI.out.next (z0r HJ.out.2.1 hb6));clear hb6 r0 r1 s0;obtain⟨f0,f1,c0,c1⟩:=HI6.out.b4.all;go_wp2_with fail;have hE:=HI6.out.b4.put (.slice none 0 0) false;have hb:=zbp HI6.out.low (g:=w.heap.size+1+1) (by omega) (.slice none 0 0) (.bool false)
      generalize (w6.setCell ⟨w.heap.size+1+1,0,none⟩ (.slice none 0 0)).setCell ⟨w.heap.size+1+1,1,none⟩ (.bool false)=W3 at hE hb ⊢;clear f0 f1 c0 c1;obtain⟨-,-,c0,c1⟩:=hE.all;exact bodyPost_ret (v:=.tuple #[.agg #[.slice none 0 0,.bool false],.bool false]) (by simp [results,results99,go_sem,c0,c1]) rfl ⟨hb,.inl ⟨HN.out,rfl⟩⟩
     | some z =>
      have HN:=hd_ (HYE.out z rfl);have HGE:=hd_ r2;go_wp2_with fail;refine (HMP.out _).mono ?_;rintro e w6 ⟨rfl,hb6⟩;have HB6:=hd_ (z0r HJ.out.2.1 hb6);have HO6:=hd_ (z0n HJ.out.2.2 hb6);clear hb6 r0 r1 r2 s0;obtain⟨r0,r1,-⟩:=zac HO6.out (zbq HJ.out.1.1 HXL.out);go_wp2_with fail;go_roundw
      case rel=>exact⟨k+1,done++[z],by go_num,by omega,hd_ ⟨HN.out,Below.setCell HB6.out (p:=⟨g,k,none⟩) HGE.out _,by rw[← mt_set HJ.out.1.1 HXL.out];exact zab HO6.out _⟩⟩
      case measure=>simp [intOf];omega
    ·have hke:k=y.parts.length:=by omega
     subst hke;have HME:=hd_ (zan HJ.out.1);have HIS:Hid (zai p q=some ⟨done++x.parts.drop y.parts.length,x.rest && y.rest⟩):=hd_ (by rw[HI.out.is,HME.out];rfl)
     have HIE:=hd_ (HI.out.next HJ.out.2.1);have HLN:=hd_ (zbm HME.out);have HMS:=hd_ (zbl HME.out);have hge:¬((y.parts.length:Int)<(y.parts.length:Int)):=by omega
     obtain⟨Av,cv,rfl⟩:=z0o HJ.out.2.2;have HFR:Hid (∀(Aw:Option Addr) (n cw:Nat),(Aw=Av)→∀ x,(Value.slice Aw n cw).ownBlock=some x→w.heap.size≤x):=hd_ (fun Aw n cw e x hx=>by
      subst e;have:=(HJ.out.2.2.lt x (by cases Aw with | none=>cases hx | some ad=>exact hx)).1
      have:=HI.out.low.size;omega)
     have x1:=HIE.out.b2.c1;have y1:=HIE.out.b3.c1;obtain⟨f0,f1,c0,c1⟩:=HIE.out.b4.all;obtain⟨bx,hbx⟩:∃ bx,x.rest=bx:=⟨_,rfl⟩;obtain⟨by',hby⟩:∃ by',y.rest=by':=⟨_,rfl⟩
     rw[hbx] at x1 HIS;rw[hby] at y1 HIS;clear hbx hby;generalize done++x.parts.drop y.parts.length=l at HJ HME HIS HLN HMS;cases bx with
     | false =>
      go_wp2_with fail;have hb:=zbp HIE.out.low (g:=w.heap.size+1+1) (by omega) (.slice Av x.parts.length cv) (.bool false)
      have hE:=HIE.out.b4.put (.slice Av x.parts.length cv) false;have hO:=Row.of_own (ownsRow_setCell_below (ownsRow_setCell_below HJ.out.2.2 (a:=⟨w.heap.size+1+1,0,none⟩) (Blk.lt HI.out.b4) (.slice Av x.parts.length cv)) (a:=⟨w.heap.size+1+1,1,none⟩) (Blk.lt HI.out.b4) (.bool false));generalize (wr.setCell ⟨w.heap.size+1+1,0,none⟩ (.slice Av x.parts.length cv)).setCell ⟨w.heap.size+1+1,1,none⟩ (.bool false)=W3 at hE hb hO ⊢;clear f0 f1 c0 c1;obtain⟨-,-,c0,c1⟩:=hE.all;refine bodyPost_ret (v:=.tuple #[.agg #[.slice Av x.parts.length cv,.bool false],.bool true]) (by simp [results,results99,go_sem,c0,c1]) rfl ⟨hb,.inr ⟨⟨l,false⟩,Av,cv,HIS.out,?_,HFR.out Av _ cv rfl,?_,fun z hz=>?_⟩⟩
      ·show _=Ending.returned (.tuple #[.agg #[.slice Av l.length cv,.bool false],.bool true])
       rw[HLN.out]
      ·show Row W3 1 (.slice Av l.length cv) l.length (l.map .string)
       rw[HLN.out];exact hO
      ·rcases HMS.out z hz with h | h
       ·exact HI.out.px.2 z h
       ·exact HI.out.py.2 z h
     | true =>
      go_wp2_with fail;have hb:=zbp HIE.out.low (g:=w.heap.size+1+1) (by omega) (.slice Av x.parts.length cv) (.bool by')
      have hE:=HIE.out.b4.put (.slice Av x.parts.length cv) by'
      have hO:=Row.of_own (ownsRow_setCell_below (ownsRow_setCell_below HJ.out.2.2 (a:=⟨w.heap.size+1+1,0,none⟩) (Blk.lt HI.out.b4) (.slice Av x.parts.length cv)) (a:=⟨w.heap.size+1+1,1,none⟩) (Blk.lt HI.out.b4) (.bool by'))
      generalize (wr.setCell ⟨w.heap.size+1+1,0,none⟩ (.slice Av x.parts.length cv)).setCell ⟨w.heap.size+1+1,1,none⟩ (.bool by')=W3 at hE hb hO ⊢
      clear f0 f1 c0 c1;obtain⟨-,-,c0,c1⟩:=hE.all;refine bodyPost_ret (v:=.tuple #[.agg #[.slice Av x.parts.length cv,.bool by'],.bool true]) (by simp [results,results99,go_sem,c0,c1]) rfl ⟨hb,.inr ⟨⟨l,by'⟩,Av,cv,HIS.out,?_,HFR.out Av _ cv rfl,?_,fun z hz=>?_⟩⟩
      ·show _=Ending.returned (.tuple #[.agg #[.slice Av l.length cv,.bool by'],.bool true])
       rw[HLN.out]
      ·show Row W3 1 (.slice Av l.length cv) l.length (l.map .string)
       rw[HLN.out];exact hO
      ·rcases HMS.out z hz with h | h
       ·exact HI.out.px.2 z h
       ·exact HI.out.py.2 z h
end Go.Proofs.YtegeboijhifmcaaGreatDoor
