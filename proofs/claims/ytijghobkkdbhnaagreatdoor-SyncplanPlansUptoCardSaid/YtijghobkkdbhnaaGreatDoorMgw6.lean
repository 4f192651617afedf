/- A part. -/
import Derived.Test.YtijghobkkdbhnaaGreatDoorMgw3
import Derived.Test.YtijghobkkdbhnaaGreatDoorMgw5
import Derived.Test.YtijghobkkdbhnaaGreatDoorMgw4
set_option linter.unusedVariables false
set_option linter.unusedSimpArgs false
set_option maxHeartbeats 4000000
set_option maxRecDepth 100000
namespace Go.Proofs.YtijghobkkdbhnaaGreatDoor
open Go.RowKit
theorem z43 {α:Type}(f:α→List Value)(n:Nat)(hf:∀ x,(f x).length=n)(l:List α):(l.flatMap f).length=l.length * n:=by
 induction l with
 | nil=>simp
 | cons x l ih=>simp only[List.flatMap_cons,List.length_append,ih,hf,List.length_cons,Nat.succ_mul];omega
theorem z44 {α:Type}(f:α→List Value)(n:Nat)(hf:∀ x,(f x).length=n)(l:List α)(k j:Nat)(hk:k<l.length)(hj:j<n):(l.flatMap f)[k * n+j]? = (f l[k])[j]?:=by
 induction l generalizing k with
 | nil=>simp at hk
 | cons x l ih =>
  simp only[List.flatMap_cons]
  cases k with
  | zero=>rw[List.getElem?_append_left (by rw[hf];omega)];simp
  | succ k =>
   rw[List.getElem?_append_right (by rw[hf,Nat.succ_mul];omega),hf,show (k+1) * n+j - n=k * n+j by rw[Nat.succ_mul];omega]
   simpa using ih k (by simpa using hk)
def z45 (w:World)(v:Value)(l:List Rev):Prop:=Row w 12 v l.length (l.flatMap Rev.cells)
def z47 (w:World)(v:Value)(l:List Edt):Prop:=Row w 12 v l.length (l.flatMap Edt.cells)
def z48 (w:World)(v:Value)(l:List Rcd):Prop:=Row w 6 v l.length (l.flatMap Rcd.cells)
section
variable {w w' : World} {v : Value}
theorem z45.below {l:List Rev}(h:z45 w v l)(hb:Below w.heap.size w w'):z45 w' v l:=Row.below h hb
theorem z47.below {l:List Edt}(h:z47 w v l)(hb:Below w.heap.size w w'):z47 w' v l:=Row.below h hb
theorem z48.below {l:List Rcd}(h:z48 w v l)(hb:Below w.heap.size w w'):z48 w' v l:=Row.below h hb
theorem z45.keep {l:List Rev}(h:z45 w v l)(hs:w.heap.size≤w'.heap.size)(hk:∀ p:Addr,p.block<w.heap.size→w'.cell? p=w.cell? p):z45 w' v l:=Row.keep h hs hk
theorem z45.nil_ (w:World):z45 w (.slice none 0 0) []:=Row.nil_ w 12
theorem z48.nil_ (w:World):z48 w (.slice none 0 0) []:=Row.nil_ w 6
end
theorem z49 {α:Type}{f:α→List Value}{n:Nat}(hf:∀ x,(f x).length=n){w:World}{A:Option Addr}{c:Nat}{l:List α}(h:Row w n (.slice A l.length c) l.length (l.flatMap f)){k:Nat}(hk:k<l.length):
  ∃ ad,A=some ad∧ad.block<w.heap.size∧∀ j v,(f l[k])[j]? = some v→w.cell? (if j=0 then ad.add (k * n) else ⟨(ad.add (k * n)).block,(ad.add (k * n)).off+j,none⟩)=some v:=by
 obtain⟨ad,e,hb,hc⟩:=Row.at_ h hk;refine⟨ad,e,hb,fun j v hv=>?_⟩;have hj:j<n:=by rw[← hf l[k]];exact (List.getElem?_eq_some_iff.1 hv).1
 have:=hc j v (by rw[z44 f n hf l k j hk hj];exact hv)
 cases j with
 | zero=>simpa using this
 | succ j=>rw[if_neg (by omega),z02,z01];exact this
def RevAt (w:World)(a:Addr)(x:Rev):Prop:=w.cell? a=some (.string x.path)∧w.cell? ⟨a.block,a.off+1,none⟩=some (.int .i64 x.num)∧w.cell? ⟨a.block,a.off+2,none⟩=some (.int .i64 x.chg)∧w.cell? ⟨a.block,a.off+3,none⟩=some (.int .i64 x.act)∧w.cell? ⟨a.block,a.off+4,none⟩=some (.int .i64 x.ty.base)∧w.cell? ⟨a.block,a.off+5,none⟩=some (.bool x.ty.k)∧w.cell? ⟨a.block,a.off+6,none⟩=some (.bool x.ty.l)∧w.cell? ⟨a.block,a.off+7,none⟩=some (.bool x.ty.x)∧w.cell? ⟨a.block,a.off+8,none⟩=some (.int .u64 x.sum)∧w.cell? ⟨a.block,a.off+9,none⟩=some (.int .i64 x.size)∧w.cell? ⟨a.block,a.off+10,none⟩=some (.string x.frm)∧w.cell? ⟨a.block,a.off+11,none⟩=some (.int .i64 x.fnum)
theorem z45.at_ {w:World}{A:Option Addr}{c:Nat}{l:List Rev}(h:z45 w (.slice A l.length c) l){k:Nat}(hk:k<l.length):
  ∃ ad,A=some ad∧ad.block<w.heap.size∧RevAt w (ad.add (k * 12)) l[k]:=by
 obtain⟨ad,e,hb,hc⟩:=z49 (f:=Rev.cells) (n:=12) (fun _=>rfl) h hk;exact⟨ad,e,hb,hc 0 _ rfl,hc 1 _ rfl,hc 2 _ rfl,hc 3 _ rfl,hc 4 _ rfl,hc 5 _ rfl,hc 6 _ rfl,hc 7 _ rfl,hc 8 _ rfl,hc 9 _ rfl,hc 10 _ rfl,hc 11 _ rfl⟩
def EdtAt (w:World)(a:Addr)(x:Edt):Prop:=w.cell? a=some (.string x.path)∧w.cell? ⟨a.block,a.off+1,none⟩=some (.int .i64 x.act)∧w.cell? ⟨a.block,a.off+2,none⟩=some (.int .i64 x.ty.base)∧w.cell? ⟨a.block,a.off+3,none⟩=some (.bool x.ty.k)∧w.cell? ⟨a.block,a.off+4,none⟩=some (.bool x.ty.l)∧w.cell? ⟨a.block,a.off+5,none⟩=some (.bool x.ty.x)∧w.cell? ⟨a.block,a.off+6,none⟩=some (.int .u64 x.sum)∧w.cell? ⟨a.block,a.off+7,none⟩=some (.int .i64 x.size)∧w.cell? ⟨a.block,a.off+8,none⟩=some (.int .i64 x.base)∧w.cell? ⟨a.block,a.off+9,none⟩=some (.string x.frm)∧w.cell? ⟨a.block,a.off+10,none⟩=some (.int .i64 x.fnum)∧w.cell? ⟨a.block,a.off+11,none⟩=some (.int .i64 x.fence)
theorem z47.at_ {w:World}{A:Option Addr}{c:Nat}{l:List Edt}(h:z47 w (.slice A l.length c) l){k:Nat}(hk:k<l.length):
  ∃ ad,A=some ad∧ad.block<w.heap.size∧EdtAt w (ad.add (k * 12)) l[k]:=by
 obtain⟨ad,e,hb,hc⟩:=z49 (f:=Edt.cells) (n:=12) (fun _=>rfl) h hk;exact⟨ad,e,hb,hc 0 _ rfl,hc 1 _ rfl,hc 2 _ rfl,hc 3 _ rfl,hc 4 _ rfl,hc 5 _ rfl,hc 6 _ rfl,hc 7 _ rfl,hc 8 _ rfl,hc 9 _ rfl,hc 10 _ rfl,hc 11 _ rfl⟩
def RcdAt (w:World)(a:Addr)(x:Rcd):Prop:=w.cell? a=some (.string x.frm)∧w.cell? ⟨a.block,a.off+1,none⟩=some (.int .i64 x.first)∧w.cell? ⟨a.block,a.off+2,none⟩=some (.int .i64 x.last)∧w.cell? ⟨a.block,a.off+3,none⟩=some (.string x.to)∧w.cell? ⟨a.block,a.off+4,none⟩=some (.int .i64 x.num)∧w.cell? ⟨a.block,a.off+5,none⟩=some (.int .i64 x.how)
theorem z48.at_ {w:World}{A:Option Addr}{c:Nat}{l:List Rcd}(h:z48 w (.slice A l.length c) l){k:Nat}(hk:k<l.length):
  ∃ ad,A=some ad∧ad.block<w.heap.size∧RcdAt w (ad.add (k * 6)) l[k]:=by
 obtain⟨ad,e,hb,hc⟩:=z49 (f:=Rcd.cells) (n:=6) (fun _=>rfl) h hk;exact⟨ad,e,hb,hc 0 _ rfl,hc 1 _ rfl,hc 2 _ rfl,hc 3 _ rfl,hc 4 _ rfl,hc 5 _ rfl⟩
def Chk (w:World)(g:Nat)(dv dr:Value)(n:Int)(cl tx:ByteArray)(ev rv:Value)(bl be bn:Nat):Prop:=
 Blk w g 204 [dv,dr,.int .i64 n,.string cl,.string tx,ev,rv,.map (some bl),.map (some be),.map (some bn)]
theorem z4a {w:World}{g:Nat}{dv dr ev rv:Value}{n:Int}{cl tx:ByteArray}{bl be bn:Nat}(h:Chk w g dv dr n cl tx ev rv bl be bn):
  w.cell? ⟨g,0,none⟩=some dv∧w.cell? ⟨g,1,none⟩=some dr∧w.cell? ⟨g,2,none⟩=some (.int .i64 n)∧w.cell? ⟨g,5,none⟩=some ev∧w.cell? ⟨g,6,none⟩=some rv ∧
  w.cell? ⟨g,7,none⟩=some (.map (some bl))∧w.cell? ⟨g,8,none⟩=some (.map (some be))∧w.cell? ⟨g,9,none⟩=some (.map (some bn)):=
 ⟨Blk.cell h 0,Blk.cell h 1,Blk.cell h 2,Blk.cell h 5,Blk.cell h 6,Blk.cell h 7,Blk.cell h 8,Blk.cell h 9⟩
def za6 (l:List ByteArray)(k:Nat):Nat:=((l.take k).filter z7e).length
def za7 (p:Pat):Nat:=(p.parts.filter z7e).length
theorem za8 {l:List ByteArray}{k:Nat}(h:k<l.length):za6 l (k+1)=za6 l k+if z7e l[k] then 1 else 0:=by
 unfold za6;rw[List.take_succ_eq_append_getElem h,List.filter_append,List.length_append];congr 1
 cases h:z7e l[k]
 ·rw[List.filter_cons_of_neg (by rw[h];decide)];rfl
 ·rw[List.filter_cons_of_pos h];rfl
theorem za9 {p:Pat}:za6 p.parts p.parts.length=za7 p:=by unfold za6 za7;rw[List.take_length]
theorem zaa {l:List ByteArray}:∀ k,za6 l k≤k:=fun k=>Nat.le_trans (List.length_filter_le ..) (List.length_take_le ..)
def zab (w:World)(p:Pat)(e:Ending)(w':World):Prop:=∃ n:Int,∃ b:Bool,e=.returned (.tuple #[.int .i64 n,.bool b,.int .i64 (z7j p)])∧(z7j p=0→n=za7 p∧b=p.rest)∧Below w.heap.size w w'
theorem zac (p:Pat)(A:Option Addr)(c:Nat)(w:World)(hS:Strs w (.slice A p.parts.length c) p.parts)(hz:∀ x∈p.parts,x.size≤maxLen):
  Calls Tryz.prog 169 #[.agg #[.slice A p.parts.length c,.bool p.rest]] w (zab w p):=by
 obtain⟨A',c',e',hcc,hmm,-⟩:=id hS;injection e' with e1 e2 e3
 subst e1 e3;unfold maxLen at hmm;have HS:=hd_ hS;have hB:=z0l w [.slice A p.parts.length c,.bool p.rest] 68;have hA:Below w.heap.size w (w.alloc (.cells #[.slice A p.parts.length c,.bool p.rest] 68)):=(Below.refl _ _).alloc (Nat.le_refl _) _;have HCK:=hd_ (fun X (hX:Below w.heap.size w X)=>za5 p A c X (hS.below hX) hz);clear hS hz e2;go_enter Tryz.func169,Tryz.ntmps169;go_upto_region 1 with fail;generalize w.alloc (.cells #[.slice A p.parts.length c,.bool p.rest] 68)=W1 at hB hA ⊢;have d0:W1.cell? ⟨w.heap.size,0,none⟩=some (.slice A p.parts.length c):=hB.cell 0;have d1:W1.cell? ⟨w.heap.size,1,none⟩=some (.bool p.rest):=hB.cell 1;have HC:=hd_ (HCK.out W1 hA);have HB:=hd_ hB;have HA:=hd_ hA;clear hB hA HCK;obtain⟨pe,hpe⟩:∃ pe,z7j p=pe:=⟨_,rfl⟩;have HPE:=hd_ hpe;rw[hpe] at HC;clear hpe;by_cases h0:pe=0
 case neg =>
  have q:(pe != 0)=true:=by simpa using h0
  have HR:Hid (z7j p≠0):=hd_ (by rw[HPE.out];exact h0)
  clear h0;go_wp2_with fail;refine HC.out.mono ?_;rintro e w2 ⟨rfl,hb⟩;have HB2:=hd_ (z0r HA.out hb);clear hb d0 d1;go_wp2_with fail;go_ret3
  exact⟨0,false,by rw[HPE.out];rfl,fun h=>absurd h HR.out,HB2.out⟩
 subst h0;go_wp2_with fail;refine HC.out.mono ?_;rintro e w2 ⟨rfl,hb⟩;have HB2:=hd_ (z0r HA.out hb);have hB2:=HB.out.below hb HB.out.lt;clear hb d0 d1;have d0:w2.cell? ⟨w.heap.size,0,none⟩=some (.slice A p.parts.length c):=hB2.cell 0;have d1:w2.cell? ⟨w.heap.size,1,none⟩=some (.bool p.rest):=hB2.cell 1;clear hB2 HC;go_wp2_with fail;go_loop [2,16] (fun s i=>∃ k:Nat,k≤p.parts.length∧i=.int .i64 k∧s=.int .i64 (za6 p.parts k)) (fun _ i=>p.parts.length - (intOf i).toNat)
 case atStart=>exact⟨0,Nat.zero_le _,rfl,rfl⟩
 case round =>
  obtain⟨k,hk,rfl,rfl⟩:=hrel;have hsl:=zaa (l:=p.parts) k;by_cases hlt:k<p.parts.length
  ·obtain⟨ad,rfl,hab,x0⟩:=Strs.at_ (HS.out.below HB2.out) hlt;have HT:=hd_ (fun X=>z7p p.parts[k] X);have HN:=hd_ (za8 hlt);generalize p.parts[k]=part at x0 HT HN;generalize z7e part=st at HT HN;generalize za6 p.parts k=m at HN hsl;clear hab;cases st with
   | false =>
    go_wp2_with (first
     | (go_at_call 135;refine (HT.out _).mono ?_;rintro e w' ⟨rfl,rfl⟩))
    go_round
    case rel=>exact⟨k+1,by omega,by go_num,by rw[HN.out];rfl⟩
    case measure=>simp [intOf];omega
   | true =>
    go_wp2_with (first
     | (go_at_call 135;refine (HT.out _).mono ?_;rintro e w' ⟨rfl,rfl⟩))
    go_round
    case rel=>exact⟨k+1,by omega,by go_num,by rw[HN.out];go_num⟩
    case measure=>simp [intOf];omega
  ·have hke:k=p.parts.length:=by omega
   subst hke;rw[za9];go_wp2_with fail;go_region_law (fail)
   go_wp2_with fail;go_ret3
   exact⟨_,_,by rw[HPE.out];rfl,fun _=>⟨rfl,rfl⟩,HB2.out.drew⟩
def zad (l r:Pat):Int:=if z7j l≠0 then 40 else if z7j r≠0 then 41 else if za7 l≠za7 r∨l.rest≠r.rest then 42 else 0
def zae (w:World)(v:Value)(p:Pat):Prop:=Strs w v p.parts∧∀ x∈p.parts,x.size≤1000000
theorem zae.below {w w':World}{v:Value}{p:Pat}(h:zae w v p)(hb:Below w.heap.size w w'):zae w' v p:=⟨Strs.below h.1 hb,h.2⟩
theorem zae.small {w:World}{v:Value}{p:Pat}(h:zae w v p):∀ x∈p.parts,x.size≤maxLen:=fun x hx=>by have:=h.2 x hx;unfold maxLen;omega
theorem zaf (ex:Bool)(l r:Pat)(A B:Option Addr)(a b:Nat)(w:World)(hL:zae w (.slice A l.parts.length a) l)(hR:zae w (.slice B r.parts.length b) r):
  Calls Tryz.prog 119 #[.agg #[.bool ex,.slice A l.parts.length a,.bool l.rest,.slice B r.parts.length b,.bool r.rest]] w fun e w'=>e=.returned (.int .i64 (zad l r))∧Below w.heap.size w w':=by
 have hB:=z0l w [.bool ex,.slice A l.parts.length a,.bool l.rest,.slice B r.parts.length b,.bool r.rest] 74;have hA:Below w.heap.size w (w.alloc (.cells #[.bool ex,.slice A l.parts.length a,.bool l.rest,.slice B r.parts.length b,.bool r.rest] 74)):=(Below.refl _ _).alloc (Nat.le_refl _) _;have HKL:=hd_ (fun X (hX:Below w.heap.size w X)=>zac l A a X (hL.below hX).1 hL.small);have HKR:=hd_ (fun X (hX:Below w.heap.size w X)=>zac r B b X (hR.below hX).1 hR.small);have HE:Hid (zad l r=if z7j l≠0 then 40 else if z7j r≠0 then 41 else if za7 l≠za7 r∨l.rest≠r.rest then 42 else 0):=hd_ rfl;clear hL hR;go_enter Tryz.func119,Tryz.ntmps119;go_upto_region 1 with fail;generalize w.alloc (.cells #[.bool ex,.slice A l.parts.length a,.bool l.rest,.slice B r.parts.length b,.bool r.rest] 74)=W1 at hB hA ⊢;have d1:W1.cell? ⟨w.heap.size,1,none⟩=some (.slice A l.parts.length a):=hB.cell 1;have d2:W1.cell? ⟨w.heap.size,2,none⟩=some (.bool l.rest):=hB.cell 2;have HC:=hd_ (HKL.out W1 hA);have HB:=hd_ hB;have HA:=hd_ hA;clear hB hA HKL;go_wp2_with fail;refine HC.out.mono ?_;rintro e w2 ⟨n1,b1,rfl,hk1,hb⟩;have HB2:=hd_ (z0r HA.out hb);have hB2:=HB.out.below hb HB.out.lt;clear hb d1 d2 HC HB;obtain⟨pe,hpe⟩:∃ pe,z7j l=pe:=⟨_,rfl⟩;rw[hpe] at hk1 HE ⊢;clear hpe;by_cases h0:pe=0
 case neg =>
  have q:(pe != 0)=true:=by simpa using h0
  have HR:Hid (zad l r=40):=hd_ (by rw[HE.out,if_pos h0])
  clear h0 hB2 HE hk1;go_wp2_with fail;go_ret;exact⟨z7o HR.out.symm,HB2.out⟩
 subst h0;obtain⟨rfl,rfl⟩:=hk1 rfl;have d3:w2.cell? ⟨w.heap.size,3,none⟩=some (.slice B r.parts.length b):=hB2.cell 3;have d4:w2.cell? ⟨w.heap.size,4,none⟩=some (.bool r.rest):=hB2.cell 4;have HC:=hd_ (HKR.out w2 HB2.out);clear hB2 HKR hk1;go_wp2_with fail;refine HC.out.mono ?_;rintro e w3 ⟨n2,b2,rfl,hk2,hb⟩;have HB3:=hd_ (z0r HB2.out hb);clear hb d3 d4 HC;obtain⟨pe,hpe⟩:∃ pe,z7j r=pe:=⟨_,rfl⟩;rw[hpe] at hk2 HE ⊢;clear hpe;by_cases h0:pe=0
 case neg =>
  have q:(pe != 0)=true:=by simpa using h0
  have HR:Hid (zad l r=41):=hd_ (by rw[HE.out,if_neg (by decide),if_pos h0])
  clear h0 HE hk2;go_wp2_with fail;go_ret;exact⟨z7o HR.out.symm,HB3.out⟩
 subst h0;obtain⟨rfl,rfl⟩:=hk2 rfl;rw[if_neg (by decide),if_neg (by decide)] at HE
 clear hk2;by_cases h1:za7 l=za7 r
 ·have q1:((za7 l:Int) != (za7 r:Int))=false:=by rw[h1];simp
  rcases Bool.eq_false_or_eq_true l.rest with h2 | h2 <;> rcases Bool.eq_false_or_eq_true r.rest with h3 | h3 <;> (
   have HR:Hid (zad l r=0∧l.rest=r.rest∨zad l r=42∧l.rest≠r.rest):=hd_ (by
    by_cases h:l.rest=r.rest
    ·exact .inl ⟨by rw[HE.out,if_neg (by rintro (h4 | h4);exact h4 h1;exact h4 h)],h⟩
    ·exact .inr ⟨by rw[HE.out,if_pos (.inr h)],h⟩)
   rw[h2,h3] at HR ⊢;clear h1 h2 h3 HE;go_wp2_with fail;go_ret;rcases HR.out with⟨h4,h5⟩ | ⟨h4,h5⟩
   ·first
     | exact⟨z7o h4.symm,HB3.out⟩
     | cases h5
   ·first
     | exact⟨z7o h4.symm,HB3.out⟩
     | exact absurd rfl h5)
 ·have q1:((za7 l:Int) != (za7 r:Int))=true:=by simp;omega
  have HR:Hid (zad l r=42):=hd_ (by rw[HE.out,if_pos (.inl h1)])
  clear h1 HE;go_wp2_with fail;go_ret;exact⟨z7o HR.out.symm,HB3.out⟩
