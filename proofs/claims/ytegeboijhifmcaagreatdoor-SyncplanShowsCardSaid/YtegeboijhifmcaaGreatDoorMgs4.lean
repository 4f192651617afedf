/- A part of the proof. -/
import Derived.Test.YtegeboijhifmcaaGreatDoorMsLeafH
import Derived.Deep.RegionHeld3
import Derived.Deep.MidRow
import Derived.StillTailTactics
import Derived.IntWalk
set_option linter.unusedVariables false
set_option linter.unusedSimpArgs false
set_option maxHeartbeats 4000000
namespace Go.Proofs.YtegeboijhifmcaaGreatDoor
open Go.Proofs.Tryz
open Go.RowKit
theorem z3d (a b:Int)(w:World):Calls prog 122 #[.int .i64 a,.int .i64 b] w fun e w'=>e=.returned (.int .i64 (z2y a b))∧w=w':=by
 have n1:(a != a)=false:=by simp
 have n2:(b != b)=false:=by simp
 by_cases h1:a<b
 ·have H:Hid (z2y a b=-1):=hd_ (by unfold z2y;rw[if_pos h1])
  go_enter func122,ntmps122;go_wp2
  go_ret;exact⟨z34 H.out.symm,rfl⟩
 ·by_cases h2:b<a
  ·have H:Hid (z2y a b=1):=hd_ (by unfold z2y;rw[if_neg h1,if_pos h2])
   go_enter func122,ntmps122;go_wp2
   go_ret;exact⟨z34 H.out.symm,rfl⟩
  ·have H:Hid (z2y a b=0):=hd_ (by unfold z2y;rw[if_neg h1,if_neg h2])
   go_enter func122,ntmps122;go_wp2
   go_ret;exact⟨z34 H.out.symm,rfl⟩
theorem z3e (a b:Int)(w:World):Calls prog 123 #[.int .u8 a,.int .u8 b] w fun e w'=>e=.returned (.int .i64 (z2y a b))∧w=w':=by
 have n1:(a != a)=false:=by simp
 have n2:(b != b)=false:=by simp
 by_cases h1:a<b
 ·have H:Hid (z2y a b=-1):=hd_ (by unfold z2y;rw[if_pos h1])
  go_enter func123,ntmps123;go_wp2
  go_ret;exact⟨z34 H.out.symm,rfl⟩
 ·by_cases h2:b<a
  ·have H:Hid (z2y a b=1):=hd_ (by unfold z2y;rw[if_neg h1,if_pos h2])
   go_enter func123,ntmps123;go_wp2
   go_ret;exact⟨z34 H.out.symm,rfl⟩
  ·have H:Hid (z2y a b=0):=hd_ (by unfold z2y;rw[if_neg h1,if_neg h2])
   go_enter func123,ntmps123;go_wp2
   go_ret;exact⟨z34 H.out.symm,rfl⟩
theorem z3f (a:Int)(w:World):Calls prog 206 #[.int .i64 a] w fun e w'=>e=.returned (.bool (z2v a))∧w=w':=by
 by_cases h1:a=3
 ·subst h1;go_enter func206,ntmps206;go_wp2
  go_ret;exact⟨rfl,rfl⟩
 ·have n1:(a != 3)=true:=by simpa using h1
  have H:Hid (z2v a=(a != 5)):=hd_ (by unfold z2v;rw[n1];rfl)
  go_enter func206,ntmps206;go_wp2
  go_ret;exact⟨z0w H.out.symm,rfl⟩
theorem z3g (s:ByteArray)(k:Nat)(h:k<s.size):s.data.toList.drop k=s[k] :: s.data.toList.drop (k+1):=by
 rw[List.drop_eq_getElem_cons (by simpa using h)];rfl
theorem z3h {a b:ByteArray}{k:Nat}(ha:k<a.size)(hb:k<b.size)(h:a[k]=b[k]):z2t (a.data.toList.drop k) (b.data.toList.drop k)=z2t (a.data.toList.drop (k+1)) (b.data.toList.drop (k+1)):=by
 rw[z3g a k ha,z3g b k hb,z2t,if_pos h]
theorem z3i {a b:ByteArray}{k:Nat}(ha:k<a.size)(hb:k<b.size)(h:a[k]≠b[k]):z2t (a.data.toList.drop k) (b.data.toList.drop k)=if a[k]=47 then -1 else if b[k]=47 then 1 else z2y a[k].toNat b[k].toNat:=by
 rw[z3g a k ha,z3g b k hb,z2t,if_neg h];by_cases h1:a[k]=47
 ·rw[if_pos h1,if_pos h1]
 ·rw[if_neg h1,if_neg h1];by_cases h2:b[k]=47
  ·rw[if_pos h2,if_pos h2]
  ·rw[if_neg h2,if_neg h2];unfold z2y;have hne:a[k].toNat≠b[k].toNat:=fun e=>h (UInt8.toNat_inj.1 e);by_cases h3:a[k]<b[k]
   ·rw[if_pos h3,if_pos (by rw[UInt8.lt_iff_toNat_lt] at h3;omega)]
   ·rw[if_neg h3];rw[UInt8.lt_iff_toNat_lt] at h3;rw[if_neg (by omega),if_pos (by omega)]
theorem cmp_end {a b:ByteArray}{k:Nat}(ha:k≤a.size)(hb:k≤b.size)(h:¬(k<a.size∧k<b.size)):z2t (a.data.toList.drop k) (b.data.toList.drop k)=z2y a.size b.size:=by
 have la:a.data.toList.length=a.size:=rfl;have lb:b.data.toList.length=b.size:=rfl;unfold z2y;by_cases h1:k<a.size
 ·have hb':b.data.toList.drop k=[]:=List.drop_of_length_le (by omega)
  rw[hb',z3g a k h1,z2t,if_neg (by omega),if_pos (by omega)]
 ·have ha':a.data.toList.drop k=[]:=List.drop_of_length_le (by omega)
  by_cases h2:k<b.size
  ·rw[ha',z3g b k h2,z2t,if_pos (by omega)]
  ·have hb':b.data.toList.drop k=[]:=List.drop_of_length_le (by omega)
   rw[ha',hb',z2t,if_neg (by omega),if_neg (by omega)]
def errP (b:Bool):Int:=z2k 20 b
theorem ret2 {k j:IntKind}{a b c d:Int}(h1:a=b)(h2:c=d):Ending.returned (.tuple #[.int k a,.int j c])=.returned (.tuple #[.int k b,.int j d]):=by rw[h1,h2]
def z3j (w w':World):Prop:=∃ n,w'=w.drewN n
theorem z3j.refl (w:World):z3j w w:=⟨0,rfl⟩
theorem z3j.more {w w':World}(h:z3j w w')(n:Nat):z3j w (w'.drewN n):=by
 obtain⟨m,rfl⟩:=h;exact⟨m+n,by rw[World.drewN_drewN]⟩
theorem z3k {P:Program}{f:FuncId}{args:Array Value}{w:World}{n:Nat}{v:Value}
  (h:Calls P f args (w.drewN n) fun e w'=>e=.returned v∧w.drewN n=w'):Calls P f args (w.drewN n) fun e w''=>e=.returned v∧∃ m,w''=w.drewN m:=
 h.mono fun _ _ ⟨he,hm⟩=>⟨he,n,hm.symm⟩
theorem u8_ne {a b:UInt8}(h:a≠b):((a.toNat:Int) == (b.toNat:Int))=false:=by
 rw[beq_eq_false_iff_ne];intro e;exact h (UInt8.toNat_inj.1 (by omega))
theorem u8_47 {a:UInt8}(h:a≠47):((a.toNat:Int) == 47)=false:=u8_ne (b:=47) h
theorem z3l (a b:ByteArray)(w:World)(ha:a.size≤140737488355328)(hb:b.size≤140737488355328):
  Calls prog 80 #[.string a,.string b] w fun e w'=>e=.returned (.tuple #[.int .i64 (z2u a b),.int .i64 (errP (z2s a && z2s b))])∧z3j w w':=by
 have VA:=hd_ (z3c a w ha);have VB:=hd_ (z3c b w hb);cases h1:z2r a.data.toList
 ·rw[h1] at VA;have H:Hid (z2u a b=0∧errP (z2s a && z2s b)=20):=hd_ (by unfold z2u z2s;rw[h1];exact⟨rfl,rfl⟩)
  clear h1;go_enter func80,ntmps80;go_wp2_with fail;refine VA.out.mono ?_;rintro e w' ⟨rfl,rfl⟩;go_wp2_with fail;go_ret2;exact⟨ret2 H.out.1.symm H.out.2.symm,z3j.refl _⟩
 ·rw[h1] at VA;cases h2:z2r b.data.toList
  ·rw[h2] at VB;have H:Hid (z2u a b=0∧errP (z2s a && z2s b)=20):=hd_ (by unfold z2u z2s;rw[h1,h2];exact⟨rfl,rfl⟩)
   clear h1 h2;go_enter func80,ntmps80;go_wp2_with fail;refine VA.out.mono ?_;rintro e w' ⟨rfl,rfl⟩;go_wp2_with fail;refine VB.out.mono ?_;rintro e w' ⟨rfl,rfl⟩;go_wp2_with fail;go_ret2;exact⟨ret2 H.out.1.symm H.out.2.symm,z3j.refl _⟩
  ·rw[h2] at VB;have H:Hid (z2u a b=z2t a.data.toList b.data.toList∧errP (z2s a && z2s b)=0):=hd_ (by unfold z2u z2s;rw[h1,h2];exact⟨rfl,rfl⟩)
   clear h1 h2;by_cases hm:b.size<a.size
   all_goals
    go_enter func80,ntmps80;go_wp2_with fail;refine VA.out.mono ?_;rintro e w' ⟨rfl,rfl⟩;go_wp2_with fail;refine VB.out.mono ?_;rintro e w' ⟨rfl,rfl⟩;go_wp2_with fail;clear VA VB;go_loopw [20] (fun i wr=>∃ k:Nat,k≤a.size∧k≤b.size∧i=.int .i64 k∧Hid (z2t a.data.toList b.data.toList=z2t (a.data.toList.drop k) (b.data.toList.drop k))∧Hid (z3j w wr)) (fun i _=>a.size - (intOf i).toNat)
    case atStart=>exact⟨0,by omega,by omega,rfl,hd_ rfl,hd_ (z3j.refl _)⟩
    case round =>
     obtain⟨k,hk1,hk2,rfl,HE,HQ⟩:=hrel;by_cases hlt:k<a.size∧k<b.size
     ·obtain⟨l1,l2⟩:=hlt;by_cases he:a[k]=b[k]
      ·have HN:=hd_ (HE.out.trans (z3h l1 l2 he));have q:((a[k].toNat:Int) == (b[k].toNat:Int))=true:=by rw[he];simp
       clear he;go_wp2_with fail;go_quiet (fail)
       go_wp2_with fail;go_roundw
       case rel=>exact⟨k+1,by omega,by omega,by go_num,HN,hd_ (HQ.out.more nq)⟩
       case measure=>simp [intOf];omega
      ·have HN:=hd_ (HE.out.trans (z3i l1 l2 he));have q:=u8_ne he;clear he;by_cases h47:a[k]=47
       ·rw[if_pos h47] at HN;have q1:((a[k].toNat:Int) == 47)=true:=by rw[h47];rfl
        clear h47;go_wp2_with fail;go_quiet (fail)
        go_wp2_with fail;go_ret2;exact⟨ret2 (H.out.1.trans HN.out).symm H.out.2.symm,HQ.out.more nq⟩
       ·rw[if_neg h47] at HN;have q1:=u8_47 h47;clear h47;by_cases h47:b[k]=47
        ·rw[if_pos h47] at HN;have q2:((b[k].toNat:Int) == 47)=true:=by rw[h47];rfl
         clear h47;go_wp2_with fail;go_quiet (fail)
         go_wp2_with fail;go_ret2;exact⟨ret2 (H.out.1.trans HN.out).symm H.out.2.symm,HQ.out.more nq⟩
        ·rw[if_neg h47] at HN;have q2:=u8_47 h47;clear h47;go_wp2_with fail;go_quiet (fail)
         go_wp2_with fail;have HQ2:=hd_ (HQ.out.more nq);generalize wr.drewN nq=w2 at HQ2 ⊢;go_quiet ((go_at_call 123;exact z3k (z3e _ _ _)))
         go_wp2_with fail;go_ret2;exact⟨ret2 (H.out.1.trans HN.out).symm H.out.2.symm,HQ2.out.more nq⟩
     ·have HN:=hd_ (HE.out.trans (cmp_end hk1 hk2 hlt));have hge:¬ k<a.size∨¬ k<b.size:=by omega
      clear hlt;go_wp2_with fail;refine (z3d _ _ _).mono ?_;rintro e w' ⟨rfl,rfl⟩;go_wp2_with fail;go_ret2;exact⟨ret2 (H.out.1.trans HN.out).symm H.out.2.symm,HQ.out⟩
theorem z3j.below {w w':World}(h:z3j w w')(B:Nat):Below B w w':=by
 obtain⟨n,rfl⟩:=h;exact below_drewN (Below.refl _ _) n
theorem z3m (a b:ByteArray)(w:World)(ha:a.size≤140737488355328)(hb:b.size≤140737488355328):
  Calls prog 121 #[.string a,.string b] w fun e w'=>e=.returned (.int .i64 (z2u a b))∧z3j w w':=by
 have H:=hd_ (z3l a b w ha hb);go_enter func121,ntmps121;go_wp2_with fail;refine H.out.mono ?_;rintro e w' ⟨rfl,hq⟩;have HQ:=hd_ hq;clear hq;go_wp2_with fail;go_ret;exact⟨rfl,HQ.out⟩
theorem z3n {p q:Prop}(h:p)(hq:p→q):p∧q:=⟨h,hq h⟩
def Rcd.small (r:Rcd):Prop:=r.frm.size≤140737488355328∧r.to.size≤140737488355328
theorem z44 {α:Type}(f:α→List Value)(n:Nat)(hf:∀ x,(f x).length=n)(l:List α)(k j:Nat)(hk:k<l.length)(hj:j<n):(l.flatMap f)[k * n+j]? = (f l[k])[j]?:=by
 induction l generalizing k with
 | nil=>simp at hk
 | cons x l ih =>
  simp only[List.flatMap_cons]
  cases k with
  | zero=>rw[List.getElem?_append_left (by rw[hf];omega)];simp
  | succ k =>
   rw[List.getElem?_append_right (by rw[hf,Nat.succ_mul];omega),hf,show (k+1) * n+j - n=k * n+j by rw[Nat.succ_mul];omega]
   simpa using ih k (by simpa using hk)
def z45 (w:World)(v:Value)(l:List Rev):Prop:=Row w 12 v l.length (l.flatMap Rev.cells)
def z47 (w:World)(v:Value)(l:List Edt):Prop:=Row w 12 v l.length (l.flatMap Edt.cells)
def z48 (w:World)(v:Value)(l:List Rcd):Prop:=Row w 6 v l.length (l.flatMap Rcd.cells)
section
variable {w w' : World} {v : Value}
theorem z45.below {l:List Rev}(h:z45 w v l)(hb:Below w.heap.size w w'):z45 w' v l:=Row.below h hb
theorem z47.below {l:List Edt}(h:z47 w v l)(hb:Below w.heap.size w w'):z47 w' v l:=Row.below h hb
theorem z48.below {l:List Rcd}(h:z48 w v l)(hb:Below w.heap.size w w'):z48 w' v l:=Row.below h hb
theorem z45.keep {l:List Rev}(h:z45 w v l)(hs:w.heap.size≤w'.heap.size)(hk:∀ p:Addr,p.block<w.heap.size→w'.cell? p=w.cell? p):z45 w' v l:=Row.keep h hs hk
theorem z45.nil_ (w:World):z45 w (.slice none 0 0) []:=Row.nil_ w 12
theorem z48.nil_ (w:World):z48 w (.slice none 0 0) []:=Row.nil_ w 6
end
theorem z49 {α:Type}{f:α→List Value}{n:Nat}(hf:∀ x,(f x).length=n){w:World}{A:Option Addr}{c:Nat}{l:List α}(h:Row w n (.slice A l.length c) l.length (l.flatMap f)){k:Nat}(hk:k<l.length):
  ∃ ad,A=some ad∧ad.block<w.heap.size∧∀ j v,(f l[k])[j]? = some v→w.cell? (if j=0 then ad.add (k * n) else ⟨(ad.add (k * n)).block,(ad.add (k * n)).off+j,none⟩)=some v:=by
 obtain⟨ad,e,hb,hc⟩:=Row.at_ h hk;refine⟨ad,e,hb,fun j v hv=>?_⟩;have hj:j<n:=by rw[← hf l[k]];exact (List.getElem?_eq_some_iff.1 hv).1
 have:=hc j v (by rw[z44 f n hf l k j hk hj];exact hv)
 cases j with
 | zero=>simpa using this
 | succ j=>rw[if_neg (by omega),z02,z01];exact this
def RevAt (w:World)(a:Addr)(x:Rev):Prop:=w.cell? a=some (.string x.path)∧w.cell? ⟨a.block,a.off+1,none⟩=some (.int .i64 x.num)∧w.cell? ⟨a.block,a.off+2,none⟩=some (.int .i64 x.chg)∧w.cell? ⟨a.block,a.off+3,none⟩=some (.int .i64 x.act)∧w.cell? ⟨a.block,a.off+4,none⟩=some (.int .i64 x.ty.base)∧w.cell? ⟨a.block,a.off+5,none⟩=some (.bool x.ty.k)∧w.cell? ⟨a.block,a.off+6,none⟩=some (.bool x.ty.l)∧w.cell? ⟨a.block,a.off+7,none⟩=some (.bool x.ty.x)∧w.cell? ⟨a.block,a.off+8,none⟩=some (.int .u64 x.sum)∧w.cell? ⟨a.block,a.off+9,none⟩=some (.int .i64 x.size)∧w.cell? ⟨a.block,a.off+10,none⟩=some (.string x.frm)∧w.cell? ⟨a.block,a.off+11,none⟩=some (.int .i64 x.fnum)
theorem z45.at_ {w:World}{A:Option Addr}{c:Nat}{l:List Rev}(h:z45 w (.slice A l.length c) l){k:Nat}(hk:k<l.length):
  ∃ ad,A=some ad∧ad.block<w.heap.size∧RevAt w (ad.add (k * 12)) l[k]:=by
 obtain⟨ad,e,hb,hc⟩:=z49 (f:=Rev.cells) (n:=12) (fun _=>rfl) h hk;exact⟨ad,e,hb,hc 0 _ rfl,hc 1 _ rfl,hc 2 _ rfl,hc 3 _ rfl,hc 4 _ rfl,hc 5 _ rfl,hc 6 _ rfl,hc 7 _ rfl,hc 8 _ rfl,hc 9 _ rfl,hc 10 _ rfl,hc 11 _ rfl⟩
def EdtAt (w:World)(a:Addr)(x:Edt):Prop:=w.cell? a=some (.string x.path)∧w.cell? ⟨a.block,a.off+1,none⟩=some (.int .i64 x.act)∧w.cell? ⟨a.block,a.off+2,none⟩=some (.int .i64 x.ty.base)∧w.cell? ⟨a.block,a.off+3,none⟩=some (.bool x.ty.k)∧w.cell? ⟨a.block,a.off+4,none⟩=some (.bool x.ty.l)∧w.cell? ⟨a.block,a.off+5,none⟩=some (.bool x.ty.x)∧w.cell? ⟨a.block,a.off+6,none⟩=some (.int .u64 x.sum)∧w.cell? ⟨a.block,a.off+7,none⟩=some (.int .i64 x.size)∧w.cell? ⟨a.block,a.off+8,none⟩=some (.int .i64 x.base)∧w.cell? ⟨a.block,a.off+9,none⟩=some (.string x.frm)∧w.cell? ⟨a.block,a.off+10,none⟩=some (.int .i64 x.fnum)∧w.cell? ⟨a.block,a.off+11,none⟩=some (.int .i64 x.fence)
theorem z47.at_ {w:World}{A:Option Addr}{c:Nat}{l:List Edt}(h:z47 w (.slice A l.length c) l){k:Nat}(hk:k<l.length):
  ∃ ad,A=some ad∧ad.block<w.heap.size∧EdtAt w (ad.add (k * 12)) l[k]:=by
 obtain⟨ad,e,hb,hc⟩:=z49 (f:=Edt.cells) (n:=12) (fun _=>rfl) h hk;exact⟨ad,e,hb,hc 0 _ rfl,hc 1 _ rfl,hc 2 _ rfl,hc 3 _ rfl,hc 4 _ rfl,hc 5 _ rfl,hc 6 _ rfl,hc 7 _ rfl,hc 8 _ rfl,hc 9 _ rfl,hc 10 _ rfl,hc 11 _ rfl⟩
def RcdAt (w:World)(a:Addr)(x:Rcd):Prop:=w.cell? a=some (.string x.frm)∧w.cell? ⟨a.block,a.off+1,none⟩=some (.int .i64 x.first)∧w.cell? ⟨a.block,a.off+2,none⟩=some (.int .i64 x.last)∧w.cell? ⟨a.block,a.off+3,none⟩=some (.string x.to)∧w.cell? ⟨a.block,a.off+4,none⟩=some (.int .i64 x.num)∧w.cell? ⟨a.block,a.off+5,none⟩=some (.int .i64 x.how)
theorem z48.at_ {w:World}{A:Option Addr}{c:Nat}{l:List Rcd}(h:z48 w (.slice A l.length c) l){k:Nat}(hk:k<l.length):
  ∃ ad,A=some ad∧ad.block<w.heap.size∧RcdAt w (ad.add (k * 6)) l[k]:=by
 obtain⟨ad,e,hb,hc⟩:=z49 (f:=Rcd.cells) (n:=6) (fun _=>rfl) h hk;exact⟨ad,e,hb,hc 0 _ rfl,hc 1 _ rfl,hc 2 _ rfl,hc 3 _ rfl,hc 4 _ rfl,hc 5 _ rfl⟩
def Chk (w:World)(g:Nat)(dv dr:Value)(n:Int)(cl tx:ByteArray)(ev rv:Value)(bl be bn:Nat):Prop:=
 Blk w g 183 [dv,dr,.int .i64 n,.string cl,.string tx,ev,rv,.map (some bl),.map (some be),.map (some bn)]
theorem z4a {w:World}{g:Nat}{dv dr ev rv:Value}{n:Int}{cl tx:ByteArray}{bl be bn:Nat}(h:Chk w g dv dr n cl tx ev rv bl be bn):
  w.cell? ⟨g,0,none⟩=some dv∧w.cell? ⟨g,1,none⟩=some dr∧w.cell? ⟨g,2,none⟩=some (.int .i64 n)∧w.cell? ⟨g,5,none⟩=some ev∧w.cell? ⟨g,6,none⟩=some rv ∧
  w.cell? ⟨g,7,none⟩=some (.map (some bl))∧w.cell? ⟨g,8,none⟩=some (.map (some be))∧w.cell? ⟨g,9,none⟩=some (.map (some bn)):=
 ⟨Blk.cell h 0,Blk.cell h 1,Blk.cell h 2,Blk.cell h 5,Blk.cell h 6,Blk.cell h 7,Blk.cell h 8,Blk.cell h 9⟩
theorem zay {w w':World}(h:Below w.heap.size w w')(row:Option Nat):w.grownBy w' row:=⟨h.os,h.tape,h.output,h.size,fun k hk _=>h.block k hk⟩
theorem zaz {w:World}{B:Nat}{es:Array MapEntry}{c:Nat}(h:w.heap[B]? = some (.map es c))(a:Addr)(ha:a.block=B):¬ ∃ v,w.cell? a=some v:=by
 rintro⟨v,hv⟩;subst ha;unfold World.cell? at hv
 rw[h] at hv;simp at hv
theorem z2f.obj {κ α:Type}[BEq κ]{kv:κ→Value}{enc:α→Value}{w:World}{B:Nat}{f:κ→Option α}(h:z2f kv enc w B f):∃ es c,w.heap[B]? = some (.map es c):=by
 obtain⟨m,⟨es,c,h,_⟩,_⟩:=h;exact⟨es,c,h⟩
theorem Row.turn {w w':World}{size n B:Nat}{v:Value}{xs:List Value}(h:Row w size v n xs)(hs:0<size)(hm:∃ es c,w.heap[B]? = some (.map es c))(hg:w.grownBy w' (some B)):Row w' size v n xs:=by
 obtain⟨A,c,rfl,hc,hm',hl,h0,hx⟩:=h;refine⟨A,c,rfl,hc,hm',hl,h0,fun hn=>?_⟩;obtain⟨ad,e,hb,hcell⟩:=hx hn;obtain⟨es,c2,hB⟩:=hm;have hne:some ad.block≠some B:=by
  intro e2;injection e2 with e2
  have hpos:0<xs.length:=by rw[hl];exact Nat.mul_pos hn hs
  exact zaz hB (ad.add 0) (by rw[z00];exact e2) ⟨xs[0],hcell 0 _ (by simp [hpos])⟩
 refine⟨ad,e,by have:=hg.size;omega,fun j u hu=>?_⟩
 exact hg.cell (hcell j u hu) (by rw[z00];exact hne)
theorem Blk.turn {w w':World}{g B:Nat}{e:TypeId}{cs:List Value}(h:Blk w g e cs)(hm:∃ es c,w.heap[B]? = some (.map es c))(hg:w.grownBy w' (some B)):Blk w' g e cs:=by
 refine Blk.grown h hg ?_;intro e2;injection e2 with e2
 subst e2;obtain⟨es,c,hB⟩:=hm;unfold Blk at h;rw[hB] at h;cases h
theorem zb0 (p:ByteArray)(b:Bool)(h:z2s p=b)(w:World)(hp:p.size≤140737488355328):Calls prog 67 #[.string p] w fun e w'=>e=.returned (.bool b)∧w=w':=by
 rw[← h];exact z3c p w hp
end Go.Proofs.YtegeboijhifmcaaGreatDoor
