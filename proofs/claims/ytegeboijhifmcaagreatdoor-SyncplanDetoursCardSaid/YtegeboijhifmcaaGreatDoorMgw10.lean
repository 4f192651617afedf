/- A part of the proof. -/
import Derived.Test.YtegeboijhifmcaaGreatDoorMgw5
import Derived.Test.YtegeboijhifmcaaGreatDoorMgw9
set_option linter.unusedVariables false
set_option linter.unusedSimpArgs false
set_option maxHeartbeats 8000000
set_option maxRecDepth 100000
namespace Go.Proofs.YtegeboijhifmcaaGreatDoor
open Go.Proofs.Tryz
open Go.RowKit
open Go.Sort (grow)
def zik (x:Syn)(l:ByteArray):Bool:=
 z3q x.path && decide (x.frm=l) && !(decide (x.frm=z2l) && decide (x.dst=z2l)) && (if x.dst=z2l then decide (x.num=0) else decide (1≤x.num) && z3q x.dst) && (z3o x.kind || x.kind == z3p x.frm x.dst)
theorem zpt (s:ByteArray):(s.toList=[]∧(s.toList == (⟨#[]⟩:ByteArray).toList)=true)∨¬ s.toList=[]∧s.toList.isEmpty=false:=by
 by_cases h:s=z2l
 ·exact .inl (z3v h)
 ·exact .inr (z3w h)
theorem fits_1 (x:Syn)(l:ByteArray)(w:World)(hp:x.path.size≤140737488355328)(hd:x.dst.size≤140737488355328)(h1:z3q x.path=false):
  Calls prog 44 #[.agg #[.int .i64 x.kind,.string x.path,.int .i64 x.num,.string x.frm,.string x.dst],.string l] w fun e w'=>e=.returned (.bool (zik x l))∧Below w.heap.size w w':=by
 have hA:Below w.heap.size w (w.alloc (.cells #[.int .i64 x.kind,.string x.path,.int .i64 x.num,.string x.frm,.string x.dst] 48)):=(Below.refl _ _).alloc (Nat.le_refl _) _;have HB:Hid (zik x l=false):=hd_ (by unfold zik;rw[h1];rfl)
 have HP:=hd_ (fun X=>z3z x.path X hp);rw[h1] at HP;clear h1;go_enter func44,ntmps44;go_wp2_with fail;refine (HP.out _).mono ?_;rintro e w1 ⟨rfl,rfl⟩;go_wp2_with fail;go_ret;exact⟨z0w HB.out.symm,hA⟩
theorem fits_2 (x:Syn)(l:ByteArray)(w:World)(hp:x.path.size≤140737488355328)(hd:x.dst.size≤140737488355328)(h1:z3q x.path=true)(h2:¬ x.frm=l):
  Calls prog 44 #[.agg #[.int .i64 x.kind,.string x.path,.int .i64 x.num,.string x.frm,.string x.dst],.string l] w fun e w'=>e=.returned (.bool (zik x l))∧Below w.heap.size w w':=by
 have hA:Below w.heap.size w (w.alloc (.cells #[.int .i64 x.kind,.string x.path,.int .i64 x.num,.string x.frm,.string x.dst] 48)):=(Below.refl _ _).alloc (Nat.le_refl _) _;have HB:Hid (zik x l=false):=hd_ (by unfold zik;simp [h2])
 have HP:=hd_ (fun X=>z3z x.path X hp);rw[h1] at HP;have q:=z3x x.frm l;rw[decide_eq_false h2] at q;clear h1 h2;go_enter func44,ntmps44;go_wp2_with fail;refine (HP.out _).mono ?_;rintro e w1 ⟨rfl,rfl⟩;go_wp2_with fail;go_ret;exact⟨z0w HB.out.symm,hA⟩
theorem fits_3 (x:Syn)(l:ByteArray)(w:World)(hp:x.path.size≤140737488355328)(hd:x.dst.size≤140737488355328)(h1:z3q x.path=true)(h2:x.frm=l)(h3:x.frm=z2l)(h4:x.dst=z2l):
  Calls prog 44 #[.agg #[.int .i64 x.kind,.string x.path,.int .i64 x.num,.string x.frm,.string x.dst],.string l] w fun e w'=>e=.returned (.bool (zik x l))∧Below w.heap.size w w':=by
 have hA:Below w.heap.size w (w.alloc (.cells #[.int .i64 x.kind,.string x.path,.int .i64 x.num,.string x.frm,.string x.dst] 48)):=(Below.refl _ _).alloc (Nat.le_refl _) _;have HB:Hid (zik x l=false):=hd_ (by unfold zik;simp [h3,h4])
 have HP:=hd_ (fun X=>z3z x.path X hp);rw[h1] at HP;have q:=z3x x.frm l;subst h2;clear q;obtain⟨s1,s2⟩:=z3v h3;obtain⟨t1,t2⟩:=z3v h4;clear h1 h3 h4;go_enter func44,ntmps44;go_wp2_with fail;refine (HP.out _).mono ?_;rintro e w1 ⟨rfl,rfl⟩;go_wp2_with fail;go_ret;exact⟨z0w HB.out.symm,hA⟩
theorem fits_4 (x:Syn)(l:ByteArray)(w:World)(hp:x.path.size≤140737488355328)(hd:x.dst.size≤140737488355328)(h1:z3q x.path=true)(h2:x.frm=l)(h3:¬ x.frm=z2l)(h4:x.dst=z2l)(h5:¬ x.num=0):
  Calls prog 44 #[.agg #[.int .i64 x.kind,.string x.path,.int .i64 x.num,.string x.frm,.string x.dst],.string l] w fun e w'=>e=.returned (.bool (zik x l))∧Below w.heap.size w w':=by
 have hA:Below w.heap.size w (w.alloc (.cells #[.int .i64 x.kind,.string x.path,.int .i64 x.num,.string x.frm,.string x.dst] 48)):=(Below.refl _ _).alloc (Nat.le_refl _) _;have HB:Hid (zik x l=false):=hd_ (by unfold zik;simp [h4,h5])
 have HP:=hd_ (fun X=>z3z x.path X hp);rw[h1] at HP;have q:=z3x x.frm l;subst h2;clear q;obtain⟨s1,s2⟩:=z3w h3;obtain⟨t1,t2⟩:=z3v h4;have n1:(x.num != 0)=true:=bne_iff_ne.2 h5;clear h1 h3 h4 h5;go_enter func44,ntmps44;go_wp2_with fail;refine (HP.out _).mono ?_;rintro e w1 ⟨rfl,rfl⟩;go_wp2_with fail;go_ret;exact⟨z0w HB.out.symm,hA⟩
theorem fits_5 (x:Syn)(l:ByteArray)(w:World)(hp:x.path.size≤140737488355328)(hd:x.dst.size≤140737488355328)(h1:z3q x.path=true)(h2:x.frm=l)(h3:¬ x.frm=z2l)(h4:x.dst=z2l)(h5:x.num=0)(b:Bool)(h7:z3o x.kind=b):
  Calls prog 44 #[.agg #[.int .i64 x.kind,.string x.path,.int .i64 x.num,.string x.frm,.string x.dst],.string l] w fun e w'=>e=.returned (.bool (zik x l))∧Below w.heap.size w w':=by
 have hA:Below w.heap.size w (w.alloc (.cells #[.int .i64 x.kind,.string x.path,.int .i64 x.num,.string x.frm,.string x.dst] 48)):=(Below.refl _ _).alloc (Nat.le_refl _) _;have HB:Hid (zik x l=(b || (x.kind == z3p x.frm x.dst))):=hd_ (by unfold zik;rw[h1,h7,decide_eq_true h2,decide_eq_false h3,if_pos h4,decide_eq_true h5];rfl)
 have HP:=hd_ (fun X=>z3z x.path X hp);rw[h1] at HP;have HS:=hd_ (fun X=>z3u x X);rw[h7] at HS;have HK:=hd_ (fun X=>z3y x X);have q:=z3x x.frm l;subst h2;clear q;obtain⟨s1,s2⟩:=z3w h3;cases b
 all_goals
  obtain⟨t1,t2⟩:=z3v h4;have n1:(x.num != 0)=false:=by rw[h5];rfl
  clear h1 h3 h4 h5 h7;go_enter func44,ntmps44;go_wp2_with fail;refine (HP.out _).mono ?_;rintro e w1 ⟨rfl,rfl⟩;go_wp2_with fail;have cS:∀ d os,Calls prog 62 #[.agg #[.int .i64 x.kind,.string x.path,.int .i64 x.num,.string x.frm,.string x.dst]] (grow (redrawn (w.alloc (.cells #[.int .i64 x.kind,.string x.path,.int .i64 x.num,.string x.frm,.string x.dst] 48)) d) os) fun e w''=>e=.returned (.bool _)∧∃ p:Regrown,w''=grow (redrawn (w.alloc (.cells #[.int .i64 x.kind,.string x.path,.int .i64 x.num,.string x.frm,.string x.dst] 48)) p.d) p.os:=fun d os=>Calls.regrown_of (by have hh:=HS.out (grow (redrawn (w.alloc (.cells #[.int .i64 x.kind,.string x.path,.int .i64 x.num,.string x.frm,.string x.dst] 48)) d) os);exact hh)
  have cK:∀ d os,Calls prog 37 #[.agg #[.int .i64 x.kind,.string x.path,.int .i64 x.num,.string x.frm,.string x.dst]] (grow (redrawn (w.alloc (.cells #[.int .i64 x.kind,.string x.path,.int .i64 x.num,.string x.frm,.string x.dst] 48)) d) os) fun e w''=>e=.returned (.int .i64 (z3p x.frm x.dst))∧∃ p:Regrown,w''=grow (redrawn (w.alloc (.cells #[.int .i64 x.kind,.string x.path,.int .i64 x.num,.string x.frm,.string x.dst] 48)) p.d) p.os:=fun d os=>Calls.regrown_of (by have hh:=HK.out (grow (redrawn (w.alloc (.cells #[.int .i64 x.kind,.string x.path,.int .i64 x.num,.string x.frm,.string x.dst] 48)) d) os);exact hh)
  have bx:=z3r (x:=x) (z0l w [.int .i64 x.kind,.string x.path,.int .i64 x.num,.string x.frm,.string x.dst] 48);obtain⟨c0,c1,c2,c3,c4⟩:=bx;have m0:=cell_regrown c0;have m1:=cell_regrown c1;have m2:=cell_regrown c2;have m3:=cell_regrown c3;have m4:=cell_regrown c4;clear c0 c1 c2 c3 c4;refine wp_region_quiet_below (by kernel_rfl) (by kernel_rfl) ?_
  repeat (first | go_big_quiet_step (first | exact cS _ _ | exact cK _ _) | quiet_step (first | exact cS _ _ | exact cK _ _))
  refine wpQuiet_nil ?_;intro _ hw9;obtain⟨⟨dq,osq⟩,hw9⟩:=hw9;subst hw9;have hA:=z0q hA hA.size (below_regrown _ dq osq);go_wp2_with fail;go_ret;exact⟨z0w HB.out.symm,hA⟩
theorem fits_7 (x:Syn)(l:ByteArray)(w:World)(hp:x.path.size≤140737488355328)(hd:x.dst.size≤140737488355328)(h1:z3q x.path=true)(h2:x.frm=l)(h4:¬ x.dst=z2l)(h5:¬ 1≤x.num):
  Calls prog 44 #[.agg #[.int .i64 x.kind,.string x.path,.int .i64 x.num,.string x.frm,.string x.dst],.string l] w fun e w'=>e=.returned (.bool (zik x l))∧Below w.heap.size w w':=by
 have hA:Below w.heap.size w (w.alloc (.cells #[.int .i64 x.kind,.string x.path,.int .i64 x.num,.string x.frm,.string x.dst] 48)):=(Below.refl _ _).alloc (Nat.le_refl _) _;have HB:Hid (zik x l=false):=hd_ (by unfold zik;simp [h4,h5])
 have HP:=hd_ (fun X=>z3z x.path X hp);rw[h1] at HP;have q:=z3x x.frm l;subst h2;clear q;rcases zpt x.frm with⟨s1,s2⟩ | ⟨s1,s2⟩
 all_goals
  obtain⟨t1,t2⟩:=z3w h4;have n2:decide (x.num<1)=true:=by simp;omega
  clear h1 h4 h5;go_enter func44,ntmps44;go_wp2_with fail;refine (HP.out _).mono ?_;rintro e w1 ⟨rfl,rfl⟩;go_wp2_with fail;go_ret;exact⟨z0w HB.out.symm,hA⟩
theorem fits_8 (x:Syn)(l:ByteArray)(w:World)(hp:x.path.size≤140737488355328)(hd:x.dst.size≤140737488355328)(h1:z3q x.path=true)(h2:x.frm=l)(h4:¬ x.dst=z2l)(h5:1≤x.num)(h6:z3q x.dst=false):
  Calls prog 44 #[.agg #[.int .i64 x.kind,.string x.path,.int .i64 x.num,.string x.frm,.string x.dst],.string l] w fun e w'=>e=.returned (.bool (zik x l))∧Below w.heap.size w w':=by
 have hA:Below w.heap.size w (w.alloc (.cells #[.int .i64 x.kind,.string x.path,.int .i64 x.num,.string x.frm,.string x.dst] 48)):=(Below.refl _ _).alloc (Nat.le_refl _) _;have HB:Hid (zik x l=false):=hd_ (by unfold zik;simp [h4,h6])
 have HP:=hd_ (fun X=>z3z x.path X hp);rw[h1] at HP;have HD:=hd_ (fun X=>z3z x.dst X hd);rw[h6] at HD;have q:=z3x x.frm l;subst h2;clear q;rcases zpt x.frm with⟨s1,s2⟩ | ⟨s1,s2⟩
 all_goals
  obtain⟨t1,t2⟩:=z3w h4;have n2:decide (x.num<1)=false:=by simp;omega
  clear h1 h4 h5 h6;go_enter func44,ntmps44;go_wp2_with fail;refine (HP.out _).mono ?_;rintro e w1 ⟨rfl,rfl⟩;go_wp2_with fail;refine (HD.out _).mono ?_;rintro e w1 ⟨rfl,rfl⟩;go_wp2_with fail;go_ret;exact⟨z0w HB.out.symm,hA⟩
theorem fits_9 (x:Syn)(l:ByteArray)(w:World)(hp:x.path.size≤140737488355328)(hd:x.dst.size≤140737488355328)(h1:z3q x.path=true)(h2:x.frm=l)(h4:¬ x.dst=z2l)(h5:1≤x.num)(h6:z3q x.dst=true)(b:Bool)(h7:z3o x.kind=b):
  Calls prog 44 #[.agg #[.int .i64 x.kind,.string x.path,.int .i64 x.num,.string x.frm,.string x.dst],.string l] w fun e w'=>e=.returned (.bool (zik x l))∧Below w.heap.size w w':=by
 have hA:Below w.heap.size w (w.alloc (.cells #[.int .i64 x.kind,.string x.path,.int .i64 x.num,.string x.frm,.string x.dst] 48)):=(Below.refl _ _).alloc (Nat.le_refl _) _;have HB:Hid (zik x l=(b || (x.kind == z3p x.frm x.dst))):=hd_ (by unfold zik;rw[h1,h7,decide_eq_true h2,decide_eq_false h4,if_neg h4,decide_eq_true h5,h6,Bool.and_false];rfl)
 have HP:=hd_ (fun X=>z3z x.path X hp);rw[h1] at HP;have HD:=hd_ (fun X=>z3z x.dst X hd);rw[h6] at HD;have HS:=hd_ (fun X=>z3u x X);rw[h7] at HS;have HK:=hd_ (fun X=>z3y x X);have q:=z3x x.frm l;subst h2;clear q;rcases zpt x.frm with⟨s1,s2⟩ | ⟨s1,s2⟩
 all_goals
  cases b
  all_goals
   obtain⟨t1,t2⟩:=z3w h4;have n2:decide (x.num<1)=false:=by simp;omega
   clear h1 h4 h5 h6 h7;go_enter func44,ntmps44;go_wp2_with fail;refine (HP.out _).mono ?_;rintro e w1 ⟨rfl,rfl⟩;go_wp2_with fail;refine (HD.out _).mono ?_;rintro e w1 ⟨rfl,rfl⟩;go_wp2_with fail;have cS:∀ d os,Calls prog 62 #[.agg #[.int .i64 x.kind,.string x.path,.int .i64 x.num,.string x.frm,.string x.dst]] (grow (redrawn (w.alloc (.cells #[.int .i64 x.kind,.string x.path,.int .i64 x.num,.string x.frm,.string x.dst] 48)) d) os) fun e w''=>e=.returned (.bool _)∧∃ p:Regrown,w''=grow (redrawn (w.alloc (.cells #[.int .i64 x.kind,.string x.path,.int .i64 x.num,.string x.frm,.string x.dst] 48)) p.d) p.os:=fun d os=>Calls.regrown_of (by have hh:=HS.out (grow (redrawn (w.alloc (.cells #[.int .i64 x.kind,.string x.path,.int .i64 x.num,.string x.frm,.string x.dst] 48)) d) os);exact hh)
   have cK:∀ d os,Calls prog 37 #[.agg #[.int .i64 x.kind,.string x.path,.int .i64 x.num,.string x.frm,.string x.dst]] (grow (redrawn (w.alloc (.cells #[.int .i64 x.kind,.string x.path,.int .i64 x.num,.string x.frm,.string x.dst] 48)) d) os) fun e w''=>e=.returned (.int .i64 (z3p x.frm x.dst))∧∃ p:Regrown,w''=grow (redrawn (w.alloc (.cells #[.int .i64 x.kind,.string x.path,.int .i64 x.num,.string x.frm,.string x.dst] 48)) p.d) p.os:=fun d os=>Calls.regrown_of (by have hh:=HK.out (grow (redrawn (w.alloc (.cells #[.int .i64 x.kind,.string x.path,.int .i64 x.num,.string x.frm,.string x.dst] 48)) d) os);exact hh)
   have bx:=z3r (x:=x) (z0l w [.int .i64 x.kind,.string x.path,.int .i64 x.num,.string x.frm,.string x.dst] 48);obtain⟨c0,c1,c2,c3,c4⟩:=bx;have m0:=cell_regrown c0;have m1:=cell_regrown c1;have m2:=cell_regrown c2;have m3:=cell_regrown c3;have m4:=cell_regrown c4;clear c0 c1 c2 c3 c4;refine wp_region_quiet_below (by kernel_rfl) (by kernel_rfl) ?_
   repeat (first | go_big_quiet_step (first | exact cS _ _ | exact cK _ _) | quiet_step (first | exact cS _ _ | exact cK _ _))
   refine wpQuiet_nil ?_;intro _ hw9;obtain⟨⟨dq,osq⟩,hw9⟩:=hw9;subst hw9;have hA:=z0q hA hA.size (below_regrown _ dq osq);go_wp2_with fail;go_ret;exact⟨z0w HB.out.symm,hA⟩
theorem zin (x:Syn)(l:ByteArray)(w:World)(hp:x.path.size≤140737488355328)(hd:x.dst.size≤140737488355328):
  Calls prog 44 #[.agg #[.int .i64 x.kind,.string x.path,.int .i64 x.num,.string x.frm,.string x.dst],.string l] w fun e w'=>e=.returned (.bool (zik x l))∧Below w.heap.size w w':=by
 cases h1:z3q x.path
 ·exact fits_1 x l w hp hd h1
 by_cases h2:x.frm=l
 rotate_left
 ·exact fits_2 x l w hp hd h1 h2
 by_cases h4:x.dst=z2l
 ·by_cases h3:x.frm=z2l
  ·exact fits_3 x l w hp hd h1 h2 h3 h4
  by_cases h5:x.num=0
  ·exact fits_5 x l w hp hd h1 h2 h3 h4 h5 _ rfl
  ·exact fits_4 x l w hp hd h1 h2 h3 h4 h5
 by_cases h5:1≤x.num
 ·cases h6:z3q x.dst
  ·exact fits_8 x l w hp hd h1 h2 h4 h5 h6
  ·exact fits_9 x l w hp hd h1 h2 h4 h5 h6 _ rfl
 ·exact fits_7 x l w hp hd h1 h2 h4 h5
theorem at_fn (m:Int)(B:Nat)(r:Rev)(w:World)(hB:w.cell? ⟨B,0,none⟩=some (.int .i64 m)):Calls prog 51 #[.agg #[.string r.path,.int .i64 r.num,.int .i64 r.chg,.int .i64 r.act,.int .i64 r.ty.base,.bool r.ty.k,.bool r.ty.l,.bool r.ty.x,.int .u64 r.sum,.int .i64 r.size,.string r.frm,.int .i64 r.fnum],.pointer (some ⟨B,0,none⟩)] w fun e w'=>e=.returned (.bool ((fun v:Rev=>decide (v.chg≤m)) r))∧Below w.heap.size w w':=by
 have hBl:=z03 hB;go_enter func51,ntmps51;go_wp2_with fail;go_ret;exact⟨z0w (rfl),(Below.refl _ _).alloc (Nat.le_refl _) _⟩
theorem zed (revs:List Rev)(q:ByteArray)(m:Int)(B:Nat)(dv dr:Value)(w:World)(hR:z45 w dv revs)(hB:w.cell? ⟨B,0,none⟩=some (.int .i64 m))(hl:revs.length≤1000000):
  Calls prog 50 #[.agg #[dv,dr],.string q,.func (.func 51) #[] #[.pointer (some ⟨B,0,none⟩)]] w
   fun e w'=>e=.returned (.tuple #[.agg #[.string (zec (z30 revs q (fun v:Rev=>decide (v.chg≤m)))).path,.int .i64 (zec (z30 revs q (fun v:Rev=>decide (v.chg≤m)))).num,.int .i64 (zec (z30 revs q (fun v:Rev=>decide (v.chg≤m)))).chg,.int .i64 (zec (z30 revs q (fun v:Rev=>decide (v.chg≤m)))).act,.int .i64 (zec (z30 revs q (fun v:Rev=>decide (v.chg≤m)))).ty.base,.bool (zec (z30 revs q (fun v:Rev=>decide (v.chg≤m)))).ty.k,.bool (zec (z30 revs q (fun v:Rev=>decide (v.chg≤m)))).ty.l,.bool (zec (z30 revs q (fun v:Rev=>decide (v.chg≤m)))).ty.x,.int .u64 (zec (z30 revs q (fun v:Rev=>decide (v.chg≤m)))).sum,.int .i64 (zec (z30 revs q (fun v:Rev=>decide (v.chg≤m)))).size,.string (zec (z30 revs q (fun v:Rev=>decide (v.chg≤m)))).frm,.int .i64 (zec (z30 revs q (fun v:Rev=>decide (v.chg≤m)))).fnum],.bool (z30 revs q (fun v:Rev=>decide (v.chg≤m))).isSome])∧Below w.heap.size w w':=by
 obtain⟨Ar,cr,rfl,hcr,hmr,-⟩:=id hR;have HR:=hd_ hR;clear hR;unfold maxLen at hmr;rw[zeb];have HF:=hd_ (fun(r:Rev) (W:World) (hb:Below w.heap.size w W)=>at_fn m B r W (z04 hB hb (z03 hB)));have hb0:Below w.heap.size w (((w.alloc (.cells #[.slice Ar revs.length cr,dr] 26)).alloc (.cells #[.string ⟨#[]⟩,.int .i64 0,.int .i64 0,.int .i64 0,.int .i64 0,.bool false,.bool false,.bool false,.int .u64 0,.int .i64 0,.string ⟨#[]⟩,.int .i64 0] 66)).alloc (.cells #[.string ⟨#[]⟩,.int .i64 0,.int .i64 0,.int .i64 0,.int .i64 0,.bool false,.bool false,.bool false,.int .u64 0,.int .i64 0,.string ⟨#[]⟩,.int .i64 0] 66)):=(((Below.refl _ _).alloc (Nat.le_refl _) _).alloc (by simp) _).alloc (by simp;omega) _
 generalize (fun v:Rev=>decide (v.chg≤m))=p at HF ⊢;go_enter func50,ntmps50;go_wp2_with fail;go_loopw [9,15] (fun o i wr=>∃(k:Nat),k≤revs.length∧i=.int .i64 k∧Below w.heap.size w wr∧o=.bool ((revs.take k).foldl (zea q p) none).isSome∧Blk wr (w.heap.size+1) 66 [.string ⟨#[]⟩,.int .i64 0,.int .i64 0,.int .i64 0,.int .i64 0,.bool false,.bool false,.bool false,.int .u64 0,.int .i64 0,.string ⟨#[]⟩,.int .i64 0]∧Blk wr (w.heap.size+1+1) 66 [.string (zec ((revs.take k).foldl (zea q p) none)).path,.int .i64 (zec ((revs.take k).foldl (zea q p) none)).num,.int .i64 (zec ((revs.take k).foldl (zea q p) none)).chg,.int .i64 (zec ((revs.take k).foldl (zea q p) none)).act,.int .i64 (zec ((revs.take k).foldl (zea q p) none)).ty.base,.bool (zec ((revs.take k).foldl (zea q p) none)).ty.k,.bool (zec ((revs.take k).foldl (zea q p) none)).ty.l,.bool (zec ((revs.take k).foldl (zea q p) none)).ty.x,.int .u64 (zec ((revs.take k).foldl (zea q p) none)).sum,.int .i64 (zec ((revs.take k).foldl (zea q p) none)).size,.string (zec ((revs.take k).foldl (zea q p) none)).frm,.int .i64 (zec ((revs.take k).foldl (zea q p) none)).fnum]) (fun _ i _=>revs.length - (intOf i).toNat)
 case atStart =>
  refine⟨0,Nat.zero_le _,rfl,hb0,rfl,?_,?_⟩
  ·have:=z0l (w.alloc (.cells #[.slice Ar revs.length cr,dr] 26)) [.string ⟨#[]⟩,.int .i64 0,.int .i64 0,.int .i64 0,.int .i64 0,.bool false,.bool false,.bool false,.int .u64 0,.int .i64 0,.string ⟨#[]⟩,.int .i64 0] 66;have:=this.alloc (.cells #[.string ⟨#[]⟩,.int .i64 0,.int .i64 0,.int .i64 0,.int .i64 0,.bool false,.bool false,.bool false,.int .u64 0,.int .i64 0,.string ⟨#[]⟩,.int .i64 0] 66);simpa using this
  ·have:=z0l ((w.alloc (.cells #[.slice Ar revs.length cr,dr] 26)).alloc (.cells #[.string ⟨#[]⟩,.int .i64 0,.int .i64 0,.int .i64 0,.int .i64 0,.bool false,.bool false,.bool false,.int .u64 0,.int .i64 0,.string ⟨#[]⟩,.int .i64 0] 66)) [.string ⟨#[]⟩,.int .i64 0,.int .i64 0,.int .i64 0,.int .i64 0,.bool false,.bool false,.bool false,.int .u64 0,.int .i64 0,.string ⟨#[]⟩,.int .i64 0] 66;simp only[World.size_alloc] at this
   exact this
 case round =>
  obtain⟨k,hk,rfl,hbr,rfl,hZ,hF⟩:=hrel;by_cases hlt:k<revs.length
  ·obtain⟨ad,rfl,hab,hld⟩:=z45.at_ (HR.out.below hbr) hlt;have HT:=hd_ (show revs.take (k+1)=revs.take k++[revs[k]] from List.take_succ_eq_append_getElem hlt);have HG:Hid ((revs.take (k+1)).foldl (zea q p) none=zea q p ((revs.take k).foldl (zea q p) none) revs[k]):=hd_ (by rw[HT.out,List.foldl_append];rfl)
   generalize revs[k]=r at hld HT HG;generalize (revs.take k).foldl (zea q p) none=o at hF HG;obtain⟨x0,x1,x2,x3,x4,x5,x6,x7,x8,x9,x10,x11⟩:=hld;have hbx:=hbr.alloc hbr.size (.cells #[.string r.path,.int .i64 r.num,.int .i64 r.chg,.int .i64 r.act,.int .i64 r.ty.base,.bool r.ty.k,.bool r.ty.l,.bool r.ty.x,.int .u64 r.sum,.int .i64 r.size,.string r.frm,.int .i64 r.fnum] 66);have hZx:=hZ.alloc (.cells #[.string r.path,.int .i64 r.num,.int .i64 r.chg,.int .i64 r.act,.int .i64 r.ty.base,.bool r.ty.k,.bool r.ty.l,.bool r.ty.x,.int .u64 r.sum,.int .i64 r.size,.string r.frm,.int .i64 r.fnum] 66);have hFx:=hF.alloc (.cells #[.string r.path,.int .i64 r.num,.int .i64 r.chg,.int .i64 r.act,.int .i64 r.ty.base,.bool r.ty.k,.bool r.ty.l,.bool r.ty.x,.int .u64 r.sum,.int .i64 r.size,.string r.frm,.int .i64 r.fnum] 66);have hX:=z0l wr [.string r.path,.int .i64 r.num,.int .i64 r.chg,.int .i64 r.act,.int .i64 r.ty.base,.bool r.ty.k,.bool r.ty.l,.bool r.ty.x,.int .u64 r.sum,.int .i64 r.size,.string r.frm,.int .i64 r.fnum] 66;by_cases hp:r.path=q
   ·have HC:=hd_ (HF.out r (wr.alloc (.cells #[.string r.path,.int .i64 r.num,.int .i64 r.chg,.int .i64 r.act,.int .i64 r.ty.base,.bool r.ty.k,.bool r.ty.l,.bool r.ty.x,.int .u64 r.sum,.int .i64 r.size,.string r.frm,.int .i64 r.fnum] 66)) hbx);cases hpr:p r
    ·rw[hpr] at HC;have HS:Hid (zea q p o r=o):=hd_ (by unfold zea;rw[hpr];simp)
     clear hpr;subst hp;go_wp2_with fail;refine HC.out.mono ?_;rintro e w2 ⟨rfl,hb2⟩;go_wp2_with fail;go_roundw
     case rel=>exact⟨k+1,by omega,by go_num,z0r hbx hb2,by rw[HG.out,HS.out],hZx.below hb2 hZx.lt,by rw[HG.out,HS.out];exact hFx.below hb2 hFx.lt⟩
     case measure=>simp [intOf];omega
    ·rw[hpr] at HC;have hnew:∀ b:Bool,o.isSome=false∨(zec o).num<r.num→zea q p o r=some r:=by
      intro b h;unfold zea;rw[if_pos ⟨hp,hpr⟩];cases o with
      | none=>rfl
      | some x =>
       rcases h with h | h
       ·cases h
       ·exact if_pos h
     have hold:o.isSome=true→¬(zec o).num<r.num→zea q p o r=o:=by
      intro h1 h2;unfold zea;rw[if_pos ⟨hp,hpr⟩];cases o with
      | none=>cases h1
      | some x=>exact if_neg h2
     clear hpr;subst hp;by_cases hn:o.isSome=false∨(zec o).num<r.num
     ·have HS:=hd_ (hnew true hn);clear hnew hold;cases hos:o.isSome
      ·clear hn;go_wp2_with fail;refine HC.out.mono ?_;rintro e w2 ⟨rfl,hb2⟩;have hX2:=hX.below hb2 hX.lt;have hF2:=hFx.below hb2 hFx.lt;have hZ2:=hZx.below hb2 hZx.lt;have hbw2:=z0r hbx hb2;obtain⟨c0,c1,c2,c3,c4,c5,c6,c7,c8,c9,c10,c11⟩:=z7z hX2;obtain⟨f0,f1,f2,f3,f4,f5,f6,f7,f8,f9,f10,f11⟩:=z7z hF2;obtain⟨y0,y1,y2,y3,y4,y5,y6,y7,y8,y9,y10,y11⟩:=zdz hF2;clear hb2;have hF3:=ze0 hF2 r;have hB3:=ze1 hbw2 (show w.heap.size≤w.heap.size+1+1 by omega) r
       have hZ3:=far12 hZ2 (show w.heap.size+1+1≠w.heap.size+1 by omega) r
       go_wp2_with fail;go_roundw
       case rel=>exact⟨k+1,by omega,by go_num,hB3,by rw[HG.out,HS.out];rfl,hZ3,by rw[HG.out,HS.out];exact hF3⟩
       case measure=>simp [intOf];omega
      ·have hn2:(zec o).num<r.num:=by rcases hn with h | h;(rw[hos] at h;cases h);exact h
       clear hn;go_wp2_with fail;refine HC.out.mono ?_;rintro e w2 ⟨rfl,hb2⟩;have hX2:=hX.below hb2 hX.lt;have hF2:=hFx.below hb2 hFx.lt;have hZ2:=hZx.below hb2 hZx.lt;have hbw2:=z0r hbx hb2;obtain⟨c0,c1,c2,c3,c4,c5,c6,c7,c8,c9,c10,c11⟩:=z7z hX2;obtain⟨f0,f1,f2,f3,f4,f5,f6,f7,f8,f9,f10,f11⟩:=z7z hF2;obtain⟨y0,y1,y2,y3,y4,y5,y6,y7,y8,y9,y10,y11⟩:=zdz hF2;clear hb2;have hF3:=ze0 hF2 r;have hB3:=ze1 hbw2 (show w.heap.size≤w.heap.size+1+1 by omega) r
       have hZ3:=far12 hZ2 (show w.heap.size+1+1≠w.heap.size+1 by omega) r
       go_wp2_with fail;go_roundw
       case rel=>exact⟨k+1,by omega,by go_num,hB3,by rw[HG.out,HS.out];rfl,hZ3,by rw[HG.out,HS.out];exact hF3⟩
       case measure=>simp [intOf];omega
     ·rw[not_or] at hn;have hos:o.isSome=true:=by
       cases h:o.isSome
       ·exact absurd h hn.1
       ·rfl
      have hn2:¬(zec o).num<r.num:=hn.2;have HS:=hd_ (hold hos hn2);clear hnew hold hn;go_wp2_with fail;refine HC.out.mono ?_;rintro e w2 ⟨rfl,hb2⟩;have hX2:=hX.below hb2 hX.lt;have hF2:=hFx.below hb2 hFx.lt;have hZ2:=hZx.below hb2 hZx.lt;have hbw2:=z0r hbx hb2;obtain⟨c0,c1,c2,c3,c4,c5,c6,c7,c8,c9,c10,c11⟩:=z7z hX2;obtain⟨f0,f1,f2,f3,f4,f5,f6,f7,f8,f9,f10,f11⟩:=z7z hF2;clear hb2;go_wp2_with fail;go_roundw
      case rel=>exact⟨k+1,by omega,by go_num,hbw2,by rw[HG.out,HS.out,hos],hZ2,by rw[HG.out,HS.out];exact hF2⟩
      case measure=>simp [intOf];omega
   ·have HS:Hid (zea q p o r=o):=hd_ (by unfold zea;rw[if_neg (fun h=>hp h.1)])
    have sq:=ze7 r.path q;rw[show decide (r.path=q)=false by simpa using hp] at sq
    clear hp;go_wp2_with fail;go_roundw
    case rel=>exact⟨k+1,by omega,by go_num,hbx,by rw[HG.out,HS.out],hZx,by rw[HG.out,HS.out];exact hFx⟩
    case measure=>simp [intOf];omega
  ·rw[List.take_of_length_le (by omega)] at hF ⊢
   obtain⟨o,ho⟩:∃ o,revs.foldl (zea q p) none=o:=⟨_,rfl⟩;rw[ho] at hF ⊢;obtain⟨r,hr⟩:∃ r,zec o=r:=⟨_,rfl⟩;rw[hr] at hF;have HO:=hd_ ho;have HR2:=hd_ hr;clear ho hr;obtain⟨f0,f1,f2,f3,f4,f5,f6,f7,f8,f9,f10,f11⟩:=z7z hF;obtain⟨z0,z1,z2,z3,z4,z5,z6,z7,z8,z9,z10,z11⟩:=z7z hZ;obtain⟨y0,y1,y2,y3,y4,y5,y6,y7,y8,y9,y10,y11⟩:=zdz hZ;go_wp2_with fail;have hZ3:=ze0 hZ r;have hB3:=ze1 hbr (show w.heap.size≤w.heap.size+1 by omega) r
   generalize ((((((((((((wr.setCell ⟨w.heap.size+1,0,none⟩ (.string r.path)).setCell ⟨w.heap.size+1,1,none⟩ (.int .i64 r.num)).setCell ⟨w.heap.size+1,2,none⟩ (.int .i64 r.chg)).setCell ⟨w.heap.size+1,3,none⟩ (.int .i64 r.act)).setCell ⟨w.heap.size+1,4,none⟩ (.int .i64 r.ty.base)).setCell ⟨w.heap.size+1,5,none⟩ (.bool r.ty.k)).setCell ⟨w.heap.size+1,6,none⟩ (.bool r.ty.l)).setCell ⟨w.heap.size+1,7,none⟩ (.bool r.ty.x)).setCell ⟨w.heap.size+1,8,none⟩ (.int .u64 r.sum)).setCell ⟨w.heap.size+1,9,none⟩ (.int .i64 r.size)).setCell ⟨w.heap.size+1,10,none⟩ (.string r.frm)).setCell ⟨w.heap.size+1,11,none⟩ (.int .i64 r.fnum))=W3 at hZ3 hB3 ⊢;obtain⟨e0,e1,e2,e3,e4,e5,e6,e7,e8,e9,e10,e11⟩:=z7z hZ3;exact bodyPost_ret (v:=.tuple #[.agg #[.string r.path,.int .i64 r.num,.int .i64 r.chg,.int .i64 r.act,.int .i64 r.ty.base,.bool r.ty.k,.bool r.ty.l,.bool r.ty.x,.int .u64 r.sum,.int .i64 r.size,.string r.frm,.int .i64 r.fnum],.bool o.isSome]) (by simp [results,results50,go_sem,e0,e1,e2,e3,e4,e5,e6,e7,e8,e9,e10,e11]) rfl ⟨by rw[HO.out,HR2.out],hB3⟩
end Go.Proofs.YtegeboijhifmcaaGreatDoor
