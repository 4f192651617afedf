/- Steps of a plan, entries of a have-list: words, and the leaves of syncplan, have, workspace. -/
import Derived.Test.YtegeboijhifmcaaGreatDoorMgw3
import Derived.Test.YtegeboijhifmcaaGreatDoorMgw5
import Derived.Test.YtegeboijhifmcaaGreatDoorMgw8
import Derived.IntWalk
import Derived.Deep.DeepCutAuto
import Derived.Lib.QuietBelow
namespace Go.Proofs.YtegeboijhifmcaaGreatDoor
set_option linter.unusedVariables false
set_option linter.unusedSimpArgs false
set_option maxHeartbeats 8000000
set_option maxRecDepth 100000
open Go.RowKit
structure Syn where
 kind:Int
 path:ByteArray
 num:Int
 frm:ByteArray
 dst:ByteArray
structure Hav where
 path:ByteArray
 num:Int
 loc:ByteArray
def Syn.cells (x:Syn):List Value:=[.int .i64 x.kind,.string x.path,.int .i64 x.num,.string x.frm,.string x.dst]
def Hav.cells (x:Hav):List Value:=[.string x.path,.int .i64 x.num,.string x.loc]
def z3o (k:Int):Bool:=(k == 6) || (k == 5)
def z3p (frm dst:ByteArray):Int:=if frm=z2l then 1 else if dst=z2l then 4 else if frm=dst then 2 else 3
def z3q (p:ByteArray):Bool:=decide (p.size≤200) && z2s p
def Hav.okB (h:Hav):Bool:=z3q h.path && z3q h.loc && decide (1≤h.num)
theorem z3r {w:World}{g:Nat}{e:TypeId}{x:Syn}(h:Blk w g e [.int .i64 x.kind,.string x.path,.int .i64 x.num,.string x.frm,.string x.dst]):w.cell? ⟨g,0,none⟩=some (.int .i64 x.kind)∧w.cell? ⟨g,1,none⟩=some (.string x.path)∧w.cell? ⟨g,2,none⟩=some (.int .i64 x.num)∧w.cell? ⟨g,3,none⟩=some (.string x.frm)∧w.cell? ⟨g,4,none⟩=some (.string x.dst):=
 ⟨h.cell 0,h.cell 1,h.cell 2,h.cell 3,h.cell 4⟩
theorem z3s {w:World}{g:Nat}{e:TypeId}{x:Hav}(h:Blk w g e [.string x.path,.int .i64 x.num,.string x.loc]):w.cell? ⟨g,0,none⟩=some (.string x.path)∧w.cell? ⟨g,1,none⟩=some (.int .i64 x.num)∧w.cell? ⟨g,2,none⟩=some (.string x.loc):=
 ⟨h.cell 0,h.cell 1,h.cell 2⟩
theorem z3t (k:Int):((k == 6)=true∧(k != 6)=false∧z3o k=true)∨((k == 6)=false∧(k != 6)=true∧(k == 5)=true∧(k != 5)=false∧z3o k=true)∨((k == 6)=false∧(k != 6)=true∧(k == 5)=false∧(k != 5)=true∧z3o k=false):=by
 unfold z3o bne;cases (k == 6) <;> cases (k == 5) <;> simp
theorem z3u (x:Syn)(w:World):Calls Tryz.prog 62 #[.agg #[.int .i64 x.kind,.string x.path,.int .i64 x.num,.string x.frm,.string x.dst]] w fun e w'=>e=.returned (.bool (z3o x.kind))∧Below w.heap.size w w':=by
 have hA:Below w.heap.size w (w.alloc (.cells #[.int .i64 x.kind,.string x.path,.int .i64 x.num,.string x.frm,.string x.dst] 48)):=(Below.refl _ _).alloc (Nat.le_refl _) _;rcases z3t x.kind with⟨h1,h2,h3⟩ | ⟨h1,h2,h3,h4,h5⟩ | ⟨h1,h2,h3,h4,h5⟩
 all_goals
  have HS:=hd_ (by first | exact h5 | exact h3)
  go_enter Tryz.func62,Tryz.ntmps62;go_wp2_with fail;go_ret;exact⟨z0w HS.out.symm,hA⟩
theorem z3v {s:ByteArray}(h:s=z2l):s.toList=[]∧(s.toList == (⟨#[]⟩:ByteArray).toList)=true:=by subst h;exact⟨by rw[ByteArray.toList_eq];rfl,beq_self_eq_true _⟩
theorem z3w {s:ByteArray}(h:¬ s=z2l):¬ s.toList=[]∧s.toList.isEmpty=false:=by
 have h1:¬ s.toList=[]:=fun e=>h (by
  rw[ByteArray.toList_eq] at e;cases s with | mk a =>
  unfold z2l;congr 1
  exact Array.toList_eq_nil_iff.1 e)
 exact⟨h1,by cases hh:s.toList;exact absurd hh h1;rfl⟩
theorem z3x (a b:ByteArray):(a.toList == b.toList)=decide (a=b):=by
 rw[Bool.eq_iff_iff,beq_iff_eq,decide_eq_true_eq];constructor
 ·intro h;rw[ByteArray.toList_eq,ByteArray.toList_eq] at h;cases a with | mk x=>cases b with | mk y =>
  congr 1;exact Array.toList_inj.1 h
 ·intro h;rw[h]
theorem z3y (x:Syn)(w:World):Calls Tryz.prog 37 #[.agg #[.int .i64 x.kind,.string x.path,.int .i64 x.num,.string x.frm,.string x.dst]] w fun e w'=>e=.returned (.int .i64 (z3p x.frm x.dst))∧Below w.heap.size w w':=by
 have hA:Below w.heap.size w (w.alloc (.cells #[.int .i64 x.kind,.string x.path,.int .i64 x.num,.string x.frm,.string x.dst] 48)):=(Below.refl _ _).alloc (Nat.le_refl _) _;by_cases h1:x.frm=z2l
 ·have HK:Hid (z3p x.frm x.dst=1):=hd_ (if_pos h1);obtain⟨s1,s2⟩:=z3v h1;clear h1;go_enter Tryz.func37,Tryz.ntmps37;go_wp2_with fail;go_ret;exact⟨by rw[HK.out];rfl,hA⟩
 ·obtain⟨s1,s2⟩:=z3w h1;by_cases h2:x.dst=z2l
  ·have HK:Hid (z3p x.frm x.dst=4):=hd_ (by unfold z3p;rw[if_neg h1,if_pos h2])
   obtain⟨t1,t2⟩:=z3v h2;clear h1 h2;go_enter Tryz.func37,Tryz.ntmps37;go_wp2_with fail;go_ret;exact⟨by rw[HK.out];rfl,hA⟩
  ·obtain⟨t1,t2⟩:=z3w h2;have q:=z3x x.frm x.dst;by_cases h3:x.frm=x.dst
   ·have HK:Hid (z3p x.frm x.dst=2):=hd_ (by unfold z3p;rw[if_neg h1,if_neg h2,if_pos h3])
    rw[decide_eq_true h3] at q;clear h1 h2 h3;go_enter Tryz.func37,Tryz.ntmps37;go_wp2_with fail;go_ret;exact⟨by rw[HK.out];rfl,hA⟩
   ·have HK:Hid (z3p x.frm x.dst=3):=hd_ (by unfold z3p;rw[if_neg h1,if_neg h2,if_neg h3])
    rw[decide_eq_false h3] at q;clear h1 h2 h3;go_enter Tryz.func37,Tryz.ntmps37;go_wp2_with fail;go_ret;exact⟨by rw[HK.out];rfl,hA⟩
theorem z3z (p:ByteArray)(w:World)(hp:p.size≤140737488355328):Calls Tryz.prog 79 #[.string p] w fun e w'=>e=.returned (.bool (z3q p))∧w=w':=by
 have HV:=hd_ (z3c p w hp);by_cases h:p.size≤200
 ·have q:decide ((p.size:Int)≤200)=true:=by simp;omega
  have HB:Hid (z3q p=z2r p.data.toList):=hd_ (by unfold z3q;rw[decide_eq_true h];rfl)
  generalize z2r p.data.toList=b at HV HB;clear h;go_enter Tryz.func79,Tryz.ntmps79;go_wp2_with fail;refine HV.out.mono ?_;rintro e w' ⟨rfl,rfl⟩;go_wp2_with fail;go_ret;exact⟨z0w HB.out.symm,rfl⟩
 ·have q:decide ((p.size:Int)≤200)=false:=by simp;omega
  have HB:Hid (z3q p=false):=hd_ (by unfold z3q;rw[decide_eq_false h];rfl)
  clear h;go_enter Tryz.func79,Tryz.ntmps79;go_wp2_with fail;go_ret;exact⟨z0w HB.out.symm,rfl⟩
theorem z40 (p:ByteArray)(w:World)(hp:p.size≤140737488355328):Calls Tryz.prog 81 #[.string p] w fun e w'=>e=.returned (.bool (z3q p))∧w=w':=by
 have HV:=hd_ (z3c p w hp);by_cases h:p.size≤200
 ·have q:decide ((p.size:Int)≤200)=true:=by simp;omega
  have HB:Hid (z3q p=z2r p.data.toList):=hd_ (by unfold z3q;rw[decide_eq_true h];rfl)
  generalize z2r p.data.toList=b at HV HB;clear h;go_enter Tryz.func81,Tryz.ntmps81;go_wp2_with fail;refine HV.out.mono ?_;rintro e w' ⟨rfl,rfl⟩;go_wp2_with fail;go_ret;exact⟨z0w HB.out.symm,rfl⟩
 ·have q:decide ((p.size:Int)≤200)=false:=by simp;omega
  have HB:Hid (z3q p=false):=hd_ (by unfold z3q;rw[decide_eq_false h];rfl)
  clear h;go_enter Tryz.func81,Tryz.ntmps81;go_wp2_with fail;go_ret;exact⟨z0w HB.out.symm,rfl⟩
theorem z41 (a b:ByteArray)(w:World)(ha:a.size≤140737488355328)(hb:b.size≤140737488355328):
  Calls Tryz.prog 45 #[.string a,.string b] w fun e w'=>e=.returned (.int .i64 (z2u a b))∧z3j w w':=by
 have H:=hd_ (z3l a b w ha hb);go_enter Tryz.func45,Tryz.ntmps45;go_wp2_with fail;refine H.out.mono ?_;rintro e w' ⟨rfl,hq⟩;go_wp2_with fail;go_ret;exact⟨rfl,hq⟩
theorem z42 (h:Hav)(w:World)(h1:h.path.size≤140737488355328)(h2:h.loc.size≤140737488355328):Calls Tryz.prog 46 #[.agg #[.string h.path,.int .i64 h.num,.string h.loc]] w fun e w'=>e=.returned (.bool h.okB)∧Below w.heap.size w w':=by
 have hA:Below w.heap.size w (w.alloc (.cells #[.string h.path,.int .i64 h.num,.string h.loc] 44)):=(Below.refl _ _).alloc (Nat.le_refl _) _;have HP:=hd_ (fun X=>z40 h.path X h1);have HL:=hd_ (fun X=>z40 h.loc X h2);have HB:Hid (h.okB=(z3q h.path && z3q h.loc && decide (1≤h.num))):=hd_ rfl;generalize h.okB=b at HB ⊢;cases hb1:z3q h.path with
 | false =>
  rw[hb1] at HP HB;clear hb1;go_enter Tryz.func46,Tryz.ntmps46;go_wp2_with fail;refine (HP.out _).mono ?_;rintro e w' ⟨rfl,rfl⟩;go_wp2_with fail;go_ret;exact⟨z0w (by rw[HB.out];rfl),hA⟩
 | true =>
  rw[hb1] at HP HB;clear hb1;cases hb2:z3q h.loc with
  | false =>
   rw[hb2] at HL HB;clear hb2;go_enter Tryz.func46,Tryz.ntmps46;go_wp2_with fail;refine (HP.out _).mono ?_;rintro e w' ⟨rfl,rfl⟩;go_wp2_with fail;refine (HL.out _).mono ?_;rintro e w' ⟨rfl,rfl⟩;go_wp2_with fail;go_ret;exact⟨z0w (by rw[HB.out];rfl),hA⟩
  | true =>
   rw[hb2] at HL HB;clear hb2;go_enter Tryz.func46,Tryz.ntmps46;go_wp2_with fail;refine (HP.out _).mono ?_;rintro e w' ⟨rfl,rfl⟩;go_wp2_with fail;refine (HL.out _).mono ?_;rintro e w' ⟨rfl,rfl⟩;go_wp2_with fail;go_ret;exact⟨z0w (by rw[HB.out];rfl),hA⟩
theorem z43 (a b:Hav)(w:World)(ha:a.path.size≤140737488355328)(hb:b.path.size≤140737488355328):
  Calls Tryz.prog 47 #[.agg #[.string a.path,.int .i64 a.num,.string a.loc],.agg #[.string b.path,.int .i64 b.num,.string b.loc]] w fun e w'=>e=.returned (.int .i64 (z2u a.path b.path))∧Below w.heap.size w w':=by
 have H:=hd_ (fun X=>z3l a.path b.path X ha hb);have hA:Below w.heap.size w ((w.alloc (.cells #[.string a.path,.int .i64 a.num,.string a.loc] 44)).alloc (.cells #[.string b.path,.int .i64 b.num,.string b.loc] 44)):=((Below.refl _ _).alloc (Nat.le_refl _) _).alloc (by simp) _
 go_enter Tryz.func47,Tryz.ntmps47;go_wp2_with fail;refine (H.out _).mono ?_;rintro e w' ⟨rfl,hq⟩;have HQ:=hd_ (z0r hA (hq.below _));clear hq;go_wp2_with fail;go_ret;exact⟨rfl,HQ.out⟩
open Go.Sort (grow)
def z4b (w:World)(v:Value)(l:List Hav):Prop:=Row w 3 v l.length (l.flatMap Hav.cells)
def z4c (w:World)(a:Addr)(x:Hav):Prop:=w.cell? a=some (.string x.path)∧w.cell? ⟨a.block,a.off+1,none⟩=some (.int .i64 x.num)∧w.cell? ⟨a.block,a.off+2,none⟩=some (.string x.loc)
theorem z4b.at_ {w:World}{A:Option Addr}{c:Nat}{l:List Hav}(h:z4b w (.slice A l.length c) l){k:Nat}(hk:k<l.length):
  ∃ ad,A=some ad∧ad.block<w.heap.size∧z4c w (ad.add (k * 3)) l[k]:=by
 obtain⟨ad,e,hb,hc⟩:=z49 (f:=Hav.cells) (n:=3) (fun _=>rfl) h hk;exact⟨ad,e,hb,hc 0 _ rfl,hc 1 _ rfl,hc 2 _ rfl⟩
def z4d (p:Option Hav)(h:Hav):Bool:=match p with | none=>false | some q=>decide (0≤z2u q.path h.path)
theorem z4e (q h:Hav):z4d (some q) h=decide (0≤z2u q.path h.path):=rfl
def z4f:Option Hav→List ByteArray→List Hav→Int
 | _,_,[]=>0
 | p,s,h :: r=>if (!h.okB || z4d p h)=true then 340 else if h.loc∈s then 341 else z4f (some h) (h.loc :: s) r
def z4g (l:List Hav):Int:=if 1024<l.length then 342 else z4f none [] l
def z4h (s:List ByteArray):ByteArray→Option Unit:=fun x=>if x∈s then some () else none
def z4i:Unit→Value:=fun _=>.agg #[]
theorem z4j (a:ByteArray)(s:List ByteArray):z4h (a :: s)=upd (z4h s) a ():=by
 funext x;unfold z4h upd
 by_cases h:x=a
 ·rw[if_pos h,if_pos (by rw[h];exact List.mem_cons_self)]
 ·rw[if_neg h];show (if x∈a :: s then some () else none)=if x∈s then some () else none
  by_cases h2:x∈s
  ·rw[if_pos h2,if_pos (List.mem_cons_of_mem _ h2)]
  ·rw[if_neg h2,if_neg (by rintro (_ | ⟨_,h3⟩);exact h rfl;exact h2 h3)]
def z4k (l:List Hav):List ByteArray:=l.reverse.map Hav.loc
def z4l (l:List Hav):Option Hav:=l.getLast?
theorem z4m (l:List Hav)(x:Hav):z4k (l++[x])=x.loc :: z4k l:=by unfold z4k;simp
theorem z4n (l:List Hav)(x:Hav):z4l (l++[x])=some x:=by unfold z4l;simp
theorem z4o (l:List Hav)(v:Value)(w:World)(hR:z4b w v l)(hs:∀ x∈l,x.path.size≤140737488355328∧x.loc.size≤140737488355328):
  Calls Tryz.prog 20 #[v] w fun e w'=>e=.returned (.int .i64 (z4g l))∧Below w.heap.size w w':=by
 obtain⟨A,c,rfl,hc,hm,-⟩:=id hR;have HR:=hd_ hR;have HS:=hd_ hs;clear hR hs;unfold maxLen at hm;by_cases h1:1024<l.length
 ·have HE:Hid (z4g l=342):=hd_ (if_pos h1);go_enter Tryz.func20,Tryz.ntmps20;go_wp2_with fail;go_ret;exact⟨z34 HE.out.symm,Below.refl _ _⟩
 have HE:Hid (z4g l=z4f none [] l):=hd_ (if_neg h1);have hmm:=@run_makeMap Tryz.prog;have HM0:=hd_ (z2f.new Value.string z4i w);have HB0:=hd_ ((Below.refl w.heap.size w).alloc (Nat.le_refl _) (.map #[] 0));go_enter Tryz.func20,Tryz.ntmps20;go_wp2_with fail;go_loopw [14] (fun i wr=>∃ k:Nat,k≤l.length∧i=.int .i64 k∧Hid (z4f none [] l=z4f (z4l (l.take k)) (z4k (l.take k)) (l.drop k))∧Below w.heap.size w wr∧z2f Value.string z4i wr w.heap.size (z4h (z4k (l.take k)))) (fun i _=>l.length - (intOf i).toNat)
 case atStart=>exact⟨0,Nat.zero_le _,rfl,hd_ rfl,HB0.out,HM0.out⟩
 case round =>
  obtain⟨k,hk,rfl,HV,hb,hM⟩:=hrel;have hRr:=Row.below HR.out hb;by_cases hlt:k<l.length
  ·have hprev:k=0∨∃(j:Nat) (hj:j<l.length),k=j+1∧z4l (l.take k)=some l[j]:=by
    cases k with
    | zero=>exact .inl rfl
    | succ j=>exact .inr ⟨j,by omega,rfl,by rw[List.take_succ_eq_append_getElem (by omega),z4n]⟩
   obtain⟨ad,rfl,hab,hld⟩:=z4b.at_ hRr hlt;have hxs:=HS.out l[k] (List.getElem_mem _);have HT:=hd_ (show l.take (k+1)=l.take k++[l[k]] from List.take_succ_eq_append_getElem hlt);rw[List.drop_eq_getElem_cons hlt] at HV;generalize l[k]=x at hld hxs HT HV;obtain⟨x0,x1,x2⟩:=hld;have hbx:Below w.heap.size w (wr.alloc (.cells #[.string x.path,.int .i64 x.num,.string x.loc] 44)):=hb.alloc hb.size _;have hMx:=z2f.alloc hM (.cells #[.string x.path,.int .i64 x.num,.string x.loc] 44);obtain⟨c0,c1,c2⟩:=z3s (x:=x) (z0l wr [.string x.path,.int .i64 x.num,.string x.loc] 44);have HVAL:=hd_ (fun X=>z42 x X hxs.1 hxs.2);cases hok:x.okB
   ·have HO:Hid (z4g l=340):=hd_ (by rw[HE.out,HV.out,z4f,hok];rfl)
    rw[hok] at HVAL;clear hok hprev;have cV:∀ d os,Calls Tryz.prog 46 #[.agg #[.string x.path,.int .i64 x.num,.string x.loc]] (grow (redrawn (wr.alloc (.cells #[.string x.path,.int .i64 x.num,.string x.loc] 44)) d) os) fun e w''=>e=.returned (.bool false)∧∃ p:Regrown,w''=grow (redrawn (wr.alloc (.cells #[.string x.path,.int .i64 x.num,.string x.loc] 44)) p.d) p.os:=fun d os=>Calls.regrown_of (by have hh:=HVAL.out (grow (redrawn (wr.alloc (.cells #[.string x.path,.int .i64 x.num,.string x.loc] 44)) d) os);exact hh)
    have m0:=cell_regrown c0;have m1:=cell_regrown c1;have m2:=cell_regrown c2;go_wp2_with fail;refine wp_region_quiet_below (by kernel_rfl) (by kernel_rfl) ?_
    repeat (first | go_big_quiet_step (exact cV _ _) | quiet_step (exact cV _ _))
    refine wpQuiet_nil ?_;intro _ hw9;obtain⟨⟨dq,osq⟩,hw9⟩:=hw9;subst hw9;have hS5:=below_regrown (wr.alloc (.cells #[.string x.path,.int .i64 x.num,.string x.loc] 44)) dq osq;have hb5:=z0q hbx hbx.size hS5;have hM5:=z2f.below hMx hS5;have d0:=cell_regrown c0 dq osq;have d1:=cell_regrown c1 dq osq;have d2:=cell_regrown c2 dq osq;generalize grow (redrawn (wr.alloc (.cells #[.string x.path,.int .i64 x.num,.string x.loc] 44)) dq) osq=W5 at hS5 hb5 hM5 d0 d1 d2 ⊢;go_wp2_with fail;go_ret;exact⟨z34 HO.out.symm,hb5⟩
   ·rw[hok] at HVAL;have cV:∀ d os,Calls Tryz.prog 46 #[.agg #[.string x.path,.int .i64 x.num,.string x.loc]] (grow (redrawn (wr.alloc (.cells #[.string x.path,.int .i64 x.num,.string x.loc] 44)) d) os) fun e w''=>e=.returned (.bool true)∧∃ p:Regrown,w''=grow (redrawn (wr.alloc (.cells #[.string x.path,.int .i64 x.num,.string x.loc] 44)) p.d) p.os:=fun d os=>Calls.regrown_of (by have hh:=HVAL.out (grow (redrawn (wr.alloc (.cells #[.string x.path,.int .i64 x.num,.string x.loc] 44)) d) os);exact hh)
    have m0:=cell_regrown c0;have m1:=cell_regrown c1;have m2:=cell_regrown c2;rcases hprev with h0 | ⟨j,hj,hkj,hl⟩
    ·have HST:Hid (z4g l=if x.loc∈z4k (l.take k) then 341 else z4f (some x) (x.loc :: z4k (l.take k)) (l.drop (k+1))):=hd_ (by rw[HE.out,HV.out,z4f,hok,show z4l (l.take k)=none by rw[h0];rfl];rfl)
     have n0:decide (0<k)=false:=by simp;omega
     clear h0 hok;go_wp2_with fail;refine wp_region_quiet_below (by kernel_rfl) (by kernel_rfl) ?_
     repeat (first | go_big_quiet_step (exact cV _ _) | quiet_step (exact cV _ _))
     refine wpQuiet_nil ?_;intro _ hw9;obtain⟨⟨dq,osq⟩,hw9⟩:=hw9;subst hw9;have hS5:=below_regrown (wr.alloc (.cells #[.string x.path,.int .i64 x.num,.string x.loc] 44)) dq osq;have hb5:=z0q hbx hbx.size hS5;have hM5:=z2f.below hMx hS5;have d0:=cell_regrown c0 dq osq;have d1:=cell_regrown c1 dq osq;have d2:=cell_regrown c2 dq osq;generalize grow (redrawn (wr.alloc (.cells #[.string x.path,.int .i64 x.num,.string x.loc] 44)) dq) osq=W5 at hS5 hb5 hM5 d0 d1 d2 ⊢;by_cases hin:x.loc∈z4k (l.take k)
     ·have HO:Hid (z4g l=341):=hd_ (by rw[HST.out,if_pos hin])
      have hlk:=z2f.lookup (w:=W5) hM5 (z2d Tryz.underlying9) Tryz.underlying80 (z:=.agg #[]) (by rfl) x.loc true
      have hv:z2h z4i (.agg #[]) true (z4h (z4k (l.take k)) x.loc)=.tuple #[.agg #[],.bool true]:=by unfold z4h;rw[if_pos hin];rfl
      rw[hv] at hlk;clear hin hv;go_wp2_with fail;go_ret;exact⟨z34 HO.out.symm,hb5.alloc hb5.size _⟩
     ·have HO:=hd_ (HST.out.trans (if_neg hin));have hlk:=z2f.lookup (w:=W5) hM5 (z2d Tryz.underlying9) Tryz.underlying80 (z:=.agg #[]) (by rfl) x.loc true
      have hv:z2h z4i (.agg #[]) true (z4h (z4k (l.take k)) x.loc)=.tuple #[.agg #[],.bool false]:=by unfold z4h;rw[if_neg hin];rfl
      rw[hv] at hlk;have hM6:=z2f.alloc hM5 (.cells #[] 106);have hb6:Below w.heap.size w (W5.alloc (.cells #[] 106)):=hb5.alloc hb5.size _;obtain⟨w3,hup,hM3,hg3,hs3⟩:=z2f.update (w:=W5.alloc (.cells #[] 106)) hM6 (z2d Tryz.underlying9) Tryz.underlying80 x.loc ();have hup':(Instr.mapUpdate 80 (.map (some w.heap.size)) (.string x.loc) (.agg #[])).run Tryz.prog (W5.alloc (.cells #[] 106))=.ok () w3:=hup;have hb7:Below w.heap.size w w3:=hb6.trans ⟨hg3.os,hg3.tape,hg3.output,hg3.size,fun q hq=>hg3.block q (Nat.lt_of_lt_of_le hq hb6.size) (by intro e;injection e with e;omega)⟩
      have f2:=(((Below.refl W5.heap.size W5).alloc (Nat.le_refl _) (.cells #[] 106)).cell (block_lt_of_cell d2)).trans d2;clear hin hv hup;go_wp2_with fail;go_roundw
      case rel=>exact⟨k+1,by omega,by go_num,hd_ (by rw[HT.out,z4n,z4m,← HE.out];exact HO.out),hb7,by rw[HT.out,z4m,z4j];exact hM3⟩
      case measure=>simp [intOf];omega
    ·obtain⟨ad2,had,hab2,hl2⟩:=z4b.at_ hRr hj;injection had with had
     subst had;have hys:=HS.out l[j] (List.getElem_mem _);generalize l[j]=y at hl hl2 hys;obtain⟨y0,y1,y2⟩:=hl2;have hba:=(Below.refl wr.heap.size wr).alloc (Nat.le_refl _) (.cells #[.string x.path,.int .i64 x.num,.string x.loc] 44);have e0:=cell_regrown ((hba.cell (show (ad.add (j * 3)).block<wr.heap.size from block_lt_of_cell y0)).trans y0);have e1:=cell_regrown ((hba.cell (p:=⟨(ad.add (j * 3)).block,(ad.add (j * 3)).off+1,none⟩) (block_lt_of_cell y1)).trans y1);have e2:=cell_regrown ((hba.cell (p:=⟨(ad.add (j * 3)).block,(ad.add (j * 3)).off+2,none⟩) (block_lt_of_cell y2)).trans y2);have n0:decide (0<k)=true:=by simp;omega
     have n1:(k:Int) - 1=(j:Int):=by omega
     have HCMP:=hd_ (fun X=>z43 y x X hys.1 hxs.1);have cC:∀ d os,Calls Tryz.prog 47 #[.agg #[.string y.path,.int .i64 y.num,.string y.loc],.agg #[.string x.path,.int .i64 x.num,.string x.loc]] (grow (redrawn (wr.alloc (.cells #[.string x.path,.int .i64 x.num,.string x.loc] 44)) d) os) fun e w''=>e=.returned (.int .i64 (z2u y.path x.path))∧∃ p:Regrown,w''=grow (redrawn (wr.alloc (.cells #[.string x.path,.int .i64 x.num,.string x.loc] 44)) p.d) p.os:=fun d os=>Calls.regrown_of (by have hh:=HCMP.out (grow (redrawn (wr.alloc (.cells #[.string x.path,.int .i64 x.num,.string x.loc] 44)) d) os);exact hh)
     generalize hcv:z2u y.path x.path=cv at cC;by_cases hge:0≤cv
     ·have HO:Hid (z4g l=340):=hd_ (by rw[HE.out,HV.out,z4f,hok,hl,z4e,hcv,decide_eq_true hge];rfl)
      have n2:decide ((0:Int)≤cv)=true:=decide_eq_true hge;clear hcv hok hl hkj hge;go_wp2_with fail;refine wp_region_quiet_below (by kernel_rfl) (by kernel_rfl) ?_
      repeat (first | go_big_quiet_step (first | exact cV _ _ | exact cC _ _) | quiet_step (first | exact cV _ _ | exact cC _ _))
      refine wpQuiet_nil ?_;intro _ hw9;obtain⟨⟨dq,osq⟩,hw9⟩:=hw9;subst hw9;have hS5:=below_regrown (wr.alloc (.cells #[.string x.path,.int .i64 x.num,.string x.loc] 44)) dq osq;have hb5:=z0q hbx hbx.size hS5;have hM5:=z2f.below hMx hS5;have d0:=cell_regrown c0 dq osq;have d1:=cell_regrown c1 dq osq;have d2:=cell_regrown c2 dq osq;generalize grow (redrawn (wr.alloc (.cells #[.string x.path,.int .i64 x.num,.string x.loc] 44)) dq) osq=W5 at hS5 hb5 hM5 d0 d1 d2 ⊢;go_wp2_with fail;go_ret;exact⟨z34 HO.out.symm,hb5⟩
     ·have HST:Hid (z4g l=if x.loc∈z4k (l.take k) then 341 else z4f (some x) (x.loc :: z4k (l.take k)) (l.drop (k+1))):=hd_ (by rw[HE.out,HV.out,z4f,hok,hl,show z4d (some y) x=false by rw[z4e,hcv,decide_eq_false hge]];rfl)
      have n2:decide ((0:Int)≤cv)=false:=decide_eq_false hge;clear hcv hok hl hkj hge;go_wp2_with fail;refine wp_region_quiet_below (by kernel_rfl) (by kernel_rfl) ?_
      repeat (first | go_big_quiet_step (first | exact cV _ _ | exact cC _ _) | quiet_step (first | exact cV _ _ | exact cC _ _))
      refine wpQuiet_nil ?_;intro _ hw9;obtain⟨⟨dq,osq⟩,hw9⟩:=hw9;subst hw9;have hS5:=below_regrown (wr.alloc (.cells #[.string x.path,.int .i64 x.num,.string x.loc] 44)) dq osq;have hb5:=z0q hbx hbx.size hS5;have hM5:=z2f.below hMx hS5;have d0:=cell_regrown c0 dq osq;have d1:=cell_regrown c1 dq osq;have d2:=cell_regrown c2 dq osq;generalize grow (redrawn (wr.alloc (.cells #[.string x.path,.int .i64 x.num,.string x.loc] 44)) dq) osq=W5 at hS5 hb5 hM5 d0 d1 d2 ⊢;by_cases hin:x.loc∈z4k (l.take k)
      ·have HO:Hid (z4g l=341):=hd_ (by rw[HST.out,if_pos hin])
       have hlk:=z2f.lookup (w:=W5) hM5 (z2d Tryz.underlying9) Tryz.underlying80 (z:=.agg #[]) (by rfl) x.loc true
       have hv:z2h z4i (.agg #[]) true (z4h (z4k (l.take k)) x.loc)=.tuple #[.agg #[],.bool true]:=by unfold z4h;rw[if_pos hin];rfl
       rw[hv] at hlk;clear hin hv;go_wp2_with fail;go_ret;exact⟨z34 HO.out.symm,hb5.alloc hb5.size _⟩
      ·have HO:=hd_ (HST.out.trans (if_neg hin));have hlk:=z2f.lookup (w:=W5) hM5 (z2d Tryz.underlying9) Tryz.underlying80 (z:=.agg #[]) (by rfl) x.loc true
       have hv:z2h z4i (.agg #[]) true (z4h (z4k (l.take k)) x.loc)=.tuple #[.agg #[],.bool false]:=by unfold z4h;rw[if_neg hin];rfl
       rw[hv] at hlk;have hM6:=z2f.alloc hM5 (.cells #[] 106);have hb6:Below w.heap.size w (W5.alloc (.cells #[] 106)):=hb5.alloc hb5.size _;obtain⟨w3,hup,hM3,hg3,hs3⟩:=z2f.update (w:=W5.alloc (.cells #[] 106)) hM6 (z2d Tryz.underlying9) Tryz.underlying80 x.loc ();have hup':(Instr.mapUpdate 80 (.map (some w.heap.size)) (.string x.loc) (.agg #[])).run Tryz.prog (W5.alloc (.cells #[] 106))=.ok () w3:=hup;have hb7:Below w.heap.size w w3:=hb6.trans ⟨hg3.os,hg3.tape,hg3.output,hg3.size,fun q hq=>hg3.block q (Nat.lt_of_lt_of_le hq hb6.size) (by intro e;injection e with e;omega)⟩
       have f2:=(((Below.refl W5.heap.size W5).alloc (Nat.le_refl _) (.cells #[] 106)).cell (block_lt_of_cell d2)).trans d2;clear hin hv hup;go_wp2_with fail;go_roundw
       case rel=>exact⟨k+1,by omega,by go_num,hd_ (by rw[HT.out,z4n,z4m,← HE.out];exact HO.out),hb7,by rw[HT.out,z4m,z4j];exact hM3⟩
       case measure=>simp [intOf];omega
  ·go_wp2_with fail;have H0:Hid (z4g l=0):=hd_ (by rw[HE.out,HV.out,List.drop_of_length_le (by omega)];rfl)
   go_ret;exact⟨z34 H0.out.symm,hb⟩
def z4s (x:Syn):List Hav:=if x.dst=z2l then [] else [⟨x.path,x.num,x.dst⟩]
def z4t (x:Syn):List Hav:=if z3o x.kind then [] else z4s x
def z4u (p:ByteArray):List Syn→List Hav
 | []=>[]
 | x :: r=>if z2u x.path p<0 then z4t x++z4u p r else []
def z4v (p:ByteArray):List Syn→List Syn
 | []=>[]
 | x :: r=>if z2u x.path p<0 then z4v p r else x :: r
def z4w (h:Hav):List Syn→List Hav
 | []=>[h]
 | x :: r=>if x.path=h.path then (if z3o x.kind then [h] else z4s x) else [h]
def z4x (h:Hav):List Syn→List Syn
 | []=>[]
 | x :: r=>if x.path=h.path then r else x :: r
def z4y:List Hav→List Syn→List Hav
 | [],ps=>ps.flatMap z4t
 | h :: hs,ps=>z4u h.path ps++z4w h (z4v h.path ps)++z4y hs (z4x h (z4v h.path ps))
def z4z (w:World)(v:Value)(l:List Syn):Prop:=Row w 5 v l.length (l.flatMap Syn.cells)
def z50 (w:World)(a:Addr)(x:Syn):Prop:=w.cell? a=some (.int .i64 x.kind)∧w.cell? ⟨a.block,a.off+1,none⟩=some (.string x.path)∧w.cell? ⟨a.block,a.off+2,none⟩=some (.int .i64 x.num)∧w.cell? ⟨a.block,a.off+3,none⟩=some (.string x.frm)∧w.cell? ⟨a.block,a.off+4,none⟩=some (.string x.dst)
theorem z4z.at_ {w:World}{A:Option Addr}{c:Nat}{l:List Syn}(h:z4z w (.slice A l.length c) l){k:Nat}(hk:k<l.length):
  ∃ ad,A=some ad∧ad.block<w.heap.size∧z50 w (ad.add (k * 5)) l[k]:=by
 obtain⟨ad,e,hb,hc⟩:=z49 (f:=Syn.cells) (n:=5) (fun _=>rfl) h hk;exact⟨ad,e,hb,hc 0 _ rfl,hc 1 _ rfl,hc 2 _ rfl,hc 3 _ rfl,hc 4 _ rfl⟩
theorem z4z.head {w:World}{A:Option Addr}{c n:Nat}{x:Syn}{r:List Syn}(h:z4z w (.slice A n c) (x :: r)):
  n=r.length+1∧∃ ad,A=some ad∧ad.block<w.heap.size∧z50 w ad x:=by
 have hn:n=(x :: r).length:=by obtain⟨A',c',e,-⟩:=id h;injection e
 subst hn;obtain⟨ad,e,hb,hc⟩:=z4z.at_ (k:=0) h (by simp)
 refine⟨rfl,ad,e,hb,?_⟩;have:ad.add (0 * 5)=ad:=by unfold Addr.add;simp
 rw[this] at hc;exact hc
theorem z4z.below {w w':World}{v:Value}{l:List Syn}(h:z4z w v l)(hb:Below w.heap.size w w'):z4z w' v l:=Row.below h hb
theorem z4b.below {w w':World}{v:Value}{l:List Hav}(h:z4b w v l)(hb:Below w.heap.size w w'):z4b w' v l:=Row.below h hb
theorem z52 (w:World):(sizeOf 48).run Tryz.prog w=.ok 5 w:=by kernel_rfl
theorem z4z.tail {w:World}{A:Option Addr}{c n:Nat}{x:Syn}{r:List Syn}(h:z4z w (.slice A n c) (x :: r)):
  ∃ A' c',(Instr.sliceAt 35 (.slice A n c) (some (.int .i64 1)) none none).run Tryz.prog w=.ok (.slice A' r.length c') w∧z4z w (.slice A' r.length c') r:=by
 have hn:n=(x :: r).length:=by obtain⟨A',c',e,-⟩:=id h;injection e
 subst hn;obtain⟨A',c',h1,h2⟩:=z0b (P:=Tryz.prog) (w:=w) (x:=1) (kx:=.i64) (lo:=1) Tryz.underlying35 z52 h (by simp) rfl
 exact⟨A',c',h1,h2⟩
theorem z54:z0e Tryz.prog 28 44 3 40:=z0f Tryz.underlying28 (z:=.agg #[.string ⟨#[]⟩,.int .i64 0,.string ⟨#[]⟩]) (by kernel_rfl) rfl (by decide)
structure Aft (w0 w:World)(b:Nat)(l:List Hav)(v:Value):Prop where
 bel:Below b w0 w
 box:Blk w b 28 [v]
 row:w.ownsRow (b+1) 44 3 v l.length (l.flatMap Hav.cells)
def Kp (b:Nat)(w w':World)(v v':Value):Prop:=w.heap.size≤w'.heap.size∧∀ k,k<w.heap.size→k≠b→v.ownBlock≠some k→w'.heap[k]? = w.heap[k]?∧v'.ownBlock≠some k
theorem Kp.refl (b:Nat)(w:World)(v:Value):Kp b w w v v:=⟨Nat.le_refl _,fun k _ _ h=>⟨rfl,h⟩⟩
theorem Kp.below {b:Nat}{w w':World}{v:Value}(h:Below w.heap.size w w'):Kp b w w' v v:=⟨h.size,fun k hk _ h2=>⟨h.block k hk,h2⟩⟩
theorem Kp.trans {b:Nat}{w w' w2:World}{v v' v2:Value}(h:Kp b w w' v v')(h2:Kp b w' w2 v' v2):Kp b w w2 v v2:=
 ⟨Nat.le_trans h.1 h2.1,fun k hk hb hv=>by
  obtain⟨a1,a2⟩:=h.2 k hk hb hv;obtain⟨c1,c2⟩:=h2.2 k (Nat.lt_of_lt_of_le hk h.1) hb a2;exact⟨c1.trans a1,c2⟩⟩
theorem Kp.blk {b g:Nat}{w w':World}{v v':Value}{e:TypeId}{cs:List Value}(h:Kp b w w' v v')(hB:Blk w g e cs)(hg:g≠b)(hv:v.ownBlock≠some g):Blk w' g e cs∧v'.ownBlock≠some g:=by
 obtain⟨a1,a2⟩:=h.2 g hB.lt hg hv;exact⟨a1.trans hB,a2⟩
theorem Aft.under {w0 w X:World}{b:Nat}{l:List Hav}{v:Value}(h:Aft w0 w b l v)(hX:Below w.heap.size w X):Aft w0 X b l v:=
 ⟨h.bel.trans (hX.mono (Nat.le_of_lt h.box.lt)),h.box.below hX h.box.lt,z0n h.row hX⟩
theorem z55 (x:Hav):∀ v∈x.cells,v.oneCell'=true:=by
 intro v hv;simp only[Hav.cells,List.mem_cons,List.not_mem_nil,or_false] at hv
 rcases hv with rfl | rfl | rfl <;> rfl
theorem z56 {α β:Type}(f:α→List β)(l:List α)(x:α):(l++[x]).flatMap f=l.flatMap f++f x:=by simp
theorem Aft.push {w0 w w2:World}{b:Nat}{l:List Hav}{v:Value}{x:Hav}{A':Option Addr}{c':Nat}(h:Aft w0 w b l v)
  (hown:w2.ownsRow (b+1) 44 3 (.slice A' (l.length+1) c') (l.length+1) (l.flatMap Hav.cells++x.cells)) (hgr:w.grownBy w2 v.ownBlock)
  (hob:(Value.slice A' (l.length+1) c').ownBlock=v.ownBlock∨(Value.slice A' (l.length+1) c').ownBlock=some w.heap.size):
  Aft w0 (w2.setCell ⟨b,0,none⟩ (.slice A' (l.length+1) c')) b (l++[x]) (.slice A' (l.length+1) c')∧Kp b w (w2.setCell ⟨b,0,none⟩ (.slice A' (l.length+1) c')) v (.slice A' (l.length+1) c'):=by
 have hl:=h.box.lt;have hb1:∀ k,v.ownBlock=some k→b<k:=fun k e=>by have:=(h.row.lt k e).1;omega
 have hbx:some b≠v.ownBlock:=fun e=>by have:=hb1 b e.symm;omega
 have hbel:Below b w0 w2:=h.bel.grown hgr (Nat.le_of_lt hl) (fun k e=>by have:=hb1 k e;omega)
 have hne:(Value.slice A' (l.length+1) c').ownBlock≠some b:=by
  rcases hob with e | e
  ·rw[e];exact fun e=>hbx e.symm
  ·rw[e];intro e2;injection e2 with e2;omega
 refine⟨⟨hbel.setCell (p:=⟨b,0,none⟩) (Nat.le_refl _) _,(Blk.grown h.box hgr hbx).set_ 0 _,?_⟩,?_,fun k hk hkb hv=>⟨?_,?_⟩⟩
 ·rw[List.length_append,List.length_singleton,z56];exact z4r hown (p:=⟨b,0,none⟩) hne _
 ·simpa using hgr.size
 ·rw[Below.heap_setCell w2 _ _ k hkb];exact hgr.block k hk (fun e=>hv e.symm)
 ·rcases hob with e | e
  ·rw[e];exact hv
  ·rw[e];intro e2;injection e2 with e2;omega
theorem Aft.alloc {w0 w:World}{b:Nat}{l:List Hav}{v:Value}(h:Aft w0 w b l v)(o:Obj):Aft w0 (w.alloc o) b l v:=h.under ((Below.refl _ _).alloc (Nat.le_refl _) _)
theorem z57 {x:Syn}(h:x.dst=z2l):z4s x=[]:=if_pos h
theorem addS_no {x:Syn}(h:¬ x.dst=z2l):z4s x=[⟨x.path,x.num,x.dst⟩]:=if_neg h
theorem z58 (x:Syn)(w0 w:World)(b:Nat)(l:List Hav)(v:Value)(hA:Aft w0 w b l v)(hl:(l.length+1) * 40≤140737488355328):
  Calls Tryz.prog 63 #[.agg #[.int .i64 x.kind,.string x.path,.int .i64 x.num,.string x.frm,.string x.dst],.pointer (some ⟨b,0,none⟩)] w fun e w'=>e=.returned (.tuple #[])∧∃ v',Aft w0 w' b (l++z4s x) v'∧Kp b w w' v v':=by
 have hA1:=hA.alloc (.cells #[.int .i64 x.kind,.string x.path,.int .i64 x.num,.string x.frm,.string x.dst] 48);have hK1:Kp b w (w.alloc (.cells #[.int .i64 x.kind,.string x.path,.int .i64 x.num,.string x.frm,.string x.dst] 48)) v v:=Kp.below ((Below.refl _ _).alloc (Nat.le_refl _) _);have hS:=z0l w [.int .i64 x.kind,.string x.path,.int .i64 x.num,.string x.frm,.string x.dst] 48;by_cases h1:x.dst=z2l
 ·have HK:=hd_ (z57 h1);obtain⟨s1,s2⟩:=z3v h1;have HA:=hd_ hA1;have HKp:=hd_ hK1;clear h1 hA hA1 hK1 hS;go_enter Tryz.func63,Tryz.ntmps63;go_wp2_with fail;go_end0
  exact⟨rfl,_,by rw[HK.out,List.append_nil];exact HA.out,HKp.out⟩
 ·have HK:=hd_ (addS_no h1);obtain⟨s1,s2⟩:=z3w h1;obtain⟨s3,s4,s5,s6,s7⟩:=z3r (x:=x) hS;have hbx:(w.alloc (.cells #[.int .i64 x.kind,.string x.path,.int .i64 x.num,.string x.frm,.string x.dst] 48)).cell? ⟨b,0,none⟩=some v:=hA1.box.cell 0;have hA2:=hA1.alloc (.cells #[.string x.path,.int .i64 x.num,.string x.dst] 44);have hK2:Kp b w ((w.alloc (.cells #[.int .i64 x.kind,.string x.path,.int .i64 x.num,.string x.frm,.string x.dst] 48)).alloc (.cells #[.string x.path,.int .i64 x.num,.string x.dst] 44)) v v:=Kp.below (((Below.refl _ _).alloc (Nat.le_refl _) _).alloc (by simp) _)
  have hrow:=z0i (w.alloc (.cells #[.int .i64 x.kind,.string x.path,.int .i64 x.num,.string x.frm,.string x.dst] 48)) [.string x.path,.int .i64 x.num,.string x.dst] 44 3 1 rfl (by unfold maxLen;omega) (w.heap.size+1) (by simp)
  obtain⟨A0,c0,rfl⟩:=z0o hA.row;have hsz:b+1≤((w.alloc (.cells #[.int .i64 x.kind,.string x.path,.int .i64 x.num,.string x.frm,.string x.dst] 48)).alloc (.cells #[.string x.path,.int .i64 x.num,.string x.dst] 44)).heap.size:=by have:=hA.box.lt;simp;omega
  clear h1 hA hA1 hK1 hS;go_enter Tryz.func63,Tryz.ntmps63;go_wp2_with (at_builtin;refine z0j rfl rfl z54 hA2.row rfl hrow rfl (z55 ⟨x.path,x.num,x.dst⟩) hl (by unfold maxLen;omega) hsz ?_;intro A' c' w2 hown hgr hob;obtain⟨hA3,hK3⟩:=hA2.push (x:=⟨x.path,x.num,x.dst⟩) hown hgr hob;have hbw:=Blk.grown hA2.box hgr (fun e=>by have:=(hA2.row.lt b e.symm).1;omega);have hfz:=hbw.frozen 0;have hcl:w2.cell? ⟨b,0,none⟩=some (.slice A0 l.length c0):=hbw.cell 0)
  go_end0
  exact⟨rfl,_,by rw[HK.out];exact hA3,hK2.trans hK3⟩
section
variable {α : Type} {k : α → ByteArray}
def z5x (k:α→ByteArray)(l:List α):Prop:=l.Pairwise (fun a b=>z2u (k a) (k b)<0)
def z5y (k:α→ByteArray)(l:List α)(p:ByteArray):Option α:=l.find? (fun a=>decide (k a=p))
theorem z5z {a b:ByteArray}(h:z2u a b<0):a≠b:=fun e=>by rw[e,z5e] at h;omega
theorem z60 {a b:ByteArray}(h:z2u a b<0):¬ z2u b a<0:=by rw[z5q];omega
theorem z5x.tail {a:α}{l:List α}(h:z5x k (a :: l)):z5x k l:=(List.pairwise_cons.1 h).2
theorem z5x.head {a:α}{l:List α}(h:z5x k (a :: l)):∀ b∈l,z2u (k a) (k b)<0:=(List.pairwise_cons.1 h).1
theorem z61 {l:List α}{p:ByteArray}{a:α}(h:z5y k l p=some a):a∈l∧k a=p:=
 ⟨List.mem_of_find?_eq_some h,by simpa using List.find?_some h⟩
theorem z62 {l:List α}{p:ByteArray}:z5y k l p=none↔∀ a∈l,k a≠p:=by
 unfold z5y;rw[List.find?_eq_none];simp
theorem z63 (a:α)(l:List α)(p:ByteArray):z5y k (a :: l) p=if k a=p then some a else z5y k l p:=by
 unfold z5y;rw[List.find?_cons];by_cases h:k a=p
 ·rw[if_pos h,decide_eq_true h]
 ·rw[if_neg h,decide_eq_false h]
theorem z64 (l m:List α)(p:ByteArray):z5y k (l++m) p=(z5y k l p).or (z5y k m p):=by
 unfold z5y;exact List.find?_append ..
theorem z65 {l:List α}(h:z5x k l){a:α}(ha:a∈l):z5y k l (k a)=some a:=by
 induction l with
 | nil=>cases ha
 | cons b l ih =>
  rw[z63];by_cases e:k b=k a
  ·rw[if_pos e];rcases List.mem_cons.1 ha with rfl | ha
   ·rfl
   ·exact absurd e (z5z (h.head a ha))
  ·rw[if_neg e];rcases List.mem_cons.1 ha with rfl | ha
   ·exact absurd rfl e
   ·exact ih h.tail ha
theorem z66 {l m:List α}(hl:z5x k l)(hm:z5x k m)(h:∀ a,a∈l↔a∈m):l=m:=by
 induction l generalizing m with
 | nil =>
  cases m with
  | nil=>rfl
  | cons b m=>exact absurd ((h b).2 (List.mem_cons_self ..)) (by simp)
 | cons a l ih =>
  cases m with
  | nil=>exact absurd ((h a).1 (List.mem_cons_self ..)) (by simp)
  | cons b m =>
   have hab:a=b:=by
    rcases List.mem_cons.1 ((h a).1 (List.mem_cons_self ..)) with e | h1
    ·exact e
    ·rcases List.mem_cons.1 ((h b).2 (List.mem_cons_self ..)) with e | h2
     ·exact e.symm
     ·exact absurd (hm.head a h1) (z60 (hl.head b h2))
   subst hab;congr 1
   refine ih hl.tail hm.tail fun x=>⟨fun hx=>?_,fun hx=>?_⟩
   ·rcases List.mem_cons.1 ((h x).1 (List.mem_cons_of_mem _ hx)) with rfl | h1
    ·exact absurd rfl (z5z (hl.head _ hx))
    ·exact h1
   ·rcases List.mem_cons.1 ((h x).2 (List.mem_cons_of_mem _ hx)) with rfl | h1
    ·exact absurd rfl (z5z (hm.head _ hx))
    ·exact h1
theorem z67 {l m:List α}(hl:z5x k l)(hm:z5x k m)(h:∀ a∈l,∀ b∈m,z2u (k a) (k b)<0):z5x k (l++m):=List.pairwise_append.2 ⟨hl,hm,h⟩
theorem z68 {β:Type}{kb:β→ByteArray}{f:α→β}{l:List α}(h:z5x k l)(hf:∀ a,kb (f a)=k a):z5x kb (l.map f):=by
 unfold z5x;rw[List.pairwise_map];exact h.imp fun {a b} hab=>by rw[hf,hf];exact hab
theorem z69 {β:Type}{kb:β→ByteArray}{f:α→β}(hf:∀ a,kb (f a)=k a)(l:List α)(p:ByteArray):z5y kb (l.map f) p=(z5y k l p).map f:=by
 induction l with
 | nil=>rfl
 | cons a l ih =>
  rw[List.map_cons,z63,z63,hf];split
  ·rfl
  ·exact ih
theorem z6a {l:List α}(h:z5x k l)(f:α→Bool):z5x k (l.filter f):=h.sublist List.filter_sublist
end
abbrev z6b:=z5x Hav.path
abbrev z6c:=z5x Syn.path
abbrev z6d:=z5y Hav.path
abbrev z6e:=z5y Syn.path
def z6f (w:Hav):Syn:=⟨0,w.path,w.num,z2l,w.loc⟩
def z6g (h:Hav):Syn:=⟨0,h.path,0,h.loc,z2l⟩
def updT (h w:Hav):Syn:=⟨0,w.path,w.num,h.loc,w.loc⟩
instance:DecidableEq Hav:=fun a b=>by
 cases a;cases b
 rw[Hav.mk.injEq];exact inferInstance
def z6h:Nat→List Hav→List Hav→List Syn
 | 0,_,_=>[]
 | _+1,[],[]=>[]
 | n+1,h :: hs,[]=>z6g h :: z6h n hs []
 | n+1,[],w :: ws=>z6f w :: z6h n [] ws
 | n+1,h :: hs,w :: ws=>if z2u h.path w.path<0 then z6g h :: z6h n hs (w :: ws) else if 0<z2u h.path w.path then z6f w :: z6h n (h :: hs) ws else (if h=w then [] else [updT h w])++z6h n hs ws
def z6i (h w:Option Hav):Option Syn:=
 match h,w with
 | none,none=>none
 | some h,none=>some (z6g h)
 | none,some w=>some (z6f w)
 | some h,some w=>if h=w then none else some (updT h w)
theorem z6j:∀(n:Nat) (hs ws:List Hav) (x:Syn),x∈z6h n hs ws→(∃ h∈hs,h.path=x.path)∨∃ w∈ws,w.path=x.path
 | 0,_,_,x,h=>by simp [z6h] at h
 | _+1,[],[],x,h=>by simp [z6h] at h
 | n+1,h :: hs,[],x,hx=>by
  simp only[z6h,List.mem_cons] at hx
  rcases hx with rfl | hx
  ·exact .inl ⟨h,List.mem_cons_self ..,rfl⟩
  ·rcases z6j n hs [] x hx with⟨y,hy,e⟩ | ⟨y,hy,e⟩
   ·exact .inl ⟨y,List.mem_cons_of_mem _ hy,e⟩
   ·cases hy
 | n+1,[],w :: ws,x,hx=>by
  simp only[z6h,List.mem_cons] at hx
  rcases hx with rfl | hx
  ·exact .inr ⟨w,List.mem_cons_self ..,rfl⟩
  ·rcases z6j n [] ws x hx with⟨y,hy,e⟩ | ⟨y,hy,e⟩
   ·cases hy
   ·exact .inr ⟨y,List.mem_cons_of_mem _ hy,e⟩
 | n+1,h :: hs,w :: ws,x,hx=>by
  simp only[z6h] at hx
  split at hx
  ·rcases List.mem_cons.1 hx with rfl | hx
   ·exact .inl ⟨h,List.mem_cons_self ..,rfl⟩
   ·rcases z6j n hs (w :: ws) x hx with⟨y,hy,e⟩ | ⟨y,hy,e⟩
    ·exact .inl ⟨y,List.mem_cons_of_mem _ hy,e⟩
    ·exact .inr ⟨y,hy,e⟩
  ·split at hx
   ·rcases List.mem_cons.1 hx with rfl | hx
    ·exact .inr ⟨w,List.mem_cons_self ..,rfl⟩
    ·rcases z6j n (h :: hs) ws x hx with⟨y,hy,e⟩ | ⟨y,hy,e⟩
     ·exact .inl ⟨y,hy,e⟩
     ·exact .inr ⟨y,List.mem_cons_of_mem _ hy,e⟩
   ·rcases List.mem_append.1 hx with hx | hx
    ·split at hx
     ·cases hx
     ·rw[List.mem_singleton] at hx;subst hx;exact .inr ⟨w,List.mem_cons_self ..,rfl⟩
    ·rcases z6j n hs ws x hx with⟨y,hy,e⟩ | ⟨y,hy,e⟩
     ·exact .inl ⟨y,List.mem_cons_of_mem _ hy,e⟩
     ·exact .inr ⟨y,List.mem_cons_of_mem _ hy,e⟩
theorem z6k {a b:ByteArray}(ha:z2s a=true)(hb:z2s b=true)(h1:¬ z2u a b<0)(h2:¬ 0<z2u a b):a=b:=z5r ha hb (by omega)
theorem z6l:∀(n:Nat) (hs ws:List Hav),hs.length+ws.length≤n→z6b hs→z6b ws→(∀ x∈hs,z2s x.path=true)→(∀ x∈ws,z2s x.path=true) →
  z6c (z6h n hs ws)∧∀ p,z6e (z6h n hs ws) p=z6i (z6d hs p) (z6d ws p)
 | 0,hs,ws,hn,_,_,_,_=>by
  have e1:hs=[]:=List.eq_nil_of_length_eq_zero (by omega)
  have e2:ws=[]:=List.eq_nil_of_length_eq_zero (by omega)
  subst e1 e2;exact⟨List.Pairwise.nil,fun p=>rfl⟩
 | _+1,[],[],_,_,_,_,_=>⟨List.Pairwise.nil,fun p=>rfl⟩
 | n+1,h :: hs,[],hn,h1,h2,v1,v2=>by
  obtain⟨i1,i2⟩:=z6l n hs [] (by simp at hn ⊢;omega) h1.tail h2 (fun x hx=>v1 x (List.mem_cons_of_mem _ hx)) v2
  simp only[z6h]
  refine⟨List.pairwise_cons.2 ⟨fun x hx=>?_,i1⟩,fun p=>?_⟩
  ·rcases z6j _ _ _ _ hx with⟨y,hy,e⟩ | ⟨y,hy,e⟩
   ·rw[← e];exact h1.head y hy
   ·cases hy
  ·show z5y Syn.path _ p=_
   rw[z63];show _=z6i (z5y Hav.path (h :: hs) p) (z5y Hav.path [] p)
   rw[z63];show (if h.path=p then _ else _)=_
   split
   ·rfl
   ·exact i2 p
 | n+1,[],w :: ws,hn,h1,h2,v1,v2=>by
  obtain⟨i1,i2⟩:=z6l n [] ws (by simp at hn ⊢;omega) h1 h2.tail v1 (fun x hx=>v2 x (List.mem_cons_of_mem _ hx))
  simp only[z6h]
  refine⟨List.pairwise_cons.2 ⟨fun x hx=>?_,i1⟩,fun p=>?_⟩
  ·rcases z6j _ _ _ _ hx with⟨y,hy,e⟩ | ⟨y,hy,e⟩
   ·cases hy
   ·rw[← e];exact h2.head y hy
  ·show z5y Syn.path _ p=_
   rw[z63];show _=z6i (z5y Hav.path [] p) (z5y Hav.path (w :: ws) p)
   rw[z63];show (if w.path=p then _ else _)=_
   split
   ·rfl
   ·exact i2 p
 | n+1,h :: hs,w :: ws,hn,h1,h2,v1,v2=>by
  have vh:=v1 h (List.mem_cons_self ..);have vw:=v2 w (List.mem_cons_self ..);have tr:∀ {a b c:ByteArray},z2s a=true→z2s b=true→z2s c=true→z2u a b<0→z2u b c<0→z2u a c<0:=fun x y z=>z5f x y z;simp only[z6h]
  by_cases c1:z2u h.path w.path<0
  ·rw[if_pos c1];obtain⟨i1,i2⟩:=z6l n hs (w :: ws) (by simp at hn ⊢;omega) h1.tail h2 (fun x hx=>v1 x (List.mem_cons_of_mem _ hx)) v2
   refine⟨List.pairwise_cons.2 ⟨fun x hx=>?_,i1⟩,fun p=>?_⟩
   ·rcases z6j _ _ _ _ hx with⟨y,hy,e⟩ | ⟨y,hy,e⟩
    ·rw[← e];exact h1.head y hy
    ·rw[← e];rcases List.mem_cons.1 hy with rfl | hy'
     ·exact c1
     ·exact tr vh vw (v2 y hy) c1 (h2.head y hy')
   ·show z5y Syn.path _ p=_
    rw[z63];show (if h.path=p then _ else _)=z6i (z5y Hav.path (h :: hs) p) (z5y Hav.path (w :: ws) p)
    rw[z63];by_cases e:h.path=p
    ·rw[if_pos e,if_pos e];have:z5y Hav.path (w :: ws) p=none:=z62.2 fun a ha ea=>by
      rcases List.mem_cons.1 ha with rfl | ha'
      ·exact z5z c1 (e.trans ea.symm)
      ·exact z5z (tr vh vw (v2 a ha) c1 (h2.head a ha')) (e.trans ea.symm)
     rw[this];rfl
    ·rw[if_neg e,if_neg e];exact i2 p
  ·rw[if_neg c1];by_cases c2:0<z2u h.path w.path
   ·rw[if_pos c2];have c3:z2u w.path h.path<0:=by rw[z5q];omega
    obtain⟨i1,i2⟩:=z6l n (h :: hs) ws (by simp at hn ⊢;omega) h1 h2.tail v1 (fun x hx=>v2 x (List.mem_cons_of_mem _ hx))
    refine⟨List.pairwise_cons.2 ⟨fun x hx=>?_,i1⟩,fun p=>?_⟩
    ·rcases z6j _ _ _ _ hx with⟨y,hy,e⟩ | ⟨y,hy,e⟩
     ·rw[← e];rcases List.mem_cons.1 hy with rfl | hy'
      ·exact c3
      ·exact tr vw vh (v1 y hy) c3 (h1.head y hy')
     ·rw[← e];exact h2.head y hy
    ·show z5y Syn.path _ p=_
     rw[z63];show (if w.path=p then _ else _)=z6i (z5y Hav.path (h :: hs) p) (z5y Hav.path (w :: ws) p)
     rw[z63 (l:=ws)];by_cases e:w.path=p
     ·rw[if_pos e,if_pos e];have:z5y Hav.path (h :: hs) p=none:=z62.2 fun a ha ea=>by
       rcases List.mem_cons.1 ha with rfl | ha'
       ·exact z5z c3 (e.trans ea.symm)
       ·exact z5z (tr vw vh (v1 a ha) c3 (h1.head a ha')) (e.trans ea.symm)
      rw[this];rfl
     ·rw[if_neg e,if_neg e];exact i2 p
   ·rw[if_neg c2];have ep:=z6k vh vw c1 c2;obtain⟨i1,i2⟩:=z6l n hs ws (by simp at hn ⊢;omega) h1.tail h2.tail (fun x hx=>v1 x (List.mem_cons_of_mem _ hx)) (fun x hx=>v2 x (List.mem_cons_of_mem _ hx))
    have hn1:∀ x∈z6h n hs ws,z2u w.path x.path<0:=fun x hx=>by
     rcases z6j _ _ _ _ hx with⟨y,hy,e⟩ | ⟨y,hy,e⟩
     ·rw[← e,← ep];exact h1.head y hy
     ·rw[← e];exact h2.head y hy
    refine⟨?_,fun p=>?_⟩
    ·split
     ·exact i1
     ·exact List.pairwise_cons.2 ⟨hn1,i1⟩
    ·show _=z6i (z5y Hav.path (h :: hs) p) (z5y Hav.path (w :: ws) p)
     rw[z63,z63];by_cases e:w.path=p
     ·rw[if_pos (ep.trans e),if_pos e];have hno:z5y Syn.path (z6h n hs ws) p=none:=z62.2 fun x hx ex=>z5z (hn1 x hx) (e.trans ex.symm);by_cases eq:h=w
      ·rw[if_pos eq,List.nil_append];show z5y Syn.path _ p=_
       rw[hno];exact (if_pos eq).symm
      ·rw[if_neg eq,List.singleton_append];show z5y Syn.path _ p=_
       rw[z63];show (if w.path=p then _ else _)=_
       rw[if_pos e];exact (if_neg eq).symm
     ·rw[if_neg (fun e2=>e (ep.symm.trans e2)),if_neg e];by_cases eq:h=w
      ·rw[if_pos eq,List.nil_append];exact i2 p
      ·rw[if_neg eq,List.singleton_append];show z5y Syn.path _ p=_
       rw[z63];show (if w.path=p then _ else _)=_
       rw[if_neg e];exact i2 p
end Go.Proofs.YtegeboijhifmcaaGreatDoor
