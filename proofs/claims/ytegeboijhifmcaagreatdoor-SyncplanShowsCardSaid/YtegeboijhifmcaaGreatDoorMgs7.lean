/- A part of the proof. -/
import Derived.Test.YtegeboijhifmcaaGreatDoorMgs1
import Derived.Test.YtegeboijhifmcaaGreatDoorMgs4
import Derived.Test.YtegeboijhifmcaaGreatDoorMgs5
import Derived.Test.YtegeboijhifmcaaGreatDoorMgs6
set_option linter.unusedVariables false
set_option linter.unusedSimpArgs false
set_option maxHeartbeats 8000000
set_option maxRecDepth 100000
namespace Go.Proofs.YtegeboijhifmcaaGreatDoor
open Go.Proofs.Tryz
open Go.RowKit
structure Syn where
 kind:Int
 path:ByteArray
 num:Int
 frm:ByteArray
 dst:ByteArray
structure Hav where
 path:ByteArray
 num:Int
 loc:ByteArray
def Syn.cells (x:Syn):List Value:=[.int .i64 x.kind,.string x.path,.int .i64 x.num,.string x.frm,.string x.dst]
def Hav.cells (x:Hav):List Value:=[.string x.path,.int .i64 x.num,.string x.loc]
def z3o (k:Int):Bool:=(k == 6) || (k == 5)
def z3p (frm dst:ByteArray):Int:=if frm=z2l then 1 else if dst=z2l then 4 else if frm=dst then 2 else 3
def z3q (p:ByteArray):Bool:=decide (p.size≤200) && z2s p
def Hav.okB (h:Hav):Bool:=z3q h.path && z3q h.loc && decide (1≤h.num)
theorem z3r {w:World}{g:Nat}{e:TypeId}{x:Syn}(h:Blk w g e [.int .i64 x.kind,.string x.path,.int .i64 x.num,.string x.frm,.string x.dst]):w.cell? ⟨g,0,none⟩=some (.int .i64 x.kind)∧w.cell? ⟨g,1,none⟩=some (.string x.path)∧w.cell? ⟨g,2,none⟩=some (.int .i64 x.num)∧w.cell? ⟨g,3,none⟩=some (.string x.frm)∧w.cell? ⟨g,4,none⟩=some (.string x.dst):=
 ⟨h.cell 0,h.cell 1,h.cell 2,h.cell 3,h.cell 4⟩
theorem z3s {w:World}{g:Nat}{e:TypeId}{x:Hav}(h:Blk w g e [.string x.path,.int .i64 x.num,.string x.loc]):w.cell? ⟨g,0,none⟩=some (.string x.path)∧w.cell? ⟨g,1,none⟩=some (.int .i64 x.num)∧w.cell? ⟨g,2,none⟩=some (.string x.loc):=
 ⟨h.cell 0,h.cell 1,h.cell 2⟩
theorem z3t (k:Int):((k == 6)=true∧(k != 6)=false∧z3o k=true)∨((k == 6)=false∧(k != 6)=true∧(k == 5)=true∧(k != 5)=false∧z3o k=true)∨((k == 6)=false∧(k != 6)=true∧(k == 5)=false∧(k != 5)=true∧z3o k=false):=by
 unfold z3o bne;cases (k == 6) <;> cases (k == 5) <;> simp
theorem z3u (x:Syn)(w:World):Calls prog 62 #[.agg #[.int .i64 x.kind,.string x.path,.int .i64 x.num,.string x.frm,.string x.dst]] w fun e w'=>e=.returned (.bool (z3o x.kind))∧Below w.heap.size w w':=by
 have hA:Below w.heap.size w (w.alloc (.cells #[.int .i64 x.kind,.string x.path,.int .i64 x.num,.string x.frm,.string x.dst] 48)):=(Below.refl _ _).alloc (Nat.le_refl _) _;rcases z3t x.kind with⟨h1,h2,h3⟩ | ⟨h1,h2,h3,h4,h5⟩ | ⟨h1,h2,h3,h4,h5⟩
 all_goals
  have HS:=hd_ (by first | exact h5 | exact h3)
  go_enter func62,ntmps62;go_wp2_with fail;go_ret;exact⟨z0w HS.out.symm,hA⟩
theorem z3v {s:ByteArray}(h:s=z2l):s.toList=[]∧(s.toList == (⟨#[]⟩:ByteArray).toList)=true:=by subst h;exact⟨by rw[ByteArray.toList_eq];rfl,beq_self_eq_true _⟩
theorem z3w {s:ByteArray}(h:¬ s=z2l):¬ s.toList=[]∧s.toList.isEmpty=false:=by
 have h1:¬ s.toList=[]:=fun e=>h (by
  rw[ByteArray.toList_eq] at e;cases s with | mk a =>
  unfold z2l;congr 1
  exact Array.toList_eq_nil_iff.1 e)
 exact⟨h1,by cases hh:s.toList;exact absurd hh h1;rfl⟩
theorem z3x (a b:ByteArray):(a.toList == b.toList)=decide (a=b):=by
 rw[Bool.eq_iff_iff,beq_iff_eq,decide_eq_true_eq];constructor
 ·intro h;rw[ByteArray.toList_eq,ByteArray.toList_eq] at h;cases a with | mk x=>cases b with | mk y =>
  congr 1;exact Array.toList_inj.1 h
 ·intro h;rw[h]
theorem z3y (x:Syn)(w:World):Calls prog 37 #[.agg #[.int .i64 x.kind,.string x.path,.int .i64 x.num,.string x.frm,.string x.dst]] w fun e w'=>e=.returned (.int .i64 (z3p x.frm x.dst))∧Below w.heap.size w w':=by
 have hA:Below w.heap.size w (w.alloc (.cells #[.int .i64 x.kind,.string x.path,.int .i64 x.num,.string x.frm,.string x.dst] 48)):=(Below.refl _ _).alloc (Nat.le_refl _) _;by_cases h1:x.frm=z2l
 ·have HK:Hid (z3p x.frm x.dst=1):=hd_ (if_pos h1);obtain⟨s1,s2⟩:=z3v h1;clear h1;go_enter func37,ntmps37;go_wp2_with fail;go_ret;exact⟨by rw[HK.out];rfl,hA⟩
 ·obtain⟨s1,s2⟩:=z3w h1;by_cases h2:x.dst=z2l
  ·have HK:Hid (z3p x.frm x.dst=4):=hd_ (by unfold z3p;rw[if_neg h1,if_pos h2])
   obtain⟨t1,t2⟩:=z3v h2;clear h1 h2;go_enter func37,ntmps37;go_wp2_with fail;go_ret;exact⟨by rw[HK.out];rfl,hA⟩
  ·obtain⟨t1,t2⟩:=z3w h2;have q:=z3x x.frm x.dst;by_cases h3:x.frm=x.dst
   ·have HK:Hid (z3p x.frm x.dst=2):=hd_ (by unfold z3p;rw[if_neg h1,if_neg h2,if_pos h3])
    rw[decide_eq_true h3] at q;clear h1 h2 h3;go_enter func37,ntmps37;go_wp2_with fail;go_ret;exact⟨by rw[HK.out];rfl,hA⟩
   ·have HK:Hid (z3p x.frm x.dst=3):=hd_ (by unfold z3p;rw[if_neg h1,if_neg h2,if_neg h3])
    rw[decide_eq_false h3] at q;clear h1 h2 h3;go_enter func37,ntmps37;go_wp2_with fail;go_ret;exact⟨by rw[HK.out];rfl,hA⟩
theorem z40 (p:ByteArray)(w:World)(hp:p.size≤140737488355328):Calls prog 81 #[.string p] w fun e w'=>e=.returned (.bool (z3q p))∧w=w':=by
 have HV:=hd_ (z3c p w hp);by_cases h:p.size≤200
 ·have q:decide ((p.size:Int)≤200)=true:=by simp;omega
  have HB:Hid (z3q p=z2r p.data.toList):=hd_ (by unfold z3q;rw[decide_eq_true h];rfl)
  generalize z2r p.data.toList=b at HV HB;clear h;go_enter func81,ntmps81;go_wp2_with fail;refine HV.out.mono ?_;rintro e w' ⟨rfl,rfl⟩;go_wp2_with fail;go_ret;exact⟨z0w HB.out.symm,rfl⟩
 ·have q:decide ((p.size:Int)≤200)=false:=by simp;omega
  have HB:Hid (z3q p=false):=hd_ (by unfold z3q;rw[decide_eq_false h];rfl)
  clear h;go_enter func81,ntmps81;go_wp2_with fail;go_ret;exact⟨z0w HB.out.symm,rfl⟩
theorem z41 (a b:ByteArray)(w:World)(ha:a.size≤140737488355328)(hb:b.size≤140737488355328):
  Calls prog 45 #[.string a,.string b] w fun e w'=>e=.returned (.int .i64 (z2u a b))∧z3j w w':=by
 have H:=hd_ (z3l a b w ha hb);go_enter func45,ntmps45;go_wp2_with fail;refine H.out.mono ?_;rintro e w' ⟨rfl,hq⟩;go_wp2_with fail;go_ret;exact⟨rfl,hq⟩
theorem z42 (h:Hav)(w:World)(h1:h.path.size≤140737488355328)(h2:h.loc.size≤140737488355328):Calls prog 46 #[.agg #[.string h.path,.int .i64 h.num,.string h.loc]] w fun e w'=>e=.returned (.bool h.okB)∧Below w.heap.size w w':=by
 have hA:Below w.heap.size w (w.alloc (.cells #[.string h.path,.int .i64 h.num,.string h.loc] 44)):=(Below.refl _ _).alloc (Nat.le_refl _) _;have HP:=hd_ (fun X=>z40 h.path X h1);have HL:=hd_ (fun X=>z40 h.loc X h2);have HB:Hid (h.okB=(z3q h.path && z3q h.loc && decide (1≤h.num))):=hd_ rfl;generalize h.okB=b at HB ⊢;cases hb1:z3q h.path with
 | false =>
  rw[hb1] at HP HB;clear hb1;go_enter func46,ntmps46;go_wp2_with fail;refine (HP.out _).mono ?_;rintro e w' ⟨rfl,rfl⟩;go_wp2_with fail;go_ret;exact⟨z0w (by rw[HB.out];rfl),hA⟩
 | true =>
  rw[hb1] at HP HB;clear hb1;cases hb2:z3q h.loc with
  | false =>
   rw[hb2] at HL HB;clear hb2;go_enter func46,ntmps46;go_wp2_with fail;refine (HP.out _).mono ?_;rintro e w' ⟨rfl,rfl⟩;go_wp2_with fail;refine (HL.out _).mono ?_;rintro e w' ⟨rfl,rfl⟩;go_wp2_with fail;go_ret;exact⟨z0w (by rw[HB.out];rfl),hA⟩
  | true =>
   rw[hb2] at HL HB;clear hb2;go_enter func46,ntmps46;go_wp2_with fail;refine (HP.out _).mono ?_;rintro e w' ⟨rfl,rfl⟩;go_wp2_with fail;refine (HL.out _).mono ?_;rintro e w' ⟨rfl,rfl⟩;go_wp2_with fail;go_ret;exact⟨z0w (by rw[HB.out];rfl),hA⟩
theorem z43 (a b:Hav)(w:World)(ha:a.path.size≤140737488355328)(hb:b.path.size≤140737488355328):
  Calls prog 47 #[.agg #[.string a.path,.int .i64 a.num,.string a.loc],.agg #[.string b.path,.int .i64 b.num,.string b.loc]] w fun e w'=>e=.returned (.int .i64 (z2u a.path b.path))∧Below w.heap.size w w':=by
 have H:=hd_ (fun X=>z3l a.path b.path X ha hb);have hA:Below w.heap.size w ((w.alloc (.cells #[.string a.path,.int .i64 a.num,.string a.loc] 44)).alloc (.cells #[.string b.path,.int .i64 b.num,.string b.loc] 44)):=((Below.refl _ _).alloc (Nat.le_refl _) _).alloc (by simp) _
 go_enter func47,ntmps47;go_wp2_with fail;refine (H.out _).mono ?_;rintro e w' ⟨rfl,hq⟩;have HQ:=hd_ (z0r hA (hq.below _));clear hq;go_wp2_with fail;go_ret;exact⟨rfl,HQ.out⟩
open Go.Sort (grow)
def z4b (w:World)(v:Value)(l:List Hav):Prop:=Row w 3 v l.length (l.flatMap Hav.cells)
def z4c (w:World)(a:Addr)(x:Hav):Prop:=w.cell? a=some (.string x.path)∧w.cell? ⟨a.block,a.off+1,none⟩=some (.int .i64 x.num)∧w.cell? ⟨a.block,a.off+2,none⟩=some (.string x.loc)
theorem z4b.at_ {w:World}{A:Option Addr}{c:Nat}{l:List Hav}(h:z4b w (.slice A l.length c) l){k:Nat}(hk:k<l.length):
  ∃ ad,A=some ad∧ad.block<w.heap.size∧z4c w (ad.add (k * 3)) l[k]:=by
 obtain⟨ad,e,hb,hc⟩:=z49 (f:=Hav.cells) (n:=3) (fun _=>rfl) h hk;exact⟨ad,e,hb,hc 0 _ rfl,hc 1 _ rfl,hc 2 _ rfl⟩
def z4d (p:Option Hav)(h:Hav):Bool:=match p with | none=>false | some q=>decide (0≤z2u q.path h.path)
theorem z4e (q h:Hav):z4d (some q) h=decide (0≤z2u q.path h.path):=rfl
def z4f:Option Hav→List ByteArray→List Hav→Int
 | _,_,[]=>0
 | p,s,h :: r=>if (!h.okB || z4d p h)=true then 340 else if h.loc∈s then 341 else z4f (some h) (h.loc :: s) r
def z4g (l:List Hav):Int:=if 1024<l.length then 342 else z4f none [] l
def z4h (s:List ByteArray):ByteArray→Option Unit:=fun x=>if x∈s then some () else none
def z4i:Unit→Value:=fun _=>.agg #[]
theorem z4j (a:ByteArray)(s:List ByteArray):z4h (a :: s)=upd (z4h s) a ():=by
 funext x;unfold z4h upd
 by_cases h:x=a
 ·rw[if_pos h,if_pos (by rw[h];exact List.mem_cons_self)]
 ·rw[if_neg h];show (if x∈a :: s then some () else none)=if x∈s then some () else none
  by_cases h2:x∈s
  ·rw[if_pos h2,if_pos (List.mem_cons_of_mem _ h2)]
  ·rw[if_neg h2,if_neg (by rintro (_ | ⟨_,h3⟩);exact h rfl;exact h2 h3)]
def z4k (l:List Hav):List ByteArray:=l.reverse.map Hav.loc
def z4l (l:List Hav):Option Hav:=l.getLast?
theorem z4m (l:List Hav)(x:Hav):z4k (l++[x])=x.loc :: z4k l:=by unfold z4k;simp
theorem z4n (l:List Hav)(x:Hav):z4l (l++[x])=some x:=by unfold z4l;simp
theorem z4o (l:List Hav)(v:Value)(w:World)(hR:z4b w v l)(hs:∀ x∈l,x.path.size≤140737488355328∧x.loc.size≤140737488355328):
  Calls prog 20 #[v] w fun e w'=>e=.returned (.int .i64 (z4g l))∧Below w.heap.size w w':=by
 obtain⟨A,c,rfl,hc,hm,-⟩:=id hR;have HR:=hd_ hR;have HS:=hd_ hs;clear hR hs;unfold maxLen at hm;by_cases h1:1024<l.length
 ·have HE:Hid (z4g l=342):=hd_ (if_pos h1);go_enter func20,ntmps20;go_wp2_with fail;go_ret;exact⟨z34 HE.out.symm,Below.refl _ _⟩
 have HE:Hid (z4g l=z4f none [] l):=hd_ (if_neg h1);have hmm:=@run_makeMap prog;have HM0:=hd_ (z2f.new Value.string z4i w);have HB0:=hd_ ((Below.refl w.heap.size w).alloc (Nat.le_refl _) (.map #[] 0));go_enter func20,ntmps20;go_wp2_with fail;go_loopw [14] (fun i wr=>∃ k:Nat,k≤l.length∧i=.int .i64 k∧Hid (z4f none [] l=z4f (z4l (l.take k)) (z4k (l.take k)) (l.drop k))∧Below w.heap.size w wr∧z2f Value.string z4i wr w.heap.size (z4h (z4k (l.take k)))) (fun i _=>l.length - (intOf i).toNat)
 case atStart=>exact⟨0,Nat.zero_le _,rfl,hd_ rfl,HB0.out,HM0.out⟩
 case round =>
  obtain⟨k,hk,rfl,HV,hb,hM⟩:=hrel;have hRr:=Row.below HR.out hb;by_cases hlt:k<l.length
  ·have hprev:k=0∨∃(j:Nat) (hj:j<l.length),k=j+1∧z4l (l.take k)=some l[j]:=by
    cases k with
    | zero=>exact .inl rfl
    | succ j=>exact .inr ⟨j,by omega,rfl,by rw[List.take_succ_eq_append_getElem (by omega),z4n]⟩
   obtain⟨ad,rfl,hab,hld⟩:=z4b.at_ hRr hlt;have hxs:=HS.out l[k] (List.getElem_mem _);have HT:=hd_ (show l.take (k+1)=l.take k++[l[k]] from List.take_succ_eq_append_getElem hlt);rw[List.drop_eq_getElem_cons hlt] at HV;generalize l[k]=x at hld hxs HT HV;obtain⟨x0,x1,x2⟩:=hld;have hbx:Below w.heap.size w (wr.alloc (.cells #[.string x.path,.int .i64 x.num,.string x.loc] 44)):=hb.alloc hb.size _;have hMx:=z2f.alloc hM (.cells #[.string x.path,.int .i64 x.num,.string x.loc] 44);obtain⟨c0,c1,c2⟩:=z3s (x:=x) (z0l wr [.string x.path,.int .i64 x.num,.string x.loc] 44);have HVAL:=hd_ (fun X=>z42 x X hxs.1 hxs.2);cases hok:x.okB
   ·have HO:Hid (z4g l=340):=hd_ (by rw[HE.out,HV.out,z4f,hok];rfl)
    rw[hok] at HVAL;clear hok hprev;have cV:∀ d os,Calls prog 46 #[.agg #[.string x.path,.int .i64 x.num,.string x.loc]] (grow (redrawn (wr.alloc (.cells #[.string x.path,.int .i64 x.num,.string x.loc] 44)) d) os) fun e w''=>e=.returned (.bool false)∧∃ p:Regrown,w''=grow (redrawn (wr.alloc (.cells #[.string x.path,.int .i64 x.num,.string x.loc] 44)) p.d) p.os:=fun d os=>Calls.regrown_of (by have hh:=HVAL.out (grow (redrawn (wr.alloc (.cells #[.string x.path,.int .i64 x.num,.string x.loc] 44)) d) os);exact hh)
    have m0:=cell_regrown c0;have m1:=cell_regrown c1;have m2:=cell_regrown c2;go_wp2_with fail;refine wp_region_quiet_below (by kernel_rfl) (by kernel_rfl) ?_
    repeat (first | go_big_quiet_step (exact cV _ _) | quiet_step (exact cV _ _))
    refine wpQuiet_nil ?_;intro _ hw9;obtain⟨⟨dq,osq⟩,hw9⟩:=hw9;subst hw9;have hS5:=below_regrown (wr.alloc (.cells #[.string x.path,.int .i64 x.num,.string x.loc] 44)) dq osq;have hb5:=z0q hbx hbx.size hS5;have hM5:=z2f.below hMx hS5;have d0:=cell_regrown c0 dq osq;have d1:=cell_regrown c1 dq osq;have d2:=cell_regrown c2 dq osq;generalize grow (redrawn (wr.alloc (.cells #[.string x.path,.int .i64 x.num,.string x.loc] 44)) dq) osq=W5 at hS5 hb5 hM5 d0 d1 d2 ⊢;go_wp2_with fail;go_ret;exact⟨z34 HO.out.symm,hb5⟩
   ·rw[hok] at HVAL;have cV:∀ d os,Calls prog 46 #[.agg #[.string x.path,.int .i64 x.num,.string x.loc]] (grow (redrawn (wr.alloc (.cells #[.string x.path,.int .i64 x.num,.string x.loc] 44)) d) os) fun e w''=>e=.returned (.bool true)∧∃ p:Regrown,w''=grow (redrawn (wr.alloc (.cells #[.string x.path,.int .i64 x.num,.string x.loc] 44)) p.d) p.os:=fun d os=>Calls.regrown_of (by have hh:=HVAL.out (grow (redrawn (wr.alloc (.cells #[.string x.path,.int .i64 x.num,.string x.loc] 44)) d) os);exact hh)
    have m0:=cell_regrown c0;have m1:=cell_regrown c1;have m2:=cell_regrown c2;rcases hprev with h0 | ⟨j,hj,hkj,hl⟩
    ·have HST:Hid (z4g l=if x.loc∈z4k (l.take k) then 341 else z4f (some x) (x.loc :: z4k (l.take k)) (l.drop (k+1))):=hd_ (by rw[HE.out,HV.out,z4f,hok,show z4l (l.take k)=none by rw[h0];rfl];rfl)
     have n0:decide (0<k)=false:=by simp;omega
     clear h0 hok;go_wp2_with fail;refine wp_region_quiet_below (by kernel_rfl) (by kernel_rfl) ?_
     repeat (first | go_big_quiet_step (exact cV _ _) | quiet_step (exact cV _ _))
     refine wpQuiet_nil ?_;intro _ hw9;obtain⟨⟨dq,osq⟩,hw9⟩:=hw9;subst hw9;have hS5:=below_regrown (wr.alloc (.cells #[.string x.path,.int .i64 x.num,.string x.loc] 44)) dq osq;have hb5:=z0q hbx hbx.size hS5;have hM5:=z2f.below hMx hS5;have d0:=cell_regrown c0 dq osq;have d1:=cell_regrown c1 dq osq;have d2:=cell_regrown c2 dq osq;generalize grow (redrawn (wr.alloc (.cells #[.string x.path,.int .i64 x.num,.string x.loc] 44)) dq) osq=W5 at hS5 hb5 hM5 d0 d1 d2 ⊢;by_cases hin:x.loc∈z4k (l.take k)
     ·have HO:Hid (z4g l=341):=hd_ (by rw[HST.out,if_pos hin])
      have hlk:=z2f.lookup (w:=W5) hM5 (z2d underlying9) underlying80 (z:=.agg #[]) (by rfl) x.loc true
      have hv:z2h z4i (.agg #[]) true (z4h (z4k (l.take k)) x.loc)=.tuple #[.agg #[],.bool true]:=by unfold z4h;rw[if_pos hin];rfl
      rw[hv] at hlk;clear hin hv;go_wp2_with fail;go_ret;exact⟨z34 HO.out.symm,hb5.alloc hb5.size _⟩
     ·have HO:=hd_ (HST.out.trans (if_neg hin));have hlk:=z2f.lookup (w:=W5) hM5 (z2d underlying9) underlying80 (z:=.agg #[]) (by rfl) x.loc true
      have hv:z2h z4i (.agg #[]) true (z4h (z4k (l.take k)) x.loc)=.tuple #[.agg #[],.bool false]:=by unfold z4h;rw[if_neg hin];rfl
      rw[hv] at hlk;have hM6:=z2f.alloc hM5 (.cells #[] 106);have hb6:Below w.heap.size w (W5.alloc (.cells #[] 106)):=hb5.alloc hb5.size _;obtain⟨w3,hup,hM3,hg3,hs3⟩:=z2f.update (w:=W5.alloc (.cells #[] 106)) hM6 (z2d underlying9) underlying80 x.loc ();have hup':(Instr.mapUpdate 80 (.map (some w.heap.size)) (.string x.loc) (.agg #[])).run prog (W5.alloc (.cells #[] 106))=.ok () w3:=hup;have hb7:Below w.heap.size w w3:=hb6.trans ⟨hg3.os,hg3.tape,hg3.output,hg3.size,fun q hq=>hg3.block q (Nat.lt_of_lt_of_le hq hb6.size) (by intro e;injection e with e;omega)⟩
      have f2:=(((Below.refl W5.heap.size W5).alloc (Nat.le_refl _) (.cells #[] 106)).cell (block_lt_of_cell d2)).trans d2;clear hin hv hup;go_wp2_with fail;go_roundw
      case rel=>exact⟨k+1,by omega,by go_num,hd_ (by rw[HT.out,z4n,z4m,← HE.out];exact HO.out),hb7,by rw[HT.out,z4m,z4j];exact hM3⟩
      case measure=>simp [intOf];omega
    ·obtain⟨ad2,had,hab2,hl2⟩:=z4b.at_ hRr hj;injection had with had
     subst had;have hys:=HS.out l[j] (List.getElem_mem _);generalize l[j]=y at hl hl2 hys;obtain⟨y0,y1,y2⟩:=hl2;have hba:=(Below.refl wr.heap.size wr).alloc (Nat.le_refl _) (.cells #[.string x.path,.int .i64 x.num,.string x.loc] 44);have e0:=cell_regrown ((hba.cell (show (ad.add (j * 3)).block<wr.heap.size from block_lt_of_cell y0)).trans y0);have e1:=cell_regrown ((hba.cell (p:=⟨(ad.add (j * 3)).block,(ad.add (j * 3)).off+1,none⟩) (block_lt_of_cell y1)).trans y1);have e2:=cell_regrown ((hba.cell (p:=⟨(ad.add (j * 3)).block,(ad.add (j * 3)).off+2,none⟩) (block_lt_of_cell y2)).trans y2);have n0:decide (0<k)=true:=by simp;omega
     have n1:(k:Int) - 1=(j:Int):=by omega
     have HCMP:=hd_ (fun X=>z43 y x X hys.1 hxs.1);have cC:∀ d os,Calls prog 47 #[.agg #[.string y.path,.int .i64 y.num,.string y.loc],.agg #[.string x.path,.int .i64 x.num,.string x.loc]] (grow (redrawn (wr.alloc (.cells #[.string x.path,.int .i64 x.num,.string x.loc] 44)) d) os) fun e w''=>e=.returned (.int .i64 (z2u y.path x.path))∧∃ p:Regrown,w''=grow (redrawn (wr.alloc (.cells #[.string x.path,.int .i64 x.num,.string x.loc] 44)) p.d) p.os:=fun d os=>Calls.regrown_of (by have hh:=HCMP.out (grow (redrawn (wr.alloc (.cells #[.string x.path,.int .i64 x.num,.string x.loc] 44)) d) os);exact hh)
     generalize hcv:z2u y.path x.path=cv at cC;by_cases hge:0≤cv
     ·have HO:Hid (z4g l=340):=hd_ (by rw[HE.out,HV.out,z4f,hok,hl,z4e,hcv,decide_eq_true hge];rfl)
      have n2:decide ((0:Int)≤cv)=true:=decide_eq_true hge;clear hcv hok hl hkj hge;go_wp2_with fail;refine wp_region_quiet_below (by kernel_rfl) (by kernel_rfl) ?_
      repeat (first | go_big_quiet_step (first | exact cV _ _ | exact cC _ _) | quiet_step (first | exact cV _ _ | exact cC _ _))
      refine wpQuiet_nil ?_;intro _ hw9;obtain⟨⟨dq,osq⟩,hw9⟩:=hw9;subst hw9;have hS5:=below_regrown (wr.alloc (.cells #[.string x.path,.int .i64 x.num,.string x.loc] 44)) dq osq;have hb5:=z0q hbx hbx.size hS5;have hM5:=z2f.below hMx hS5;have d0:=cell_regrown c0 dq osq;have d1:=cell_regrown c1 dq osq;have d2:=cell_regrown c2 dq osq;generalize grow (redrawn (wr.alloc (.cells #[.string x.path,.int .i64 x.num,.string x.loc] 44)) dq) osq=W5 at hS5 hb5 hM5 d0 d1 d2 ⊢;go_wp2_with fail;go_ret;exact⟨z34 HO.out.symm,hb5⟩
     ·have HST:Hid (z4g l=if x.loc∈z4k (l.take k) then 341 else z4f (some x) (x.loc :: z4k (l.take k)) (l.drop (k+1))):=hd_ (by rw[HE.out,HV.out,z4f,hok,hl,show z4d (some y) x=false by rw[z4e,hcv,decide_eq_false hge]];rfl)
      have n2:decide ((0:Int)≤cv)=false:=decide_eq_false hge;clear hcv hok hl hkj hge;go_wp2_with fail;refine wp_region_quiet_below (by kernel_rfl) (by kernel_rfl) ?_
      repeat (first | go_big_quiet_step (first | exact cV _ _ | exact cC _ _) | quiet_step (first | exact cV _ _ | exact cC _ _))
      refine wpQuiet_nil ?_;intro _ hw9;obtain⟨⟨dq,osq⟩,hw9⟩:=hw9;subst hw9;have hS5:=below_regrown (wr.alloc (.cells #[.string x.path,.int .i64 x.num,.string x.loc] 44)) dq osq;have hb5:=z0q hbx hbx.size hS5;have hM5:=z2f.below hMx hS5;have d0:=cell_regrown c0 dq osq;have d1:=cell_regrown c1 dq osq;have d2:=cell_regrown c2 dq osq;generalize grow (redrawn (wr.alloc (.cells #[.string x.path,.int .i64 x.num,.string x.loc] 44)) dq) osq=W5 at hS5 hb5 hM5 d0 d1 d2 ⊢;by_cases hin:x.loc∈z4k (l.take k)
      ·have HO:Hid (z4g l=341):=hd_ (by rw[HST.out,if_pos hin])
       have hlk:=z2f.lookup (w:=W5) hM5 (z2d underlying9) underlying80 (z:=.agg #[]) (by rfl) x.loc true
       have hv:z2h z4i (.agg #[]) true (z4h (z4k (l.take k)) x.loc)=.tuple #[.agg #[],.bool true]:=by unfold z4h;rw[if_pos hin];rfl
       rw[hv] at hlk;clear hin hv;go_wp2_with fail;go_ret;exact⟨z34 HO.out.symm,hb5.alloc hb5.size _⟩
      ·have HO:=hd_ (HST.out.trans (if_neg hin));have hlk:=z2f.lookup (w:=W5) hM5 (z2d underlying9) underlying80 (z:=.agg #[]) (by rfl) x.loc true
       have hv:z2h z4i (.agg #[]) true (z4h (z4k (l.take k)) x.loc)=.tuple #[.agg #[],.bool false]:=by unfold z4h;rw[if_neg hin];rfl
       rw[hv] at hlk;have hM6:=z2f.alloc hM5 (.cells #[] 106);have hb6:Below w.heap.size w (W5.alloc (.cells #[] 106)):=hb5.alloc hb5.size _;obtain⟨w3,hup,hM3,hg3,hs3⟩:=z2f.update (w:=W5.alloc (.cells #[] 106)) hM6 (z2d underlying9) underlying80 x.loc ();have hup':(Instr.mapUpdate 80 (.map (some w.heap.size)) (.string x.loc) (.agg #[])).run prog (W5.alloc (.cells #[] 106))=.ok () w3:=hup;have hb7:Below w.heap.size w w3:=hb6.trans ⟨hg3.os,hg3.tape,hg3.output,hg3.size,fun q hq=>hg3.block q (Nat.lt_of_lt_of_le hq hb6.size) (by intro e;injection e with e;omega)⟩
       have f2:=(((Below.refl W5.heap.size W5).alloc (Nat.le_refl _) (.cells #[] 106)).cell (block_lt_of_cell d2)).trans d2;clear hin hv hup;go_wp2_with fail;go_roundw
       case rel=>exact⟨k+1,by omega,by go_num,hd_ (by rw[HT.out,z4n,z4m,← HE.out];exact HO.out),hb7,by rw[HT.out,z4m,z4j];exact hM3⟩
       case measure=>simp [intOf];omega
  ·go_wp2_with fail;have H0:Hid (z4g l=0):=hd_ (by rw[HE.out,HV.out,List.drop_of_length_le (by omega)];rfl)
   go_ret;exact⟨z34 H0.out.symm,hb⟩
def za1 (l:List ByteArray)(k:Nat):Nat:=((l.take k).filter z79).length
def za2 (p:Pat):Nat:=(p.parts.filter z79).length
theorem za3 {l:List ByteArray}{k:Nat}(h:k<l.length):za1 l (k+1)=za1 l k+if z79 l[k] then 1 else 0:=by
 unfold za1;rw[List.take_succ_eq_append_getElem h,List.filter_append,List.length_append];congr 1
 cases h:z79 l[k]
 ·rw[List.filter_cons_of_neg (by rw[h];decide)];rfl
 ·rw[List.filter_cons_of_pos h];rfl
theorem za4 {p:Pat}:za1 p.parts p.parts.length=za2 p:=by unfold za1 za2;rw[List.take_length]
theorem za5 {l:List ByteArray}:∀ k,za1 l k≤k:=fun k=>Nat.le_trans (List.length_filter_le ..) (List.length_take_le ..)
def za6 (w:World)(p:Pat)(e:Ending)(w':World):Prop:=∃ n:Int,∃ b:Bool,e=.returned (.tuple #[.int .i64 n,.bool b,.int .i64 (z7e p)])∧(z7e p=0→n=za2 p∧b=p.rest)∧Below w.heap.size w w'
theorem za7 (p:Pat)(A:Option Addr)(c:Nat)(w:World)(hS:Strs w (.slice A p.parts.length c) p.parts)(hz:∀ x∈p.parts,x.size≤maxLen):
  Calls prog 124 #[.agg #[.slice A p.parts.length c,.bool p.rest]] w (za6 w p):=by
 obtain⟨A',c',e',hcc,hmm,-⟩:=id hS;injection e' with e1 e2 e3
 subst e1 e3;unfold maxLen at hmm;have HS:=hd_ hS;have hB:=z0l w [.slice A p.parts.length c,.bool p.rest] 97;have hA:Below w.heap.size w (w.alloc (.cells #[.slice A p.parts.length c,.bool p.rest] 97)):=(Below.refl _ _).alloc (Nat.le_refl _) _;have HCK:=hd_ (fun X (hX:Below w.heap.size w X)=>za0 p A c X (hS.below hX) hz);clear hS hz e2;go_enter func124,ntmps124;go_upto_region 1 with fail;generalize w.alloc (.cells #[.slice A p.parts.length c,.bool p.rest] 97)=W1 at hB hA ⊢;have d0:W1.cell? ⟨w.heap.size,0,none⟩=some (.slice A p.parts.length c):=hB.cell 0;have d1:W1.cell? ⟨w.heap.size,1,none⟩=some (.bool p.rest):=hB.cell 1;have HC:=hd_ (HCK.out W1 hA);have HB:=hd_ hB;have HA:=hd_ hA;clear hB hA HCK;obtain⟨pe,hpe⟩:∃ pe,z7e p=pe:=⟨_,rfl⟩;have HPE:=hd_ hpe;rw[hpe] at HC;clear hpe;by_cases h0:pe=0
 case neg =>
  have q:(pe != 0)=true:=by simpa using h0
  have HR:Hid (z7e p≠0):=hd_ (by rw[HPE.out];exact h0)
  clear h0;go_wp2_with fail;refine HC.out.mono ?_;rintro e w2 ⟨rfl,hb⟩;have HB2:=hd_ (z0r HA.out hb);clear hb d0 d1;go_wp2_with fail;go_ret3
  exact⟨0,false,by rw[HPE.out];rfl,fun h=>absurd h HR.out,HB2.out⟩
 subst h0;go_wp2_with fail;refine HC.out.mono ?_;rintro e w2 ⟨rfl,hb⟩;have HB2:=hd_ (z0r HA.out hb);have hB2:=HB.out.below hb HB.out.lt;clear hb d0 d1;have d0:w2.cell? ⟨w.heap.size,0,none⟩=some (.slice A p.parts.length c):=hB2.cell 0;have d1:w2.cell? ⟨w.heap.size,1,none⟩=some (.bool p.rest):=hB2.cell 1;clear hB2 HC;go_wp2_with fail;go_loop [2,16] (fun s i=>∃ k:Nat,k≤p.parts.length∧i=.int .i64 k∧s=.int .i64 (za1 p.parts k)) (fun _ i=>p.parts.length - (intOf i).toNat)
 case atStart=>exact⟨0,Nat.zero_le _,rfl,rfl⟩
 case round =>
  obtain⟨k,hk,rfl,rfl⟩:=hrel;have hsl:=za5 (l:=p.parts) k;by_cases hlt:k<p.parts.length
  ·obtain⟨ad,rfl,hab,x0⟩:=Strs.at_ (HS.out.below HB2.out) hlt;have HT:=hd_ (fun X=>z7k p.parts[k] X);have HN:=hd_ (za3 hlt);generalize p.parts[k]=part at x0 HT HN;generalize z79 part=st at HT HN;generalize za1 p.parts k=m at HN hsl;clear hab;cases st with
   | false =>
    go_wp2_with (first
     | (go_at_call 110;refine (HT.out _).mono ?_;rintro e w' ⟨rfl,rfl⟩))
    go_round
    case rel=>exact⟨k+1,by omega,by go_num,by rw[HN.out];rfl⟩
    case measure=>simp [intOf];omega
   | true =>
    go_wp2_with (first
     | (go_at_call 110;refine (HT.out _).mono ?_;rintro e w' ⟨rfl,rfl⟩))
    go_round
    case rel=>exact⟨k+1,by omega,by go_num,by rw[HN.out];go_num⟩
    case measure=>simp [intOf];omega
  ·have hke:k=p.parts.length:=by omega
   subst hke;rw[za4];go_wp2_with fail;go_region_law (fail)
   go_wp2_with fail;go_ret3
   exact⟨_,_,by rw[HPE.out];rfl,fun _=>⟨rfl,rfl⟩,HB2.out.drew⟩
end Go.Proofs.YtegeboijhifmcaaGreatDoor
