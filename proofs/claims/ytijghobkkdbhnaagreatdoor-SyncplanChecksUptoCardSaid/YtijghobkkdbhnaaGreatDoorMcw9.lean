/- A part. -/
import Derived.Test.YtijghobkkdbhnaaGreatDoorMcw5
import Derived.Test.YtijghobkkdbhnaaGreatDoorMcw7
import Derived.Test.YtijghobkkdbhnaaGreatDoorMcw8
set_option linter.unusedVariables false
set_option linter.unusedSimpArgs false
set_option maxHeartbeats 8000000
set_option maxRecDepth 100000
namespace Go.Proofs.YtijghobkkdbhnaaGreatDoor
open Go.Proofs.Tryz
open Go.RowKit
open Go.Sort (grow)
def z4h (w:World)(v:Value)(l:List Hav):Prop:=Row w 3 v l.length (l.flatMap Hav.cells)
def z4i (w:World)(a:Addr)(x:Hav):Prop:=w.cell? a=some (.string x.path)∧w.cell? ⟨a.block,a.off+1,none⟩=some (.int .i64 x.num)∧w.cell? ⟨a.block,a.off+2,none⟩=some (.string x.loc)
theorem z4h.at_ {w:World}{A:Option Addr}{c:Nat}{l:List Hav}(h:z4h w (.slice A l.length c) l){k:Nat}(hk:k<l.length):
  ∃ ad,A=some ad∧ad.block<w.heap.size∧z4i w (ad.add (k * 3)) l[k]:=by
 obtain⟨ad,e,hb,hc⟩:=z4f (f:=Hav.cells) (n:=3) (fun _=>rfl) h hk;exact⟨ad,e,hb,hc 0 _ rfl,hc 1 _ rfl,hc 2 _ rfl⟩
def z4j (p:Option Hav)(h:Hav):Bool:=match p with | none=>false | some q=>decide (0≤z2z q.path h.path)
theorem z4k (q h:Hav):z4j (some q) h=decide (0≤z2z q.path h.path):=rfl
def z4l:Option Hav→List ByteArray→List Hav→Int
 | _,_,[]=>0
 | p,s,h :: r=>if (!h.okB || z4j p h)=true then 340 else if h.loc∈s then 341 else z4l (some h) (h.loc :: s) r
def z4m (l:List Hav):Int:=if 1024<l.length then 342 else z4l none [] l
def z4n (s:List ByteArray):ByteArray→Option Unit:=fun x=>if x∈s then some () else none
def z4o:Unit→Value:=fun _=>.agg #[]
theorem z4p (a:ByteArray)(s:List ByteArray):z4n (a :: s)=upd (z4n s) a ():=by
 funext x;unfold z4n upd
 by_cases h:x=a
 ·rw[if_pos h,if_pos (by rw[h];exact List.mem_cons_self)]
 ·rw[if_neg h];show (if x∈a :: s then some () else none)=if x∈s then some () else none
  by_cases h2:x∈s
  ·rw[if_pos h2,if_pos (List.mem_cons_of_mem _ h2)]
  ·rw[if_neg h2,if_neg (by rintro (_ | ⟨_,h3⟩);exact h rfl;exact h2 h3)]
def z4q (l:List Hav):List ByteArray:=l.reverse.map Hav.loc
def z4r (l:List Hav):Option Hav:=l.getLast?
theorem z4s (l:List Hav)(x:Hav):z4q (l++[x])=x.loc :: z4q l:=by unfold z4q;simp
theorem z4t (l:List Hav)(x:Hav):z4r (l++[x])=some x:=by unfold z4r;simp
theorem z4u (l:List Hav)(v:Value)(w:World)(hR:z4h w v l)(hs:∀ x∈l,x.path.size≤140737488355328∧x.loc.size≤140737488355328):
  Calls prog 42 #[v] w fun e w'=>e=.returned (.int .i64 (z4m l))∧zB w w':=by
 obtain⟨A,c,rfl,hc,hm,-⟩:=id hR;have HR:=hd_ hR;have HS:=hd_ hs;clear hR hs;unfold maxLen at hm;by_cases h1:1024<l.length
 ·have HE:Hid (z4m l=342):=hd_ (if_pos h1);go_enter func42,ntmps42;go_wp2_with fail;go_ret;exact⟨z3a HE.out.symm,Below.refl _ _⟩
 have HE:Hid (z4m l=z4l none [] l):=hd_ (if_neg h1);have hmm:=@run_makeMap prog;have HM0:=hd_ (z2k.new Value.string z4o w);have HB0:=hd_ ((Below.refl w.heap.size w).alloc (Nat.le_refl _) (.map #[] 0));go_enter func42,ntmps42;go_wp2_with fail;go_loopw [14] (fun i wr=>∃ k:Nat,k≤l.length∧i=.int .i64 k∧Hid (z4l none [] l=z4l (z4r (l.take k)) (z4q (l.take k)) (l.drop k))∧zB w wr∧z2k Value.string z4o wr w.heap.size (z4n (z4q (l.take k)))) (fun i _=>l.length - (intOf i).toNat)
 case atStart=>exact⟨0,Nat.zero_le _,rfl,hd_ rfl,HB0.out,HM0.out⟩
 case round =>
  obtain⟨k,hk,rfl,HV,hb,hM⟩:=hrel;have hRr:=Row.below HR.out hb;by_cases hlt:k<l.length
  ·have hprev:k=0∨∃(j:Nat) (hj:j<l.length),k=j+1∧z4r (l.take k)=some l[j]:=by
    cases k with
    | zero=>exact .inl rfl
    | succ j=>exact .inr ⟨j,by omega,rfl,by rw[List.take_succ_eq_append_getElem (by omega),z4t]⟩
   obtain⟨ad,rfl,hab,hld⟩:=z4h.at_ hRr hlt;have hxs:=HS.out l[k] (List.getElem_mem _);have HT:=hd_ (show l.take (k+1)=l.take k++[l[k]] from List.take_succ_eq_append_getElem hlt);rw[List.drop_eq_getElem_cons hlt] at HV;generalize l[k]=x at hld hxs HT HV;obtain⟨x0,x1,x2⟩:=hld;have hbx:zB w (wr.alloc (.cells #[.string x.path,.int .i64 x.num,.string x.loc] 96)):=hb.alloc hb.size _;have hMx:=z2k.alloc hM (.cells #[.string x.path,.int .i64 x.num,.string x.loc] 96);obtain⟨c0,c1,c2⟩:=z3x (x:=x) (z0l wr [.string x.path,.int .i64 x.num,.string x.loc] 96);have HVAL:=hd_ (fun X=>z48 x X hxs.1 hxs.2);cases hok:x.okB
   ·have HO:Hid (z4m l=340):=hd_ (by rw[HE.out,HV.out,z4l,hok];rfl)
    rw[hok] at HVAL;clear hok hprev;have cV:∀ d os,Calls prog 88 #[.agg #[.string x.path,.int .i64 x.num,.string x.loc]] (grow (redrawn (wr.alloc (.cells #[.string x.path,.int .i64 x.num,.string x.loc] 96)) d) os) fun e w''=>e=.returned (.bool false)∧∃ p:Regrown,w''=grow (redrawn (wr.alloc (.cells #[.string x.path,.int .i64 x.num,.string x.loc] 96)) p.d) p.os:=fun d os=>Calls.regrown_of (by have hh:=HVAL.out (grow (redrawn (wr.alloc (.cells #[.string x.path,.int .i64 x.num,.string x.loc] 96)) d) os);exact hh)
    have m0:=cell_regrown c0;have m1:=cell_regrown c1;have m2:=cell_regrown c2;go_wp2_with fail;refine wp_region_quiet_below (by kernel_rfl) (by kernel_rfl) ?_
    repeat (first | go_big_quiet_step (exact cV _ _) | quiet_step (exact cV _ _))
    refine wpQuiet_nil ?_;intro _ hw9;obtain⟨⟨dq,osq⟩,hw9⟩:=hw9;subst hw9;have hS5:=below_regrown (wr.alloc (.cells #[.string x.path,.int .i64 x.num,.string x.loc] 96)) dq osq;have hb5:=z0q hbx hbx.size hS5;have hM5:=z2k.below hMx hS5;have d0:=cell_regrown c0 dq osq;have d1:=cell_regrown c1 dq osq;have d2:=cell_regrown c2 dq osq;generalize grow (redrawn (wr.alloc (.cells #[.string x.path,.int .i64 x.num,.string x.loc] 96)) dq) osq=W5 at hS5 hb5 hM5 d0 d1 d2 ⊢;go_wp2_with fail;go_ret;exact⟨z3a HO.out.symm,hb5⟩
   ·rw[hok] at HVAL;have cV:∀ d os,Calls prog 88 #[.agg #[.string x.path,.int .i64 x.num,.string x.loc]] (grow (redrawn (wr.alloc (.cells #[.string x.path,.int .i64 x.num,.string x.loc] 96)) d) os) fun e w''=>e=.returned (.bool true)∧∃ p:Regrown,w''=grow (redrawn (wr.alloc (.cells #[.string x.path,.int .i64 x.num,.string x.loc] 96)) p.d) p.os:=fun d os=>Calls.regrown_of (by have hh:=HVAL.out (grow (redrawn (wr.alloc (.cells #[.string x.path,.int .i64 x.num,.string x.loc] 96)) d) os);exact hh)
    have m0:=cell_regrown c0;have m1:=cell_regrown c1;have m2:=cell_regrown c2;rcases hprev with h0 | ⟨j,hj,hkj,hl⟩
    ·have HST:Hid (z4m l=if x.loc∈z4q (l.take k) then 341 else z4l (some x) (x.loc :: z4q (l.take k)) (l.drop (k+1))):=hd_ (by rw[HE.out,HV.out,z4l,hok,show z4r (l.take k)=none by rw[h0];rfl];rfl)
     have n0:decide (0<k)=false:=by simp;omega
     clear h0 hok;go_wp2_with fail;refine wp_region_quiet_below (by kernel_rfl) (by kernel_rfl) ?_
     repeat (first | go_big_quiet_step (exact cV _ _) | quiet_step (exact cV _ _))
     refine wpQuiet_nil ?_;intro _ hw9;obtain⟨⟨dq,osq⟩,hw9⟩:=hw9;subst hw9;have hS5:=below_regrown (wr.alloc (.cells #[.string x.path,.int .i64 x.num,.string x.loc] 96)) dq osq;have hb5:=z0q hbx hbx.size hS5;have hM5:=z2k.below hMx hS5;have d0:=cell_regrown c0 dq osq;have d1:=cell_regrown c1 dq osq;have d2:=cell_regrown c2 dq osq;generalize grow (redrawn (wr.alloc (.cells #[.string x.path,.int .i64 x.num,.string x.loc] 96)) dq) osq=W5 at hS5 hb5 hM5 d0 d1 d2 ⊢;by_cases hin:x.loc∈z4q (l.take k)
     ·have HO:Hid (z4m l=341):=hd_ (by rw[HST.out,if_pos hin])
      have hlk:=z2k.lookup (w:=W5) hM5 (z2i underlying9) underlying108 (z:=.agg #[]) (by rfl) x.loc true
      have hv:z2m z4o (.agg #[]) true (z4n (z4q (l.take k)) x.loc)=.tuple #[.agg #[],.bool true]:=by unfold z4n;rw[if_pos hin];rfl
      rw[hv] at hlk;clear hin hv;go_wp2_with fail;go_ret;exact⟨z3a HO.out.symm,hb5.alloc hb5.size _⟩
     ·have HO:=hd_ (HST.out.trans (if_neg hin));have hlk:=z2k.lookup (w:=W5) hM5 (z2i underlying9) underlying108 (z:=.agg #[]) (by rfl) x.loc true
      have hv:z2m z4o (.agg #[]) true (z4n (z4q (l.take k)) x.loc)=.tuple #[.agg #[],.bool false]:=by unfold z4n;rw[if_neg hin];rfl
      rw[hv] at hlk;have hM6:=z2k.alloc hM5 (.cells #[] 136);have hb6:zB w (W5.alloc (.cells #[] 136)):=hb5.alloc hb5.size _;obtain⟨w3,hup,hM3,hg3,hs3⟩:=z2k.update (w:=W5.alloc (.cells #[] 136)) hM6 (z2i underlying9) underlying108 x.loc ();have hup':(Instr.mapUpdate 108 (.map (some w.heap.size)) (.string x.loc) (.agg #[])).run prog (W5.alloc (.cells #[] 136))=.ok () w3:=hup;have hb7:zB w w3:=hb6.trans ⟨hg3.os,hg3.tape,hg3.output,hg3.size,fun q hq=>hg3.block q (Nat.lt_of_lt_of_le hq hb6.size) (by intro e;injection e with e;omega)⟩
      have f2:=(((Below.refl W5.heap.size W5).alloc (Nat.le_refl _) (.cells #[] 136)).cell (block_lt_of_cell d2)).trans d2;clear hin hv hup;go_wp2_with fail;go_roundw
      case rel=>exact⟨k+1,by omega,by go_num,hd_ (by rw[HT.out,z4t,z4s,← HE.out];exact HO.out),hb7,by rw[HT.out,z4s,z4p];exact hM3⟩
      case measure=>simp [intOf];omega
    ·obtain⟨ad2,had,hab2,hl2⟩:=z4h.at_ hRr hj;injection had with had
     subst had;have hys:=HS.out l[j] (List.getElem_mem _);generalize l[j]=y at hl hl2 hys;obtain⟨y0,y1,y2⟩:=hl2;have hba:=(Below.refl wr.heap.size wr).alloc (Nat.le_refl _) (.cells #[.string x.path,.int .i64 x.num,.string x.loc] 96);have e0:=cell_regrown ((hba.cell (show (ad.add (j * 3)).block<wr.heap.size from block_lt_of_cell y0)).trans y0);have e1:=cell_regrown ((hba.cell (p:=⟨(ad.add (j * 3)).block,(ad.add (j * 3)).off+1,none⟩) (block_lt_of_cell y1)).trans y1);have e2:=cell_regrown ((hba.cell (p:=⟨(ad.add (j * 3)).block,(ad.add (j * 3)).off+2,none⟩) (block_lt_of_cell y2)).trans y2);have n0:decide (0<k)=true:=by simp;omega
     have n1:(k:Int) - 1=(j:Int):=by omega
     have HCMP:=hd_ (fun X=>z49 y x X hys.1 hxs.1);have cC:∀ d os,Calls prog 89 #[.agg #[.string y.path,.int .i64 y.num,.string y.loc],.agg #[.string x.path,.int .i64 x.num,.string x.loc]] (grow (redrawn (wr.alloc (.cells #[.string x.path,.int .i64 x.num,.string x.loc] 96)) d) os) fun e w''=>e=.returned (.int .i64 (z2z y.path x.path))∧∃ p:Regrown,w''=grow (redrawn (wr.alloc (.cells #[.string x.path,.int .i64 x.num,.string x.loc] 96)) p.d) p.os:=fun d os=>Calls.regrown_of (by have hh:=HCMP.out (grow (redrawn (wr.alloc (.cells #[.string x.path,.int .i64 x.num,.string x.loc] 96)) d) os);exact hh)
     generalize hcv:z2z y.path x.path=cv at cC;by_cases hge:0≤cv
     ·have HO:Hid (z4m l=340):=hd_ (by rw[HE.out,HV.out,z4l,hok,hl,z4k,hcv,decide_eq_true hge];rfl)
      have n2:decide ((0:Int)≤cv)=true:=decide_eq_true hge;clear hcv hok hl hkj hge;go_wp2_with fail;refine wp_region_quiet_below (by kernel_rfl) (by kernel_rfl) ?_
      repeat (first | go_big_quiet_step (first | exact cV _ _ | exact cC _ _) | quiet_step (first | exact cV _ _ | exact cC _ _))
      refine wpQuiet_nil ?_;intro _ hw9;obtain⟨⟨dq,osq⟩,hw9⟩:=hw9;subst hw9;have hS5:=below_regrown (wr.alloc (.cells #[.string x.path,.int .i64 x.num,.string x.loc] 96)) dq osq;have hb5:=z0q hbx hbx.size hS5;have hM5:=z2k.below hMx hS5;have d0:=cell_regrown c0 dq osq;have d1:=cell_regrown c1 dq osq;have d2:=cell_regrown c2 dq osq;generalize grow (redrawn (wr.alloc (.cells #[.string x.path,.int .i64 x.num,.string x.loc] 96)) dq) osq=W5 at hS5 hb5 hM5 d0 d1 d2 ⊢;go_wp2_with fail;go_ret;exact⟨z3a HO.out.symm,hb5⟩
     ·have HST:Hid (z4m l=if x.loc∈z4q (l.take k) then 341 else z4l (some x) (x.loc :: z4q (l.take k)) (l.drop (k+1))):=hd_ (by rw[HE.out,HV.out,z4l,hok,hl,show z4j (some y) x=false by rw[z4k,hcv,decide_eq_false hge]];rfl)
      have n2:decide ((0:Int)≤cv)=false:=decide_eq_false hge;clear hcv hok hl hkj hge;go_wp2_with fail;refine wp_region_quiet_below (by kernel_rfl) (by kernel_rfl) ?_
      repeat (first | go_big_quiet_step (first | exact cV _ _ | exact cC _ _) | quiet_step (first | exact cV _ _ | exact cC _ _))
      refine wpQuiet_nil ?_;intro _ hw9;obtain⟨⟨dq,osq⟩,hw9⟩:=hw9;subst hw9;have hS5:=below_regrown (wr.alloc (.cells #[.string x.path,.int .i64 x.num,.string x.loc] 96)) dq osq;have hb5:=z0q hbx hbx.size hS5;have hM5:=z2k.below hMx hS5;have d0:=cell_regrown c0 dq osq;have d1:=cell_regrown c1 dq osq;have d2:=cell_regrown c2 dq osq;generalize grow (redrawn (wr.alloc (.cells #[.string x.path,.int .i64 x.num,.string x.loc] 96)) dq) osq=W5 at hS5 hb5 hM5 d0 d1 d2 ⊢;by_cases hin:x.loc∈z4q (l.take k)
      ·have HO:Hid (z4m l=341):=hd_ (by rw[HST.out,if_pos hin])
       have hlk:=z2k.lookup (w:=W5) hM5 (z2i underlying9) underlying108 (z:=.agg #[]) (by rfl) x.loc true
       have hv:z2m z4o (.agg #[]) true (z4n (z4q (l.take k)) x.loc)=.tuple #[.agg #[],.bool true]:=by unfold z4n;rw[if_pos hin];rfl
       rw[hv] at hlk;clear hin hv;go_wp2_with fail;go_ret;exact⟨z3a HO.out.symm,hb5.alloc hb5.size _⟩
      ·have HO:=hd_ (HST.out.trans (if_neg hin));have hlk:=z2k.lookup (w:=W5) hM5 (z2i underlying9) underlying108 (z:=.agg #[]) (by rfl) x.loc true
       have hv:z2m z4o (.agg #[]) true (z4n (z4q (l.take k)) x.loc)=.tuple #[.agg #[],.bool false]:=by unfold z4n;rw[if_neg hin];rfl
       rw[hv] at hlk;have hM6:=z2k.alloc hM5 (.cells #[] 136);have hb6:zB w (W5.alloc (.cells #[] 136)):=hb5.alloc hb5.size _;obtain⟨w3,hup,hM3,hg3,hs3⟩:=z2k.update (w:=W5.alloc (.cells #[] 136)) hM6 (z2i underlying9) underlying108 x.loc ();have hup':(Instr.mapUpdate 108 (.map (some w.heap.size)) (.string x.loc) (.agg #[])).run prog (W5.alloc (.cells #[] 136))=.ok () w3:=hup;have hb7:zB w w3:=hb6.trans ⟨hg3.os,hg3.tape,hg3.output,hg3.size,fun q hq=>hg3.block q (Nat.lt_of_lt_of_le hq hb6.size) (by intro e;injection e with e;omega)⟩
       have f2:=(((Below.refl W5.heap.size W5).alloc (Nat.le_refl _) (.cells #[] 136)).cell (block_lt_of_cell d2)).trans d2;clear hin hv hup;go_wp2_with fail;go_roundw
       case rel=>exact⟨k+1,by omega,by go_num,hd_ (by rw[HT.out,z4t,z4s,← HE.out];exact HO.out),hb7,by rw[HT.out,z4s,z4p];exact hM3⟩
       case measure=>simp [intOf];omega
  ·go_wp2_with fail;have H0:Hid (z4m l=0):=hd_ (by rw[HE.out,HV.out,List.drop_of_length_le (by omega)];rfl)
   go_ret;exact⟨z3a H0.out.symm,hb⟩
open Go.RowKit Go.Lib
open Go.Sort hiding Below
section
variable {α : Type} [Inhabited α]
end
section
variable {α : Type}
structure z5v (c:α→α→Int):Prop where
 self:∀ x,c x x=0
 anti:∀ x y,c y x=- c x y
 trans:∀ x y z,c x y<0→c y z<0→c x z<0
 same:∀ x y,c x y=0→∀ z,c x z=c y z
theorem z5v.same' {c:α→α→Int}(h:z5v c){x y:α}(he:c x y=0)(z:α):c z x=c z y:=by rw[h.anti x z,h.anti y z,h.same x y he]
theorem z5v.or {c1 c2:α→α→Int}(h1:z5v c1)(h2:z5v c2):z5v (fun x y=>orI (c1 x y) (c2 x y)) where
 self x:=by unfold orI;rw[h1.self,if_pos rfl,h2.self]
 anti x y:=by unfold orI;rw[h1.anti x y,h2.anti x y];split <;> split <;> omega
 trans x y z a b:=by
  unfold orI at a b ⊢
  by_cases e1:c1 x y=0
  ·rw[if_pos e1] at a;rw[h1.same x y e1 z];by_cases e2:c1 y z=0
   ·rw[if_pos e2] at b ⊢;exact h2.trans _ _ _ a b
   ·rw[if_neg e2] at b ⊢;exact b
  ·rw[if_neg e1] at a;by_cases e2:c1 y z=0
   ·rw[← h1.same' e2 x];rw[if_neg e1];exact a
   ·rw[if_neg e2] at b;have:=h1.trans _ _ _ a b;rw[if_neg (by omega)];exact this
 same x y e z:=by
  unfold orI at e ⊢
  by_cases e1:c1 x y=0
  ·rw[if_pos e1] at e;rw[h1.same x y e1 z,h2.same x y e z]
  ·rw[if_neg e1] at e;exact absurd e e1
theorem z5v.swo {c:α→α→Int}(h:z5v c):SWO (ltOf c) where
 irrefl x:=by unfold ltOf;rw[h.self];rfl
 trans x y z a b:=by unfold ltOf at *;simp only[decide_eq_true_eq] at *;exact h.trans _ _ _ a b
 ntrans x y z a b:=by
  unfold ltOf at *
  simp only[decide_eq_false_iff_not,Int.not_lt] at *
  have a':=h.anti x y;have b':=h.anti y z;have c':=h.anti x z;by_cases e1:c x y=0
  ·rw[h.same x y e1 z];exact b
  ·by_cases e2:c y z=0
   ·rw[← h.same' e2 x];exact a
   ·have:=h.trans z y x (by omega) (by omega);omega
theorem z5w (a b:ByteArray):z2z b a=- z2z a b:=by
 unfold z2z;by_cases h:(z2x a && z2x b)=true
 ·rw[if_pos h,if_pos (by rw[Bool.and_comm];exact h)];exact z5g _ _
 ·rw[if_neg h,if_neg (by rw[Bool.and_comm];exact h)];rfl
theorem z5x {a b:ByteArray}(ha:z2x a=true)(hb:z2x b=true)(h:z2z a b=0):a=b:=by
 rw[z5j ha hb] at h;have:=cmpL_eq h;cases a with | mk x=>cases b with | mk y=>exact congrArg ByteArray.mk (Array.toList_inj.1 this)
theorem totP {f:α→ByteArray}(hf:∀ x,z2x (f x)=true):z5v (fun x y=>z2z (f x) (f y)) where
 self x:=z5k _
 anti x y:=z5w _ _
 trans x y z a b:=z5l (hf _) (hf _) (hf _) a b
 same x y e z:=by rw[z5x (hf x) (hf y) e]
end
def Rcd.good (r:Rcd):Prop:=r.small∧z2x r.frm=true∧z2x r.to=true
abbrev z5y:={ r:Rcd // r.good }
def z5z:ByteArray:=⟨#[47,47,97,47,98]⟩
theorem z60:z2x z5z=true:=by decide
instance:Inhabited z5y:=⟨⟨⟨z5z,0,0,z5z,0,0⟩,⟨by unfold z5z;decide,by unfold z5z;decide⟩,z60,z60⟩⟩
def z5y.enc (r:z5y):List Value:=r.1.cells
def z5y.cmp (a b:z5y):Int:=cmpR a.1 b.1
theorem z61 (v cv:Value)(w:World):Calls prog 200 #[v,.int .i64 0,.int .i64 0,cv] w fun e w'=>e=.returned (.tuple #[])∧w=w':=by
 go_enter func200,ntmps200;go_wp2
 refine wp_loop_rounds 1 ?_;rw[rounds_succ];go_wp2
 go_end0
 exact⟨rfl,rfl⟩
theorem z62 (v cv:Value)(w:World):Calls prog 146 #[v,.int .i64 0,cv] w fun e w'=>e=.returned (.tuple #[])∧w=w':=by
 have H:=hd_ (z61 v cv w);go_enter func146,ntmps146;go_wp2
 refine wp_loop_rounds 1 ?_;rw[rounds_succ];go_wp2_with fail;refine H.out.mono ?_;rintro e w' ⟨rfl,rfl⟩;go_wp2
 refine wp_loop_rounds 1 ?_;rw[rounds_succ];go_wp2
 go_end0
 exact⟨rfl,rfl⟩
theorem z89:z0e prog 29 9 1 16:=z0f underlying29 (z:=.string ⟨#[]⟩) (by kernel_rfl) rfl (by decide)
def z8a (l:List ByteArray)(j:Nat):ByteArray:=(l[j]?).getD z2q
def z8b (cs:List (List UInt8))(j:Nat):ByteArray:=baL ((cs[j]?).getD [])
def z8c (parts:List ByteArray)(cs:List (List UInt8))(k:Nat):Bool:=(List.range k).all fun j=>z84 (z8a parts j) (z8b cs j)
def z8d (parts:List ByteArray)(cs:List (List UInt8)):Nat→List ByteArray
 | 0=>[]
 | k+1=>z8d parts cs k++(if z7b (z8a parts k) then [z83 (z8a parts k) (z8b cs k)] else [])
def z8e (p:Pat)(cs:List (List UInt8)):Bool:=decide (p.parts.length≤cs.length) && (decide (p.parts.length<cs.length) == p.rest)
def z8f (p:Pat)(cs:List (List UInt8)):List ByteArray:=z8d p.parts cs p.parts.length++(if p.rest then [baL (Lib.join (cs.drop p.parts.length) [47])] else [])
def z8g (p:Pat)(s:ByteArray):Option (List ByteArray):=
 match z2v s.data.toList 2 with
 | none=>none
 | some cs=>if z7g p=0∧z8e p cs=true∧z8c p.parts cs p.parts.length=true then some (z8f p cs) else none
theorem z8h {parts:List ByteArray}{cs:List (List UInt8)}{k:Nat}:z8c parts cs (k+1)=(z8c parts cs k && z84 (z8a parts k) (z8b cs k)):=by
 unfold z8c;rw[List.range_succ,List.all_append];simp
theorem z8i {parts:List ByteArray}{cs:List (List UInt8)}{k n:Nat}(hk:k<n)(h:z84 (z8a parts k) (z8b cs k)=false):z8c parts cs n=false:=by
 unfold z8c;rw[List.all_eq_false];exact⟨k,List.mem_range.2 hk,by rw[h];simp⟩
def z8j (w:World)(p:Pat)(s:ByteArray)(e:Ending)(w':World):Prop:=∃ A n c,e=.returned (.tuple #[.slice A n c,.bool (z8g p s).isSome])∧zB w w'∧∀ l,z8g p s=some l→n=l.length∧Strs w' (.slice A n c) l
theorem z8k (s:ByteArray)(w:World)(he:Env w)(hs:s.size≤2000000):
  Calls prog 132 #[.string s] w fun e w'=>(z2v s.data.toList 2=none∧e=.returned (.tuple #[.slice none 0 0,.bool false])∧zB w w')∨∃ cs,z2v s.data.toList 2=some cs∧e=.returned (.tuple #[.slice (some ⟨w.heap.size,0,none⟩) cs.length cs.length,.bool true])∧w.alloc (.cells (z6x cs).toArray 9)=w':=by
 cases hd:z2v s.data.toList 2 with
 | none =>
  have H:=hd_ (z7a s w he hs hd);clear hd he;go_enter func132,ntmps132;go_wp2_with fail;refine H.out.mono ?_;rintro e w' ⟨rfl,hb⟩;have HB:=hd_ hb;clear hb;go_wp2_with fail;go_ret2;exact .inl ⟨by first | rfl | trivial,rfl,HB.out⟩
 | some cs =>
  have H:=hd_ (z79 s cs w he hs hd);clear hd he;generalize hW:w.alloc (.cells (z6x cs).toArray 9)=W at H;have HW:=hd_ hW;clear hW;go_enter func132,ntmps132;go_wp2_with fail;refine H.out.mono ?_;rintro e w' ⟨rfl,rfl⟩;go_wp2_with fail;go_ret2;exact .inr ⟨cs,rfl,rfl,HW.out⟩
def z9b (l:List ByteArray)(k:Nat):Nat:=((l.take k).filter z7b).length
def z9c (p:Pat):Nat:=(p.parts.filter z7b).length
theorem z9d {l:List ByteArray}{k:Nat}(h:k<l.length):z9b l (k+1)=z9b l k+if z7b l[k] then 1 else 0:=by
 unfold z9b;rw[List.take_succ_eq_append_getElem h,List.filter_append,List.length_append];congr 1
 cases h:z7b l[k]
 ·rw[List.filter_cons_of_neg (by rw[h];decide)];rfl
 ·rw[List.filter_cons_of_pos h];rfl
theorem z9e {p:Pat}:z9b p.parts p.parts.length=z9c p:=by unfold z9b z9c;rw[List.take_length]
theorem z9f {l:List ByteArray}:∀ k,z9b l k≤k:=fun k=>Nat.le_trans (List.length_filter_le ..) (List.length_take_le ..)
def z9g (w:World)(p:Pat)(e:Ending)(w':World):Prop:=∃ n:Int,∃ b:Bool,e=.returned (.tuple #[.int .i64 n,.bool b,.int .i64 (z7g p)])∧(z7g p=0→n=z9c p∧b=p.rest)∧zB w w'
theorem z9h (p:Pat)(A:Option Addr)(c:Nat)(w:World)(hS:Strs w (.slice A p.parts.length c) p.parts)(hz:∀ x∈p.parts,x.size≤maxLen):
  Calls prog 169 #[.agg #[.slice A p.parts.length c,.bool p.rest]] w (z9g w p):=by
 obtain⟨A',c',e',hcc,hmm,-⟩:=id hS;injection e' with e1 e2 e3
 subst e1 e3;unfold maxLen at hmm;have HS:=hd_ hS;have hB:=z0l w [.slice A p.parts.length c,.bool p.rest] 68;have hA:zB w (w.alloc (.cells #[.slice A p.parts.length c,.bool p.rest] 68)):=(Below.refl _ _).alloc (Nat.le_refl _) _;have HCK:=hd_ (fun X (hX:zB w X)=>z8p p A c X (hS.below hX) hz);clear hS hz e2;go_enter func169,ntmps169;go_upto_region 1 with fail;generalize w.alloc (.cells #[.slice A p.parts.length c,.bool p.rest] 68)=W1 at hB hA ⊢;have d0:W1.cell? ⟨w.heap.size,0,none⟩=some (.slice A p.parts.length c):=hB.cell 0;have d1:W1.cell? ⟨w.heap.size,1,none⟩=some (.bool p.rest):=hB.cell 1;have HC:=hd_ (HCK.out W1 hA);have HB:=hd_ hB;have HA:=hd_ hA;clear hB hA HCK;obtain⟨pe,hpe⟩:∃ pe,z7g p=pe:=⟨_,rfl⟩;have HPE:=hd_ hpe;rw[hpe] at HC;clear hpe;by_cases h0:pe=0
 case neg =>
  have q:(pe != 0)=true:=by simpa using h0
  have HR:Hid (z7g p≠0):=hd_ (by rw[HPE.out];exact h0)
  clear h0;go_wp2_with fail;refine HC.out.mono ?_;rintro e w2 ⟨rfl,hb⟩;have HB2:=hd_ (z0r HA.out hb);clear hb d0 d1;go_wp2_with fail;go_ret3
  exact⟨0,false,by rw[HPE.out];rfl,fun h=>absurd h HR.out,HB2.out⟩
 subst h0;go_wp2_with fail;refine HC.out.mono ?_;rintro e w2 ⟨rfl,hb⟩;have HB2:=hd_ (z0r HA.out hb);have hB2:=HB.out.below hb HB.out.lt;clear hb d0 d1;have d0:w2.cell? ⟨w.heap.size,0,none⟩=some (.slice A p.parts.length c):=hB2.cell 0;have d1:w2.cell? ⟨w.heap.size,1,none⟩=some (.bool p.rest):=hB2.cell 1;clear hB2 HC;go_wp2_with fail;go_loop [2,16] (fun s i=>∃ k:Nat,k≤p.parts.length∧i=.int .i64 k∧s=.int .i64 (z9b p.parts k)) (fun _ i=>p.parts.length - (intOf i).toNat)
 case atStart=>exact⟨0,Nat.zero_le _,rfl,rfl⟩
 case round =>
  obtain⟨k,hk,rfl,rfl⟩:=hrel;have hsl:=z9f (l:=p.parts) k;by_cases hlt:k<p.parts.length
  ·obtain⟨ad,rfl,hab,x0⟩:=Strs.at_ (HS.out.below HB2.out) hlt;have HT:=hd_ (fun X=>z7m p.parts[k] X);have HN:=hd_ (z9d hlt);generalize p.parts[k]=part at x0 HT HN;generalize z7b part=st at HT HN;generalize z9b p.parts k=m at HN hsl;clear hab;cases st with
   | false =>
    go_wp2_with (first
     | (go_at_call 135;refine (HT.out _).mono ?_;rintro e w' ⟨rfl,rfl⟩))
    go_round
    case rel=>exact⟨k+1,by omega,by go_num,by rw[HN.out];rfl⟩
    case measure=>simp [intOf];omega
   | true =>
    go_wp2_with (first
     | (go_at_call 135;refine (HT.out _).mono ?_;rintro e w' ⟨rfl,rfl⟩))
    go_round
    case rel=>exact⟨k+1,by omega,by go_num,by rw[HN.out];go_num⟩
    case measure=>simp [intOf];omega
  ·have hke:k=p.parts.length:=by omega
   subst hke;rw[z9e];go_wp2_with fail;go_region_law (fail)
   go_wp2_with fail;go_ret3
   exact⟨_,_,by rw[HPE.out];rfl,fun _=>⟨rfl,rfl⟩,HB2.out.drew⟩
