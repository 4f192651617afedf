/- A part. -/
import Derived.Test.YtijghobkkdbhnaaGreatDoorMgw8
import Derived.Test.YtijghobkkdbhnaaGreatDoorMgw6
import Derived.Test.YtijghobkkdbhnaaGreatDoorMgw7
set_option linter.unusedVariables false
set_option linter.unusedSimpArgs false
set_option maxHeartbeats 8000000
set_option maxRecDepth 100000
namespace Go.Proofs.YtijghobkkdbhnaaGreatDoor
open Go.Proofs.Tryz
open Go.RowKit
open Go.Sort (grow)
def z4b (w:World)(v:Value)(l:List Hav):Prop:=Row w 3 v l.length (l.flatMap Hav.cells)
def z4c (w:World)(a:Addr)(x:Hav):Prop:=w.cell? a=some (.string x.path)∧w.cell? ⟨a.block,a.off+1,none⟩=some (.int .i64 x.num)∧w.cell? ⟨a.block,a.off+2,none⟩=some (.string x.loc)
theorem z4b.at_ {w:World}{A:Option Addr}{c:Nat}{l:List Hav}(h:z4b w (.slice A l.length c) l){k:Nat}(hk:k<l.length):
  ∃ ad,A=some ad∧ad.block<w.heap.size∧z4c w (ad.add (k * 3)) l[k]:=by
 obtain⟨ad,e,hb,hc⟩:=z49 (f:=Hav.cells) (n:=3) (fun _=>rfl) h hk;exact⟨ad,e,hb,hc 0 _ rfl,hc 1 _ rfl,hc 2 _ rfl⟩
def z4d (p:Option Hav)(h:Hav):Bool:=match p with | none=>false | some q=>decide (0≤z2u q.path h.path)
theorem z4e (q h:Hav):z4d (some q) h=decide (0≤z2u q.path h.path):=rfl
def z4f:Option Hav→List ByteArray→List Hav→Int
 | _,_,[]=>0
 | p,s,h :: r=>if (!h.okB || z4d p h)=true then 340 else if h.loc∈s then 341 else z4f (some h) (h.loc :: s) r
def z4g (l:List Hav):Int:=if 1024<l.length then 342 else z4f none [] l
def z4h (s:List ByteArray):ByteArray→Option Unit:=fun x=>if x∈s then some () else none
def z4i:Unit→Value:=fun _=>.agg #[]
theorem z4j (a:ByteArray)(s:List ByteArray):z4h (a :: s)=upd (z4h s) a ():=by
 funext x;unfold z4h upd
 by_cases h:x=a
 ·rw[if_pos h,if_pos (by rw[h];exact List.mem_cons_self)]
 ·rw[if_neg h];show (if x∈a :: s then some () else none)=if x∈s then some () else none
  by_cases h2:x∈s
  ·rw[if_pos h2,if_pos (List.mem_cons_of_mem _ h2)]
  ·rw[if_neg h2,if_neg (by rintro (_ | ⟨_,h3⟩);exact h rfl;exact h2 h3)]
def z4k (l:List Hav):List ByteArray:=l.reverse.map Hav.loc
def z4l (l:List Hav):Option Hav:=l.getLast?
theorem z4m (l:List Hav)(x:Hav):z4k (l++[x])=x.loc :: z4k l:=by unfold z4k;simp
theorem z4n (l:List Hav)(x:Hav):z4l (l++[x])=some x:=by unfold z4l;simp
theorem z4o (l:List Hav)(v:Value)(w:World)(hR:z4b w v l)(hs:∀ x∈l,x.path.size≤140737488355328∧x.loc.size≤140737488355328):
  Calls prog 42 #[v] w fun e w'=>e=.returned (.int .i64 (z4g l))∧Below w.heap.size w w':=by
 obtain⟨A,c,rfl,hc,hm,-⟩:=id hR;have HR:=hd_ hR;have HS:=hd_ hs;clear hR hs;unfold maxLen at hm;by_cases h1:1024<l.length
 ·have HE:Hid (z4g l=342):=hd_ (if_pos h1);go_enter func42,ntmps42;go_wp2_with fail;go_ret;exact⟨z34 HE.out.symm,Below.refl _ _⟩
 have HE:Hid (z4g l=z4f none [] l):=hd_ (if_neg h1);have hmm:=@run_makeMap prog;have HM0:=hd_ (z2f.new Value.string z4i w);have HB0:=hd_ ((Below.refl w.heap.size w).alloc (Nat.le_refl _) (.map #[] 0));go_enter func42,ntmps42;go_wp2_with fail;go_loopw [14] (fun i wr=>∃ k:Nat,k≤l.length∧i=.int .i64 k∧Hid (z4f none [] l=z4f (z4l (l.take k)) (z4k (l.take k)) (l.drop k))∧Below w.heap.size w wr∧z2f Value.string z4i wr w.heap.size (z4h (z4k (l.take k)))) (fun i _=>l.length - (intOf i).toNat)
 case atStart=>exact⟨0,Nat.zero_le _,rfl,hd_ rfl,HB0.out,HM0.out⟩
 case round =>
  obtain⟨k,hk,rfl,HV,hb,hM⟩:=hrel;have hRr:=Row.below HR.out hb;by_cases hlt:k<l.length
  ·have hprev:k=0∨∃(j:Nat) (hj:j<l.length),k=j+1∧z4l (l.take k)=some l[j]:=by
    cases k with
    | zero=>exact .inl rfl
    | succ j=>exact .inr ⟨j,by omega,rfl,by rw[List.take_succ_eq_append_getElem (by omega),z4n]⟩
   obtain⟨ad,rfl,hab,hld⟩:=z4b.at_ hRr hlt;have hxs:=HS.out l[k] (List.getElem_mem _);have HT:=hd_ (show l.take (k+1)=l.take k++[l[k]] from List.take_succ_eq_append_getElem hlt);rw[List.drop_eq_getElem_cons hlt] at HV;generalize l[k]=x at hld hxs HT HV;obtain⟨x0,x1,x2⟩:=hld;have hbx:Below w.heap.size w (wr.alloc (.cells #[.string x.path,.int .i64 x.num,.string x.loc] 96)):=hb.alloc hb.size _;have hMx:=z2f.alloc hM (.cells #[.string x.path,.int .i64 x.num,.string x.loc] 96);obtain⟨c0,c1,c2⟩:=z3s (x:=x) (z0l wr [.string x.path,.int .i64 x.num,.string x.loc] 96);have HVAL:=hd_ (fun X=>z41 x X hxs.1 hxs.2);cases hok:x.okB
   ·have HO:Hid (z4g l=340):=hd_ (by rw[HE.out,HV.out,z4f,hok];rfl)
    rw[hok] at HVAL;clear hok hprev;have cV:∀ d os,Calls prog 88 #[.agg #[.string x.path,.int .i64 x.num,.string x.loc]] (grow (redrawn (wr.alloc (.cells #[.string x.path,.int .i64 x.num,.string x.loc] 96)) d) os) fun e w''=>e=.returned (.bool false)∧∃ p:Regrown,w''=grow (redrawn (wr.alloc (.cells #[.string x.path,.int .i64 x.num,.string x.loc] 96)) p.d) p.os:=fun d os=>Calls.regrown_of (by have hh:=HVAL.out (grow (redrawn (wr.alloc (.cells #[.string x.path,.int .i64 x.num,.string x.loc] 96)) d) os);exact hh)
    have m0:=cell_regrown c0;have m1:=cell_regrown c1;have m2:=cell_regrown c2;go_wp2_with fail;refine wp_region_quiet_below (by kernel_rfl) (by kernel_rfl) ?_
    repeat (first | go_big_quiet_step (exact cV _ _) | quiet_step (exact cV _ _))
    refine wpQuiet_nil ?_;intro _ hw9;obtain⟨⟨dq,osq⟩,hw9⟩:=hw9;subst hw9;have hS5:=below_regrown (wr.alloc (.cells #[.string x.path,.int .i64 x.num,.string x.loc] 96)) dq osq;have hb5:=z0q hbx hbx.size hS5;have hM5:=z2f.below hMx hS5;have d0:=cell_regrown c0 dq osq;have d1:=cell_regrown c1 dq osq;have d2:=cell_regrown c2 dq osq;generalize grow (redrawn (wr.alloc (.cells #[.string x.path,.int .i64 x.num,.string x.loc] 96)) dq) osq=W5 at hS5 hb5 hM5 d0 d1 d2 ⊢;go_wp2_with fail;go_ret;exact⟨z34 HO.out.symm,hb5⟩
   ·rw[hok] at HVAL;have cV:∀ d os,Calls prog 88 #[.agg #[.string x.path,.int .i64 x.num,.string x.loc]] (grow (redrawn (wr.alloc (.cells #[.string x.path,.int .i64 x.num,.string x.loc] 96)) d) os) fun e w''=>e=.returned (.bool true)∧∃ p:Regrown,w''=grow (redrawn (wr.alloc (.cells #[.string x.path,.int .i64 x.num,.string x.loc] 96)) p.d) p.os:=fun d os=>Calls.regrown_of (by have hh:=HVAL.out (grow (redrawn (wr.alloc (.cells #[.string x.path,.int .i64 x.num,.string x.loc] 96)) d) os);exact hh)
    have m0:=cell_regrown c0;have m1:=cell_regrown c1;have m2:=cell_regrown c2;rcases hprev with h0 | ⟨j,hj,hkj,hl⟩
    ·have HST:Hid (z4g l=if x.loc∈z4k (l.take k) then 341 else z4f (some x) (x.loc :: z4k (l.take k)) (l.drop (k+1))):=hd_ (by rw[HE.out,HV.out,z4f,hok,show z4l (l.take k)=none by rw[h0];rfl];rfl)
     have n0:decide (0<k)=false:=by simp;omega
     clear h0 hok;go_wp2_with fail;refine wp_region_quiet_below (by kernel_rfl) (by kernel_rfl) ?_
     repeat (first | go_big_quiet_step (exact cV _ _) | quiet_step (exact cV _ _))
     refine wpQuiet_nil ?_;intro _ hw9;obtain⟨⟨dq,osq⟩,hw9⟩:=hw9;subst hw9;have hS5:=below_regrown (wr.alloc (.cells #[.string x.path,.int .i64 x.num,.string x.loc] 96)) dq osq;have hb5:=z0q hbx hbx.size hS5;have hM5:=z2f.below hMx hS5;have d0:=cell_regrown c0 dq osq;have d1:=cell_regrown c1 dq osq;have d2:=cell_regrown c2 dq osq;generalize grow (redrawn (wr.alloc (.cells #[.string x.path,.int .i64 x.num,.string x.loc] 96)) dq) osq=W5 at hS5 hb5 hM5 d0 d1 d2 ⊢;by_cases hin:x.loc∈z4k (l.take k)
     ·have HO:Hid (z4g l=341):=hd_ (by rw[HST.out,if_pos hin])
      have hlk:=z2f.lookup (w:=W5) hM5 (z2d underlying9) underlying108 (z:=.agg #[]) (by rfl) x.loc true
      have hv:z2h z4i (.agg #[]) true (z4h (z4k (l.take k)) x.loc)=.tuple #[.agg #[],.bool true]:=by unfold z4h;rw[if_pos hin];rfl
      rw[hv] at hlk;clear hin hv;go_wp2_with fail;go_ret;exact⟨z34 HO.out.symm,hb5.alloc hb5.size _⟩
     ·have HO:=hd_ (HST.out.trans (if_neg hin));have hlk:=z2f.lookup (w:=W5) hM5 (z2d underlying9) underlying108 (z:=.agg #[]) (by rfl) x.loc true
      have hv:z2h z4i (.agg #[]) true (z4h (z4k (l.take k)) x.loc)=.tuple #[.agg #[],.bool false]:=by unfold z4h;rw[if_neg hin];rfl
      rw[hv] at hlk;have hM6:=z2f.alloc hM5 (.cells #[] 136);have hb6:Below w.heap.size w (W5.alloc (.cells #[] 136)):=hb5.alloc hb5.size _;obtain⟨w3,hup,hM3,hg3,hs3⟩:=z2f.update (w:=W5.alloc (.cells #[] 136)) hM6 (z2d underlying9) underlying108 x.loc ();have hup':(Instr.mapUpdate 108 (.map (some w.heap.size)) (.string x.loc) (.agg #[])).run prog (W5.alloc (.cells #[] 136))=.ok () w3:=hup;have hb7:Below w.heap.size w w3:=hb6.trans ⟨hg3.os,hg3.tape,hg3.output,hg3.size,fun q hq=>hg3.block q (Nat.lt_of_lt_of_le hq hb6.size) (by intro e;injection e with e;omega)⟩
      have f2:=(((Below.refl W5.heap.size W5).alloc (Nat.le_refl _) (.cells #[] 136)).cell (block_lt_of_cell d2)).trans d2;clear hin hv hup;go_wp2_with fail;go_roundw
      case rel=>exact⟨k+1,by omega,by go_num,hd_ (by rw[HT.out,z4n,z4m,← HE.out];exact HO.out),hb7,by rw[HT.out,z4m,z4j];exact hM3⟩
      case measure=>simp [intOf];omega
    ·obtain⟨ad2,had,hab2,hl2⟩:=z4b.at_ hRr hj;injection had with had
     subst had;have hys:=HS.out l[j] (List.getElem_mem _);generalize l[j]=y at hl hl2 hys;obtain⟨y0,y1,y2⟩:=hl2;have hba:=(Below.refl wr.heap.size wr).alloc (Nat.le_refl _) (.cells #[.string x.path,.int .i64 x.num,.string x.loc] 96);have e0:=cell_regrown ((hba.cell (show (ad.add (j * 3)).block<wr.heap.size from block_lt_of_cell y0)).trans y0);have e1:=cell_regrown ((hba.cell (p:=⟨(ad.add (j * 3)).block,(ad.add (j * 3)).off+1,none⟩) (block_lt_of_cell y1)).trans y1);have e2:=cell_regrown ((hba.cell (p:=⟨(ad.add (j * 3)).block,(ad.add (j * 3)).off+2,none⟩) (block_lt_of_cell y2)).trans y2);have n0:decide (0<k)=true:=by simp;omega
     have n1:(k:Int) - 1=(j:Int):=by omega
     have HCMP:=hd_ (fun X=>z42 y x X hys.1 hxs.1);have cC:∀ d os,Calls prog 89 #[.agg #[.string y.path,.int .i64 y.num,.string y.loc],.agg #[.string x.path,.int .i64 x.num,.string x.loc]] (grow (redrawn (wr.alloc (.cells #[.string x.path,.int .i64 x.num,.string x.loc] 96)) d) os) fun e w''=>e=.returned (.int .i64 (z2u y.path x.path))∧∃ p:Regrown,w''=grow (redrawn (wr.alloc (.cells #[.string x.path,.int .i64 x.num,.string x.loc] 96)) p.d) p.os:=fun d os=>Calls.regrown_of (by have hh:=HCMP.out (grow (redrawn (wr.alloc (.cells #[.string x.path,.int .i64 x.num,.string x.loc] 96)) d) os);exact hh)
     generalize hcv:z2u y.path x.path=cv at cC;by_cases hge:0≤cv
     ·have HO:Hid (z4g l=340):=hd_ (by rw[HE.out,HV.out,z4f,hok,hl,z4e,hcv,decide_eq_true hge];rfl)
      have n2:decide ((0:Int)≤cv)=true:=decide_eq_true hge;clear hcv hok hl hkj hge;go_wp2_with fail;refine wp_region_quiet_below (by kernel_rfl) (by kernel_rfl) ?_
      repeat (first | go_big_quiet_step (first | exact cV _ _ | exact cC _ _) | quiet_step (first | exact cV _ _ | exact cC _ _))
      refine wpQuiet_nil ?_;intro _ hw9;obtain⟨⟨dq,osq⟩,hw9⟩:=hw9;subst hw9;have hS5:=below_regrown (wr.alloc (.cells #[.string x.path,.int .i64 x.num,.string x.loc] 96)) dq osq;have hb5:=z0q hbx hbx.size hS5;have hM5:=z2f.below hMx hS5;have d0:=cell_regrown c0 dq osq;have d1:=cell_regrown c1 dq osq;have d2:=cell_regrown c2 dq osq;generalize grow (redrawn (wr.alloc (.cells #[.string x.path,.int .i64 x.num,.string x.loc] 96)) dq) osq=W5 at hS5 hb5 hM5 d0 d1 d2 ⊢;go_wp2_with fail;go_ret;exact⟨z34 HO.out.symm,hb5⟩
     ·have HST:Hid (z4g l=if x.loc∈z4k (l.take k) then 341 else z4f (some x) (x.loc :: z4k (l.take k)) (l.drop (k+1))):=hd_ (by rw[HE.out,HV.out,z4f,hok,hl,show z4d (some y) x=false by rw[z4e,hcv,decide_eq_false hge]];rfl)
      have n2:decide ((0:Int)≤cv)=false:=decide_eq_false hge;clear hcv hok hl hkj hge;go_wp2_with fail;refine wp_region_quiet_below (by kernel_rfl) (by kernel_rfl) ?_
      repeat (first | go_big_quiet_step (first | exact cV _ _ | exact cC _ _) | quiet_step (first | exact cV _ _ | exact cC _ _))
      refine wpQuiet_nil ?_;intro _ hw9;obtain⟨⟨dq,osq⟩,hw9⟩:=hw9;subst hw9;have hS5:=below_regrown (wr.alloc (.cells #[.string x.path,.int .i64 x.num,.string x.loc] 96)) dq osq;have hb5:=z0q hbx hbx.size hS5;have hM5:=z2f.below hMx hS5;have d0:=cell_regrown c0 dq osq;have d1:=cell_regrown c1 dq osq;have d2:=cell_regrown c2 dq osq;generalize grow (redrawn (wr.alloc (.cells #[.string x.path,.int .i64 x.num,.string x.loc] 96)) dq) osq=W5 at hS5 hb5 hM5 d0 d1 d2 ⊢;by_cases hin:x.loc∈z4k (l.take k)
      ·have HO:Hid (z4g l=341):=hd_ (by rw[HST.out,if_pos hin])
       have hlk:=z2f.lookup (w:=W5) hM5 (z2d underlying9) underlying108 (z:=.agg #[]) (by rfl) x.loc true
       have hv:z2h z4i (.agg #[]) true (z4h (z4k (l.take k)) x.loc)=.tuple #[.agg #[],.bool true]:=by unfold z4h;rw[if_pos hin];rfl
       rw[hv] at hlk;clear hin hv;go_wp2_with fail;go_ret;exact⟨z34 HO.out.symm,hb5.alloc hb5.size _⟩
      ·have HO:=hd_ (HST.out.trans (if_neg hin));have hlk:=z2f.lookup (w:=W5) hM5 (z2d underlying9) underlying108 (z:=.agg #[]) (by rfl) x.loc true
       have hv:z2h z4i (.agg #[]) true (z4h (z4k (l.take k)) x.loc)=.tuple #[.agg #[],.bool false]:=by unfold z4h;rw[if_neg hin];rfl
       rw[hv] at hlk;have hM6:=z2f.alloc hM5 (.cells #[] 136);have hb6:Below w.heap.size w (W5.alloc (.cells #[] 136)):=hb5.alloc hb5.size _;obtain⟨w3,hup,hM3,hg3,hs3⟩:=z2f.update (w:=W5.alloc (.cells #[] 136)) hM6 (z2d underlying9) underlying108 x.loc ();have hup':(Instr.mapUpdate 108 (.map (some w.heap.size)) (.string x.loc) (.agg #[])).run prog (W5.alloc (.cells #[] 136))=.ok () w3:=hup;have hb7:Below w.heap.size w w3:=hb6.trans ⟨hg3.os,hg3.tape,hg3.output,hg3.size,fun q hq=>hg3.block q (Nat.lt_of_lt_of_le hq hb6.size) (by intro e;injection e with e;omega)⟩
       have f2:=(((Below.refl W5.heap.size W5).alloc (Nat.le_refl _) (.cells #[] 136)).cell (block_lt_of_cell d2)).trans d2;clear hin hv hup;go_wp2_with fail;go_roundw
       case rel=>exact⟨k+1,by omega,by go_num,hd_ (by rw[HT.out,z4n,z4m,← HE.out];exact HO.out),hb7,by rw[HT.out,z4m,z4j];exact hM3⟩
       case measure=>simp [intOf];omega
  ·go_wp2_with fail;have H0:Hid (z4g l=0):=hd_ (by rw[HE.out,HV.out,List.drop_of_length_le (by omega)];rfl)
   go_ret;exact⟨z34 H0.out.symm,hb⟩
def z4s (x:Syn):List Hav:=if x.dst=z2l then [] else [⟨x.path,x.num,x.dst⟩]
def z4t (x:Syn):List Hav:=if z3o x.kind then [] else z4s x
def z4u (p:ByteArray):List Syn→List Hav
 | []=>[]
 | x :: r=>if z2u x.path p<0 then z4t x++z4u p r else []
def z4v (p:ByteArray):List Syn→List Syn
 | []=>[]
 | x :: r=>if z2u x.path p<0 then z4v p r else x :: r
def z4w (h:Hav):List Syn→List Hav
 | []=>[h]
 | x :: r=>if x.path=h.path then (if z3o x.kind then [h] else z4s x) else [h]
def z4x (h:Hav):List Syn→List Syn
 | []=>[]
 | x :: r=>if x.path=h.path then r else x :: r
def z4y:List Hav→List Syn→List Hav
 | [],ps=>ps.flatMap z4t
 | h :: hs,ps=>z4u h.path ps++z4w h (z4v h.path ps)++z4y hs (z4x h (z4v h.path ps))
def z4z (w:World)(v:Value)(l:List Syn):Prop:=Row w 5 v l.length (l.flatMap Syn.cells)
def z50 (w:World)(a:Addr)(x:Syn):Prop:=w.cell? a=some (.int .i64 x.kind)∧w.cell? ⟨a.block,a.off+1,none⟩=some (.string x.path)∧w.cell? ⟨a.block,a.off+2,none⟩=some (.int .i64 x.num)∧w.cell? ⟨a.block,a.off+3,none⟩=some (.string x.frm)∧w.cell? ⟨a.block,a.off+4,none⟩=some (.string x.dst)
theorem z4z.at_ {w:World}{A:Option Addr}{c:Nat}{l:List Syn}(h:z4z w (.slice A l.length c) l){k:Nat}(hk:k<l.length):
  ∃ ad,A=some ad∧ad.block<w.heap.size∧z50 w (ad.add (k * 5)) l[k]:=by
 obtain⟨ad,e,hb,hc⟩:=z49 (f:=Syn.cells) (n:=5) (fun _=>rfl) h hk;exact⟨ad,e,hb,hc 0 _ rfl,hc 1 _ rfl,hc 2 _ rfl,hc 3 _ rfl,hc 4 _ rfl⟩
theorem z4z.head {w:World}{A:Option Addr}{c n:Nat}{x:Syn}{r:List Syn}(h:z4z w (.slice A n c) (x :: r)):
  n=r.length+1∧∃ ad,A=some ad∧ad.block<w.heap.size∧z50 w ad x:=by
 have hn:n=(x :: r).length:=by obtain⟨A',c',e,-⟩:=id h;injection e
 subst hn;obtain⟨ad,e,hb,hc⟩:=z4z.at_ (k:=0) h (by simp)
 refine⟨rfl,ad,e,hb,?_⟩;have:ad.add (0 * 5)=ad:=by unfold Addr.add;simp
 rw[this] at hc;exact hc
theorem z4z.below {w w':World}{v:Value}{l:List Syn}(h:z4z w v l)(hb:Below w.heap.size w w'):z4z w' v l:=Row.below h hb
theorem z4b.below {w w':World}{v:Value}{l:List Hav}(h:z4b w v l)(hb:Below w.heap.size w w'):z4b w' v l:=Row.below h hb
theorem z52 (w:World):(sizeOf 50).run prog w=.ok 5 w:=by kernel_rfl
theorem z4z.tail {w:World}{A:Option Addr}{c n:Nat}{x:Syn}{r:List Syn}(h:z4z w (.slice A n c) (x :: r)):
  ∃ A' c',(Instr.sliceAt 43 (.slice A n c) (some (.int .i64 1)) none none).run prog w=.ok (.slice A' r.length c') w∧z4z w (.slice A' r.length c') r:=by
 have hn:n=(x :: r).length:=by obtain⟨A',c',e,-⟩:=id h;injection e
 subst hn;obtain⟨A',c',h1,h2⟩:=z0b (P:=prog) (w:=w) (x:=1) (kx:=.i64) (lo:=1) underlying43 z52 h (by simp) rfl
 exact⟨A',c',h1,h2⟩
theorem z54:z0e prog 28 96 3 40:=z0f underlying28 (z:=.agg #[.string ⟨#[]⟩,.int .i64 0,.string ⟨#[]⟩]) (by kernel_rfl) rfl (by decide)
structure Aft (w0 w:World)(b:Nat)(l:List Hav)(v:Value):Prop where
 bel:Below b w0 w
 box:Blk w b 28 [v]
 row:w.ownsRow (b+1) 96 3 v l.length (l.flatMap Hav.cells)
def Kp (b:Nat)(w w':World)(v v':Value):Prop:=w.heap.size≤w'.heap.size∧∀ k,k<w.heap.size→k≠b→v.ownBlock≠some k→w'.heap[k]? = w.heap[k]?∧v'.ownBlock≠some k
theorem Kp.refl (b:Nat)(w:World)(v:Value):Kp b w w v v:=⟨Nat.le_refl _,fun k _ _ h=>⟨rfl,h⟩⟩
theorem Kp.below {b:Nat}{w w':World}{v:Value}(h:Below w.heap.size w w'):Kp b w w' v v:=⟨h.size,fun k hk _ h2=>⟨h.block k hk,h2⟩⟩
theorem Kp.trans {b:Nat}{w w' w2:World}{v v' v2:Value}(h:Kp b w w' v v')(h2:Kp b w' w2 v' v2):Kp b w w2 v v2:=
 ⟨Nat.le_trans h.1 h2.1,fun k hk hb hv=>by
  obtain⟨a1,a2⟩:=h.2 k hk hb hv;obtain⟨c1,c2⟩:=h2.2 k (Nat.lt_of_lt_of_le hk h.1) hb a2;exact⟨c1.trans a1,c2⟩⟩
theorem Kp.blk {b g:Nat}{w w':World}{v v':Value}{e:TypeId}{cs:List Value}(h:Kp b w w' v v')(hB:Blk w g e cs)(hg:g≠b)(hv:v.ownBlock≠some g):Blk w' g e cs∧v'.ownBlock≠some g:=by
 obtain⟨a1,a2⟩:=h.2 g hB.lt hg hv;exact⟨a1.trans hB,a2⟩
theorem Aft.under {w0 w X:World}{b:Nat}{l:List Hav}{v:Value}(h:Aft w0 w b l v)(hX:Below w.heap.size w X):Aft w0 X b l v:=
 ⟨h.bel.trans (hX.mono (Nat.le_of_lt h.box.lt)),h.box.below hX h.box.lt,z0n h.row hX⟩
theorem z55 (x:Hav):∀ v∈x.cells,v.oneCell'=true:=by
 intro v hv;simp only[Hav.cells,List.mem_cons,List.not_mem_nil,or_false] at hv
 rcases hv with rfl | rfl | rfl <;> rfl
theorem z56 {α β:Type}(f:α→List β)(l:List α)(x:α):(l++[x]).flatMap f=l.flatMap f++f x:=by simp
theorem Aft.push {w0 w w2:World}{b:Nat}{l:List Hav}{v:Value}{x:Hav}{A':Option Addr}{c':Nat}(h:Aft w0 w b l v)
  (hown:w2.ownsRow (b+1) 96 3 (.slice A' (l.length+1) c') (l.length+1) (l.flatMap Hav.cells++x.cells)) (hgr:w.grownBy w2 v.ownBlock)
  (hob:(Value.slice A' (l.length+1) c').ownBlock=v.ownBlock∨(Value.slice A' (l.length+1) c').ownBlock=some w.heap.size):
  Aft w0 (w2.setCell ⟨b,0,none⟩ (.slice A' (l.length+1) c')) b (l++[x]) (.slice A' (l.length+1) c')∧Kp b w (w2.setCell ⟨b,0,none⟩ (.slice A' (l.length+1) c')) v (.slice A' (l.length+1) c'):=by
 have hl:=h.box.lt;have hb1:∀ k,v.ownBlock=some k→b<k:=fun k e=>by have:=(h.row.lt k e).1;omega
 have hbx:some b≠v.ownBlock:=fun e=>by have:=hb1 b e.symm;omega
 have hbel:Below b w0 w2:=h.bel.grown hgr (Nat.le_of_lt hl) (fun k e=>by have:=hb1 k e;omega)
 have hne:(Value.slice A' (l.length+1) c').ownBlock≠some b:=by
  rcases hob with e | e
  ·rw[e];exact fun e=>hbx e.symm
  ·rw[e];intro e2;injection e2 with e2;omega
 refine⟨⟨hbel.setCell (p:=⟨b,0,none⟩) (Nat.le_refl _) _,(Blk.grown h.box hgr hbx).set_ 0 _,?_⟩,?_,fun k hk hkb hv=>⟨?_,?_⟩⟩
 ·rw[List.length_append,List.length_singleton,z56];exact z4r hown (p:=⟨b,0,none⟩) hne _
 ·simpa using hgr.size
 ·rw[Below.heap_setCell w2 _ _ k hkb];exact hgr.block k hk (fun e=>hv e.symm)
 ·rcases hob with e | e
  ·rw[e];exact hv
  ·rw[e];intro e2;injection e2 with e2;omega
theorem Aft.alloc {w0 w:World}{b:Nat}{l:List Hav}{v:Value}(h:Aft w0 w b l v)(o:Obj):Aft w0 (w.alloc o) b l v:=h.under ((Below.refl _ _).alloc (Nat.le_refl _) _)
theorem z57 {x:Syn}(h:x.dst=z2l):z4s x=[]:=if_pos h
theorem addS_no {x:Syn}(h:¬ x.dst=z2l):z4s x=[⟨x.path,x.num,x.dst⟩]:=if_neg h
theorem z58 (x:Syn)(w0 w:World)(b:Nat)(l:List Hav)(v:Value)(hA:Aft w0 w b l v)(hl:(l.length+1) * 40≤140737488355328):
  Calls prog 91 #[.agg #[.int .i64 x.kind,.string x.path,.int .i64 x.num,.string x.frm,.string x.dst],.pointer (some ⟨b,0,none⟩)] w fun e w'=>e=.returned (.tuple #[])∧∃ v',Aft w0 w' b (l++z4s x) v'∧Kp b w w' v v':=by
 have hA1:=hA.alloc (.cells #[.int .i64 x.kind,.string x.path,.int .i64 x.num,.string x.frm,.string x.dst] 50);have hK1:Kp b w (w.alloc (.cells #[.int .i64 x.kind,.string x.path,.int .i64 x.num,.string x.frm,.string x.dst] 50)) v v:=Kp.below ((Below.refl _ _).alloc (Nat.le_refl _) _);have hS:=z0l w [.int .i64 x.kind,.string x.path,.int .i64 x.num,.string x.frm,.string x.dst] 50;by_cases h1:x.dst=z2l
 ·have HK:=hd_ (z57 h1);obtain⟨s1,s2⟩:=z3v h1;have HA:=hd_ hA1;have HKp:=hd_ hK1;clear h1 hA hA1 hK1 hS;go_enter func91,ntmps91;go_wp2_with fail;go_end0
  exact⟨rfl,_,by rw[HK.out,List.append_nil];exact HA.out,HKp.out⟩
 ·have HK:=hd_ (addS_no h1);obtain⟨s1,s2⟩:=z3w h1;obtain⟨s3,s4,s5,s6,s7⟩:=z3r (x:=x) hS;have hbx:(w.alloc (.cells #[.int .i64 x.kind,.string x.path,.int .i64 x.num,.string x.frm,.string x.dst] 50)).cell? ⟨b,0,none⟩=some v:=hA1.box.cell 0;have hA2:=hA1.alloc (.cells #[.string x.path,.int .i64 x.num,.string x.dst] 96);have hK2:Kp b w ((w.alloc (.cells #[.int .i64 x.kind,.string x.path,.int .i64 x.num,.string x.frm,.string x.dst] 50)).alloc (.cells #[.string x.path,.int .i64 x.num,.string x.dst] 96)) v v:=Kp.below (((Below.refl _ _).alloc (Nat.le_refl _) _).alloc (by simp) _)
  have hrow:=z0i (w.alloc (.cells #[.int .i64 x.kind,.string x.path,.int .i64 x.num,.string x.frm,.string x.dst] 50)) [.string x.path,.int .i64 x.num,.string x.dst] 96 3 1 rfl (by unfold maxLen;omega) (w.heap.size+1) (by simp)
  obtain⟨A0,c0,rfl⟩:=z0o hA.row;have hsz:b+1≤((w.alloc (.cells #[.int .i64 x.kind,.string x.path,.int .i64 x.num,.string x.frm,.string x.dst] 50)).alloc (.cells #[.string x.path,.int .i64 x.num,.string x.dst] 96)).heap.size:=by have:=hA.box.lt;simp;omega
  clear h1 hA hA1 hK1 hS;go_enter func91,ntmps91;go_wp2_with (at_builtin;refine z0j rfl rfl z54 hA2.row rfl hrow rfl (z55 ⟨x.path,x.num,x.dst⟩) hl (by unfold maxLen;omega) hsz ?_;intro A' c' w2 hown hgr hob;obtain⟨hA3,hK3⟩:=hA2.push (x:=⟨x.path,x.num,x.dst⟩) hown hgr hob;have hbw:=Blk.grown hA2.box hgr (fun e=>by have:=(hA2.row.lt b e.symm).1;omega);have hfz:=hbw.frozen 0;have hcl:w2.cell? ⟨b,0,none⟩=some (.slice A0 l.length c0):=hbw.cell 0)
  go_end0
  exact⟨rfl,_,by rw[HK.out];exact hA3,hK2.trans hK3⟩
section
variable {α : Type} {k : α → ByteArray}
def z5x (k:α→ByteArray)(l:List α):Prop:=l.Pairwise (fun a b=>z2u (k a) (k b)<0)
def z5y (k:α→ByteArray)(l:List α)(p:ByteArray):Option α:=l.find? (fun a=>decide (k a=p))
theorem z5z {a b:ByteArray}(h:z2u a b<0):a≠b:=fun e=>by rw[e,z5e] at h;omega
theorem z60 {a b:ByteArray}(h:z2u a b<0):¬ z2u b a<0:=by rw[z5q];omega
theorem z5x.tail {a:α}{l:List α}(h:z5x k (a :: l)):z5x k l:=(List.pairwise_cons.1 h).2
theorem z5x.head {a:α}{l:List α}(h:z5x k (a :: l)):∀ b∈l,z2u (k a) (k b)<0:=(List.pairwise_cons.1 h).1
theorem z61 {l:List α}{p:ByteArray}{a:α}(h:z5y k l p=some a):a∈l∧k a=p:=
 ⟨List.mem_of_find?_eq_some h,by simpa using List.find?_some h⟩
theorem z62 {l:List α}{p:ByteArray}:z5y k l p=none↔∀ a∈l,k a≠p:=by
 unfold z5y;rw[List.find?_eq_none];simp
theorem z63 (a:α)(l:List α)(p:ByteArray):z5y k (a :: l) p=if k a=p then some a else z5y k l p:=by
 unfold z5y;rw[List.find?_cons];by_cases h:k a=p
 ·rw[if_pos h,decide_eq_true h]
 ·rw[if_neg h,decide_eq_false h]
theorem z64 (l m:List α)(p:ByteArray):z5y k (l++m) p=(z5y k l p).or (z5y k m p):=by
 unfold z5y;exact List.find?_append ..
theorem z65 {l:List α}(h:z5x k l){a:α}(ha:a∈l):z5y k l (k a)=some a:=by
 induction l with
 | nil=>cases ha
 | cons b l ih =>
  rw[z63];by_cases e:k b=k a
  ·rw[if_pos e];rcases List.mem_cons.1 ha with rfl | ha
   ·rfl
   ·exact absurd e (z5z (h.head a ha))
  ·rw[if_neg e];rcases List.mem_cons.1 ha with rfl | ha
   ·exact absurd rfl e
   ·exact ih h.tail ha
theorem z66 {l m:List α}(hl:z5x k l)(hm:z5x k m)(h:∀ a,a∈l↔a∈m):l=m:=by
 induction l generalizing m with
 | nil =>
  cases m with
  | nil=>rfl
  | cons b m=>exact absurd ((h b).2 (List.mem_cons_self ..)) (by simp)
 | cons a l ih =>
  cases m with
  | nil=>exact absurd ((h a).1 (List.mem_cons_self ..)) (by simp)
  | cons b m =>
   have hab:a=b:=by
    rcases List.mem_cons.1 ((h a).1 (List.mem_cons_self ..)) with e | h1
    ·exact e
    ·rcases List.mem_cons.1 ((h b).2 (List.mem_cons_self ..)) with e | h2
     ·exact e.symm
     ·exact absurd (hm.head a h1) (z60 (hl.head b h2))
   subst hab;congr 1
   refine ih hl.tail hm.tail fun x=>⟨fun hx=>?_,fun hx=>?_⟩
   ·rcases List.mem_cons.1 ((h x).1 (List.mem_cons_of_mem _ hx)) with rfl | h1
    ·exact absurd rfl (z5z (hl.head _ hx))
    ·exact h1
   ·rcases List.mem_cons.1 ((h x).2 (List.mem_cons_of_mem _ hx)) with rfl | h1
    ·exact absurd rfl (z5z (hm.head _ hx))
    ·exact h1
theorem z67 {l m:List α}(hl:z5x k l)(hm:z5x k m)(h:∀ p,z5y k l p=z5y k m p):l=m:=
 z66 hl hm fun a=>⟨fun ha=>(z61 ((h (k a)).symm.trans (z65 hl ha))).1,fun ha=>(z61 ((h (k a)).trans (z65 hm ha))).1⟩
theorem z68 {l m:List α}(hl:z5x k l)(hm:z5x k m)(h:∀ a∈l,∀ b∈m,z2u (k a) (k b)<0):z5x k (l++m):=List.pairwise_append.2 ⟨hl,hm,h⟩
theorem z69 {β:Type}{kb:β→ByteArray}{f:α→β}{l:List α}(h:z5x k l)(hf:∀ a,kb (f a)=k a):z5x kb (l.map f):=by
 unfold z5x;rw[List.pairwise_map];exact h.imp fun {a b} hab=>by rw[hf,hf];exact hab
theorem z6a {β:Type}{kb:β→ByteArray}{f:α→β}(hf:∀ a,kb (f a)=k a)(l:List α)(p:ByteArray):z5y kb (l.map f) p=(z5y k l p).map f:=by
 induction l with
 | nil=>rfl
 | cons a l ih =>
  rw[List.map_cons,z63,z63,hf];split
  ·rfl
  ·exact ih
theorem z6b {l:List α}(h:z5x k l)(f:α→Bool):z5x k (l.filter f):=h.sublist List.filter_sublist
end
abbrev z6c:=z5x Hav.path
abbrev z6d:=z5x Syn.path
abbrev z6e:=z5y Hav.path
abbrev z6f:=z5y Syn.path
def z6g (w:Hav):Syn:=⟨0,w.path,w.num,z2l,w.loc⟩
def z6h (h:Hav):Syn:=⟨0,h.path,0,h.loc,z2l⟩
def updT (h w:Hav):Syn:=⟨0,w.path,w.num,h.loc,w.loc⟩
instance:DecidableEq Hav:=fun a b=>by
 cases a;cases b
 rw[Hav.mk.injEq];exact inferInstance
def z6i:Nat→List Hav→List Hav→List Syn
 | 0,_,_=>[]
 | _+1,[],[]=>[]
 | n+1,h :: hs,[]=>z6h h :: z6i n hs []
 | n+1,[],w :: ws=>z6g w :: z6i n [] ws
 | n+1,h :: hs,w :: ws=>if z2u h.path w.path<0 then z6h h :: z6i n hs (w :: ws) else if 0<z2u h.path w.path then z6g w :: z6i n (h :: hs) ws else (if h=w then [] else [updT h w])++z6i n hs ws
def z6j (h w:Option Hav):Option Syn:=
 match h,w with
 | none,none=>none
 | some h,none=>some (z6h h)
 | none,some w=>some (z6g w)
 | some h,some w=>if h=w then none else some (updT h w)
theorem z6k:∀(n:Nat) (hs ws:List Hav) (x:Syn),x∈z6i n hs ws→(∃ h∈hs,h.path=x.path)∨∃ w∈ws,w.path=x.path
 | 0,_,_,x,h=>by simp [z6i] at h
 | _+1,[],[],x,h=>by simp [z6i] at h
 | n+1,h :: hs,[],x,hx=>by
  simp only[z6i,List.mem_cons] at hx
  rcases hx with rfl | hx
  ·exact .inl ⟨h,List.mem_cons_self ..,rfl⟩
  ·rcases z6k n hs [] x hx with⟨y,hy,e⟩ | ⟨y,hy,e⟩
   ·exact .inl ⟨y,List.mem_cons_of_mem _ hy,e⟩
   ·cases hy
 | n+1,[],w :: ws,x,hx=>by
  simp only[z6i,List.mem_cons] at hx
  rcases hx with rfl | hx
  ·exact .inr ⟨w,List.mem_cons_self ..,rfl⟩
  ·rcases z6k n [] ws x hx with⟨y,hy,e⟩ | ⟨y,hy,e⟩
   ·cases hy
   ·exact .inr ⟨y,List.mem_cons_of_mem _ hy,e⟩
 | n+1,h :: hs,w :: ws,x,hx=>by
  simp only[z6i] at hx
  split at hx
  ·rcases List.mem_cons.1 hx with rfl | hx
   ·exact .inl ⟨h,List.mem_cons_self ..,rfl⟩
   ·rcases z6k n hs (w :: ws) x hx with⟨y,hy,e⟩ | ⟨y,hy,e⟩
    ·exact .inl ⟨y,List.mem_cons_of_mem _ hy,e⟩
    ·exact .inr ⟨y,hy,e⟩
  ·split at hx
   ·rcases List.mem_cons.1 hx with rfl | hx
    ·exact .inr ⟨w,List.mem_cons_self ..,rfl⟩
    ·rcases z6k n (h :: hs) ws x hx with⟨y,hy,e⟩ | ⟨y,hy,e⟩
     ·exact .inl ⟨y,hy,e⟩
     ·exact .inr ⟨y,List.mem_cons_of_mem _ hy,e⟩
   ·rcases List.mem_append.1 hx with hx | hx
    ·split at hx
     ·cases hx
     ·rw[List.mem_singleton] at hx;subst hx;exact .inr ⟨w,List.mem_cons_self ..,rfl⟩
    ·rcases z6k n hs ws x hx with⟨y,hy,e⟩ | ⟨y,hy,e⟩
     ·exact .inl ⟨y,List.mem_cons_of_mem _ hy,e⟩
     ·exact .inr ⟨y,List.mem_cons_of_mem _ hy,e⟩
theorem z6l {a b:ByteArray}(ha:z2s a=true)(hb:z2s b=true)(h1:¬ z2u a b<0)(h2:¬ 0<z2u a b):a=b:=z5r ha hb (by omega)
theorem z6m:∀(n:Nat) (hs ws:List Hav),hs.length+ws.length≤n→z6c hs→z6c ws→(∀ x∈hs,z2s x.path=true)→(∀ x∈ws,z2s x.path=true) →
  z6d (z6i n hs ws)∧∀ p,z6f (z6i n hs ws) p=z6j (z6e hs p) (z6e ws p)
 | 0,hs,ws,hn,_,_,_,_=>by
  have e1:hs=[]:=List.eq_nil_of_length_eq_zero (by omega)
  have e2:ws=[]:=List.eq_nil_of_length_eq_zero (by omega)
  subst e1 e2;exact⟨List.Pairwise.nil,fun p=>rfl⟩
 | _+1,[],[],_,_,_,_,_=>⟨List.Pairwise.nil,fun p=>rfl⟩
 | n+1,h :: hs,[],hn,h1,h2,v1,v2=>by
  obtain⟨i1,i2⟩:=z6m n hs [] (by simp at hn ⊢;omega) h1.tail h2 (fun x hx=>v1 x (List.mem_cons_of_mem _ hx)) v2
  simp only[z6i]
  refine⟨List.pairwise_cons.2 ⟨fun x hx=>?_,i1⟩,fun p=>?_⟩
  ·rcases z6k _ _ _ _ hx with⟨y,hy,e⟩ | ⟨y,hy,e⟩
   ·rw[← e];exact h1.head y hy
   ·cases hy
  ·show z5y Syn.path _ p=_
   rw[z63];show _=z6j (z5y Hav.path (h :: hs) p) (z5y Hav.path [] p)
   rw[z63];show (if h.path=p then _ else _)=_
   split
   ·rfl
   ·exact i2 p
 | n+1,[],w :: ws,hn,h1,h2,v1,v2=>by
  obtain⟨i1,i2⟩:=z6m n [] ws (by simp at hn ⊢;omega) h1 h2.tail v1 (fun x hx=>v2 x (List.mem_cons_of_mem _ hx))
  simp only[z6i]
  refine⟨List.pairwise_cons.2 ⟨fun x hx=>?_,i1⟩,fun p=>?_⟩
  ·rcases z6k _ _ _ _ hx with⟨y,hy,e⟩ | ⟨y,hy,e⟩
   ·cases hy
   ·rw[← e];exact h2.head y hy
  ·show z5y Syn.path _ p=_
   rw[z63];show _=z6j (z5y Hav.path [] p) (z5y Hav.path (w :: ws) p)
   rw[z63];show (if w.path=p then _ else _)=_
   split
   ·rfl
   ·exact i2 p
 | n+1,h :: hs,w :: ws,hn,h1,h2,v1,v2=>by
  have vh:=v1 h (List.mem_cons_self ..);have vw:=v2 w (List.mem_cons_self ..);have tr:∀ {a b c:ByteArray},z2s a=true→z2s b=true→z2s c=true→z2u a b<0→z2u b c<0→z2u a c<0:=fun x y z=>z5f x y z;simp only[z6i]
  by_cases c1:z2u h.path w.path<0
  ·rw[if_pos c1];obtain⟨i1,i2⟩:=z6m n hs (w :: ws) (by simp at hn ⊢;omega) h1.tail h2 (fun x hx=>v1 x (List.mem_cons_of_mem _ hx)) v2
   refine⟨List.pairwise_cons.2 ⟨fun x hx=>?_,i1⟩,fun p=>?_⟩
   ·rcases z6k _ _ _ _ hx with⟨y,hy,e⟩ | ⟨y,hy,e⟩
    ·rw[← e];exact h1.head y hy
    ·rw[← e];rcases List.mem_cons.1 hy with rfl | hy'
     ·exact c1
     ·exact tr vh vw (v2 y hy) c1 (h2.head y hy')
   ·show z5y Syn.path _ p=_
    rw[z63];show (if h.path=p then _ else _)=z6j (z5y Hav.path (h :: hs) p) (z5y Hav.path (w :: ws) p)
    rw[z63];by_cases e:h.path=p
    ·rw[if_pos e,if_pos e];have:z5y Hav.path (w :: ws) p=none:=z62.2 fun a ha ea=>by
      rcases List.mem_cons.1 ha with rfl | ha'
      ·exact z5z c1 (e.trans ea.symm)
      ·exact z5z (tr vh vw (v2 a ha) c1 (h2.head a ha')) (e.trans ea.symm)
     rw[this];rfl
    ·rw[if_neg e,if_neg e];exact i2 p
  ·rw[if_neg c1];by_cases c2:0<z2u h.path w.path
   ·rw[if_pos c2];have c3:z2u w.path h.path<0:=by rw[z5q];omega
    obtain⟨i1,i2⟩:=z6m n (h :: hs) ws (by simp at hn ⊢;omega) h1 h2.tail v1 (fun x hx=>v2 x (List.mem_cons_of_mem _ hx))
    refine⟨List.pairwise_cons.2 ⟨fun x hx=>?_,i1⟩,fun p=>?_⟩
    ·rcases z6k _ _ _ _ hx with⟨y,hy,e⟩ | ⟨y,hy,e⟩
     ·rw[← e];rcases List.mem_cons.1 hy with rfl | hy'
      ·exact c3
      ·exact tr vw vh (v1 y hy) c3 (h1.head y hy')
     ·rw[← e];exact h2.head y hy
    ·show z5y Syn.path _ p=_
     rw[z63];show (if w.path=p then _ else _)=z6j (z5y Hav.path (h :: hs) p) (z5y Hav.path (w :: ws) p)
     rw[z63 (l:=ws)];by_cases e:w.path=p
     ·rw[if_pos e,if_pos e];have:z5y Hav.path (h :: hs) p=none:=z62.2 fun a ha ea=>by
       rcases List.mem_cons.1 ha with rfl | ha'
       ·exact z5z c3 (e.trans ea.symm)
       ·exact z5z (tr vw vh (v1 a ha) c3 (h1.head a ha')) (e.trans ea.symm)
      rw[this];rfl
     ·rw[if_neg e,if_neg e];exact i2 p
   ·rw[if_neg c2];have ep:=z6l vh vw c1 c2;obtain⟨i1,i2⟩:=z6m n hs ws (by simp at hn ⊢;omega) h1.tail h2.tail (fun x hx=>v1 x (List.mem_cons_of_mem _ hx)) (fun x hx=>v2 x (List.mem_cons_of_mem _ hx))
    have hn1:∀ x∈z6i n hs ws,z2u w.path x.path<0:=fun x hx=>by
     rcases z6k _ _ _ _ hx with⟨y,hy,e⟩ | ⟨y,hy,e⟩
     ·rw[← e,← ep];exact h1.head y hy
     ·rw[← e];exact h2.head y hy
    refine⟨?_,fun p=>?_⟩
    ·split
     ·exact i1
     ·exact List.pairwise_cons.2 ⟨hn1,i1⟩
    ·show _=z6j (z5y Hav.path (h :: hs) p) (z5y Hav.path (w :: ws) p)
     rw[z63,z63];by_cases e:w.path=p
     ·rw[if_pos (ep.trans e),if_pos e];have hno:z5y Syn.path (z6i n hs ws) p=none:=z62.2 fun x hx ex=>z5z (hn1 x hx) (e.trans ex.symm);by_cases eq:h=w
      ·rw[if_pos eq,List.nil_append];show z5y Syn.path _ p=_
       rw[hno];exact (if_pos eq).symm
      ·rw[if_neg eq,List.singleton_append];show z5y Syn.path _ p=_
       rw[z63];show (if w.path=p then _ else _)=_
       rw[if_pos e];exact (if_neg eq).symm
     ·rw[if_neg (fun e2=>e (ep.symm.trans e2)),if_neg e];by_cases eq:h=w
      ·rw[if_pos eq,List.nil_append];exact i2 p
      ·rw[if_neg eq,List.singleton_append];show z5y Syn.path _ p=_
       rw[z63];show (if w.path=p then _ else _)=_
       rw[if_neg e];exact i2 p
theorem zbh {p:Pat}{s:ByteArray}(h:z2q s.data.toList 2=none):z8j p s=none:=by unfold z8j;rw[h]
theorem zbi {p:Pat}{s:ByteArray}{cs:List (List UInt8)}(h:z2q s.data.toList 2=some cs)(hn:¬(z7j p=0∧z8h p cs=true∧z8f p.parts cs p.parts.length=true)):z8j p s=none:=by unfold z8j;rw[h];exact if_neg hn
theorem zbj {p:Pat}{s:ByteArray}{cs:List (List UInt8)}(h:z2q s.data.toList 2=some cs)(h1:z7j p=0)(h2:z8h p cs=true)(h3:z8f p.parts cs p.parts.length=true):z8j p s=some (z8i p cs):=by unfold z8j;rw[h];exact if_pos ⟨h1,h2,h3⟩
theorem zbk {w w':World}{p:Pat}{s:ByteArray}(h:z8j p s=none)(hb:Below w.heap.size w w'):z8m w p s (.returned (.tuple #[.slice none 0 0,.bool false])) w':=
 ⟨none,0,0,by rw[h];rfl,hb,fun l hl=>by rw[h] at hl;cases hl⟩
theorem zbl {l:List ByteArray}{k:Nat}(h:k<l.length):z8d l k=l[k]:=by unfold z8d;rw[List.getElem?_eq_getElem h];rfl
theorem zbm {cs:List (List UInt8)}{k:Nat}(h:k<cs.length):z8e cs k=baL cs[k]:=by unfold z8e;rw[List.getElem?_eq_getElem h];rfl
theorem zbn {s:ByteArray}{cs:List (List UInt8)}(h:z2q s.data.toList 2=some cs):(∀ p∈cs,p.length≤s.size)∧cs.length≤s.size+1∧(Lib.join cs [47]).length≤s.size:=by
 unfold z2q at h;split at h
 ·injection h with h
  subst h;have hl:(s.data.toList.drop 2).length≤s.size:=by rw[List.length_drop];have:s.data.toList.length=s.size:=rfl;omega
  refine⟨fun p hp=>by have:=(z1e hp).2;omega,by have:=z1g (s.data.toList.drop 2);omega,by rw[z1i];exact hl⟩
 ·cases h
theorem zbo:∀(cs:List (List UInt8)) (n:Nat),(Lib.join (cs.drop n) [47]).length≤(Lib.join cs [47]).length
 | [],n=>by rw[List.drop_nil];exact Nat.le_refl _
 | c :: cs,0=>Nat.le_refl _
 | c :: cs,n+1=>by
  rw[List.drop_succ_cons];refine Nat.le_trans (zbo cs n) ?_;by_cases h:cs=[]
  ·subst h;rw[Lib.join_nil];exact Nat.zero_le _
  ·rw[z1h c cs h,List.length_append,List.length_append];omega
theorem zbp (p:Pat)(s:ByteArray)(A:Option Addr)(c:Nat)(w:World)(he:Env w)(hs:s.size≤1000000)(hS:Strs w (.slice A p.parts.length c) p.parts)(hz:∀ x∈p.parts,x.size≤maxLen):
  Calls prog 77 #[.agg #[.slice A p.parts.length c,.bool p.rest],.string s] w (z8m w p s):=by
 obtain⟨A',c',e',hcc,hmm,-⟩:=id hS;injection e' with e1 e2 e3
 subst e1 e3;unfold maxLen at hmm;have HS:=hd_ hS;have HZ:=hd_ hz;have HND:=hd_ (@zbh p s);have HNO:=hd_ (fun cs=>@zbi p s cs);have HYE:=hd_ (fun cs=>@zbj p s cs);have HPN:=hd_ (fun X (h:z8j p s=none) (hb:Below w.heap.size w X)=>zbk h hb);have hB:=z0l w [.slice A p.parts.length c,.bool p.rest] 68;have hA:Below w.heap.size w (w.alloc (.cells #[.slice A p.parts.length c,.bool p.rest] 68)):=(Below.refl _ _).alloc (Nat.le_refl _) _;have HSP:=hd_ (fun X (hX:Below w.heap.size w X)=>z8n s X (he.below hX) (by omega))
 have HCK:=hd_ (fun X (hX:Below w.heap.size w X)=>za5 p A c X (hS.below hX) hz);have HSZ:=hd_ hs;clear hS hz he e2 hs;go_enter func77,ntmps77;go_upto_region 1 with fail;generalize w.alloc (.cells #[.slice A p.parts.length c,.bool p.rest] 68)=W1 at hB hA ⊢;have HB:=hd_ hB;have HA:=hd_ hA;clear hB hA;go_wp2_with fail;refine (HSP.out W1 HA.out).mono ?_;rintro e w2 (⟨hd,rfl,hb2⟩ | ⟨cs,hd,rfl,hw2⟩)
 ·have HB2:=hd_ (z0r HA.out hb2);have HR:=hd_ (HND.out hd);clear hd hb2;go_wp2_with fail;go_ret2;exact HPN.out _ HR.out HB2.out
 have hK2:=z0l W1 (z71 cs) 9;have hb2:Below W1.heap.size W1 (W1.alloc (.cells (z71 cs).toArray 9)):=(Below.refl _ _).alloc (Nat.le_refl _) _;rw[hw2] at hK2 hb2;have HD:=hd_ hd;have HDP:=hd_ (zbn hd);have HK2:=hd_ hK2;have HB2:=hd_ (z0r HA.out hb2);have d0:w2.cell? ⟨w.heap.size,0,none⟩=some (.slice A p.parts.length c):=(HB.out.below hb2 HB.out.lt).cell 0;have d1:w2.cell? ⟨w.heap.size,1,none⟩=some (.bool p.rest):=(HB.out.below hb2 HB.out.lt).cell 1;have HBW:=hd_ (HB.out.below hb2 HB.out.lt);clear hd hw2 hK2 hb2 HSP HND;have hcl:cs.length≤1000001:=by have:=HDP.out.2.1;have:=HSZ.out;omega
 generalize hg2:W1.heap.size=g2 at HK2 ⊢;clear hg2;have HC2:=hd_ (HCK.out w2 HB2.out);generalize hpe:z7j p=pe at HC2;have HPE:=hd_ hpe;clear hpe HCK;by_cases h0:pe=0
 case neg =>
  have q:(pe != 0)=true:=by simpa using h0
  have HR:=hd_ (HNO.out _ HD.out (fun h=>h0 (HPE.out ▸ h.1)));clear h0;go_wp2_with fail;refine HC2.out.mono ?_;rintro e w3 ⟨rfl,hb3⟩;have HB3:=hd_ (z0r HB2.out hb3);clear hb3 d0 d1;go_wp2_with fail;go_ret2;exact HPN.out _ HR.out HB3.out
 have q:(pe != 0)=false:=by simpa using h0
 have HP0:Hid (z7j p=0):=hd_ (HPE.out.trans h0);clear h0;go_wp2_with fail;refine HC2.out.mono ?_;rintro e w3 ⟨rfl,hb3⟩;have HB3:=hd_ (z0r HB2.out hb3);have HK3:=hd_ (HK2.out.below hb3 HK2.out.lt);have HBW3:=hd_ (HBW.out.below hb3 HBW.out.lt);clear hb3 d0 d1 HC2 HK2 HBW;have d0:w3.cell? ⟨w.heap.size,0,none⟩=some (.slice A p.parts.length c):=HBW3.out.cell 0;have d1:w3.cell? ⟨w.heap.size,1,none⟩=some (.bool p.rest):=HBW3.out.cell 1;obtain⟨b,hb⟩:∃ b,z8h p cs=b:=⟨_,rfl⟩;have HFB:=hd_ hb;have HFD:Hid (b=(decide (p.parts.length≤cs.length) && (decide (p.parts.length<cs.length) == p.rest))):=hd_ (by rw[← hb];rfl)
 clear hb;go_upto_region 5 with fail;go_cut [41] (fun v wx=>v=.bool (!b)∧wx=w3)
 case first =>
  by_cases h1:cs.length<p.parts.length
  ·have hbf:b=false:=by rw[HFD.out,decide_eq_false (by omega)];rfl
   have q1:decide ((cs.length:Int)<(p.parts.length:Int))=true:=by simp;omega
   have q1':decide (cs.length<p.parts.length)=true:=by simp;omega
   subst hbf;clear h1 HFD;go_wp2_with fail;go_meet
   exact⟨by first | rfl | (rw[q1'];rfl),rfl⟩
  ·have q1:decide ((cs.length:Int)<(p.parts.length:Int))=false:=by simp;omega
   have q1':decide (cs.length<p.parts.length)=false:=by simp;omega
   by_cases h2:p.parts.length<cs.length
   ·have q2:decide ((p.parts.length:Int)<(cs.length:Int))=true:=by simp;omega
    have q2':decide (p.parts.length<cs.length)=true:=by simp;omega
    have HBB:Hid ((!b)=(!(true == p.rest))):=hd_ (by rw[HFD.out,decide_eq_true (show p.parts.length≤cs.length by omega),decide_eq_true h2];cases p.rest <;> rfl)
    clear h1 h2 HFD;go_wp2_with fail;go_meet
    exact⟨by rw[HBB.out];first | rfl | (rw[q1',q2'];rfl) | simp [q1',q2'],rfl⟩
   ·have q2:decide ((p.parts.length:Int)<(cs.length:Int))=false:=by simp;omega
    have q2':decide (p.parts.length<cs.length)=false:=by simp;omega
    have HBB:Hid ((!b)=(!(false == p.rest))):=hd_ (by rw[HFD.out,decide_eq_true (show p.parts.length≤cs.length by omega),decide_eq_false h2];cases p.rest <;> rfl)
    clear h1 h2 HFD;go_wp2_with fail;go_meet
    exact⟨by rw[HBB.out];first | rfl | (rw[q1',q2'];rfl) | simp [q1',q2'],rfl⟩
 case rest =>
  obtain⟨rfl,rfl⟩:=hcut;cases b with
  | false =>
   have HR:=hd_ (HNO.out _ HD.out (fun h=>by have:=h.2.1;rw[HFB.out] at this;cases this))
   go_wp2_with fail;go_ret2;exact HPN.out _ HR.out HB3.out
  | true =>
   rw[show (!true)=false from rfl];have hle:p.parts.length≤cs.length:=by
    have:=HFD.out;simp only[Bool.true_eq,Bool.and_eq_true,decide_eq_true_eq] at this
    exact this.1
   clear HFD;have HNZ:=hd_ (fun k (hk:k<p.parts.length) (h:z87 (z8d p.parts k) (z8e cs k)=false)=>HNO.out _ HD.out (fun hh=>by have:=hh.2.2;rw[z8l hk h] at this;cases this))
   have HYY:=hd_ (fun(h:z8f p.parts cs p.parts.length=true)=>HYE.out _ HD.out HP0.out HFB.out h);have HCL:=hd_ hcl;have HLE:=hd_ hle;go_wp2_with fail;clear d0 d1;go_loopw [9,45] (fun u s wr=>∃(k m:Nat) (A2:Option Addr) (c2:Nat),s=.int .i64 k∧u=.slice A2 m c2∧k≤p.parts.length∧m≤k∧Hid (m=(z8g p.parts cs k).length∧z8f p.parts cs k=true∧Below wc.heap.size wc wr∧wr.ownsRow wc.heap.size 9 1 (.slice A2 m c2) m ((z8g p.parts cs k).map .string))) (fun _ s _=>p.parts.length - (intOf s).toNat)
   case atStart=>exact⟨0,0,none,0,rfl,rfl,Nat.zero_le _,Nat.le_refl _,rfl,rfl,Below.refl _ _,World.ownsRow_nil _ _ _ _⟩
   case round =>
    obtain⟨k,m,A2,c2,rfl,rfl,hk,hmk,HI⟩:=hrel;by_cases hlt:k<p.parts.length
    ·have hkc:k<cs.length:=by omega
     have hz1:(k:Int)<(cs.length:Int):=by omega
     have hbw:=z0r HB3.out HI.out.2.2.1;obtain⟨ad,rfl,hab,x0⟩:=Strs.at_ (HS.out.below hbw) hlt;have x1:=(HK3.out.below HI.out.2.2.1 HK3.out.lt).strs k hkc;have HX:=hd_ (zbl hlt);have HY:=hd_ (zbm hkc);have hps:(p.parts[k]).size≤9223372036854775807:=by have:=HZ.out _ (List.getElem_mem hlt);unfold maxLen at this;omega
     have hcz:(baL cs[k]).size≤9223372036854775807:=by rw[z74];have:=HDP.out.1 _ (List.getElem_mem hkc);have:=HSZ.out;omega
     generalize p.parts[k]=part at x0 HX hps;generalize baL cs[k]=comp at x1 HY hcz;have HM:=hd_ (fun X=>z8b part comp X hps hcz);have HT:=hd_ (fun X=>z7p part X);have HNK:Hid (z87 part comp=false→z8j p s=none):=hd_ (fun h=>HNZ.out k hlt (by rw[HX.out,HY.out];exact h))
     have HZB:Hid (z87 part comp=true→z8f p.parts cs (k+1)=true):=hd_ (fun h=>by rw[z8k,HI.out.2.1,HX.out,HY.out,h];rfl)
     have HZC:Hid (z8g p.parts cs (k+1)=z8g p.parts cs k++(if z7e part then [z86 part comp] else [])):=hd_ (by rw[← HX.out,← HY.out];rfl)
     generalize z86 part comp=x at HM HZC;generalize z87 part comp=b at HM HNK HZB;generalize z7e part=st at HT HZC;clear hbw hps hcz hab;cases b with
     | false =>
      have HR:=hd_ (HNK.out rfl);have HBI:=hd_ (z0r HB3.out HI.out.2.2.1);go_wp2_with (first
       | (go_at_call 134;refine (HM.out _).mono ?_;rintro e w' ⟨rfl,rfl⟩))
      go_ret2;exact HPN.out _ HR.out HBI.out
     | true =>
      have HB:=hd_ (HZB.out rfl);cases st with
      | false =>
       have HN:Hid (m=(z8g p.parts cs (k+1)).length∧z8f p.parts cs (k+1)=true∧Below wc.heap.size wc wr∧wr.ownsRow wc.heap.size 9 1 (.slice A2 m c2) m ((z8g p.parts cs (k+1)).map .string)):=hd_ (by
        have e:z8g p.parts cs (k+1)=z8g p.parts cs k:=by rw[HZC.out];simp
        rw[e];exact⟨HI.out.1,HB.out,HI.out.2.2.1,HI.out.2.2.2⟩)
       go_wp2_with (first
        | (go_at_call 134;refine (HM.out _).mono ?_;rintro e w' ⟨rfl,rfl⟩)
        | (go_at_call 135;refine (HT.out _).mono ?_;rintro e w' ⟨rfl,rfl⟩))
       go_roundw
       case rel=>exact⟨k+1,m,A2,c2,by go_num,rfl,by omega,by omega,HN.out⟩
       case measure=>simp [intOf];omega
      | true =>
       have HOW:=hd_ HI.out.2.2.2;have HBI:=hd_ HI.out.2.2.1;go_wp2_with (first
        | (go_at_call 134;refine (HM.out _).mono ?_;rintro e w' ⟨rfl,rfl⟩)
        | (go_at_call 135;refine (HT.out _).mono ?_;rintro e w' ⟨rfl,rfl⟩)
        | (at_builtin;refine z0k rfl rfl z8c (z0n HOW.out ((Below.refl _ _).alloc (Nat.le_refl _) _)) rfl (z0i _ [.string x] _ 1 1 rfl (by decide) _ (by simp)) rfl (HBI.out.alloc HBI.out.size _) (HBI.out.alloc HBI.out.size _).size (by simp [Value.oneCell']) (by omega) (by unfold maxLen;omega) ?_;intro A' c' w5 hown5 hbl5))
       have HN:Hid (m+1=(z8g p.parts cs (k+1)).length∧z8f p.parts cs (k+1)=true∧Below wc.heap.size wc w5∧w5.ownsRow wc.heap.size 9 1 (.slice A' (m+1) c') (m+1) ((z8g p.parts cs (k+1)).map .string)):=hd_ (by
        have e:z8g p.parts cs (k+1)=z8g p.parts cs k++[x]:=by rw[HZC.out];rfl
        rw[e];refine⟨by rw[List.length_append,List.length_singleton,HI.out.1],HB.out,hbl5,?_⟩
        rw[List.map_append];exact hown5)
       clear hown5 hbl5;go_wp2_with fail;go_roundw
       case rel=>exact⟨k+1,m+1,A',c',by go_num,rfl,by omega,by omega,HN.out⟩
       case measure=>simp [intOf];omega
    ·have hke:k=p.parts.length:=by omega
     have HF:Hid (m=(z8g p.parts cs p.parts.length).length∧z8j p s=some (z8i p cs)∧Below wc.heap.size wc wr∧wr.ownsRow wc.heap.size 9 1 (.slice A2 m c2) m ((z8g p.parts cs p.parts.length).map .string)):=hd_ (by
      have h:=HI.out;rw[hke] at h;exact⟨h.1,HYY.out h.2.1,h.2.2.1,h.2.2.2⟩)
     have d1:wr.cell? ⟨w.heap.size,1,none⟩=some (.bool p.rest):=(HBW3.out.below HI.out.2.2.1 HBW3.out.lt).cell 1;have hge:¬((k:Int)<(p.parts.length:Int)):=by omega
     clear HI hke;cases hr:p.rest with
     | false =>
      rw[hr] at d1;have HRS:=hd_ hr;clear hr;go_wp2_with fail;go_ret2;refine⟨A2,m,c2,by rw[HF.out.2.1];rfl,z0r HB3.out HF.out.2.2.1,fun l hl=>?_⟩
      rw[HF.out.2.1] at hl;injection hl with hl
      have e:z8i p cs=z8g p.parts cs p.parts.length:=by unfold z8i;rw[HRS.out];simp
      rw[e] at hl;subst hl;refine⟨HF.out.1,?_⟩;have:=Row.of_own HF.out.2.2.2;rw[HF.out.1] at this ⊢;exact this
     | true =>
      rw[hr] at d1;have HRS:=hd_ hr;clear hr;have hnc:p.parts.length<cs.length:=by
       have h:=HFB.out;unfold z8h at h;rw[HRS.out] at h;simp only[Bool.and_eq_true,beq_iff_eq,decide_eq_true_eq] at h
       exact h.2
      have hK:=HK3.out.below HF.out.2.2.1 HK3.out.lt;have hat:z8p wr g2 p.parts.length (cs.drop p.parts.length):=fun j hj=>by
       rw[List.length_drop] at hj;rw[List.getElem_drop];exact hK.strs _ (by omega)
      have hJ:=z8s (cs.drop p.parts.length) g2 p.parts.length (cs.length - p.parts.length) wr hat (by rw[List.length_drop];omega) (by rw[List.length_drop];omega) (by rw[List.length_drop];omega) (by have:=zbo cs p.parts.length;have:=HDP.out.2.2;have:=HSZ.out;omega)
      rw[List.length_drop] at hJ;have HJ:=hd_ hJ;have HCP:Hid (z8i p cs=z8g p.parts cs p.parts.length++[baL (Lib.join (cs.drop p.parts.length) [47])]):=hd_ (by unfold z8i;rw[HRS.out];rfl)
      generalize baL (Lib.join (cs.drop p.parts.length) [47])=x at HJ HCP;clear hJ hat hK;go_wp2_with fail;refine HJ.out.mono ?_;rintro e w6 ⟨rfl,hb6⟩;have HOW:=hd_ (z0n HF.out.2.2.2 hb6);have HBI:=hd_ (z0r HF.out.2.2.1 hb6);clear hb6;go_wp2_with (first
       | (at_builtin;refine z0k rfl rfl z8c (z0n HOW.out ((Below.refl _ _).alloc (Nat.le_refl _) _)) rfl (z0i _ [.string x] _ 1 1 rfl (by decide) _ (by simp)) rfl (HBI.out.alloc HBI.out.size _) (HBI.out.alloc HBI.out.size _).size (by simp [Value.oneCell']) (by omega) (by unfold maxLen;omega) ?_;intro A' c' w7 hown7 hbl7))
      have HO7:=hd_ hown7;have HB7:=hd_ hbl7;clear hown7 hbl7;go_wp2_with fail;go_ret2;refine⟨A',m+1,c',by rw[HF.out.2.1];rfl,z0r HB3.out HB7.out,fun l hl=>?_⟩
      rw[HF.out.2.1] at hl;injection hl with hl
      rw[HCP.out] at hl;subst hl;have hm:=HF.out.1;refine⟨by rw[List.length_append,List.length_singleton,hm],?_⟩
      have h7:=Row.of_own HO7.out;show Row w7 1 _ (z8g p.parts cs p.parts.length++[x]).length _
      rw[List.length_append,List.length_singleton,← hm,List.map_append];exact h7
