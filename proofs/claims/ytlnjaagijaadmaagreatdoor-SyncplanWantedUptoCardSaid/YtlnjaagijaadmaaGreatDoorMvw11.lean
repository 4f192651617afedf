/- A part. -/
import Derived.Test.YtlnjaagijaadmaaGreatDoorMvw7
set_option linter.unusedVariables false
set_option linter.unusedSimpArgs false
set_option maxHeartbeats 8000000
set_option maxRecDepth 100000
namespace Go.Proofs.YtlnjaagijaadmaaGreatDoor
open Go.Proofs.Tryz
open Go.RowKit
structure Syn where
 kind:Int
 kt:zA
 num:Int
 frm:zA
 dst:zA
structure Hav where
 kt:zA
 num:Int
 loc:zA
def Syn.cells (x:Syn):List zV:=[zI x.kind,zS x.kt,zI x.num,zS x.frm,zS x.dst]
def Hav.cells (x:Hav):List zV:=[zS x.kt,zI x.num,zS x.loc]
def z5d (k:Int):Bool:=(k == 6) || (k == 5)
def z5e (frm dst:zA):Int:=if frm=z2r then 1 else if dst=z2r then 4 else if frm=dst then 2 else 3
def z5f (p:zA):Bool:=decide (p.size<=200) && z2y p
def Hav.okB (h:Hav):Bool:=z5f h.kt && z5f h.loc && decide (1<=h.num)
theorem z5g {w:zW}{g:Nat}{e:TypeId}{x:Syn}(h:Blk w g e [zI x.kind,zS x.kt,zI x.num,zS x.frm,zS x.dst]):w.cell? ⟨g,0,none⟩=some (zI x.kind)/\w.cell? ⟨g,1,none⟩=some (zS x.kt)/\w.cell? ⟨g,2,none⟩=some (zI x.num)/\w.cell? ⟨g,3,none⟩=some (zS x.frm)/\w.cell? ⟨g,4,none⟩=some (zS x.dst):=
 ⟨h.cell 0,h.cell 1,h.cell 2,h.cell 3,h.cell 4⟩
theorem z5h {w:zW}{g:Nat}{e:TypeId}{x:Hav}(h:Blk w g e [zS x.kt,zI x.num,zS x.loc]):w.cell? ⟨g,0,none⟩=some (zS x.kt)/\w.cell? ⟨g,1,none⟩=some (zI x.num)/\w.cell? ⟨g,2,none⟩=some (zS x.loc):=
 ⟨h.cell 0,h.cell 1,h.cell 2⟩
theorem z5i (k:Int):((k == 6)=true/\(k != 6)=false/\z5d k=true)\/((k == 6)=false/\(k != 6)=true/\(k == 5)=true/\(k != 5)=false/\z5d k=true)\/((k == 6)=false/\(k != 6)=true/\(k == 5)=false/\(k != 5)=true/\z5d k=false):=by
 unfold z5d bne;cases (k == 6) <;> cases (k == 5) <;> simp
theorem z5j (x:Syn)(w:zW):Calls prog 128 #[.agg #[zI x.kind,zS x.kt,zI x.num,zS x.frm,zS x.dst]] w fun e w'=>e=.returned (.bool (z5d x.kind))/\zB w w':=by
 have hA:zB w (w.alloc (zC #[zI x.kind,zS x.kt,zI x.num,zS x.frm,zS x.dst] 99)):=zR;rcases z5i x.kind with⟨h1,h2,h3⟩ | ⟨h1,h2,h3,h4,h5⟩ | ⟨h1,h2,h3,h4,h5⟩
 all_goals
  have HS:=hd_ (by first | exact h5 | exact h3)
  go_enter func128,ntmps128;go_wp2_with fail;go_ret;exact⟨z12 HS.symm,hA⟩
theorem z5k {s:zA}(h:s=z2r):s.toList=[]/\(s.toList == (⟨#[]⟩:zA).toList)=true:=by subst h;exact⟨by rw[ByteArray.toList_eq];rfl,beq_self_eq_true _⟩
theorem z5l {s:zA}(h:¬ s=z2r):¬ s.toList=[]/\s.toList.isEmpty=false:=by
 have h1:¬ s.toList=[]:=fun e=>h (by
  rw[ByteArray.toList_eq] at e;cases s with | mk a =>
  unfold z2r;congr 1
  exact Array.toList_eq_nil_iff.1 e)
 exact⟨h1,by cases hh:s.toList;exact absurd hh h1;rfl⟩
theorem z5m (a b:zA):(a.toList == b.toList)=decide (a=b):=by
 rw[ZY,beq_iff_eq,decide_eq_true_eq];constructor
 ·intro h;rw[ByteArray.toList_eq,ByteArray.toList_eq] at h;cases a with | mk x=>cases b with | mk y =>
  congr 1;exact Array.toList_inj.1 h
 ·intro h;rw[h]
theorem z5n (x:Syn)(w:zW):Calls prog 73 #[.agg #[zI x.kind,zS x.kt,zI x.num,zS x.frm,zS x.dst]] w fun e w'=>e=.returned (zI (z5e x.frm x.dst))/\zB w w':=by
 have hA:zB w (w.alloc (zC #[zI x.kind,zS x.kt,zI x.num,zS x.frm,zS x.dst] 99)):=zR;by_cases h1:x.frm=z2r
 ·have HK:Hid (z5e x.frm x.dst=1):=hd_ (if_pos h1);obtain⟨s1,s2⟩:=z5k h1;clear h1;go_enter func73,ntmps73;go_wp2_with fail;go_ret;exact⟨by rw[HK.out];rfl,hA⟩
 ·obtain⟨s1,s2⟩:=z5l h1;by_cases h2:x.dst=z2r
  ·have HK:Hid (z5e x.frm x.dst=4):=hd_ (by unfold z5e;rw[if_neg h1,if_pos h2])
   obtain⟨t1,t2⟩:=z5k h2;clear h1 h2;go_enter func73,ntmps73;go_wp2_with fail;go_ret;exact⟨by rw[HK.out];rfl,hA⟩
  ·obtain⟨t1,t2⟩:=z5l h2;have q:=z5m x.frm x.dst;by_cases h3:x.frm=x.dst
   ·have HK:Hid (z5e x.frm x.dst=2):=hd_ (by unfold z5e;rw[if_neg h1,if_neg h2,if_pos h3])
    rw[decide_eq_true h3] at q;clear h1 h2 h3;go_enter func73,ntmps73;go_wp2_with fail;go_ret;exact⟨by rw[HK.out];rfl,hA⟩
   ·have HK:Hid (z5e x.frm x.dst=3):=hd_ (by unfold z5e;rw[if_neg h1,if_neg h2,if_neg h3])
    rw[decide_eq_false h3] at q;clear h1 h2 h3;go_enter func73,ntmps73;go_wp2_with fail;go_ret;exact⟨by rw[HK.out];rfl,hA⟩
theorem z5o (p:zA)(w:zW)(hp:p.size<=140737488355328):Calls prog 180 #[zS p] w fun e w'=>e=.returned (.bool (z5f p))/\w=w':=by
 have HV:=hd_ (z3i p w hp);by_cases h:p.size<=200
 ·have q:decide ((p.size:Int)<=200)=true:=by simp;omega
  have HB:Hid (z5f p=z2x p.data.toList):=hd_ (by unfold z5f;rw[decide_eq_true h];rfl)
  generalize z2x p.data.toList=b at HV HB;clear h;go_enter func180,ntmps180;go_wp2_with fail;refine HV.mono ?_;rintro e w' ⟨rfl,rfl⟩;go_wp2_with fail;go_ret;exact⟨z12 HB.symm,rfl⟩
 ·have q:decide ((p.size:Int)<=200)=false:=by simp;omega
  have HB:Hid (z5f p=false):=hd_ (by unfold z5f;rw[decide_eq_false h];rfl)
  clear h;go_enter func180,ntmps180;go_wp2_with fail;go_ret;exact⟨z12 HB.symm,rfl⟩
theorem z5p (a b:zA)(w:zW)(ha:a.size<=140737488355328)(hb:b.size<=140737488355328):
  Calls prog 52 #[zS a,zS b] w fun e w'=>e=.returned (zI (z30 a b))/\z3p w w':=by
 have H:=hd_ (z3r a b w ha hb);go_enter func52,ntmps52;go_wp2_with fail;refine H.mono ?_;rintro e w' ⟨rfl,hq⟩;go_wp2_with fail;go_ret;exact⟨rfl,hq⟩
theorem z5q (h:Hav)(w:zW)(h1:h.kt.size<=140737488355328)(h2:h.loc.size<=140737488355328):Calls prog 126 #[.agg #[zS h.kt,zI h.num,zS h.loc]] w fun e w'=>e=.returned (.bool h.okB)/\zB w w':=by
 have hA:zB w (w.alloc (zC #[zS h.kt,zI h.num,zS h.loc] 84)):=zR;have HP:=hd_ (fun X=>z5o h.kt X h1);have HL:=hd_ (fun X=>z5o h.loc X h2);have HB:Hid (h.okB=(z5f h.kt && z5f h.loc && decide (1<=h.num))):=hd_ rfl;generalize h.okB=b at HB |-;cases hb1:z5f h.kt with
 | false =>
  rw[hb1] at HP HB;clear hb1;go_enter func126,ntmps126;go_wp2_with fail;refine (HP _).mono ?_;rintro e w' ⟨rfl,rfl⟩;go_wp2_with fail;go_ret;exact⟨z12 (by rw[HB.out];rfl),hA⟩
 | true =>
  rw[hb1] at HP HB;clear hb1;cases hb2:z5f h.loc with
  | false =>
   rw[hb2] at HL HB;clear hb2;go_enter func126,ntmps126;go_wp2_with fail;refine (HP _).mono ?_;rintro e w' ⟨rfl,rfl⟩;go_wp2_with fail;refine (HL _).mono ?_;rintro e w' ⟨rfl,rfl⟩;go_wp2_with fail;go_ret;exact⟨z12 (by rw[HB.out];rfl),hA⟩
  | true =>
   rw[hb2] at HL HB;clear hb2;go_enter func126,ntmps126;go_wp2_with fail;refine (HP _).mono ?_;rintro e w' ⟨rfl,rfl⟩;go_wp2_with fail;refine (HL _).mono ?_;rintro e w' ⟨rfl,rfl⟩;go_wp2_with fail;go_ret;exact⟨z12 (by rw[HB.out];rfl),hA⟩
theorem z5r (a b:Hav)(w:zW)(ha:a.kt.size<=140737488355328)(hb:b.kt.size<=140737488355328):
  Calls prog 127 #[.agg #[zS a.kt,zI a.num,zS a.loc],.agg #[zS b.kt,zI b.num,zS b.loc]] w fun e w'=>e=.returned (zI (z30 a.kt b.kt))/\zB w w':=by
 have H:=hd_ (fun X=>z3r a.kt b.kt X ha hb);have hA:zB w ((w.alloc (zC #[zS a.kt,zI a.num,zS a.loc] 84)).alloc (zC #[zS b.kt,zI b.num,zS b.loc] 84)):=(zR).alloc (by simp) _
 go_enter func127,ntmps127;go_wp2_with fail;refine (H _).mono ?_;rintro e w' ⟨rfl,hq⟩;have HQ:=hd_ (z0r hA (hq.kw _));clear hq;go_wp2_with fail;go_ret;exact⟨rfl,HQ⟩
open Go.Sort (grow)
def z5s (w:zW)(v:zV)(l:List Hav):Prop:=Row w 3 v l.length (l.flatMap Hav.cells)
def z5t (w:zW)(a:Addr)(x:Hav):Prop:=w.cell? a=some (zS x.kt)/\w.cell? ⟨a.block,a.off+1,none⟩=some (zI x.num)/\w.cell? ⟨a.block,a.off+2,none⟩=some (zS x.loc)
theorem z5s.at_ {w:zW}{A:zP}{c:Nat}{l:List Hav}(h:z5s w (zL A l.length c) l){k:Nat}(hk:k<l.length):
  ∃ ad,A=some ad/\ad.block<w.heap.size/\z5t w (ad.add (k * 3)) l[k]:=by
 obtain⟨ad,e,hb,hc⟩:=z3z (f:=Hav.cells) (n:=3) (fun _=>rfl) h hk;exact⟨ad,e,hb,hc 0 _ rfl,hc 1 _ rfl,hc 2 _ rfl⟩
def z5u (p:Option Hav)(h:Hav):Bool:=match p with | none=>false | some q=>decide (0<=z30 q.kt h.kt)
theorem z5v (q h:Hav):z5u (some q) h=decide (0<=z30 q.kt h.kt):=rfl
def z5w:Option Hav->List zA->List Hav->Int
 | _,_,[]=>0
 | p,s,h :: r=>if (!h.okB || z5u p h)=true then 340 else if h.loc∈s then 341 else z5w (some h) (h.loc :: s) r
def z5x (l:List Hav):Int:=if 1024<l.length then 342 else z5w none [] l
def z5y (s:List zA):zA->Option Unit:=fun x=>if x∈s then some () else none
def z5z:Unit->zV:=fun _=>.agg #[]
theorem z60 (a:zA)(s:List zA):z5y (a :: s)=upd (z5y s) a ():=by
 funext x;unfold z5y upd
 by_cases h:x=a
 ·rw[if_pos h,if_pos (by rw[h];exact Zj)]
 ·rw[if_neg h];show (if x∈a :: s then some () else none)=if x∈s then some () else none
  by_cases h2:x∈s
  ·rw[if_pos h2,if_pos (Zh _ h2)]
  ·rw[if_neg h2,if_neg (by rintro (_ | ⟨_,h3⟩);exact h rfl;exact h2 h3)]
def z61 (l:List Hav):List zA:=l.reverse.map Hav.loc
def z62 (l:List Hav):Option Hav:=l.getLast?
theorem z63 (l:List Hav)(x:Hav):z61 (l++[x])=x.loc :: z61 l:=by unfold z61;simp
theorem z64 (l:List Hav)(x:Hav):z62 (l++[x])=some x:=by unfold z62;simp
theorem z65 (l:List Hav)(v:zV)(w:zW)(hR:z5s w v l)(hs:∀ x∈l,x.kt.size<=140737488355328/\x.loc.size<=140737488355328):
  Calls prog 69 #[v] w fun e w'=>e=.returned (zI (z5x l))/\zB w w':=by
 obtain⟨A,c,rfl,hc,hm,-⟩:=id hR;have HR:=hd_ hR;have HS:=hd_ hs;clear hR hs;unfold maxLen at hm;by_cases h1:1024<l.length
 ·have HE:Hid (z5x l=342):=hd_ (if_pos h1);go_enter func69,ntmps69;go_wp2_with fail;go_ret;exact⟨z3b HE.symm,Zb _ _⟩
 have HE:Hid (z5x l=z5w none [] l):=hd_ (if_neg h1);have hmm:=@run_makeMap prog;have HM0:=hd_ (z2l.new zS z5z w);have HB0:=hd_ ((Zb w.heap.size w).alloc (Zd _) (.map #[] 0));go_enter func69,ntmps69;go_wp2_with fail;go_loopw [14] (fun i wr=>∃ k:Nat,k<=l.length/\i=zI k/\Hid (z5w none [] l=z5w (z62 (l.take k)) (z61 (l.take k)) (l.drop k))/\zB w wr/\z2l zS z5z wr w.heap.size (z5y (z61 (l.take k)))) (fun i _=>l.length - (intOf i).toNat)
 exact⟨0,Zg _,rfl,hd_ rfl,HB0,HM0⟩
 obtain⟨k,hk,rfl,HV,hb,hM⟩:=hrel;have hRr:=Row.kw HR.out hb;by_cases hlt:k<l.length
 ·have hprev:k=0\/∃(j:Nat) (hj:j<l.length),k=j+1/\z62 (l.take k)=some l[j]:=by
   cases k with
   | zero=>exact .inl rfl
   | succ j=>exact .inr ⟨j,by omega,rfl,by rw[Zr (by omega),z64]⟩
  obtain⟨ad,rfl,hab,hld⟩:=z5s.at_ hRr hlt;have hxs:=HS.out l[k] (Za _);have HT:=hd_ (show l.take (k+1)=l.take k++[l[k]] from Zr hlt);rw[Zo hlt] at HV;generalize l[k]=x at hld hxs HT HV;obtain⟨x0,x1,x2⟩:=hld;have hbx:zB w (wr.alloc (zC #[zS x.kt,zI x.num,zS x.loc] 84)):=hb.alloc hb.size _;have hMx:=z2l.alloc hM (zC #[zS x.kt,zI x.num,zS x.loc] 84);obtain⟨c0,c1,c2⟩:=z5h (x:=x) (z0l wr [zS x.kt,zI x.num,zS x.loc] 84);have HVAL:=hd_ (fun X=>z5q x X hxs.1 hxs.2);cases hok:x.okB
  ·have HO:Hid (z5x l=340):=hd_ (by rw[HE.out,HV.out,z5w,hok];rfl)
   rw[hok] at HVAL;clear hok hprev;have cV:∀ d os,Calls prog 126 #[.agg #[zS x.kt,zI x.num,zS x.loc]] (grow (redrawn (wr.alloc (zC #[zS x.kt,zI x.num,zS x.loc] 84)) d) os) fun e w''=>e=.returned (.bool false)/\∃ p:Regrown,w''=grow (redrawn (wr.alloc (zC #[zS x.kt,zI x.num,zS x.loc] 84)) p.d) p.os:=fun d os=>Calls.regrown_of (by have hh:=HVAL.out (grow (redrawn (wr.alloc (zC #[zS x.kt,zI x.num,zS x.loc] 84)) d) os);exact hh)
   have m0:=cell_regrown c0;have m1:=cell_regrown c1;have m2:=cell_regrown c2;go_wp2_with fail;refine wp_region_quiet_below (by kernel_rfl) (by kernel_rfl) ?_
   repeat (first | go_big_quiet_step (exact cV _ _) | quiet_step (exact cV _ _))
   refine wpQuiet_nil ?_;intro _ hw9;obtain⟨⟨dq,osq⟩,hw9⟩:=hw9;subst hw9;have hS5:=below_regrown (wr.alloc (zC #[zS x.kt,zI x.num,zS x.loc] 84)) dq osq;have hb5:=z0q hbx hbx.size hS5;have hM5:=z2l.kw hMx hS5;have d0:=cell_regrown c0 dq osq;have d1:=cell_regrown c1 dq osq;have d2:=cell_regrown c2 dq osq;generalize grow (redrawn (wr.alloc (zC #[zS x.kt,zI x.num,zS x.loc] 84)) dq) osq=W5 at hS5 hb5 hM5 d0 d1 d2 |-;go_wp2_with fail;go_ret;exact⟨z3b HO.symm,hb5⟩
  ·rw[hok] at HVAL;have cV:∀ d os,Calls prog 126 #[.agg #[zS x.kt,zI x.num,zS x.loc]] (grow (redrawn (wr.alloc (zC #[zS x.kt,zI x.num,zS x.loc] 84)) d) os) fun e w''=>e=.returned (.bool true)/\∃ p:Regrown,w''=grow (redrawn (wr.alloc (zC #[zS x.kt,zI x.num,zS x.loc] 84)) p.d) p.os:=fun d os=>Calls.regrown_of (by have hh:=HVAL.out (grow (redrawn (wr.alloc (zC #[zS x.kt,zI x.num,zS x.loc] 84)) d) os);exact hh)
   have m0:=cell_regrown c0;have m1:=cell_regrown c1;have m2:=cell_regrown c2;rcases hprev with h0 | ⟨j,hj,hkj,hl⟩
   ·have HST:Hid (z5x l=if x.loc∈z61 (l.take k) then 341 else z5w (some x) (x.loc :: z61 (l.take k)) (l.drop (k+1))):=hd_ (by rw[HE.out,HV.out,z5w,hok,show z62 (l.take k)=none by rw[h0];rfl];rfl)
    have n0:decide (0<k)=false:=by simp;omega
    clear h0 hok;go_wp2_with fail;refine wp_region_quiet_below (by kernel_rfl) (by kernel_rfl) ?_
    repeat (first | go_big_quiet_step (exact cV _ _) | quiet_step (exact cV _ _))
    refine wpQuiet_nil ?_;intro _ hw9;obtain⟨⟨dq,osq⟩,hw9⟩:=hw9;subst hw9;have hS5:=below_regrown (wr.alloc (zC #[zS x.kt,zI x.num,zS x.loc] 84)) dq osq;have hb5:=z0q hbx hbx.size hS5;have hM5:=z2l.kw hMx hS5;have d0:=cell_regrown c0 dq osq;have d1:=cell_regrown c1 dq osq;have d2:=cell_regrown c2 dq osq;generalize grow (redrawn (wr.alloc (zC #[zS x.kt,zI x.num,zS x.loc] 84)) dq) osq=W5 at hS5 hb5 hM5 d0 d1 d2 |-;by_cases hin:x.loc∈z61 (l.take k)
    ·have HO:Hid (z5x l=341):=hd_ (by rw[HST.out,if_pos hin])
     have hlk:=z2l.lookup (w:=W5) hM5 (z2j underlying9) underlying118 (z:=.agg #[]) (by rfl) x.loc true
     have hv:z2n z5z (.agg #[]) true (z5y (z61 (l.take k)) x.loc)=.tuple #[.agg #[],.bool true]:=by unfold z5y;rw[if_pos hin];rfl
     rw[hv] at hlk;clear hin hv;go_wp2_with fail;go_ret;exact⟨z3b HO.symm,hb5.alloc hb5.size _⟩
    ·have HO:=hd_ (HST.trans (if_neg hin));have hlk:=z2l.lookup (w:=W5) hM5 (z2j underlying9) underlying118 (z:=.agg #[]) (by rfl) x.loc true
     have hv:z2n z5z (.agg #[]) true (z5y (z61 (l.take k)) x.loc)=.tuple #[.agg #[],.bool false]:=by unfold z5y;rw[if_neg hin];rfl
     rw[hv] at hlk;have hM6:=z2l.alloc hM5 (zC #[] 119);have hb6:zB w (W5.alloc (zC #[] 119)):=hb5.alloc hb5.size _;obtain⟨w3,hup,hM3,hg3,hs3⟩:=z2l.update (w:=W5.alloc (zC #[] 119)) hM6 (z2j underlying9) underlying118 x.loc ();have hup':(Instr.mapUpdate 118 (.map (some w.heap.size)) (zS x.loc) (.agg #[])).run prog (W5.alloc (zC #[] 119))=.ok () w3:=hup;have hb7:zB w w3:=hb6.trans ⟨hg3.os,hg3.tape,hg3.output,hg3.size,fun q hq=>hg3.block q (Zq hq hb6.size) (by intro e;injection e with e;omega)⟩
     have f2:=(((Zb W5.heap.size W5).alloc (Zd _) (zC #[] 119)).cell (block_lt_of_cell d2)).trans d2;clear hin hv hup;go_wp2_with fail;go_roundw
     exact⟨k+1,by omega,by go_num,hd_ (by rw[HT.out,z64,z63,<- HE.out];exact HO),hb7,by rw[HT.out,z63,z60];exact hM3⟩
     simp [intOf];omega
   ·obtain⟨ad2,had,hab2,hl2⟩:=z5s.at_ hRr hj;injection had with had
    subst had;have hys:=HS.out l[j] (Za _);generalize l[j]=y at hl hl2 hys;obtain⟨y0,y1,y2⟩:=hl2;have hba:=(Zb wr.heap.size wr).alloc (Zd _) (zC #[zS x.kt,zI x.num,zS x.loc] 84);have e0:=cell_regrown ((hba.cell (show (ad.add (j * 3)).block<wr.heap.size from block_lt_of_cell y0)).trans y0);have e1:=cell_regrown ((hba.cell (p:=⟨(ad.add (j * 3)).block,(ad.add (j * 3)).off+1,none⟩) (block_lt_of_cell y1)).trans y1);have e2:=cell_regrown ((hba.cell (p:=⟨(ad.add (j * 3)).block,(ad.add (j * 3)).off+2,none⟩) (block_lt_of_cell y2)).trans y2);have n0:decide (0<k)=true:=by simp;omega
    have n1:(k:Int) - 1=(j:Int):=by omega
    have HCMP:=hd_ (fun X=>z5r y x X hys.1 hxs.1);have cC:∀ d os,Calls prog 127 #[.agg #[zS y.kt,zI y.num,zS y.loc],.agg #[zS x.kt,zI x.num,zS x.loc]] (grow (redrawn (wr.alloc (zC #[zS x.kt,zI x.num,zS x.loc] 84)) d) os) fun e w''=>e=.returned (zI (z30 y.kt x.kt))/\∃ p:Regrown,w''=grow (redrawn (wr.alloc (zC #[zS x.kt,zI x.num,zS x.loc] 84)) p.d) p.os:=fun d os=>Calls.regrown_of (by have hh:=HCMP.out (grow (redrawn (wr.alloc (zC #[zS x.kt,zI x.num,zS x.loc] 84)) d) os);exact hh)
    generalize hcv:z30 y.kt x.kt=cv at cC;by_cases hge:0<=cv
    ·have HO:Hid (z5x l=340):=hd_ (by rw[HE.out,HV.out,z5w,hok,hl,z5v,hcv,decide_eq_true hge];rfl)
     have n2:decide ((0:Int)<=cv)=true:=decide_eq_true hge;clear hcv hok hl hkj hge;go_wp2_with fail;refine wp_region_quiet_below (by kernel_rfl) (by kernel_rfl) ?_
     repeat (first | go_big_quiet_step (first | exact cV _ _ | exact cC _ _) | quiet_step (first | exact cV _ _ | exact cC _ _))
     refine wpQuiet_nil ?_;intro _ hw9;obtain⟨⟨dq,osq⟩,hw9⟩:=hw9;subst hw9;have hS5:=below_regrown (wr.alloc (zC #[zS x.kt,zI x.num,zS x.loc] 84)) dq osq;have hb5:=z0q hbx hbx.size hS5;have hM5:=z2l.kw hMx hS5;have d0:=cell_regrown c0 dq osq;have d1:=cell_regrown c1 dq osq;have d2:=cell_regrown c2 dq osq;generalize grow (redrawn (wr.alloc (zC #[zS x.kt,zI x.num,zS x.loc] 84)) dq) osq=W5 at hS5 hb5 hM5 d0 d1 d2 |-;go_wp2_with fail;go_ret;exact⟨z3b HO.symm,hb5⟩
    ·have HST:Hid (z5x l=if x.loc∈z61 (l.take k) then 341 else z5w (some x) (x.loc :: z61 (l.take k)) (l.drop (k+1))):=hd_ (by rw[HE.out,HV.out,z5w,hok,hl,show z5u (some y) x=false by rw[z5v,hcv,decide_eq_false hge]];rfl)
     have n2:decide ((0:Int)<=cv)=false:=decide_eq_false hge;clear hcv hok hl hkj hge;go_wp2_with fail;refine wp_region_quiet_below (by kernel_rfl) (by kernel_rfl) ?_
     repeat (first | go_big_quiet_step (first | exact cV _ _ | exact cC _ _) | quiet_step (first | exact cV _ _ | exact cC _ _))
     refine wpQuiet_nil ?_;intro _ hw9;obtain⟨⟨dq,osq⟩,hw9⟩:=hw9;subst hw9;have hS5:=below_regrown (wr.alloc (zC #[zS x.kt,zI x.num,zS x.loc] 84)) dq osq;have hb5:=z0q hbx hbx.size hS5;have hM5:=z2l.kw hMx hS5;have d0:=cell_regrown c0 dq osq;have d1:=cell_regrown c1 dq osq;have d2:=cell_regrown c2 dq osq;generalize grow (redrawn (wr.alloc (zC #[zS x.kt,zI x.num,zS x.loc] 84)) dq) osq=W5 at hS5 hb5 hM5 d0 d1 d2 |-;by_cases hin:x.loc∈z61 (l.take k)
     ·have HO:Hid (z5x l=341):=hd_ (by rw[HST.out,if_pos hin])
      have hlk:=z2l.lookup (w:=W5) hM5 (z2j underlying9) underlying118 (z:=.agg #[]) (by rfl) x.loc true
      have hv:z2n z5z (.agg #[]) true (z5y (z61 (l.take k)) x.loc)=.tuple #[.agg #[],.bool true]:=by unfold z5y;rw[if_pos hin];rfl
      rw[hv] at hlk;clear hin hv;go_wp2_with fail;go_ret;exact⟨z3b HO.symm,hb5.alloc hb5.size _⟩
     ·have HO:=hd_ (HST.trans (if_neg hin));have hlk:=z2l.lookup (w:=W5) hM5 (z2j underlying9) underlying118 (z:=.agg #[]) (by rfl) x.loc true
      have hv:z2n z5z (.agg #[]) true (z5y (z61 (l.take k)) x.loc)=.tuple #[.agg #[],.bool false]:=by unfold z5y;rw[if_neg hin];rfl
      rw[hv] at hlk;have hM6:=z2l.alloc hM5 (zC #[] 119);have hb6:zB w (W5.alloc (zC #[] 119)):=hb5.alloc hb5.size _;obtain⟨w3,hup,hM3,hg3,hs3⟩:=z2l.update (w:=W5.alloc (zC #[] 119)) hM6 (z2j underlying9) underlying118 x.loc ();have hup':(Instr.mapUpdate 118 (.map (some w.heap.size)) (zS x.loc) (.agg #[])).run prog (W5.alloc (zC #[] 119))=.ok () w3:=hup;have hb7:zB w w3:=hb6.trans ⟨hg3.os,hg3.tape,hg3.output,hg3.size,fun q hq=>hg3.block q (Zq hq hb6.size) (by intro e;injection e with e;omega)⟩
      have f2:=(((Zb W5.heap.size W5).alloc (Zd _) (zC #[] 119)).cell (block_lt_of_cell d2)).trans d2;clear hin hv hup;go_wp2_with fail;go_roundw
      exact⟨k+1,by omega,by go_num,hd_ (by rw[HT.out,z64,z63,<- HE.out];exact HO),hb7,by rw[HT.out,z63,z60];exact hM3⟩
      simp [intOf];omega
 ·go_wp2_with fail;have H0:Hid (z5x l=0):=hd_ (by rw[HE.out,HV.out,ZX (by omega)];rfl)
  go_ret;exact⟨z3b H0.symm,hb⟩
def z66 (x:Syn):List Hav:=if x.dst=z2r then [] else [⟨x.kt,x.num,x.dst⟩]
def z67 (x:Syn):List Hav:=if z5d x.kind then [] else z66 x
def z68 (p:zA):List Syn->List Hav
 | []=>[]
 | x :: r=>if z30 x.kt p<0 then z67 x++z68 p r else []
def z69 (p:zA):List Syn->List Syn
 | []=>[]
 | x :: r=>if z30 x.kt p<0 then z69 p r else x :: r
def z6a (h:Hav):List Syn->List Hav
 | []=>[h]
 | x :: r=>if x.kt=h.kt then (if z5d x.kind then [h] else z66 x) else [h]
def z6b (h:Hav):List Syn->List Syn
 | []=>[]
 | x :: r=>if x.kt=h.kt then r else x :: r
def z6c:List Hav->List Syn->List Hav
 | [],ps=>ps.flatMap z67
 | h :: hs,ps=>z68 h.kt ps++z6a h (z69 h.kt ps)++z6c hs (z6b h (z69 h.kt ps))
def z6d (w:zW)(v:zV)(l:List Syn):Prop:=Row w 5 v l.length (l.flatMap Syn.cells)
def z6e (w:zW)(a:Addr)(x:Syn):Prop:=w.cell? a=some (zI x.kind)/\w.cell? ⟨a.block,a.off+1,none⟩=some (zS x.kt)/\w.cell? ⟨a.block,a.off+2,none⟩=some (zI x.num)/\w.cell? ⟨a.block,a.off+3,none⟩=some (zS x.frm)/\w.cell? ⟨a.block,a.off+4,none⟩=some (zS x.dst)
theorem z6d.at_ {w:zW}{A:zP}{c:Nat}{l:List Syn}(h:z6d w (zL A l.length c) l){k:Nat}(hk:k<l.length):
  ∃ ad,A=some ad/\ad.block<w.heap.size/\z6e w (ad.add (k * 5)) l[k]:=by
 obtain⟨ad,e,hb,hc⟩:=z3z (f:=Syn.cells) (n:=5) (fun _=>rfl) h hk;exact⟨ad,e,hb,hc 0 _ rfl,hc 1 _ rfl,hc 2 _ rfl,hc 3 _ rfl,hc 4 _ rfl⟩
theorem z6d.head {w:zW}{A:zP}{c n:Nat}{x:Syn}{r:List Syn}(h:z6d w (zL A n c) (x :: r)):
  n=r.length+1/\∃ ad,A=some ad/\ad.block<w.heap.size/\z6e w ad x:=by
 have hn:n=(x :: r).length:=by obtain⟨A',c',e,-⟩:=id h;injection e
 subst hn;obtain⟨ad,e,hb,hc⟩:=z6d.at_ (k:=0) h (by simp)
 refine⟨rfl,ad,e,hb,?_⟩;have:ad.add (0 * 5)=ad:=by unfold Addr.add;simp
 rw[this] at hc;exact hc
theorem z6d.kw {w w':zW}{v:zV}{l:List Syn}(h:z6d w v l)(hb:zB w w'):z6d w' v l:=Row.kw h hb
theorem z5s.kw {w w':zW}{v:zV}{l:List Hav}(h:z5s w v l)(hb:zB w w'):z5s w' v l:=Row.kw h hb
theorem z6f (w:zW):(sizeOf 99).run prog w=.ok 5 w:=by kernel_rfl
theorem z6d.tail {w:zW}{A:zP}{c n:Nat}{x:Syn}{r:List Syn}(h:z6d w (zL A n c) (x :: r)):
  ∃ A' c',(Instr.sliceAt 94 (zL A n c) (some (zI 1)) none none).run prog w=.ok (zL A' r.length c') w/\z6d w (zL A' r.length c') r:=by
 have hn:n=(x :: r).length:=by obtain⟨A',c',e,-⟩:=id h;injection e
 subst hn;obtain⟨A',c',h1,h2⟩:=z0b (P:=prog) (w:=w) (x:=1) (kx:=.i64) (lo:=1) underlying94 z6f h (by simp) rfl
 exact⟨A',c',h1,h2⟩
theorem z6g:z0e prog 28 84 3 40:=z0f underlying28 (z:=.agg #[zS ⟨#[]⟩,zI 0,zS ⟨#[]⟩]) (by kernel_rfl) rfl (by decide)
structure Aft (w0 w:zW)(b:Nat)(l:List Hav)(v:zV):Prop where
 bel:Below b w0 w
 box:Blk w b 28 [v]
 row:w.ownsRow (b+1) 84 3 v l.length (l.flatMap Hav.cells)
def Kp (b:Nat)(w w':zW)(v v':zV):Prop:=w.heap.size<=w'.heap.size/\∀ k,k<w.heap.size->k≠b->v.ownBlock≠some k->w'.heap[k]? = w.heap[k]?/\v'.ownBlock≠some k
theorem Kp.refl (b:Nat)(w:zW)(v:zV):Kp b w w v v:=⟨Zd _,fun k _ _ h=>⟨rfl,h⟩⟩
theorem Kp.kw {b:Nat}{w w':zW}{v:zV}(h:zB w w'):Kp b w w' v v:=⟨h.size,fun k hk _ h2=>⟨h.block k hk,h2⟩⟩
theorem Kp.trans {b:Nat}{w w' w2:zW}{v v' v2:zV}(h:Kp b w w' v v')(h2:Kp b w' w2 v' v2):Kp b w w2 v v2:=
 ⟨Zf h.1 h2.1,fun k hk hb hv=>by
  obtain⟨a1,a2⟩:=h.2 k hk hb hv;obtain⟨c1,c2⟩:=h2.2 k (Zq hk h.1) hb a2;exact⟨c1.trans a1,c2⟩⟩
theorem Kp.blk {b g:Nat}{w w':zW}{v v':zV}{e:TypeId}{cs:List zV}(h:Kp b w w' v v')(hB:Blk w g e cs)(hg:g≠b)(hv:v.ownBlock≠some g):Blk w' g e cs/\v'.ownBlock≠some g:=by
 obtain⟨a1,a2⟩:=h.2 g hB.lt hg hv;exact⟨a1.trans hB,a2⟩
theorem Aft.ku {w0 w X:zW}{b:Nat}{l:List Hav}{v:zV}(h:Aft w0 w b l v)(hX:zB w X):Aft w0 X b l v:=
 ⟨h.bel.trans (hX.mono (Nat.le_of_lt h.box.lt)),h.box.kw hX h.box.lt,z0n h.row hX⟩
theorem z6h (x:Hav):∀ v∈x.cells,v.oneCell'=true:=by
 intro v hv;simp only[Hav.cells,Zn,ZO,or_false] at hv
 rcases hv with rfl | rfl | rfl <;> rfl
theorem z6i {α β:Type}(f:α->List β)(l:List α)(x:α):(l++[x]).flatMap f=l.flatMap f++f x:=by simp
theorem Aft.push {w0 w w2:zW}{b:Nat}{l:List Hav}{v:zV}{x:Hav}{A':zP}{c':Nat}(h:Aft w0 w b l v)
  (hown:w2.ownsRow (b+1) 84 3 (zL A' (l.length+1) c') (l.length+1) (l.flatMap Hav.cells++x.cells)) (hgr:w.grownBy w2 v.ownBlock)
  (hob:(zL A' (l.length+1) c').ownBlock=v.ownBlock\/(zL A' (l.length+1) c').ownBlock=some w.heap.size):
  Aft w0 (w2.setCell ⟨b,0,none⟩ (zL A' (l.length+1) c')) b (l++[x]) (zL A' (l.length+1) c')/\Kp b w (w2.setCell ⟨b,0,none⟩ (zL A' (l.length+1) c')) v (zL A' (l.length+1) c'):=by
 have hl:=h.box.lt;have hb1:∀ k,v.ownBlock=some k->b<k:=fun k e=>by have:=(h.row.lt k e).1;omega
 have hbx:some b≠v.ownBlock:=fun e=>by have:=hb1 b e.symm;omega
 have hbel:Below b w0 w2:=h.bel.grown hgr (Nat.le_of_lt hl) (fun k e=>by have:=hb1 k e;omega)
 have hne:(zL A' (l.length+1) c').ownBlock≠some b:=by
  rcases hob with e | e
  ·rw[e];exact fun e=>hbx e.symm
  ·rw[e];intro e2;injection e2 with e2;omega
 refine⟨⟨hbel.setCell (p:=⟨b,0,none⟩) (Zd _) _,(Blk.grown h.box hgr hbx).set_ 0 _,?_⟩,?_,fun k hk hkb hv=>⟨?_,?_⟩⟩
 ·rw[Zc,ZL,z6i];exact z5c hown (p:=⟨b,0,none⟩) hne _
 ·simpa using hgr.size
 ·rw[Ya w2 _ _ k hkb];exact hgr.block k hk (fun e=>hv e.symm)
 ·rcases hob with e | e
  ·rw[e];exact hv
  ·rw[e];intro e2;injection e2 with e2;omega
theorem Aft.alloc {w0 w:zW}{b:Nat}{l:List Hav}{v:zV}(h:Aft w0 w b l v)(o:Obj):Aft w0 (w.alloc o) b l v:=h.ku (zR)
theorem z6j {x:Syn}(h:x.dst=z2r):z66 x=[]:=if_pos h
theorem addS_no {x:Syn}(h:¬ x.dst=z2r):z66 x=[⟨x.kt,x.num,x.dst⟩]:=if_neg h
theorem z6k (x:Syn)(w0 w:zW)(b:Nat)(l:List Hav)(v:zV)(hA:Aft w0 w b l v)(hl:(l.length+1) * 40<=140737488355328):
  Calls prog 129 #[.agg #[zI x.kind,zS x.kt,zI x.num,zS x.frm,zS x.dst],.pointer (some ⟨b,0,none⟩)] w fun e w'=>e=.returned (.tuple #[])/\∃ v',Aft w0 w' b (l++z66 x) v'/\Kp b w w' v v':=by
 have hA1:=hA.alloc (zC #[zI x.kind,zS x.kt,zI x.num,zS x.frm,zS x.dst] 99);have hK1:Kp b w (w.alloc (zC #[zI x.kind,zS x.kt,zI x.num,zS x.frm,zS x.dst] 99)) v v:=Kp.kw (zR);have hS:=z0l w [zI x.kind,zS x.kt,zI x.num,zS x.frm,zS x.dst] 99;by_cases h1:x.dst=z2r
 ·have HK:=hd_ (z6j h1);obtain⟨s1,s2⟩:=z5k h1;have HA:=hd_ hA1;have HKp:=hd_ hK1;clear h1 hA hA1 hK1 hS;go_enter func129,ntmps129;go_wp2_with fail;go_end0
  exact⟨rfl,_,by rw[HK.out,ZM];exact HA,HKp⟩
 ·have HK:=hd_ (addS_no h1);obtain⟨s1,s2⟩:=z5l h1;obtain⟨s3,s4,s5,s6,s7⟩:=z5g (x:=x) hS;have hbx:(w.alloc (zC #[zI x.kind,zS x.kt,zI x.num,zS x.frm,zS x.dst] 99)).cell? ⟨b,0,none⟩=some v:=hA1.box.cell 0;have hA2:=hA1.alloc (zC #[zS x.kt,zI x.num,zS x.dst] 84);have hK2:Kp b w ((w.alloc (zC #[zI x.kind,zS x.kt,zI x.num,zS x.frm,zS x.dst] 99)).alloc (zC #[zS x.kt,zI x.num,zS x.dst] 84)) v v:=Kp.kw ((zR).alloc (by simp) _)
  have hrow:=z0i (w.alloc (zC #[zI x.kind,zS x.kt,zI x.num,zS x.frm,zS x.dst] 99)) [zS x.kt,zI x.num,zS x.dst] 84 3 1 rfl (by unfold maxLen;omega) (w.heap.size+1) (by simp)
  obtain⟨A0,c0,rfl⟩:=z0o hA.row;have hsz:b+1<=((w.alloc (zC #[zI x.kind,zS x.kt,zI x.num,zS x.frm,zS x.dst] 99)).alloc (zC #[zS x.kt,zI x.num,zS x.dst] 84)).heap.size:=by have:=hA.box.lt;simp;omega
  clear h1 hA hA1 hK1 hS;go_enter func129,ntmps129;go_wp2_with (at_builtin;refine z0j rfl rfl z6g hA2.row rfl hrow rfl (z6h ⟨x.kt,x.num,x.dst⟩) hl (by unfold maxLen;omega) hsz ?_;intro A' c' w2 hown hgr hob;obtain⟨hA3,hK3⟩:=hA2.push (x:=⟨x.kt,x.num,x.dst⟩) hown hgr hob;have hbw:=Blk.grown hA2.box hgr (fun e=>by have:=(hA2.row.lt b e.symm).1;omega);have hfz:=hbw.frozen 0;have hcl:w2.cell? ⟨b,0,none⟩=some (.slice A0 l.length c0):=hbw.cell 0)
  go_end0
  exact⟨rfl,_,by rw[HK.out];exact hA3,hK2.trans hK3⟩
section
variable {α : Type} {k : α -> zA}
def z71 (k:α->zA)(l:List α):Prop:=l.Pairwise (fun a b=>z30 (k a) (k b)<0)
def z73 (k:α->zA)(l:List α)(p:zA):Option α:=l.find? (fun a=>decide (k a=p))
theorem z74 {a b:zA}(h:z30 a b<0):a≠b:=fun e=>by rw[e,z6q] at h;omega
theorem z77 {a b:zA}(h:z30 a b<0):¬ z30 b a<0:=by rw[z6t];omega
theorem z71.tail {a:α}{l:List α}(h:z71 k (a :: l)):z71 k l:=(ZP.1 h).2
theorem z71.head {a:α}{l:List α}(h:z71 k (a :: l)):∀ b∈l,z30 (k a) (k b)<0:=(ZP.1 h).1
theorem z78 {l:List α}{p:zA}{a:α}(h:z73 k l p=some a):a∈l/\k a=p:=
 ⟨List.mem_of_find?_eq_some h,by simpa using List.find?_some h⟩
theorem z79 {l:List α}{p:zA}:z73 k l p=none↔∀ a∈l,k a≠p:=by
 unfold z73;rw[List.find?_eq_none];simp
theorem z7a (a:α)(l:List α)(p:zA):z73 k (a :: l) p=if k a=p then some a else z73 k l p:=by
 unfold z73;rw[List.find?_cons];by_cases h:k a=p
 ·rw[if_pos h,decide_eq_true h]
 ·rw[if_neg h,decide_eq_false h]
theorem z7b {l:List α}(h:z71 k l){a:α}(ha:a∈l):z73 k l (k a)=some a:=by
 induction l with
 | nil=>cases ha
 | cons b l ih =>
  rw[z7a];by_cases e:k b=k a
  ·rw[if_pos e];rcases Zn.1 ha with rfl | ha
   ·rfl
   ·exact absurd e (z74 (h.head a ha))
  ·rw[if_neg e];rcases Zn.1 ha with rfl | ha
   ·exact absurd rfl e
   ·exact ih h.tail ha
theorem z7c {l m:List α}(hl:z71 k l)(hm:z71 k m)(h:∀ a,a∈l↔a∈m):l=m:=by
 induction l generalizing m with
 | nil =>
  cases m with
  | nil=>rfl
  | cons b m=>exact absurd ((h b).2 (Zj ..)) (by simp)
 | cons a l ih =>
  cases m with
  | nil=>exact absurd ((h a).1 (Zj ..)) (by simp)
  | cons b m =>
   have hab:a=b:=by
    rcases Zn.1 ((h a).1 (Zj ..)) with e | h1
    ·exact e
    ·rcases Zn.1 ((h b).2 (Zj ..)) with e | h2
     ·exact e.symm
     ·exact absurd (hm.head a h1) (z77 (hl.head b h2))
   subst hab;congr 1
   refine ih hl.tail hm.tail fun x=>⟨fun hx=>?_,fun hx=>?_⟩
   ·rcases Zn.1 ((h x).1 (Zh _ hx)) with rfl | h1
    ·exact absurd rfl (z74 (hl.head _ hx))
    ·exact h1
   ·rcases Zn.1 ((h x).2 (Zh _ hx)) with rfl | h1
    ·exact absurd rfl (z74 (hm.head _ hx))
    ·exact h1
theorem z7d {l m:List α}(hl:z71 k l)(hm:z71 k m)(h:∀ a∈l,∀ b∈m,z30 (k a) (k b)<0):z71 k (l++m):=List.pairwise_append.2 ⟨hl,hm,h⟩
theorem z7e {β:Type}{kb:β->zA}{f:α->β}{l:List α}(h:z71 k l)(hf:∀ a,kb (f a)=k a):z71 kb (l.map f):=by
 unfold z71;rw[List.pairwise_map];exact h.imp fun {a b} hab=>by rw[hf,hf];exact hab
theorem z7f {β:Type}{kb:β->zA}{f:α->β}(hf:∀ a,kb (f a)=k a)(l:List α)(p:zA):z73 kb (l.map f) p=(z73 k l p).map f:=by
 induction l with
 | nil=>rfl
 | cons a l ih =>
  rw[ZN,z7a,z7a,hf];split
  ·rfl
  ·exact ih
theorem z7g {l:List α}(h:z71 k l)(f:α->Bool):z71 k (l.filter f):=h.sublist List.filter_sublist
end
abbrev z7h:=z71 Hav.kt
abbrev z7i:=z71 Syn.kt
abbrev z7j:=z73 Hav.kt
abbrev z7k:=z73 Syn.kt
def z7l (w:Hav):Syn:=⟨0,w.kt,w.num,z2r,w.loc⟩
def z7m (h:Hav):Syn:=⟨0,h.kt,0,h.loc,z2r⟩
def updT (h w:Hav):Syn:=⟨0,w.kt,w.num,h.loc,w.loc⟩
instance:DecidableEq Hav:=fun a b=>by
 cases a;cases b
 rw[Hav.mk.injEq];exact inferInstance
def z7n:Nat->List Hav->List Hav->List Syn
 | 0,_,_=>[]
 | _+1,[],[]=>[]
 | n+1,h :: hs,[]=>z7m h :: z7n n hs []
 | n+1,[],w :: ws=>z7l w :: z7n n [] ws
 | n+1,h :: hs,w :: ws=>if z30 h.kt w.kt<0 then z7m h :: z7n n hs (w :: ws) else if 0<z30 h.kt w.kt then z7l w :: z7n n (h :: hs) ws else (if h=w then [] else [updT h w])++z7n n hs ws
def z7o (h w:Option Hav):Option Syn:=
 match h,w with
 | none,none=>none
 | some h,none=>some (z7m h)
 | none,some w=>some (z7l w)
 | some h,some w=>if h=w then none else some (updT h w)
theorem z7p:∀(n:Nat) (hs ws:List Hav) (x:Syn),x∈z7n n hs ws->(∃ h∈hs,h.kt=x.kt)\/∃ w∈ws,w.kt=x.kt
 | 0,_,_,x,h=>by simp [z7n] at h
 | _+1,[],[],x,h=>by simp [z7n] at h
 | n+1,h :: hs,[],x,hx=>by
  simp only[z7n,Zn] at hx
  rcases hx with rfl | hx
  ·exact .inl ⟨h,Zj ..,rfl⟩
  ·rcases z7p n hs [] x hx with⟨y,hy,e⟩ | ⟨y,hy,e⟩
   ·exact .inl ⟨y,Zh _ hy,e⟩
   ·cases hy
 | n+1,[],w :: ws,x,hx=>by
  simp only[z7n,Zn] at hx
  rcases hx with rfl | hx
  ·exact .inr ⟨w,Zj ..,rfl⟩
  ·rcases z7p n [] ws x hx with⟨y,hy,e⟩ | ⟨y,hy,e⟩
   ·cases hy
   ·exact .inr ⟨y,Zh _ hy,e⟩
 | n+1,h :: hs,w :: ws,x,hx=>by
  simp only[z7n] at hx
  split at hx
  ·rcases Zn.1 hx with rfl | hx
   ·exact .inl ⟨h,Zj ..,rfl⟩
   ·rcases z7p n hs (w :: ws) x hx with⟨y,hy,e⟩ | ⟨y,hy,e⟩
    ·exact .inl ⟨y,Zh _ hy,e⟩
    ·exact .inr ⟨y,hy,e⟩
  ·split at hx
   ·rcases Zn.1 hx with rfl | hx
    ·exact .inr ⟨w,Zj ..,rfl⟩
    ·rcases z7p n (h :: hs) ws x hx with⟨y,hy,e⟩ | ⟨y,hy,e⟩
     ·exact .inl ⟨y,hy,e⟩
     ·exact .inr ⟨y,Zh _ hy,e⟩
   ·rcases Zy.1 hx with hx | hx
    ·split at hx
     ·cases hx
     ·rw[Zm] at hx;subst hx;exact .inr ⟨w,Zj ..,rfl⟩
    ·rcases z7p n hs ws x hx with⟨y,hy,e⟩ | ⟨y,hy,e⟩
     ·exact .inl ⟨y,Zh _ hy,e⟩
     ·exact .inr ⟨y,Zh _ hy,e⟩
theorem z7q {a b:zA}(ha:z2y a=true)(hb:z2y b=true)(h1:¬ z30 a b<0)(h2:¬ 0<z30 a b):a=b:=z6u ha hb (by omega)
theorem z7r:∀(n:Nat) (hs ws:List Hav),hs.length+ws.length<=n->z7h hs->z7h ws->(∀ x∈hs,z2y x.kt=true)->(∀ x∈ws,z2y x.kt=true) ->
  z7i (z7n n hs ws)/\∀ p,z7k (z7n n hs ws) p=z7o (z7j hs p) (z7j ws p)
 | 0,hs,ws,hn,_,_,_,_=>by
  have e1:hs=[]:=Zt (by omega)
  have e2:ws=[]:=Zt (by omega)
  subst e1 e2;exact⟨List.Pairwise.nil,fun p=>rfl⟩
 | _+1,[],[],_,_,_,_,_=>⟨List.Pairwise.nil,fun p=>rfl⟩
 | n+1,h :: hs,[],hn,h1,h2,v1,v2=>by
  obtain⟨i1,i2⟩:=z7r n hs [] (by simp at hn |-;omega) h1.tail h2 (fun x hx=>v1 x (Zh _ hx)) v2
  simp only[z7n]
  refine⟨ZP.2 ⟨fun x hx=>?_,i1⟩,fun p=>?_⟩
  ·rcases z7p _ _ _ _ hx with⟨y,hy,e⟩ | ⟨y,hy,e⟩
   ·rw[<- e];exact h1.head y hy
   ·cases hy
  ·show z73 Syn.kt _ p=_
   rw[z7a];show _=z7o (z73 Hav.kt (h :: hs) p) (z73 Hav.kt [] p)
   rw[z7a];show (if h.kt=p then _ else _)=_
   split
   ·rfl
   ·exact i2 p
 | n+1,[],w :: ws,hn,h1,h2,v1,v2=>by
  obtain⟨i1,i2⟩:=z7r n [] ws (by simp at hn |-;omega) h1 h2.tail v1 (fun x hx=>v2 x (Zh _ hx))
  simp only[z7n]
  refine⟨ZP.2 ⟨fun x hx=>?_,i1⟩,fun p=>?_⟩
  ·rcases z7p _ _ _ _ hx with⟨y,hy,e⟩ | ⟨y,hy,e⟩
   ·cases hy
   ·rw[<- e];exact h2.head y hy
  ·show z73 Syn.kt _ p=_
   rw[z7a];show _=z7o (z73 Hav.kt [] p) (z73 Hav.kt (w :: ws) p)
   rw[z7a];show (if w.kt=p then _ else _)=_
   split
   ·rfl
   ·exact i2 p
 | n+1,h :: hs,w :: ws,hn,h1,h2,v1,v2=>by
  have vh:=v1 h (Zj ..);have vw:=v2 w (Zj ..);have tr:∀ {a b c:zA},z2y a=true->z2y b=true->z2y c=true->z30 a b<0->z30 b c<0->z30 a c<0:=fun x y z=>z6r x y z;simp only[z7n]
  by_cases c1:z30 h.kt w.kt<0
  ·rw[if_pos c1];obtain⟨i1,i2⟩:=z7r n hs (w :: ws) (by simp at hn |-;omega) h1.tail h2 (fun x hx=>v1 x (Zh _ hx)) v2
   refine⟨ZP.2 ⟨fun x hx=>?_,i1⟩,fun p=>?_⟩
   ·rcases z7p _ _ _ _ hx with⟨y,hy,e⟩ | ⟨y,hy,e⟩
    ·rw[<- e];exact h1.head y hy
    ·rw[<- e];rcases Zn.1 hy with rfl | hy'
     ·exact c1
     ·exact tr vh vw (v2 y hy) c1 (h2.head y hy')
   ·show z73 Syn.kt _ p=_
    rw[z7a];show (if h.kt=p then _ else _)=z7o (z73 Hav.kt (h :: hs) p) (z73 Hav.kt (w :: ws) p)
    rw[z7a];by_cases e:h.kt=p
    ·rw[if_pos e,if_pos e];have:z73 Hav.kt (w :: ws) p=none:=z79.2 fun a ha ea=>by
      rcases Zn.1 ha with rfl | ha'
      ·exact z74 c1 (e.trans ea.symm)
      ·exact z74 (tr vh vw (v2 a ha) c1 (h2.head a ha')) (e.trans ea.symm)
     rw[this];rfl
    ·rw[if_neg e,if_neg e];exact i2 p
  ·rw[if_neg c1];by_cases c2:0<z30 h.kt w.kt
   ·rw[if_pos c2];have c3:z30 w.kt h.kt<0:=by rw[z6t];omega
    obtain⟨i1,i2⟩:=z7r n (h :: hs) ws (by simp at hn |-;omega) h1 h2.tail v1 (fun x hx=>v2 x (Zh _ hx))
    refine⟨ZP.2 ⟨fun x hx=>?_,i1⟩,fun p=>?_⟩
    ·rcases z7p _ _ _ _ hx with⟨y,hy,e⟩ | ⟨y,hy,e⟩
     ·rw[<- e];rcases Zn.1 hy with rfl | hy'
      ·exact c3
      ·exact tr vw vh (v1 y hy) c3 (h1.head y hy')
     ·rw[<- e];exact h2.head y hy
    ·show z73 Syn.kt _ p=_
     rw[z7a];show (if w.kt=p then _ else _)=z7o (z73 Hav.kt (h :: hs) p) (z73 Hav.kt (w :: ws) p)
     rw[z7a (l:=ws)];by_cases e:w.kt=p
     ·rw[if_pos e,if_pos e];have:z73 Hav.kt (h :: hs) p=none:=z79.2 fun a ha ea=>by
       rcases Zn.1 ha with rfl | ha'
       ·exact z74 c3 (e.trans ea.symm)
       ·exact z74 (tr vw vh (v1 a ha) c3 (h1.head a ha')) (e.trans ea.symm)
      rw[this];rfl
     ·rw[if_neg e,if_neg e];exact i2 p
   ·rw[if_neg c2];have ep:=z7q vh vw c1 c2;obtain⟨i1,i2⟩:=z7r n hs ws (by simp at hn |-;omega) h1.tail h2.tail (fun x hx=>v1 x (Zh _ hx)) (fun x hx=>v2 x (Zh _ hx))
    have hn1:∀ x∈z7n n hs ws,z30 w.kt x.kt<0:=fun x hx=>by
     rcases z7p _ _ _ _ hx with⟨y,hy,e⟩ | ⟨y,hy,e⟩
     ·rw[<- e,<- ep];exact h1.head y hy
     ·rw[<- e];exact h2.head y hy
    refine⟨?_,fun p=>?_⟩
    ·split
     ·exact i1
     ·exact ZP.2 ⟨hn1,i1⟩
    ·show _=z7o (z73 Hav.kt (h :: hs) p) (z73 Hav.kt (w :: ws) p)
     rw[z7a,z7a];by_cases e:w.kt=p
     ·rw[if_pos (ep.trans e),if_pos e];have hno:z73 Syn.kt (z7n n hs ws) p=none:=z79.2 fun x hx ex=>z74 (hn1 x hx) (e.trans ex.symm);by_cases eq:h=w
      ·rw[if_pos eq,Yc];show z73 Syn.kt _ p=_
       rw[hno];exact (if_pos eq).symm
      ·rw[if_neg eq,List.singleton_append];show z73 Syn.kt _ p=_
       rw[z7a];show (if w.kt=p then _ else _)=_
       rw[if_pos e];exact (if_neg eq).symm
     ·rw[if_neg (fun e2=>e (ep.symm.trans e2)),if_neg e];by_cases eq:h=w
      ·rw[if_pos eq,Yc];exact i2 p
      ·rw[if_neg eq,List.singleton_append];show z73 Syn.kt _ p=_
       rw[z7a];show (if w.kt=p then _ else _)=_
       rw[if_neg e];exact i2 p
