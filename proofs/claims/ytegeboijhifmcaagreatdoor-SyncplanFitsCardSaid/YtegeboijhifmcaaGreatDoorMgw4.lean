/- Leaves: strings.HasPrefix, path.Valid, path.Compare, the comparisons, filetype.Check. -/
import Derived.Test.YtegeboijhifmcaaGreatDoorMgw2
import Derived.Test.YtegeboijhifmcaaGreatDoorMgw0
import Derived.Lib.Strings
import Derived.Maps.RangeRun
import Derived.Deep.RegionHeld3
import Derived.Deep.MidRow
import Derived.StillTailTactics
import Derived.IntWalk
namespace Go.Proofs.YtegeboijhifmcaaGreatDoor
set_option linter.unusedVariables false
set_option linter.unusedSimpArgs false
set_option maxHeartbeats 2000000
open Go.RowKit
theorem z32 {s:ByteArray}(h:Lib.hasPrefix s.data.toList [47,47]=true):2≤s.size:=by
 have:s.data.toList.length=s.size:=rfl;rw[← this];cases hl:s.data.toList with
 | nil=>rw[hl] at h;cases h
 | cons a l=>cases l with
  | nil=>rw[hl] at h;unfold Lib.hasPrefix at h;simp at h
  | cons b l=>simp
theorem pre_eq (s p:ByteArray)(h:p.size≤s.size):(s.extract 0 p.size == p)=Lib.hasPrefix s.data.toList p.data.toList:=by
 have e1:(s.extract 0 p.size).data.toList=s.data.toList.take p.size:=by rw[Lib.extract_data];simp
 rw[Bool.eq_iff_iff,beq_iff_eq];unfold Lib.hasPrefix;rw[List.isPrefixOf_iff_prefix];have hpl:p.data.toList.length=p.size:=rfl;constructor
 ·intro e;have:p.data.toList=s.data.toList.take p.size:=by rw[← e1,e]
  rw[this];exact List.take_prefix _ _
 ·intro e;have:=List.prefix_iff_eq_take.1 e;rw[hpl] at this;have h2:(s.extract 0 p.size).data.toList=p.data.toList:=by rw[e1,← this]
  cases hs:s.extract 0 p.size with | mk x=>cases p with | mk y =>
   rw[hs] at h2;congr 1
   exact Array.toList_inj.1 h2
theorem z33 (s p:ByteArray)(h:¬ p.size≤s.size):Lib.hasPrefix s.data.toList p.data.toList=false:=by
 unfold Lib.hasPrefix;rw[Bool.eq_false_iff];intro e;have:=(List.isPrefixOf_iff_prefix.1 e).length_le;have h1:p.data.toList.length=p.size:=rfl;have h2:s.data.toList.length=s.size:=rfl;omega
theorem hasP (s p:ByteArray)(w:World)(b:Bool)(h:Lib.hasPrefix s.data.toList p.data.toList=b):Calls Tryz.prog 102 #[.string s,.string p] w fun e w'=>e=.returned (.bool b)∧w=w':=by
 by_cases hl:p.size≤s.size
 ·have hq:((s.extract 0 p.size).toList == p.toList)=b:=by
   rw[← h,← pre_eq s p hl,ByteArray.toList_eq,ByteArray.toList_eq,Bool.eq_iff_iff,beq_iff_eq,beq_iff_eq];constructor
   ·intro e;cases hs:s.extract 0 p.size with | mk x=>cases p with | mk y =>
     rw[hs] at e;congr 1;exact Array.toList_inj.1 e
   ·intro e;rw[e]
  have d1:decide ((p.size:Int)≤(s.size:Int))=true:=by simp;omega
  clear h;go_enter Tryz.func102,Tryz.ntmps102;go_wp2
  go_ret;exact⟨rfl,rfl⟩
 ·have hb:=z33 s p hl;rw[h] at hb;subst hb;have d1:decide ((p.size:Int)≤(s.size:Int))=false:=by simp;omega
  clear h;go_enter Tryz.func102,Tryz.ntmps102;go_wp2
  go_ret;exact⟨rfl,rfl⟩
theorem z34 {k:IntKind}{a b:Int}(h:a=b):Ending.returned (.int k a)=.returned (.int k b):=by rw[h]
theorem z35 (b:Int)(k l x:Bool)(w:World):
  Calls Tryz.prog 205 #[.agg #[.int .i64 b,.bool k,.bool l,.bool x]] w fun e w'=>e=.returned (.int .i64 (z2k 90 (z2j b k x)))∧Below w.heap.size w w':=by
 by_cases h1:b=1
 ·subst h1;go_enter Tryz.func205,Tryz.ntmps205;go_wp2
  go_ret;exact⟨rfl,(Below.refl _ _).alloc (Nat.le_refl _) _⟩
 ·by_cases h2:b=2
  ·subst h2;cases k
   all_goals
    go_enter Tryz.func205,Tryz.ntmps205;go_wp2
    go_ret;exact⟨rfl,(Below.refl _ _).alloc (Nat.le_refl _) _⟩
  ·by_cases h3:b=3
   ·subst h3;cases k <;> cases x
    all_goals
     go_enter Tryz.func205,Tryz.ntmps205;go_wp2
     go_ret;exact⟨rfl,(Below.refl _ _).alloc (Nat.le_refl _) _⟩
   ·have H:Hid (z2j b k x=false):=hd_ (by unfold z2j;simp [h1,h2,h3])
    have g1:(b == 1)=false:=by simpa using h1
    have g2:(b == 2)=false:=by simpa using h2
    have g3:(b == 3)=false:=by simpa using h3
    go_enter Tryz.func205,Tryz.ntmps205;go_wp2
    go_ret;exact⟨z34 (by rw[H.out];rfl),(Below.refl _ _).alloc (Nat.le_refl _) _⟩
abbrev Comps:=List (List UInt8)
def z36 (l:List UInt8)(i b c:Nat):Prop:=
 2≤b∧b≤i∧i≤l.length+1∧∃ done:Comps,done.length=c∧done.all z0u=true ∧
  ((i≤l.length∧z1a (l.drop 2)=done++z1a (l.drop b)∧(47:UInt8)∉(l.drop b).take (i - b))∨(i=l.length+1∧z1a (l.drop 2)=done))
theorem z36.start {l:List UInt8}(h:2≤l.length):z36 l 2 2 0:=⟨by omega,by omega,by omega,[],rfl,rfl,.inl ⟨h,rfl,by simp⟩⟩
theorem z36.next {l:List UInt8}{i b c:Nat}(h:z36 l i b c)(hi:i<l.length)(hne:l[i]≠47):z36 l (i+1) b c:=by
 obtain⟨h1,h2,h3,done,h4,h5,h6⟩:=h;refine⟨h1,by omega,by omega,done,h4,h5,?_⟩
 rcases h6 with⟨h6,h7,h8⟩ | ⟨h6,-⟩
 ·refine .inl ⟨by omega,h7,?_⟩
  rw[show i+1 - b=(i - b)+1 by omega,List.take_succ_eq_append_getElem (by rw[List.length_drop];omega)]
  rw[List.mem_append,not_or];refine⟨h8,?_⟩;have:(l.drop b)[i - b]'(by rw[List.length_drop];omega)=l[i]:=by rw[List.getElem_drop];congr 1;omega
  rw[this];simpa using fun e=>hne e.symm
 ·omega
def z38 (l:List UInt8)(b i:Nat):List UInt8:=(l.drop b).take (i - b)
theorem z36.part {l:List UInt8}{i b c:Nat}(h:z36 l i b c)(hi:i≤l.length)(hend:∀ h:i<l.length,l[i]=47):
  ∃ done:Comps,done.length=c∧done.all z0u=true∧z1a (l.drop 2)=done++z38 l b i :: (if i<l.length then z1a (l.drop (i+1)) else []):=by
 obtain⟨h1,h2,h3,done,h4,h5,h6⟩:=h;rcases h6 with⟨h6,h7,h8⟩ | ⟨h6,-⟩
 ·refine⟨done,h4,h5,?_⟩;rw[h7];congr 1
  by_cases hlt:i<l.length
  ·rw[if_pos hlt];have e:l.drop b=z38 l b i++47 :: l.drop (i+1):=by
    have hd:(l.drop b).drop (i - b)=47 :: l.drop (i+1):=by
     rw[List.drop_drop,show b+(i - b)=i by omega,List.drop_eq_getElem_cons hlt,hend hlt]
    rw[← hd];exact (List.take_append_drop _ _).symm
   rw[e];exact z1c h8 _
  ·rw[if_neg hlt];have e:z38 l b i=l.drop b:=by unfold z38;rw[List.take_of_length_le (by rw[List.length_drop];omega)]
   rw[← e];exact z1d h8
 ·omega
theorem z36.step {l:List UInt8}{i b c:Nat}(h:z36 l i b c)(hi:i≤l.length)(hend:∀ h:i<l.length,l[i]=47)(hc:z0u (z38 l b i)=true):z36 l (i+1) (i+1) (c+1):=by
 obtain⟨done,h4,h5,h6⟩:=h.part hi hend;obtain⟨h1,h2,h3,-⟩:=h;refine⟨by omega,by omega,by omega,done++[z38 l b i],by simp [h4],by rw[List.all_append,h5];simp [hc],?_⟩
 by_cases hlt:i<l.length
 ·rw[if_pos hlt] at h6;exact .inl ⟨by omega,by rw[h6];simp,by simp⟩
 ·rw[if_neg hlt] at h6;exact .inr ⟨by omega,h6⟩
theorem z36.bad {l:List UInt8}{i b c:Nat}(h:z36 l i b c)(hi:i≤l.length)(hend:∀ h:i<l.length,l[i]=47)(hc:z0u (z38 l b i)=false):z2r l=false:=by
 obtain⟨done,h4,h5,h6⟩:=h.part hi hend;unfold z2r z2q;rw[if_neg]
 ·rfl
 ·rintro⟨-,-,h⟩;rw[h6,List.all_append] at h;simp [hc] at h
theorem z36.fin {l:List UInt8}{i b c:Nat}(h:z36 l i b c)(hi:¬ i≤l.length)(hp:Lib.hasPrefix l [47,47]=true):z2r l=decide (2≤c):=by
 obtain⟨h1,h2,h3,done,h4,h5,h6⟩:=h;rcases h6 with⟨h6,-⟩ | ⟨-,h6⟩
 ·omega
 ·unfold z2r z2q;rw[h6,h4];by_cases h2c:2≤c
  ·rw[if_pos ⟨hp,h2c,h5⟩];simp [h2c]
  ·rw[if_neg (fun h=>h2c h.2.1)];simp [h2c]
theorem z39 {l:List UInt8}(h:Lib.hasPrefix l [47,47]=false):z2r l=false:=by
 unfold z2r z2q;rw[if_neg (fun hh=>by rw[h] at hh;cases hh.1)];rfl
theorem z36.count {l:List UInt8}{i b c:Nat}(h:z36 l i b c):c≤l.length+1:=by
 obtain⟨h1,h2,h3,done,h4,h5,h6⟩:=h;have hs:=z1g (l.drop 2);rw[List.length_drop] at hs;rcases h6 with⟨-,h6,-⟩ | ⟨-,h6⟩
 ·rw[h6,List.length_append] at hs;omega
 ·rw[h6] at hs;omega
theorem z3a (p:ByteArray)(b i:Nat):z0v (p.extract b i)=z0u (z38 p.data.toList b i):=by
 unfold z0v z38;rw[Lib.extract_data]
theorem z3b (p:ByteArray)(b i:Nat):(p.extract b i).size≤p.size:=by
 have h1:(p.extract b i).data.toList.length=(p.extract b i).size:=rfl;have h2:p.data.toList.length=p.size:=rfl;rw[← h1,Lib.extract_data,List.length_take,List.length_drop];omega
theorem z3c (p:ByteArray)(w:World)(hp:p.size≤140737488355328):
  Calls Tryz.prog 67 #[.string p] w fun e w'=>e=.returned (.bool (z2r p.data.toList))∧w=w':=by
 cases h1:Lib.hasPrefix p.data.toList [47,47]
 ·have HV:=hd_ (z39 h1);have HP:=hd_ (hasP p ⟨#[47,47]⟩ w false h1);clear h1;go_enter Tryz.func67,Tryz.ntmps67;go_wp2_with fail;refine HP.out.mono ?_;rintro e w' ⟨rfl,rfl⟩;go_wp2_with fail;go_ret;exact⟨z0w HV.out.symm,rfl⟩
 ·have hsz:=z32 h1;have HP:=hd_ (hasP p ⟨#[47,47]⟩ w true h1);have HH:=hd_ h1;clear h1;have hpl:p.data.toList.length=p.size:=rfl;go_enter Tryz.func67,Tryz.ntmps67;go_wp2_with fail;refine HP.out.mono ?_;rintro e w' ⟨rfl,rfl⟩;go_wp2_with fail;go_loop [3,4,5] (fun c b i=>∃ k n m:Nat,z36 p.data.toList k n m∧i=.int .i64 k∧b=.int .i64 n∧c=.int .i64 m) (fun _ _ i=>p.size+1 - (intOf i).toNat)
  case atStart=>exact⟨2,2,0,z36.start (by omega),rfl,rfl,rfl⟩
  case round =>
   obtain⟨k,n,m,hv,rfl,rfl,rfl⟩:=hrel;have hv1:=hv.1;have hv2:=hv.2.1;have hv3:=hv.2.2.1;have hm:m≤p.size+1:=z36.count hv;have HV:=hd_ hv;clear hv;rw[hpl] at hv3;by_cases hk:k≤p.size
   ·have d1:decide ((k:Int)≤(p.size:Int))=true:=by simp;omega
    by_cases hlt:k<p.size
    ·have d2:decide ((k:Int)<(p.size:Int))=true:=by simp;omega
     by_cases h47:p[k]=47
     ·have q1:((p[k].toNat:Int) != 47)=false:=by rw[h47];rfl
      have q2:((p[k].toNat:Int) == 47)=true:=by rw[h47];rfl
      have hend:∀ h:k<p.data.toList.length,p.data.toList[k]=47:=fun h=>by rw[← h47];rfl
      have HE:=hd_ hend;clear hend h47;have hes:(p.extract n k).size≤maxLen:=by have:=z3b p n k;unfold maxLen;omega
      have HC:=hd_ (z19 (p.extract n k) w hes);clear hes;cases hcc:z0u (z38 p.data.toList n k)
      ·rw[z3a,hcc] at HC;have HB:=hd_ (HV.out.bad (by omega) HE.out hcc)
       clear hcc;go_wp2_with fail;refine HC.out.mono ?_;rintro e w' ⟨rfl,rfl⟩;go_wp2_with fail;go_ret;exact⟨z0w HB.out.symm,rfl⟩
      ·rw[z3a,hcc] at HC;have HB:=hd_ (HV.out.step (by omega) HE.out hcc)
       clear hcc;go_wp2_with fail;refine HC.out.mono ?_;rintro e w' ⟨rfl,rfl⟩;go_wp2_with fail;go_round
       case rel=>exact⟨k+1,k+1,m+1,HB.out,by go_num,by go_num,by go_num⟩
       case measure=>simp [intOf];omega
     ·have q1:((p[k].toNat:Int) != 47)=true:=by rw[bne_iff_ne];intro h;exact h47 (UInt8.toNat.inj (show p[k].toNat=47 by omega))
      have q2:((p[k].toNat:Int) == 47)=false:=by rw[beq_eq_false_iff_ne];intro h;exact h47 (UInt8.toNat.inj (show p[k].toNat=47 by omega))
      have HN:=hd_ (HV.out.next (by omega) (show p.data.toList[k]'(by omega)≠47 from h47))
      clear h47;go_wp2_with fail;go_round
      case rel=>exact⟨k+1,n,m,HN.out,by go_num,rfl,rfl⟩
      case measure=>simp [intOf];omega
    ·have d2:decide ((k:Int)<(p.size:Int))=false:=by simp;omega
     have hend:∀ h:k<p.data.toList.length,p.data.toList[k]=47:=fun h=>by omega
     have HE:=hd_ hend;clear hend;have hes:(p.extract n k).size≤maxLen:=by have:=z3b p n k;unfold maxLen;omega
     have HC:=hd_ (z19 (p.extract n k) w hes);clear hes;cases hcc:z0u (z38 p.data.toList n k)
     ·rw[z3a,hcc] at HC;have HB:=hd_ (HV.out.bad (by omega) HE.out hcc)
      clear hcc;go_wp2_with fail;refine HC.out.mono ?_;rintro e w' ⟨rfl,rfl⟩;go_wp2_with fail;go_ret;exact⟨z0w HB.out.symm,rfl⟩
     ·rw[z3a,hcc] at HC;have HB:=hd_ (HV.out.step (by omega) HE.out hcc)
      clear hcc;go_wp2_with fail;refine HC.out.mono ?_;rintro e w' ⟨rfl,rfl⟩;go_wp2_with fail;go_round
      case rel=>exact⟨k+1,k+1,m+1,HB.out,by go_num,by go_num,by go_num⟩
      case measure=>simp [intOf];omega
   ·have d1:decide ((k:Int)≤(p.size:Int))=false:=by simp;omega
    have HF:=hd_ (HV.out.fin (by omega) HH.out)
    go_wp2_with fail;go_ret;exact⟨z0w (by rw[HF.out];simp;omega),rfl⟩
open Go.ChangeMaps (setBlock)
section
variable {κ : Type} {kv : κ → Value} {w w' : World} {r B : Nat} {left : List (κ × Value)}
def z6n (kv:κ→Value)(w:World)(r B:Nat)(left:List (κ×Value)):Prop:=
 r≠B∧∃(es:Array MapEntry) (clock since c0:Nat) (seen:Array Nat),w.heap[B]? = some (.map es clock)∧w.heap[r]? = some (.mapIter (some B) since seen c0)∧(∀ e∈es.toList,e.born<since)∧since≤c0∧since≤clock∧(es.toList.map (·.born)).Nodup ∧
  z1r (leftOf es seen).toList=left.map fun p=>(kv p.1,p.2)
theorem z6n.keep (h:z6n kv w r B left)(h1:w'.heap[B]? = w.heap[B]?)(h2:w'.heap[r]? = w.heap[r]?):z6n kv w' r B left:=by
 obtain⟨hne,es,clock,since,c0,seen,a,b,rest⟩:=h;exact⟨hne,es,clock,since,c0,seen,h1.trans a,h2.trans b,rest⟩
theorem z6n.lt (h:z6n kv w r B left):r<w.heap.size∧B<w.heap.size:=by
 obtain⟨hne,es,clock,since,c0,seen,a,b,rest⟩:=h;exact⟨(Array.getElem?_eq_some_iff.1 b).1,(Array.getElem?_eq_some_iff.1 a).1⟩
theorem z6n.below (h:z6n kv w r B left)(hb:Below w.heap.size w w'):z6n kv w' r B left:=h.keep (hb.block _ h.lt.2) (hb.block _ h.lt.1)
theorem z6n.setCell (h:z6n kv w r B left){p:Addr}(h1:p.block≠r)(h2:p.block≠B)(u:Value):z6n kv (w.setCell p u) r B left:=
 h.keep (Below.heap_setCell w p u B (fun e=>h2 e.symm)) (Below.heap_setCell w p u r (fun e=>h1 e.symm))
theorem z1u.range {P:Program}{m:List (κ×Value)}(h:z1u kv w B m){t k e:TypeId}(ht:P.underlying t=some (.map k e)):
  ∃ w',(Instr.range t (.map (some B))).run P w=.ok (.pointer (some ⟨w.heap.size,0,none⟩)) w'∧z6n kv w' w.heap.size B m∧Below w.heap.size w w'∧w'.heap.size=w.heap.size+1:=by
 have hlt:=h.lt;obtain⟨es,clock,hB,hp,hst⟩:=h;refine⟨_,run_range_map w t k e B es clock ht hB,⟨by omega,es,clock,clock,clock,#[],?_,heap_alloc_new w _,hst.1,Nat.le_refl _,Nat.le_refl _,hst.2,?_⟩,(Below.refl _ _).alloc (Nat.le_refl _) _,by simp⟩
 ·rw[heap_alloc_old w _ hlt];exact hB
 ·have:leftOf es #[]=es:=by unfold leftOf;simp
  rw[this];exact hp
theorem z6o {es:List MapEntry}{p:MapEntry→Bool}{e:MapEntry}(hn:(es.map (·.born)).Nodup)(he:e∈es.filter p):
  ∃ a b,es.filter p=a++e :: b∧es.filter (fun x=>p x && !(x.born == e.born))=a++b:=by
 induction es with
 | nil=>simp at he
 | cons x es ih =>
  rw[List.map_cons,List.nodup_cons] at hn;by_cases hxe:x.born=e.born
  ·have hnot:e∉es:=fun h=>hn.1 (by rw[hxe];exact List.mem_map.2 ⟨e,h,rfl⟩)
   have hex:x=e:=by
    have:=(List.mem_filter.1 he).1;rcases List.mem_cons.1 this with h | h
    ·exact h.symm
    ·exact absurd h hnot
   subst hex;have hpx:p x=true:=(List.mem_filter.1 he).2;refine⟨[],es.filter p,by simp [hpx],?_⟩
   rw[List.filter_cons];simp only[hpx,beq_self_eq_true,Bool.not_true,Bool.and_false,Bool.false_eq_true,if_false,List.nil_append]
   apply List.filter_congr
   intro y hy;have:y.born≠x.born:=fun h=>hn.1 (by rw[← h];exact List.mem_map.2 ⟨y,hy,rfl⟩)
   simp [this]
  ·have hne:(x.born == e.born)=false:=by simpa using hxe
   have he':e∈es.filter p:=by
    rw[List.filter_cons] at he;split at he
    ·rcases List.mem_cons.1 he with h | h
     ·exact absurd (by rw[h]) hxe
     ·exact h
    ·exact he
   obtain⟨a,b,h1,h2⟩:=ih hn.2 he';cases hpx:p x
   ·exact⟨a,b,by simp [hpx,h1],by simp [hpx,h2]⟩
   ·exact⟨x :: a,b,by simp [hpx,h1],by simp [hpx,hne,h2]⟩
theorem z6p {α β:Type}{f:α→β}{l:List α}{a b:List β}{x:β}(h:a++x :: b=l.map f):∃ l1 y l2,l=l1++y :: l2∧l1.map f=a∧f y=x∧l2.map f=b:=by
 induction a generalizing l with
 | nil =>
  cases l with
  | nil=>simp at h
  | cons y l=>simp at h;exact⟨[],y,l,rfl,rfl,h.1.symm,h.2.symm⟩
 | cons c a ih =>
  cases l with
  | nil=>simp at h
  | cons y l =>
   simp at h
   obtain⟨l1,z,l2,rfl,h1,h2,h3⟩:=ih h.2;exact⟨y :: l1,z,l2,rfl,by simp [h.1,h1],h2,h3⟩
theorem z6n.next {P:Program}(h:z6n kv w r B left)(ty:TypeId):
  (left=[]∧(Instr.next (.pointer (some ⟨r,0,none⟩)) false ty).run P w=.ok (.tuple #[.bool false]) w) ∨
  ∃ a p b w',left=a++p :: b∧(Instr.next (.pointer (some ⟨r,0,none⟩)) false ty).run P w=.ok (.tuple #[.bool true,kv p.1,p.2]) w'∧z6n kv w' r B (a++b) ∧
   (Instr.entry (.pointer (some ⟨r,0,none⟩))).run P w'=.ok (.tuple #[kv p.1,p.2]) w'∧w.grownBy w' (some r)∧w'.heap.size=w.heap.size:=by
 have hltr:=h.lt.1;obtain⟨hne,es,clock,since,c0,seen,hB,hr,hold,hsc,hscl,hnd,hp⟩:=h;rcases run_next_at (P:=P) w ty r B since c0 seen es clock hr hB hold hsc with⟨h0,hrun⟩ | ⟨e,he,w1,hw1,hrun⟩
 ·left
  refine⟨?_,hrun⟩;have:(leftOf es seen).toList=[]:=List.eq_nil_of_length_eq_zero (by simpa using h0)
  rw[this] at hp;cases left with
  | nil=>rfl
  | cons p l=>simp [z1r] at hp
 ·right
  have he':e∈es.toList.filter (fun x=>!seen.contains x.born):=by
   have:=he;unfold leftOf at this;rwa [Array.toList_filter] at this
  obtain⟨a,b,h1,h2⟩:=z6o hnd he';have hl1:(leftOf es seen).toList=a++e :: b:=by unfold leftOf;rw[Array.toList_filter];exact h1
  have hl2:(leftOf es (seen.push e.born)).toList=a++b:=by
   unfold leftOf;rw[Array.toList_filter,← h2]
   apply List.filter_congr
   intro x _;rw[Array.contains_push];simp [Bool.not_or]
  rw[hl1] at hp;unfold z1r at hp;rw[List.map_append,List.map_cons] at hp;obtain⟨l1,p,l2,rfl,q1,q2,q3⟩:=z6p hp;injection q2 with q4 q5
  have hw1h:w1.heap=w.heap:=by rcases hw1 with rfl | rfl <;> rfl
  have hset:∀ o,(setBlock w1 r o).heap[r]? = some o:=fun o=>by simp [setBlock,hw1h,hltr]
  have hoth:∀ o j,j≠r→(setBlock w1 r o).heap[j]? = w.heap[j]?:=fun o j hj=>by simp [setBlock,hw1h,Ne.symm hj]
  have hmem:e∈es.toList:=(List.mem_filter.1 he').1;rw[← q4,← q5] at hrun;refine⟨l1,p,l2,_,rfl,hrun,⟨hne,es,clock,since,clock,seen.push e.born,by rw[hoth _ _ (Ne.symm hne)];exact hB,hset _,hold,hscl,hscl,hnd,?_⟩,?_,?_,?_⟩
  ·rw[hl2];unfold z1r;rw[List.map_append,List.map_append,q1,q3]
  ·have:=run_entry_at (P:=P) (setBlock w1 r (.mapIter (some B) since (seen.push e.born) clock)) r B since seen es clock e (hset _) (by rw[hoth _ _ (Ne.symm hne)];exact hB) hmem hnd
   rw[← q4,← q5] at this;exact this
  ·rcases hw1 with rfl | rfl <;> exact⟨rfl,rfl,rfl,by simp [setBlock],fun k hk hk2=>hoth _ k (fun e=>hk2 (by rw[e]))⟩
  ·simp [setBlock,hw1h]
end
theorem toList_inj {a b:ByteArray}:a.toList=b.toList↔a=b:=by
 constructor
 ·intro h;rw[ByteArray.toList_eq,ByteArray.toList_eq] at h;cases a with | mk x=>cases b with | mk y =>
  congr 1;exact Array.toList_inj.1 h
 ·intro h;rw[h]
theorem z7m (a b:Fil)(w:World):(Op.equal 185 (z2p a) (z2p b)).run Tryz.prog w=.ok (a == b) w:=by
 obtain⟨a0,a1⟩:=a;obtain⟨b0,b1⟩:=b;show (Op.equalIn 10000 185 _ _).run Tryz.prog w=_
 unfold z2p;rw[run_equalIn_agg w 9999 185 _ _ (by kernel_rfl) (by kernel_rfl)]
 simp [go_sem,Op.eqFields,toList_inj]
 by_cases h1:a0=b0 <;> by_cases h2:a1=b1 <;> simp [h1,h2]
theorem z7n (b:Bool)(a:Fil)(w:World):(Instr.checkKey b 10000 185 (z2p a)).run Tryz.prog w=.ok () w:=by
 unfold z2p;rw[Instr.checkKey];simp [run_underlying Tryz.underlying185,go_sem]
 rw[z29 Tryz.underlying9 b _ w 9998,Result.andThen_ok];exact z2a Tryz.underlying3 b _ w 9998
theorem z7o (a:Fil):Instr.sameBits 10000 (z2p a) (z2p a)=true:=by
 unfold z2p;rw[Instr.sameBits];simp [z2b,z2c]
theorem z7p:z1s Tryz.prog 185 z2p:=
 ⟨z23 Tryz.underlying185 (fun _ _=>rfl) z7m,z7n,fun a b h=>by
  have:b=a:=(eq_of_beq h).symm;subst this;exact z7o b⟩
theorem z7q:z1s Tryz.prog 9 Value.string:=z2d Tryz.underlying9
def z7r (w:World)(B:Nat)(f:ByteArray→Option Rev):Prop:=z2f Value.string Rev.val w B f
def z7s (w:World)(B:Nat)(f:ByteArray→Option Edt):Prop:=z2f Value.string Edt.val w B f
def z7t (w:World)(B:Nat)(f:Fil→Option Fil):Prop:=z2f z2p z2p w B f
theorem z7u (w:World):(zeroValue 66).run Tryz.prog w=.ok z2m.val w:=by kernel_rfl
theorem z7v (w:World):(zeroValue 90).run Tryz.prog w=.ok z2n.val w:=by kernel_rfl
theorem z7w (w:World):(zeroValue 185).run Tryz.prog w=.ok (z2p z2o) w:=by kernel_rfl
section
variable {w : World} {B : Nat}
theorem z7r.look {f:ByteArray→Option Rev}(h:z7r w B f)(p:ByteArray):(Instr.lookup 179 (.map (some B)) (.string p) false).run Tryz.prog w=.ok (.agg #[.string (z2x f p).path,.int .i64 (z2x f p).num,.int .i64 (z2x f p).chg,.int .i64 (z2x f p).act,.int .i64 (z2x f p).ty.base,.bool (z2x f p).ty.k,.bool (z2x f p).ty.l,.bool (z2x f p).ty.x,.int .u64 (z2x f p).sum,.int .i64 (z2x f p).size,.string (z2x f p).frm,.int .i64 (z2x f p).fnum]) w:=by
 rw[z2f.lookup h z7q Tryz.underlying179 (z7u w) p false];unfold z2h z2x;cases f p <;> rfl
theorem z7r.look2 {f:ByteArray→Option Rev}(h:z7r w B f)(p:ByteArray):(Instr.lookup 179 (.map (some B)) (.string p) true).run Tryz.prog w=.ok (.tuple #[.agg #[.string (z2x f p).path,.int .i64 (z2x f p).num,.int .i64 (z2x f p).chg,.int .i64 (z2x f p).act,.int .i64 (z2x f p).ty.base,.bool (z2x f p).ty.k,.bool (z2x f p).ty.l,.bool (z2x f p).ty.x,.int .u64 (z2x f p).sum,.int .i64 (z2x f p).size,.string (z2x f p).frm,.int .i64 (z2x f p).fnum],.bool (f p).isSome]) w:=by
 rw[z2f.lookup h z7q Tryz.underlying179 (z7u w) p true];unfold z2h z2x;cases f p <;> rfl
def z7x (f:ByteArray→Option Edt)(p:ByteArray):Edt:=(f p).getD z2n
theorem z7s.look {f:ByteArray→Option Edt}(h:z7s w B f)(p:ByteArray):(Instr.lookup 180 (.map (some B)) (.string p) false).run Tryz.prog w=.ok (.agg #[.string (z7x f p).path,.int .i64 (z7x f p).act,.int .i64 (z7x f p).ty.base,.bool (z7x f p).ty.k,.bool (z7x f p).ty.l,.bool (z7x f p).ty.x,.int .u64 (z7x f p).sum,.int .i64 (z7x f p).size,.int .i64 (z7x f p).base,.string (z7x f p).frm,.int .i64 (z7x f p).fnum,.int .i64 (z7x f p).fence]) w:=by
 rw[z2f.lookup h z7q Tryz.underlying180 (z7v w) p false];unfold z2h z7x;cases f p <;> rfl
theorem z7s.look2 {f:ByteArray→Option Edt}(h:z7s w B f)(p:ByteArray):(Instr.lookup 180 (.map (some B)) (.string p) true).run Tryz.prog w=.ok (.tuple #[.agg #[.string (z7x f p).path,.int .i64 (z7x f p).act,.int .i64 (z7x f p).ty.base,.bool (z7x f p).ty.k,.bool (z7x f p).ty.l,.bool (z7x f p).ty.x,.int .u64 (z7x f p).sum,.int .i64 (z7x f p).size,.int .i64 (z7x f p).base,.string (z7x f p).frm,.int .i64 (z7x f p).fnum,.int .i64 (z7x f p).fence],.bool (f p).isSome]) w:=by
 rw[z2f.lookup h z7q Tryz.underlying180 (z7v w) p true];unfold z2h z7x;cases f p <;> rfl
def z7y (f:Fil→Option Fil)(p:Fil):Fil:=(f p).getD z2o
theorem z7t.look {f:Fil→Option Fil}(h:z7t w B f)(p:ByteArray)(n:Int):(Instr.lookup 181 (.map (some B)) (.agg #[.string p,.int .i64 n]) false).run Tryz.prog w=.ok (.agg #[.string (z7y f (p,n)).1,.int .i64 (z7y f (p,n)).2]) w:=by
 have:=z2f.lookup h z7p Tryz.underlying181 (z7w w) (p,n) false;unfold z2h at this;unfold z7y;cases hf:f (p,n) <;> (rw[hf] at this;exact this)
theorem z7t.look2 {f:Fil→Option Fil}(h:z7t w B f)(p:ByteArray)(n:Int):(Instr.lookup 181 (.map (some B)) (.agg #[.string p,.int .i64 n]) true).run Tryz.prog w=.ok (.tuple #[.agg #[.string (z7y f (p,n)).1,.int .i64 (z7y f (p,n)).2],.bool (f (p,n)).isSome]) w:=by
 have:=z2f.lookup h z7p Tryz.underlying181 (z7w w) (p,n) true;unfold z2h at this;unfold z7y;cases hf:f (p,n) <;> (rw[hf] at this;exact this)
end
theorem z7z {w:World}{g:Nat}{e:TypeId}{a0 a1 a2 a3 a4 a5 a6 a7 a8 a9 a10 a11:Value}(h:Blk w g e [a0,a1,a2,a3,a4,a5,a6,a7,a8,a9,a10,a11]):
  w.cell? ⟨g,0,none⟩=some a0∧w.cell? ⟨g,1,none⟩=some a1∧w.cell? ⟨g,2,none⟩=some a2∧w.cell? ⟨g,3,none⟩=some a3∧w.cell? ⟨g,4,none⟩=some a4∧w.cell? ⟨g,5,none⟩=some a5 ∧
  w.cell? ⟨g,6,none⟩=some a6∧w.cell? ⟨g,7,none⟩=some a7∧w.cell? ⟨g,8,none⟩=some a8∧w.cell? ⟨g,9,none⟩=some a9∧w.cell? ⟨g,10,none⟩=some a10∧w.cell? ⟨g,11,none⟩=some a11:=
 ⟨h.cell 0,h.cell 1,h.cell 2,h.cell 3,h.cell 4,h.cell 5,h.cell 6,h.cell 7,h.cell 8,h.cell 9,h.cell 10,h.cell 11⟩
theorem box2 {w:World}{g:Nat}{e:TypeId}{a b:Value}(h:Blk w g e [a,b]):w.cell? ⟨g,0,none⟩=some a∧w.cell? ⟨g,1,none⟩=some b∧w.frozen? ⟨g,0,none⟩=false∧w.frozen? ⟨g,1,none⟩=false:=
 ⟨h.cell 0,h.cell 1,h.frozen 0,h.frozen 1⟩
end Go.Proofs.YtegeboijhifmcaaGreatDoor
