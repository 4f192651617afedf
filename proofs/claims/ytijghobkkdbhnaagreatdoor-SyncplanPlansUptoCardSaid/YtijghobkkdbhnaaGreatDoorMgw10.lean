/- A part. -/
import Derived.Test.YtijghobkkdbhnaaGreatDoorMgw8
import Derived.Test.YtijghobkkdbhnaaGreatDoorMgw6
import Derived.Maps.RangeRun
set_option linter.unusedVariables false
set_option linter.unusedSimpArgs false
set_option maxHeartbeats 4000000
set_option maxRecDepth 100000
namespace Go.Proofs.YtijghobkkdbhnaaGreatDoor
open Go.Proofs.Tryz
open Go.RowKit
open Go.ChangeMaps (setBlock)
section
variable {κ : Type} {kv : κ → Value} {w w' : World} {r B : Nat} {left : List (κ × Value)}
def z6r (kv:κ→Value)(w:World)(r B:Nat)(left:List (κ×Value)):Prop:=
 r≠B∧∃(es:Array MapEntry) (clock since c0:Nat) (seen:Array Nat),w.heap[B]? = some (.map es clock)∧w.heap[r]? = some (.mapIter (some B) since seen c0)∧(∀ e∈es.toList,e.born<since)∧since≤c0∧since≤clock∧(es.toList.map (·.born)).Nodup ∧
  z1r (leftOf es seen).toList=left.map fun p=>(kv p.1,p.2)
theorem z6r.keep (h:z6r kv w r B left)(h1:w'.heap[B]? = w.heap[B]?)(h2:w'.heap[r]? = w.heap[r]?):z6r kv w' r B left:=by
 obtain⟨hne,es,clock,since,c0,seen,a,b,rest⟩:=h;exact⟨hne,es,clock,since,c0,seen,h1.trans a,h2.trans b,rest⟩
theorem z6r.lt (h:z6r kv w r B left):r<w.heap.size∧B<w.heap.size:=by
 obtain⟨hne,es,clock,since,c0,seen,a,b,rest⟩:=h;exact⟨(Array.getElem?_eq_some_iff.1 b).1,(Array.getElem?_eq_some_iff.1 a).1⟩
theorem z6r.below (h:z6r kv w r B left)(hb:Below w.heap.size w w'):z6r kv w' r B left:=h.keep (hb.block _ h.lt.2) (hb.block _ h.lt.1)
theorem z6r.setCell (h:z6r kv w r B left){p:Addr}(h1:p.block≠r)(h2:p.block≠B)(u:Value):z6r kv (w.setCell p u) r B left:=
 h.keep (Below.heap_setCell w p u B (fun e=>h2 e.symm)) (Below.heap_setCell w p u r (fun e=>h1 e.symm))
theorem z1u.range {P:Program}{m:List (κ×Value)}(h:z1u kv w B m){t k e:TypeId}(ht:P.underlying t=some (.map k e)):
  ∃ w',(Instr.range t (.map (some B))).run P w=.ok (.pointer (some ⟨w.heap.size,0,none⟩)) w'∧z6r kv w' w.heap.size B m∧Below w.heap.size w w'∧w'.heap.size=w.heap.size+1:=by
 have hlt:=h.lt;obtain⟨es,clock,hB,hp,hst⟩:=h;refine⟨_,run_range_map w t k e B es clock ht hB,⟨by omega,es,clock,clock,clock,#[],?_,heap_alloc_new w _,hst.1,Nat.le_refl _,Nat.le_refl _,hst.2,?_⟩,(Below.refl _ _).alloc (Nat.le_refl _) _,by simp⟩
 ·rw[heap_alloc_old w _ hlt];exact hB
 ·have:leftOf es #[]=es:=by unfold leftOf;simp
  rw[this];exact hp
theorem z6s {es:List MapEntry}{p:MapEntry→Bool}{e:MapEntry}(hn:(es.map (·.born)).Nodup)(he:e∈es.filter p):
  ∃ a b,es.filter p=a++e :: b∧es.filter (fun x=>p x && !(x.born == e.born))=a++b:=by
 induction es with
 | nil=>simp at he
 | cons x es ih =>
  rw[List.map_cons,List.nodup_cons] at hn;by_cases hxe:x.born=e.born
  ·have hnot:e∉es:=fun h=>hn.1 (by rw[hxe];exact List.mem_map.2 ⟨e,h,rfl⟩)
   have hex:x=e:=by
    have:=(List.mem_filter.1 he).1;rcases List.mem_cons.1 this with h | h
    ·exact h.symm
    ·exact absurd h hnot
   subst hex;have hpx:p x=true:=(List.mem_filter.1 he).2;refine⟨[],es.filter p,by simp [hpx],?_⟩
   rw[List.filter_cons];simp only[hpx,beq_self_eq_true,Bool.not_true,Bool.and_false,Bool.false_eq_true,if_false,List.nil_append]
   apply List.filter_congr
   intro y hy;have:y.born≠x.born:=fun h=>hn.1 (by rw[← h];exact List.mem_map.2 ⟨y,hy,rfl⟩)
   simp [this]
  ·have hne:(x.born == e.born)=false:=by simpa using hxe
   have he':e∈es.filter p:=by
    rw[List.filter_cons] at he;split at he
    ·rcases List.mem_cons.1 he with h | h
     ·exact absurd (by rw[h]) hxe
     ·exact h
    ·exact he
   obtain⟨a,b,h1,h2⟩:=ih hn.2 he';cases hpx:p x
   ·exact⟨a,b,by simp [hpx,h1],by simp [hpx,h2]⟩
   ·exact⟨x :: a,b,by simp [hpx,h1],by simp [hpx,hne,h2]⟩
theorem z6t {α β:Type}{f:α→β}{l:List α}{a b:List β}{x:β}(h:a++x :: b=l.map f):∃ l1 y l2,l=l1++y :: l2∧l1.map f=a∧f y=x∧l2.map f=b:=by
 induction a generalizing l with
 | nil =>
  cases l with
  | nil=>simp at h
  | cons y l=>simp at h;exact⟨[],y,l,rfl,rfl,h.1.symm,h.2.symm⟩
 | cons c a ih =>
  cases l with
  | nil=>simp at h
  | cons y l =>
   simp at h
   obtain⟨l1,z,l2,rfl,h1,h2,h3⟩:=ih h.2;exact⟨y :: l1,z,l2,rfl,by simp [h.1,h1],h2,h3⟩
theorem z6r.next {P:Program}(h:z6r kv w r B left)(ty:TypeId):
  (left=[]∧(Instr.next (.pointer (some ⟨r,0,none⟩)) false ty).run P w=.ok (.tuple #[.bool false]) w) ∨
  ∃ a p b w',left=a++p :: b∧(Instr.next (.pointer (some ⟨r,0,none⟩)) false ty).run P w=.ok (.tuple #[.bool true,kv p.1,p.2]) w'∧z6r kv w' r B (a++b) ∧
   (Instr.entry (.pointer (some ⟨r,0,none⟩))).run P w'=.ok (.tuple #[kv p.1,p.2]) w'∧w.grownBy w' (some r)∧w'.heap.size=w.heap.size:=by
 have hltr:=h.lt.1;obtain⟨hne,es,clock,since,c0,seen,hB,hr,hold,hsc,hscl,hnd,hp⟩:=h;rcases run_next_at (P:=P) w ty r B since c0 seen es clock hr hB hold hsc with⟨h0,hrun⟩ | ⟨e,he,w1,hw1,hrun⟩
 ·left
  refine⟨?_,hrun⟩;have:(leftOf es seen).toList=[]:=List.eq_nil_of_length_eq_zero (by simpa using h0)
  rw[this] at hp;cases left with
  | nil=>rfl
  | cons p l=>simp [z1r] at hp
 ·right
  have he':e∈es.toList.filter (fun x=>!seen.contains x.born):=by
   have:=he;unfold leftOf at this;rwa [Array.toList_filter] at this
  obtain⟨a,b,h1,h2⟩:=z6s hnd he';have hl1:(leftOf es seen).toList=a++e :: b:=by unfold leftOf;rw[Array.toList_filter];exact h1
  have hl2:(leftOf es (seen.push e.born)).toList=a++b:=by
   unfold leftOf;rw[Array.toList_filter,← h2]
   apply List.filter_congr
   intro x _;rw[Array.contains_push];simp [Bool.not_or]
  rw[hl1] at hp;unfold z1r at hp;rw[List.map_append,List.map_cons] at hp;obtain⟨l1,p,l2,rfl,q1,q2,q3⟩:=z6t hp;injection q2 with q4 q5
  have hw1h:w1.heap=w.heap:=by rcases hw1 with rfl | rfl <;> rfl
  have hset:∀ o,(setBlock w1 r o).heap[r]? = some o:=fun o=>by simp [setBlock,hw1h,hltr]
  have hoth:∀ o j,j≠r→(setBlock w1 r o).heap[j]? = w.heap[j]?:=fun o j hj=>by simp [setBlock,hw1h,Ne.symm hj]
  have hmem:e∈es.toList:=(List.mem_filter.1 he').1;rw[← q4,← q5] at hrun;refine⟨l1,p,l2,_,rfl,hrun,⟨hne,es,clock,since,clock,seen.push e.born,by rw[hoth _ _ (Ne.symm hne)];exact hB,hset _,hold,hscl,hscl,hnd,?_⟩,?_,?_,?_⟩
  ·rw[hl2];unfold z1r;rw[List.map_append,List.map_append,q1,q3]
  ·have:=run_entry_at (P:=P) (setBlock w1 r (.mapIter (some B) since (seen.push e.born) clock)) r B since seen es clock e (hset _) (by rw[hoth _ _ (Ne.symm hne)];exact hB) hmem hnd
   rw[← q4,← q5] at this;exact this
  ·rcases hw1 with rfl | rfl <;> exact⟨rfl,rfl,rfl,by simp [setBlock],fun k hk hk2=>hoth _ k (fun e=>hk2 (by rw[e]))⟩
  ·simp [setBlock,hw1h]
end
def z99 (s:ByteArray):Bool:=z7e s && z7f s
def z9a (s:ByteArray):Bool:=z99 s || z0v s
def z9b (part comp:ByteArray):ByteArray:=comp.extract 0 (comp.size - (z85 part).size)
def z9c (part comp:ByteArray):ByteArray:=if z99 part && Lib.hasSuffix comp.data.toList (z85 part).data.toList then z9b part comp else z2l
def z9d (part comp:ByteArray):Bool:=if z99 part then Lib.hasSuffix comp.data.toList (z85 part).data.toList && z0v (z9b part comp) else decide (part=comp)
theorem z9e {s:ByteArray}{c:UInt8}{t:List UInt8}(hd:s.data.toList=c :: t):z7e s=decide (c=42):=by
 unfold z7e Lib.hasPrefix;rw[hd];by_cases h:c=42
 ·subst h;simp
 ·have:¬(42:UInt8)=c:=fun e=>h e.symm;simp [h,this,List.isPrefixOf]
theorem z9f {s:ByteArray}(h:z7e s=true):z0v s=false:=by
 have h1:=z88 h;obtain⟨c,t,hd,-⟩:=z14 (show 0<s.size by omega)
 rw[z9e hd] at h;have hc:c=42:=of_decide_eq_true h;unfold z0v z0u;rw[hd,hc];have h2:z0t 42=false:=by decide
 simp [h2]
theorem z9g {s:ByteArray}(h:z7g s≠0):z99 s=z7e s:=by
 unfold z99;cases hs:z7e s with
 | false=>rfl
 | true =>
  unfold z7g at h;rw[z9f hs,hs] at h;cases ht:z7f s with
  | true=>rfl
  | false=>rw[ht] at h;exact absurd rfl h
theorem z9h (s:ByteArray):decide (z7g s≠0)=z9a s:=by
 unfold z9a z99 z7g;cases z0v s <;> cases z7e s <;> cases z7f s <;> rfl
theorem z9i (s:ByteArray):z7h 0 s=z0v s:=by
 unfold z7h z7g;cases hc:z0v s
 ·cases z7e s <;> cases z7f s <;> rfl
 ·rfl
theorem z9j {l:List UInt8}(h:z0u l=true)(n:Nat):z0u (l.take n)=!(l.take n).isEmpty:=by
 unfold z0u at h ⊢
 cases l with
 | nil=>simp at h
 | cons a l =>
  cases n with
  | zero=>rfl
  | succ n =>
   simp only[List.take_succ_cons,List.isEmpty_cons,List.head?_cons,List.all_cons,Bool.not_false,Bool.true_and,Bool.and_eq_true] at h ⊢
   obtain⟨h1,h2,h3⟩:=h;refine⟨h1,h2,?_⟩;rw[List.all_eq_true] at h3 ⊢;exact fun x hx=>h3 x (List.mem_of_mem_take hx)
theorem z9k (part comp:ByteArray):(z9b part comp).data.toList=comp.data.toList.take (comp.data.toList.length - (z85 part).data.toList.length):=by
 unfold z9b;have h1:comp.size=comp.data.toList.length:=rfl;have h2:(z85 part).size=(z85 part).data.toList.length:=rfl;rw[h1,h2,ByteArray.data_extract,Array.toList_extract];simp [List.extract]
theorem z9l {part comp:ByteArray}(hp:z7g part≠0)(hc:z0v comp=true):z9d part comp=z87 part comp:=by
 unfold z9d z87;rw[z9g hp];cases hs:z7e part with
 | false=>simp only[Bool.false_eq_true,if_false]
 | true =>
  simp only[if_true]
  cases hh:Lib.hasSuffix comp.data.toList (z85 part).data.toList with
  | false=>simp only[Bool.false_and]
  | true =>
   simp only[Bool.true_and]
   have hv:z86 part comp=z9b part comp:=by
    unfold z86;rw[hs,if_pos rfl];unfold Lib.trimSuffix;rw[hh,if_pos rfl,← z9k]
   rw[hv];unfold z0v at hc ⊢
   rw[z9k,z9j hc,← z9k];have he:(z9b part comp).data.toList.isEmpty=decide (z9b part comp=z2l):=by
    rw[Bool.eq_iff_iff,decide_eq_true_eq,List.isEmpty_iff];constructor
    ·intro h;cases hx:z9b part comp with | mk a =>
     rw[hx] at h;unfold z2l;congr 1
     exact Array.toList_eq_nil_iff.1 h
    ·intro h;rw[h];rfl
   rw[he]
theorem z9m {s:ByteArray}(h:s.size=0):z99 s=false:=by
 have hl:s.data.toList=[]:=List.eq_nil_of_length_eq_zero (by simpa using h)
 unfold z99 z7e;rw[hl];rfl
theorem z9n {s:ByteArray}{c:UInt8}{t:List UInt8}(hd:s.data.toList=c :: t)(hc:¬ c=42):z99 s=false:=by
 unfold z99;rw[z9e hd,decide_eq_false hc];rfl
theorem z9o {s:ByteArray}{c:UInt8}{t:List UInt8}(hd:s.data.toList=c :: t)(hc:c=42):z99 s=z7f s:=by
 unfold z99;rw[z9e hd,decide_eq_true hc];rfl
def z9p (s:ByteArray)(w:World)(e:Ending)(w':World):Prop:=e=.returned (.tuple #[.string (if z99 s then z85 s else z2l),.bool (z99 s)])∧w=w'
theorem z9q {s:ByteArray}{w:World}(h:z99 s=false):z9p s w (.returned (.tuple #[.string ⟨#[]⟩,.bool false])) w:=by unfold z9p;rw[h];exact⟨rfl,rfl⟩
theorem z9r {s:ByteArray}{w:World}(h:z99 s=true):z9p s w (.returned (.tuple #[.string (s.extract 1 s.size),.bool true])) w:=by unfold z9p;rw[h];exact⟨rfl,rfl⟩
theorem z9s (s:ByteArray)(w:World)(hs:s.size≤maxLen):Calls prog 111 #[.string s] w (z9p s w):=by
 unfold maxLen at hs;rcases Nat.eq_zero_or_pos s.size with h0 | h0
 ·have hne:s.toList=[]:=by rw[ByteArray.toList_eq];exact List.eq_nil_of_length_eq_zero (by simpa using h0)
  have H0:=hd_ (z9q (w:=w) (z9m h0));clear h0;go_enter func111,ntmps111;go_wp2_with fail;go_ret2;exact H0.out
 ·obtain⟨c,t,hd,hc⟩:=z14 h0;have hne:s.toList.isEmpty=false:=by rw[ByteArray.toList_eq,hd];rfl
  have hne2:¬ s.toList=[]:=by rw[ByteArray.toList_eq,hd];simp
  by_cases h42:c=42
  ·have q42:((s[0].toNat:Int) == 42)=true:=by rw[hc,h42];rfl
   have q42':((s[0].toNat:Int) != 42)=false:=by rw[hc,h42];rfl
   have HT:=hd_ (z9o hd h42);have HN:=hd_ (fun k (h:k<s.size) (h1:1≤k) (hb:z0t s[k].toNat=false)=>z9q (w:=w) (HT.out.trans (z7m h h1 hb)));have HY:=hd_ (fun(h:∀ k (hk:k<s.size),1≤k→z0t s[k].toNat=true)=>z9r (w:=w) (HT.out.trans (z7n h)));clear hd hc h42;go_enter func111,ntmps111;go_wp2_with fail;clear q42 q42';go_loop [4] (fun i=>∃ k:Nat,1≤k∧k≤s.size∧i=.int .i64 k∧Hid (∀ j (hj:j<s.size),1≤j→j<k→z0t s[j].toNat=true)) (fun i=>s.size - (intOf i).toNat)
   case atStart=>exact⟨1,Nat.le_refl _,h0,rfl,fun j _ a b=>by omega⟩
   case round =>
    obtain⟨k,hk1,hk,rfl,HI⟩:=hrel;by_cases hlt:k<s.size
    ·cases hl:z0t s[k].toNat
     ·have HR:=hd_ (HN.out k hlt hk1 hl);have HL:=hd_ hl;clear HI hl;go_wp2_with fail;refine (z8w s[k] _ _ HL.out).mono ?_;rintro e w' ⟨n,rfl,hn,rfl⟩;have hn':decide (n<0)=true:=hn;clear hn;go_wp2
      go_ret2;exact HR.out
     ·have HJ:Hid (∀ j (hj:j<s.size),1≤j→j<k+1→z0t s[j].toNat=true):=hd_ (fun j hj a b=>by
       by_cases e:j=k
       ·subst e;exact hl
       ·exact HI.out j hj a (by omega))
      have HL:=hd_ hl;clear HI hl;go_wp2_with fail;refine (z8w s[k] _ _ HL.out).mono ?_;rintro e w' ⟨n,rfl,hn,rfl⟩;have hn':decide (n<0)=false:=hn;clear hn;go_wp2
      go_round
      case rel=>exact⟨k+1,by omega,by omega,by go_num,HJ.out⟩
      case measure=>simp [intOf];omega
    ·have HR:=hd_ (HY.out (fun j hj a=>HI.out j hj a (by omega)))
     clear HI;go_wp2_with fail;go_ret2;exact HR.out
  ·have q42:((s[0].toNat:Int) == 42)=false:=by
    rw[hc,beq_eq_false_iff_ne];intro h;exact h42 (UInt8.toNat.inj (show c.toNat=42 by omega))
   have q42':((s[0].toNat:Int) != 42)=true:=by
    rw[hc,bne_iff_ne];intro h;exact h42 (UInt8.toNat.inj (show c.toNat=42 by omega))
   have H0:=hd_ (z9q (w:=w) (z9n hd h42));clear hd hc h42;go_enter func111,ntmps111;go_wp2_with fail;go_ret2;exact H0.out
theorem z9t (s:ByteArray)(w:World)(hs:s.size≤maxLen):Calls prog 110 #[.string s] w fun e w'=>e=.returned (.bool (z9a s))∧w=w':=by
 have HS:=hd_ (z9s s w hs);have HC:=hd_ (z8x s w hs);unfold z9p at HS;unfold z9a;generalize z85 s=x at HS;cases hb:z99 s with
 | true =>
  rw[hb] at HS;clear hb;go_enter func110,ntmps110;go_wp2_with fail;refine HS.out.mono ?_;rintro e w' ⟨rfl,rfl⟩;go_wp2_with fail;go_ret;exact⟨rfl,rfl⟩
 | false =>
  rw[hb] at HS;clear hb;go_enter func110,ntmps110;go_wp2_with fail;refine HS.out.mono ?_;rintro e w' ⟨rfl,rfl⟩;go_wp2_with fail;refine HC.out.mono ?_;rintro e w' ⟨rfl,rfl⟩;go_wp2_with fail;go_ret;exact⟨rfl,rfl⟩
theorem z9u (s p:ByteArray)(w:World)(b:Bool)(hz:s.size≤9223372036854775807)(h:Lib.hasSuffix s.data.toList p.data.toList=b):Calls prog 166 #[.string s,.string p] w fun e w'=>e=.returned (.bool b)∧w=w':=by
 refine (Tryz.strings_HasSuffix s p w hz).mono ?_;rintro e w' ⟨rfl,rfl⟩;exact⟨by rw[h],rfl⟩
theorem z9v {s p:ByteArray}(h:Lib.hasSuffix s.data.toList p.data.toList=true):p.size≤s.size:=by
 have:p.data.toList <:+ s.data.toList:=List.isSuffixOf_iff_suffix.1 h;exact this.length_le
theorem z9w (part comp:ByteArray)(w:World)(hp:part.size≤maxLen)(hs:comp.size≤maxLen):
  Calls prog 167 #[.string part,.string comp] w fun e w'=>e=.returned (.tuple #[.string (z9c part comp),.bool (z9d part comp)])∧w=w':=by
 have HS:=hd_ (z9s part w hp);unfold z9p at HS;cases hb:z99 part with
 | false =>
  have HV:Hid (z9c part comp=⟨#[]⟩∧z9d part comp=decide (part=comp)):=hd_ (by unfold z9c z9d;rw[hb];exact⟨rfl,rfl⟩)
  have HE:=hd_ (z89 part comp);rw[hb] at HS;clear hb;go_enter func167,ntmps167;go_wp2_with fail;refine HS.out.mono ?_;rintro e w' ⟨rfl,rfl⟩;go_wp2_with fail;go_ret2;exact⟨z8a HV.out.1.symm (by rw[HV.out.2];exact HE.out),rfl⟩
 | true =>
  rw[hb] at HS;cases hh:Lib.hasSuffix comp.data.toList (z85 part).data.toList with
  | false =>
   have HV:Hid (z9c part comp=⟨#[]⟩∧z9d part comp=false):=hd_ (by unfold z9c z9d;rw[hb,hh];exact⟨if_neg (by decide),by rw[if_pos rfl,Bool.false_and]⟩)
   have HH:=hd_ (z9u comp (z85 part) w false (by unfold maxLen at hs;omega) hh)
   clear hb hh;simp only[if_true] at HS
   generalize z85 part=x at HS HH;go_enter func167,ntmps167;go_wp2_with fail;refine HS.out.mono ?_;rintro e w' ⟨rfl,rfl⟩;go_wp2_with fail;refine HH.out.mono ?_;rintro e w' ⟨rfl,rfl⟩;go_wp2_with fail;go_ret2;exact⟨z8a HV.out.1.symm HV.out.2.symm,rfl⟩
  | true =>
   have HV:Hid (z9c part comp=z9b part comp∧z9d part comp=z0v (z9b part comp)):=hd_ (by unfold z9c z9d;rw[hb,hh];exact⟨if_pos rfl,by rw[if_pos rfl,Bool.true_and]⟩)
   have HH:=hd_ (z9u comp (z85 part) w true (by unfold maxLen at hs;omega) hh)
   have hle:=z9v hh;have hCX:z9b part comp=comp.extract 0 (comp.size - (z85 part).size):=rfl;have HC:=hd_ (fun(x:ByteArray) (hx:x.size≤maxLen)=>z8x x w hx);clear hb hh;simp only[if_true] at HS
   generalize z85 part=x at HS HH hle hCX;obtain⟨n,hn⟩:∃ n,comp.size - x.size=n:=⟨_,rfl⟩;rw[hn] at hCX;have hz:((comp.size:Int) - (x.size:Int))=(n:Int):=by omega
   unfold maxLen at hp hs;have hw:IntKind.i64.wrap ((comp.size:Int) - (x.size:Int))=(n:Int):=by rw[IntKind.wrap_i64];omega
   have hnc:n≤comp.size:=by omega
   have HC2:=hd_ (HC.out (comp.extract 0 n) (by unfold maxLen;rw[ByteArray.size_extract];omega))
   rw[← hCX] at HC2;have HCX:=hd_ hCX;clear hn hle HC hCX;go_enter func167,ntmps167;go_wp2_with fail;refine HS.out.mono ?_;rintro e w' ⟨rfl,rfl⟩;go_wp2_with fail;refine HH.out.mono ?_;rintro e w' ⟨rfl,rfl⟩;go_wp2_with fail;rw[← HCX.out];refine HC2.out.mono ?_;rintro e w' ⟨rfl,rfl⟩;go_wp2_with fail;go_ret2;exact⟨z8a (by rw[HV.out.1]) HV.out.2.symm,rfl⟩
def z9x (a b:ByteArray):Bool:=if a=b then true else if z7e b then (if z7e a then Lib.hasSuffix (z85 a).data.toList (z85 b).data.toList else z87 b a) else false
def z9y (a b:ByteArray):Option ByteArray:=if z9x a b then some a else if z9x b a then some b else none
theorem z9z (a b:ByteArray)(w:World)(ha:a.size≤1000000)(hb:b.size≤1000000):
  Calls prog 217 #[.string a,.string b] w fun e w'=>e=.returned (.bool (z9x a b))∧Below w.heap.size w w':=by
 have HA:=hd_ (fun X=>z7p a X);have HB:=hd_ (fun X=>z7p b X);have HM:=hd_ (fun X=>z8b b a X (by omega) (by omega))
 have HX:=hd_ (fun X=>z9u (a.extract 1 a.size) (b.extract 1 b.size) X _ (by rw[ByteArray.size_extract];omega) rfl)
 have HW:Hid (z9x a b=if a=b then true else if z7e b then (if z7e a then Lib.hasSuffix (z85 a).data.toList (z85 b).data.toList else z87 b a) else false):=hd_ rfl;have HSA:Hid (z7e a=true→1≤a.size):=hd_ z88;have HSB:Hid (z7e b=true→1≤b.size):=hd_ z88;generalize hwb:z9x a b=r at HW ⊢;clear hwb;by_cases he:a=b
 ·have q:(a.toList == b.toList)=true:=by rw[z89];simpa using he
  have HR:Hid (r=true):=hd_ (by rw[HW.out,if_pos he])
  clear he HW HX HM;go_enter func217,ntmps217;go_wp2_with fail;go_ret;exact⟨by rw[HR.out];rfl,Below.refl _ _⟩
 have q:(a.toList == b.toList)=false:=by rw[z89];simpa using he
 rw[if_neg he] at HW;clear he;generalize z7e b=sb at HB HW HSB;cases sb with
 | false =>
  have HR:Hid (r=false):=hd_ (by rw[HW.out];rfl)
  clear HW HX HM;go_enter func217,ntmps217;go_wp2_with (go_at_call 135;refine (HB.out _).mono ?_;rintro e w' ⟨rfl,rfl⟩)
  go_ret;exact⟨by rw[HR.out];rfl,Below.refl _ _⟩
 | true =>
  rw[if_pos rfl] at HW;generalize z7e a=sa at HA HW HSA;cases sa with
  | false =>
   have HR:Hid (r=z87 b a):=hd_ (by rw[HW.out];rfl)
   clear HW HX;generalize z87 b a=y at HM HR;generalize z86 b a=x at HM;go_enter func217,ntmps217;go_wp2_with (first
    | (go_at_call 135;refine (HB.out _).mono ?_;rintro e w' ⟨rfl,rfl⟩)
    | (go_at_call 135;refine (HA.out _).mono ?_;rintro e w' ⟨rfl,rfl⟩)
    | (go_at_call 134;refine (HM.out _).mono ?_;rintro e w' ⟨rfl,rfl⟩))
   go_ret;exact⟨by rw[HR.out];rfl,Below.refl _ _⟩
  | true =>
   have HR:Hid (r=Lib.hasSuffix (a.extract 1 a.size).data.toList (b.extract 1 b.size).data.toList):=hd_ (by rw[HW.out];rfl)
   have la:(1:Int)≤(a.size:Int):=by have:=HSA.out rfl;omega
   have lb:(1:Int)≤(b.size:Int):=by have:=HSB.out rfl;omega
   have za:a.size≤1000000:=ha;have zb:b.size≤1000000:=hb;clear HW HM;generalize Lib.hasSuffix (a.extract 1 a.size).data.toList (b.extract 1 b.size).data.toList=y at HX HR;go_enter func217,ntmps217;go_wp2_with (first
    | (go_at_call 135;refine (HB.out _).mono ?_;rintro e w' ⟨rfl,rfl⟩)
    | (go_at_call 135;refine (HA.out _).mono ?_;rintro e w' ⟨rfl,rfl⟩))
   go_region_law (go_simp;go_at_call 166;refine (HX.out _).mono ?_;rintro e w' ⟨rfl,rfl⟩)
   go_wp2_with fail;go_ret;exact⟨by rw[HR.out];rfl,by repeat (first | exact Below.refl _ _ | with_reducible refine Below.drew ?_)⟩
theorem za0 (a b:ByteArray)(w:World)(ha:a.size≤1000000)(hb:b.size≤1000000):
  Calls prog 173 #[.string a,.string b] w fun e w'=>e=.returned (.tuple #[.string ((z9y a b).getD ⟨#[]⟩),.bool (z9y a b).isSome])∧Below w.heap.size w w':=by
 have H1:=hd_ (fun X=>z9z a b X ha hb);have H2:=hd_ (fun X=>z9z b a X hb ha);have HM:Hid (z9y a b=if z9x a b then some a else if z9x b a then some b else none):=hd_ rfl;generalize z9y a b=m at HM ⊢;generalize z9x a b=x at H1 HM;generalize z9x b a=y at H2 HM;cases x with
 | true =>
  rw[show m=some a from HM.out];clear HM;go_enter func173,ntmps173;go_wp2_with fail;refine (H1.out w).mono ?_;rintro e w1 ⟨rfl,hb1⟩;go_wp2_with fail;go_ret2;exact⟨rfl,hb1⟩
 | false =>
  cases y with
  | true =>
   rw[show m=some b from HM.out];clear HM;go_enter func173,ntmps173;go_wp2_with fail;refine (H1.out w).mono ?_;rintro e w1 ⟨rfl,hb1⟩;go_wp2_with fail;refine (H2.out w1).mono ?_;rintro e w2 ⟨rfl,hb2⟩;go_wp2_with fail;go_ret2;exact⟨rfl,z0r hb1 hb2⟩
  | false =>
   rw[show m=none from HM.out];clear HM;go_enter func173,ntmps173;go_wp2_with fail;refine (H1.out w).mono ?_;rintro e w1 ⟨rfl,hb1⟩;go_wp2_with fail;refine (H2.out w1).mono ?_;rintro e w2 ⟨rfl,hb2⟩;go_wp2_with fail;go_ret2;exact⟨rfl,z0r hb1 hb2⟩
theorem zag {w:World}{base:Nat}{e:TypeId}{size n c g j:Nat}{xs:List Value}(h:w.ownsRow base e size (.slice (some ⟨g,0,none⟩) n c) n xs)(u:Value):(w.setCell ⟨g,j,none⟩ u).ownsRow base e size (.slice (some ⟨g,0,none⟩) n c) n (xs.set j u):=by
 obtain⟨h1,h2 | ⟨g',cap,cur,e1,h3,h4,h5,h6,h7,h8⟩⟩:=h
 ·cases h2.1
 ·injection e1 with e1 _ e3
  injection e1 with e1
  injection e1 with e1
  subst e1 e3;refine⟨by rw[List.length_set];exact h1,.inr ⟨g,c,cur.setIfInBounds j u,rfl,h3,?_,h5,h6,by simp [h7],?_⟩⟩
  ·simp [World.setCell,Array.getElem?_modify,h4]
  ·rw[Array.toList_setIfInBounds,List.take_set,h8]
theorem zah {w:World}{base:Nat}{e:TypeId}{size n c g j:Nat}{xs:List Value}{u:Value}(h:w.ownsRow base e size (.slice (some ⟨g,0,none⟩) n c) n xs)(hj:xs[j]? = some u):w.cell? ⟨g,j,none⟩=some u∧w.frozen? ⟨g,j,none⟩=false∧base≤g:=by
 obtain⟨h1,h2 | ⟨g',cap,cur,e1,h3,h4,h5,h6,h7,h8⟩⟩:=h
 ·cases h2.1
 ·injection e1 with e1 _ e3
  injection e1 with e1
  injection e1 with e1
  subst e1 e3;refine⟨?_,by simp [World.frozen?,h4],h3⟩
  rw[cell_of_row w g j cur e (0,0) h4,← hj,← h8];have hlt:j<n * size:=by rw[← h1];exact (List.getElem?_eq_some_iff.1 hj).1
  rw[List.getElem?_take_of_lt hlt,Array.getElem?_toList]
def zai (n:Nat)(r:Bool)(m:Nat)(s:Bool):Bool:=if r && s then true else if r then decide (n<m) else if s then decide (m<n) else decide (n=m)
theorem zaj (n m:Nat)(r s:Bool)(w:World):Calls prog 171 #[.int .i64 n,.bool r,.int .i64 m,.bool s] w fun e w'=>e=.returned (.bool (zai n r m s))∧w=w':=by
 have q1:decide ((n:Int)<(m:Int))=decide (n<m):=by rw[decide_eq_decide];omega
 have q2:decide ((m:Int)<(n:Int))=decide (m<n):=by rw[decide_eq_decide];omega
 have q3:((n:Int) == (m:Int))=decide (n=m):=by rw[Bool.eq_iff_iff,beq_iff_eq,decide_eq_true_eq];omega
 unfold zai;cases r <;> cases s <;> (
  go_enter func171,ntmps171;go_wp2_with fail;go_ret;first
   | exact⟨rfl,rfl⟩
   | exact⟨by simp,rfl⟩
   | exact⟨by simp [q1],rfl⟩
   | exact⟨by simp [q2],rfl⟩
   | exact⟨by simp [q3],rfl⟩)
def zak:List ByteArray→List ByteArray→Option (List ByteArray)
 | xs,[]=>some xs
 | [],_ :: _=>none
 | x :: xs,y :: ys=>match z9y x y with
  | none=>none
  | some z=>(zak xs ys).map (z :: ·)
def zal (p q:Pat):Pat:=if p.parts.length<q.parts.length then q else p
def zam (p q:Pat):Pat:=if p.parts.length<q.parts.length then p else q
def zan (p q:Pat):Option Pat:=
 if z7j p=0∧z7j q=0∧zai p.parts.length p.rest q.parts.length q.rest=true then (zak (zal p q).parts (zam p q).parts).map (fun l=>⟨l,p.rest && q.rest⟩) else none
def zao (xs ys:List ByteArray)(k:Nat)(done:List ByteArray):Prop:=done.length=k∧zak xs ys=(zak (xs.drop k) (ys.drop k)).map (done++·)
theorem zap (xs ys:List ByteArray):zao xs ys 0 []:=⟨rfl,by simp⟩
theorem zaq {xs ys:List ByteArray}{k:Nat}{done:List ByteArray}(h:zao xs ys k done)(hx:k<xs.length)(hy:k<ys.length)(e:z9y xs[k] ys[k]=none):zak xs ys=none:=by
 rw[h.2,List.drop_eq_getElem_cons hx,List.drop_eq_getElem_cons hy];unfold zak;rw[e];rfl
theorem zar {xs ys:List ByteArray}{k:Nat}{done:List ByteArray}{z:ByteArray}(h:zao xs ys k done)(hx:k<xs.length)(hy:k<ys.length)(e:z9y xs[k] ys[k]=some z):zao xs ys (k+1) (done++[z]):=by
 refine⟨by rw[List.length_append,h.1];rfl,?_⟩
 rw[h.2,List.drop_eq_getElem_cons hx,List.drop_eq_getElem_cons hy];conv=>lhs;unfold zak
 rw[e];simp only[Option.map_map]
 congr 1
 funext l
 simp
theorem zas {xs ys:List ByteArray}{done:List ByteArray}(h:zao xs ys ys.length done):zak xs ys=some (done++xs.drop ys.length):=by
 rw[h.2,List.drop_length];cases h2:xs.drop ys.length <;> rfl
theorem zat {p:Pat}(h:z7j p=0):p.parts.length≤12:=by
 unfold z7j at h;split at h
 ·cases h
 ·split at h
  ·cases h
  ·split at h
   ·cases h
   ·omega
theorem zau (l:List ByteArray)(v:Value)(w:World)(hb:Strs w v l)(hl:l.length≤1000000):
  Calls prog 172 #[v] w fun e w'=>∃ v',e=.returned v'∧w'.ownsRow w.heap.size 9 1 v' l.length (l.map .string)∧Below w.heap.size w w':=by
 obtain⟨A,c,rfl,hc,hm,hlen,h0,hx⟩:=id hb;cases A with
 | none =>
  have hc0:=h0 rfl;have hn0:l=[]:=List.eq_nil_of_length_eq_zero (by omega)
  subst hn0 hc0;have heq:∀ W,(binOp .eql 29 (.slice none 0 0) (.slice none 0 0)).run prog W=.ok (.bool true) W:=fun W=>by kernel_rfl
  clear hx hlen h0 hb;go_enter func172,ntmps172;go_wp2_with fail;go_ret;exact⟨_,rfl,World.ownsRow_nil _ _ _ _,Below.refl _ _⟩
 | some ad =>
  have heq:∀ W,(binOp .eql 29 (.slice (some ad) l.length c) (.slice none 0 0)).run prog W=.ok (.bool false) W:=fun W=>by kernel_rfl
  clear hx hlen h0;have HR:=hd_ hb;clear hb;have hb0:Below w.heap.size w (w.alloc (.cells #[] 9)):=(Below.refl _ _).alloc (Nat.le_refl _) _;have hown:(w.alloc (.cells #[] 9)).ownsRow w.heap.size 9 1 (.slice (some ⟨w.heap.size,0,none⟩) 0 0) 0 []:=⟨rfl,.inr ⟨w.heap.size,0,#[],rfl,Nat.le_refl _,heap_alloc_new w _,Nat.le_refl _,by unfold maxLen;omega,rfl,rfl⟩⟩
  have h1:∀ u∈l.map Value.string,u.oneCell'=true:=fun u hu=>by
   obtain⟨b,-,rfl⟩:=List.mem_map.1 hu;rfl
  have H1:=hd_ h1;clear h1;go_enter func172,ntmps172;go_wp2_with (at_builtin;refine z0k rfl rfl z8c hown rfl (HR.out.below hb0) rfl hb0 hb0.size H1.out (by omega) (by unfold maxLen;omega) ?_;intro A' c' w1 hown1 hbl1)
  go_ret;have h:=hown1;rw[List.nil_append,Nat.zero_add] at h;exact⟨_,rfl,h,hbl1⟩
theorem zcb {j:Nat}{x:ByteArray}(hj:0<j):z7h j x=z9a x:=by
 unfold z7h;rw[z9h,decide_eq_false (by omega:¬ j=0)]
 simp
theorem zcc {p:Pat}(h:0<p.parts.length)(hc:z0v p.parts[0]=false):z7j p=30:=by
 by_cases h1:p.parts.length=1∧p.rest=false
 ·exact za1 h1.1 h1.2
 ·exact za2 (z7k h (by rw[z9i,hc]))
theorem zcd {p:Pat}{j:Nat}(hj:j+1<p.parts.length)(hc:z9a p.parts[j+1]=false):z7j p=30:=za2 (z7k hj (by rw[zcb (by omega),hc]))
theorem zce {p:Pat}(h1:¬(p.parts.length=0∨(p.parts.length=1∧p.rest=false)))(h0:∀ h:0<p.parts.length,z0v p.parts[0]=true)(h:∀ j (hj:j+1<p.parts.length),z9a p.parts[j+1]=true):z7j p=if 12<p.parts.length then 31 else 0:=by
 refine za3 h1 (z7l fun j hj=>?_);cases j with
 | zero=>rw[z9i];exact h0 hj
 | succ j=>rw[zcb (by omega)];exact h j hj
theorem zcf (p:Pat)(A:Option Addr)(c:Nat)(w:World)(hS:Strs w (.slice A p.parts.length c) p.parts)(hz:∀ x∈p.parts,x.size≤maxLen):
  Calls prog 60 #[.agg #[.slice A p.parts.length c,.bool p.rest]] w fun e w'=>e=.returned (.int .i64 (z7j p))∧Below w.heap.size w w':=by
 obtain⟨A',c',e',hcc,hmm,-⟩:=id hS;injection e' with e1 e2 e3
 subst e1 e3;unfold maxLen at hmm;have HS:=hd_ hS;have HZ:=hd_ hz;have HCO:=hd_ (fun x (hx:x.size≤maxLen) X=>z8x x X hx);have HPA:=hd_ (fun x (hx:x.size≤maxLen) X=>z9t x X hx);obtain⟨parts,rest⟩:=p;dsimp only at hcc hmm HS HZ ⊢
 have HE0:=hd_ (@patE_0 ⟨parts,rest⟩);have HE1:=hd_ (@za1 ⟨parts,rest⟩);have HEC:=hd_ (@zcc ⟨parts,rest⟩);have HEP:=hd_ (fun j hj hc=>@zcd ⟨parts,rest⟩ j hj hc);have HEE:=hd_ (@zce ⟨parts,rest⟩);have hB:=z0l w [.slice A parts.length c,.bool rest] 68;have hA:Below w.heap.size w (w.alloc (.cells #[.slice A parts.length c,.bool rest] 68)):=(Below.refl _ _).alloc (Nat.le_refl _) _;clear hS hz e2;go_enter func60,ntmps60;go_upto_region 1 with fail;generalize w.alloc (.cells #[.slice A parts.length c,.bool rest] 68)=W1 at hB hA ⊢;have d0:W1.cell? ⟨w.heap.size,0,none⟩=some (.slice A parts.length c):=hB.cell 0;have d1:W1.cell? ⟨w.heap.size,1,none⟩=some (.bool rest):=hB.cell 1;have HB:=hd_ hB;have HA:=hd_ hA;clear hB hA;by_cases h0:parts.length=0
 ·have q0:((parts.length:Int) == 0)=true:=by rw[beq_iff_eq];omega
  have HR:=hd_ (HE0.out h0);clear h0;go_wp2_with fail;go_ret;exact⟨z7o HR.out.symm,HA.out⟩
 ·have q0:((parts.length:Int) == 0)=false:=by rw[beq_eq_false_iff_ne];omega
  by_cases h1:parts.length=1∧rest=false
  ·have q1:((parts.length:Int) == 1)=true:=by rw[beq_iff_eq];omega
   have HR:=hd_ (HE1.out h1.1 h1.2);obtain⟨h1,rfl⟩:=h1;clear h0 h1;go_wp2_with fail;go_ret;exact⟨z7o HR.out.symm,HA.out⟩
  ·have hpos:0<parts.length:=by omega
   have HN1:=hd_ (show ¬(parts.length=0∨(parts.length=1∧rest=false)) from fun h=>h.elim h0 h1);obtain⟨ad,rfl,hab,x0⟩:=Strs.at_ (HS.out.below HA.out) hpos;have hadd:(ad.add 0)=ad:=by unfold Addr.add;cases ad;simp
   have HX0:=hd_ (HCO.out _ (HZ.out _ (List.getElem_mem hpos)));have HNC:=hd_ (fun h=>HEC.out hpos h);obtain⟨fst,hfst⟩:∃ x,parts[0]=x:=⟨_,rfl⟩;rw[hfst] at x0;have HF:Hid (∀ X,Calls prog 109 #[.string fst] X fun e w'=>e=.returned (.bool (z0v fst))∧X=w'):=hd_ (fun X=>by rw[← hfst];exact HX0.out X)
   have HNC2:Hid (z0v fst=false→z7j ⟨parts,rest⟩=30):=hd_ (fun h=>HNC.out (by dsimp only;rw[hfst];exact h))
   have HYC2:Hid (z0v fst=true→∀ h:0<parts.length,z0v parts[0]=true):=hd_ (fun h _=>by rw[hfst];exact h)
   clear hfst HX0 HNC;clear h0 hab;have hone:((parts.length:Int) == 1)=true→rest=true:=fun h=>by
    cases rest with
    | true=>rfl
    | false=>exact absurd ⟨by rw[beq_iff_eq] at h;omega,rfl⟩ h1
   clear h1;rw[hadd] at x0;clear hadd;have hp0:(0:Int)<(parts.length:Int):=by omega
   go_cut [27] (fun v wx=>v=.bool (!z0v fst)∧wx=W1)
   case first =>
    have HON:=hd_ hone;clear hone;cases q1:((parts.length:Int) == 1) with
    | true =>
     obtain rfl:=HON.out q1
     go_wp2_with fail;refine (HF.out _).mono ?_;rintro e w' ⟨rfl,rfl⟩;go_wp2_with fail;go_meet
     exact⟨rfl,rfl⟩
    | false =>
     go_wp2_with fail;refine (HF.out _).mono ?_;rintro e w' ⟨rfl,rfl⟩;go_wp2_with fail;go_meet
     exact⟨rfl,rfl⟩
   case rest =>
    obtain⟨rfl,rfl⟩:=hcut;have HNO:=hd_ hone;clear hone x0 hp0 q0;cases hc:z0v fst with
    | false =>
     have HR:=hd_ (HNC2.out hc);clear hc;go_wp2_with fail;go_ret;exact⟨z7o HR.out.symm,HA.out⟩
    | true =>
     have HYC:=hd_ (HYC2.out hc);obtain⟨A2,c2,hrun,hrow⟩:=z0b (P:=prog) (t:=29) (lo:=1) (x:=1) (kx:=.i64) underlying29 Tryz.sizeOf9 (HS.out.below HA.out) (by omega) rfl
     rw[Nat.one_mul,← List.map_drop] at hrow;obtain⟨l2,hl2⟩:∃ l2,parts.drop 1=l2:=⟨_,rfl⟩;have hlen:parts.length - 1=l2.length:=by rw[← hl2,List.length_drop]
     rw[hl2] at hrow;rw[hlen] at hrow hrun;have HS2:Hid (Strs wc (.slice A2 l2.length c2) l2):=hd_ hrow;have HGT:Hid (∀ j (hj:j<l2.length),∃ h:j+1<parts.length,parts[j+1]=l2[j]):=hd_ (fun j hj=>⟨by omega,by subst hl2;rw[List.getElem_drop];congr 1;omega⟩)
     have HLN:=hd_ hlen;have hl2b:l2.length≤9223372036854775806:=by omega
     clear hrow hl2 hlen hc;go_wp2_with fail;clear hrun;go_loop [32] (fun i=>∃ k:Nat,k≤l2.length∧i=.int .i64 k∧Hid (∀ j (hj:j<l2.length),j<k→z9a l2[j]=true)) (fun i=>l2.length - (intOf i).toNat)
     case atStart=>exact⟨0,Nat.zero_le _,rfl,fun j _ h=>by omega⟩
     case round =>
      obtain⟨k,hk,rfl,HI⟩:=hrel;by_cases hlt:k<l2.length
      ·obtain⟨ad2,rfl,hab2,x1⟩:=Strs.at_ HS2.out hlt;have HPX:=hd_ (fun X=>HPA.out l2[k] (by obtain⟨h,e⟩:=HGT.out k hlt;rw[← e];exact HZ.out _ (List.getElem_mem h)) X)
       have HBD:Hid (z9a l2[k]=false→z7j ⟨parts,rest⟩=30):=hd_ (fun h=>by obtain⟨h1,e⟩:=HGT.out k hlt;exact HEP.out k h1 (by rw[e];exact h))
       have HGD:Hid (z9a l2[k]=true→∀ j (hj:j<l2.length),j<k+1→z9a l2[j]=true):=hd_ (fun h j hj a=>by
        by_cases e:j=k
        ·subst e;exact h
        ·exact HI.out j hj (by omega))
       generalize hx:l2[k]=x at x1 HPX HBD HGD;clear hx HI;cases hb:z9a x with
       | false =>
        have HR:=hd_ (HBD.out hb);rw[hb] at HPX;clear hb;go_wp2_with fail;refine (HPX.out _).mono ?_;rintro e w' ⟨rfl,rfl⟩;go_wp2_with fail;go_ret;exact⟨z7o HR.out.symm,HA.out⟩
       | true =>
        have HJ:=hd_ (HGD.out hb);rw[hb] at HPX;clear hb;go_wp2_with fail;refine (HPX.out _).mono ?_;rintro e w' ⟨rfl,rfl⟩;go_wp2_with fail;go_round
        case rel=>exact⟨k+1,by omega,by go_num,HJ.out⟩
        case measure=>simp [intOf];omega
      ·have HR:=hd_ (HEE.out HN1.out (fun h=>HYC.out h) (fun j hj=>by
        obtain⟨h,e⟩:=HGT.out j (by have:=HLN.out;omega)
        rw[e];exact HI.out j _ (by have:=HLN.out;omega)))
       clear HI;by_cases h12:12<parts.length
       ·have q12:decide ((12:Int)<(parts.length:Int))=true:=by simp;omega
        have HR2:Hid (z7j ⟨parts,rest⟩=31):=hd_ (by rw[HR.out];exact if_pos h12)
        clear h12;go_wp2_with fail;go_ret;exact⟨z7o HR2.out.symm,HA.out⟩
       ·have q12:decide ((12:Int)<(parts.length:Int))=false:=by simp;omega
        have HR2:Hid (z7j ⟨parts,rest⟩=0):=hd_ (by rw[HR.out];exact if_neg h12)
        clear h12;go_wp2_with fail;go_ret;exact⟨z7o HR2.out.symm,HA.out⟩
