/- A part of the proof. -/
import Derived.Test.YtegeboijhifmcaaGreatDoorMgw2
import Derived.Test.YtegeboijhifmcaaGreatDoorShelf
import Derived.Maps.RangeRun
import Derived.Lib.Strings
import Derived.Deep.RegionHeld3
import Derived.Deep.MidRow
import Derived.StillTailTactics
import Derived.IntWalk
import Derived.Deep.DeepCutAuto
import Derived.Deep.RegionLaw
set_option linter.unusedVariables false
set_option linter.unusedSimpArgs false
set_option maxHeartbeats 1000000
namespace Go.Proofs.YtegeboijhifmcaaGreatDoor
open Go.Proofs.Tryz
open Go.RowKit
theorem z0n {w w':World}{B:Nat}{e:TypeId}{k:Nat}{v:Value}{n:Nat}{xs:List Value}(h:w.ownsRow B e k v n xs)(hb:Below w.heap.size w w'):w'.ownsRow B e k v n xs:=by
 refine⟨h.1,?_⟩;rcases h.2 with⟨e1,e2⟩ | ⟨g,cap,cur,e1,h1,hg,rest⟩
 ·exact .inl ⟨e1,e2⟩
 ·exact .inr ⟨g,cap,cur,e1,h1,(hb.block g (Array.getElem?_eq_some_iff.1 hg).1).trans hg,rest⟩
theorem z0o {w:World}{B:Nat}{e:TypeId}{k:Nat}{v:Value}{n:Nat}{xs:List Value}(h:w.ownsRow B e k v n xs):∃ A c,v=.slice A n c:=by
 rcases h.2 with⟨e1,e2⟩ | ⟨g,cap,cur,e1,_⟩
 ·exact⟨none,0,by rw[e1,e2]⟩
 ·exact⟨_,cap,e1⟩
theorem z0p {B:Nat}{a w:World}(h:Below B a w)(n:Nat):Below B a (w.drewN n):=⟨h.os,h.tape,h.output,h.size,h.block⟩
theorem z0q {B:Nat}{a w w':World}(h:Below B a w)(hB:B≤w.heap.size)(h2:Below w.heap.size w w'):Below B a w':=h.trans (h2.mono hB)
theorem z0r {w w1 w2:World}(h1:Below w.heap.size w w1)(h2:Below w1.heap.size w1 w2):Below w.heap.size w w2:=h1.trans (h2.mono h1.size)
theorem box4 {w:World}{g:Nat}{e:TypeId}{a b c d:Value}(h:Blk w g e [a,b,c,d]):
  w.cell? ⟨g,0,none⟩=some a∧w.cell? ⟨g,1,none⟩=some b∧w.cell? ⟨g,2,none⟩=some c∧w.cell? ⟨g,3,none⟩=some d ∧
  w.frozen? ⟨g,0,none⟩=false∧w.frozen? ⟨g,1,none⟩=false∧w.frozen? ⟨g,2,none⟩=false∧w.frozen? ⟨g,3,none⟩=false:=
 ⟨h.cell 0,h.cell 1,h.cell 2,h.cell 3,h.frozen 0,h.frozen 1,h.frozen 2,h.frozen 3⟩
theorem z0s {w:World}{B:Nat}{e:TypeId}{k:Nat}{v:Value}{n:Nat}{xs:List Value}(h:w.ownsRow B e k v n xs)(hn:0<n):∃ g c,v=.slice (some ⟨g,0,none⟩) n c:=by
 rcases h.2 with⟨e1,e2⟩ | ⟨g,cap,cur,e1,_⟩
 ·omega
 ·exact⟨_,cap,e1⟩
open Go.ChangeMaps (setBlock)
section
variable {κ : Type} {kv : κ → Value} {w w' : World} {r B : Nat} {left : List (κ × Value)}
def z6n (kv:κ→Value)(w:World)(r B:Nat)(left:List (κ×Value)):Prop:=
 r≠B∧∃(es:Array MapEntry) (clock since c0:Nat) (seen:Array Nat),w.heap[B]? = some (.map es clock)∧w.heap[r]? = some (.mapIter (some B) since seen c0)∧(∀ e∈es.toList,e.born<since)∧since≤c0∧since≤clock∧(es.toList.map (·.born)).Nodup ∧
  z1r (leftOf es seen).toList=left.map fun p=>(kv p.1,p.2)
theorem z6n.keep (h:z6n kv w r B left)(h1:w'.heap[B]? = w.heap[B]?)(h2:w'.heap[r]? = w.heap[r]?):z6n kv w' r B left:=by
 obtain⟨hne,es,clock,since,c0,seen,a,b,rest⟩:=h;exact⟨hne,es,clock,since,c0,seen,h1.trans a,h2.trans b,rest⟩
theorem z6n.lt (h:z6n kv w r B left):r<w.heap.size∧B<w.heap.size:=by
 obtain⟨hne,es,clock,since,c0,seen,a,b,rest⟩:=h;exact⟨(Array.getElem?_eq_some_iff.1 b).1,(Array.getElem?_eq_some_iff.1 a).1⟩
theorem z6n.below (h:z6n kv w r B left)(hb:Below w.heap.size w w'):z6n kv w' r B left:=h.keep (hb.block _ h.lt.2) (hb.block _ h.lt.1)
theorem z6n.setCell (h:z6n kv w r B left){p:Addr}(h1:p.block≠r)(h2:p.block≠B)(u:Value):z6n kv (w.setCell p u) r B left:=
 h.keep (Below.heap_setCell w p u B (fun e=>h2 e.symm)) (Below.heap_setCell w p u r (fun e=>h1 e.symm))
theorem z1u.range {P:Program}{m:List (κ×Value)}(h:z1u kv w B m){t k e:TypeId}(ht:P.underlying t=some (.map k e)):
  ∃ w',(Instr.range t (.map (some B))).run P w=.ok (.pointer (some ⟨w.heap.size,0,none⟩)) w'∧z6n kv w' w.heap.size B m∧Below w.heap.size w w'∧w'.heap.size=w.heap.size+1:=by
 have hlt:=h.lt;obtain⟨es,clock,hB,hp,hst⟩:=h;refine⟨_,run_range_map w t k e B es clock ht hB,⟨by omega,es,clock,clock,clock,#[],?_,heap_alloc_new w _,hst.1,Nat.le_refl _,Nat.le_refl _,hst.2,?_⟩,(Below.refl _ _).alloc (Nat.le_refl _) _,by simp⟩
 ·rw[heap_alloc_old w _ hlt];exact hB
 ·have:leftOf es #[]=es:=by unfold leftOf;simp
  rw[this];exact hp
theorem z6o {es:List MapEntry}{p:MapEntry→Bool}{e:MapEntry}(hn:(es.map (·.born)).Nodup)(he:e∈es.filter p):
  ∃ a b,es.filter p=a++e :: b∧es.filter (fun x=>p x && !(x.born == e.born))=a++b:=by
 induction es with
 | nil=>simp at he
 | cons x es ih =>
  rw[List.map_cons,List.nodup_cons] at hn;by_cases hxe:x.born=e.born
  ·have hnot:e∉es:=fun h=>hn.1 (by rw[hxe];exact List.mem_map.2 ⟨e,h,rfl⟩)
   have hex:x=e:=by
    have:=(List.mem_filter.1 he).1;rcases List.mem_cons.1 this with h | h
    ·exact h.symm
    ·exact absurd h hnot
   subst hex;have hpx:p x=true:=(List.mem_filter.1 he).2;refine⟨[],es.filter p,by simp [hpx],?_⟩
   rw[List.filter_cons];simp only[hpx,beq_self_eq_true,Bool.not_true,Bool.and_false,Bool.false_eq_true,if_false,List.nil_append]
   apply List.filter_congr
   intro y hy;have:y.born≠x.born:=fun h=>hn.1 (by rw[← h];exact List.mem_map.2 ⟨y,hy,rfl⟩)
   simp [this]
  ·have hne:(x.born == e.born)=false:=by simpa using hxe
   have he':e∈es.filter p:=by
    rw[List.filter_cons] at he;split at he
    ·rcases List.mem_cons.1 he with h | h
     ·exact absurd (by rw[h]) hxe
     ·exact h
    ·exact he
   obtain⟨a,b,h1,h2⟩:=ih hn.2 he';cases hpx:p x
   ·exact⟨a,b,by simp [hpx,h1],by simp [hpx,h2]⟩
   ·exact⟨x :: a,b,by simp [hpx,h1],by simp [hpx,hne,h2]⟩
theorem z6p {α β:Type}{f:α→β}{l:List α}{a b:List β}{x:β}(h:a++x :: b=l.map f):∃ l1 y l2,l=l1++y :: l2∧l1.map f=a∧f y=x∧l2.map f=b:=by
 induction a generalizing l with
 | nil =>
  cases l with
  | nil=>simp at h
  | cons y l=>simp at h;exact⟨[],y,l,rfl,rfl,h.1.symm,h.2.symm⟩
 | cons c a ih =>
  cases l with
  | nil=>simp at h
  | cons y l =>
   simp at h
   obtain⟨l1,z,l2,rfl,h1,h2,h3⟩:=ih h.2;exact⟨y :: l1,z,l2,rfl,by simp [h.1,h1],h2,h3⟩
theorem z6n.next {P:Program}(h:z6n kv w r B left)(ty:TypeId):
  (left=[]∧(Instr.next (.pointer (some ⟨r,0,none⟩)) false ty).run P w=.ok (.tuple #[.bool false]) w) ∨
  ∃ a p b w',left=a++p :: b∧(Instr.next (.pointer (some ⟨r,0,none⟩)) false ty).run P w=.ok (.tuple #[.bool true,kv p.1,p.2]) w'∧z6n kv w' r B (a++b) ∧
   (Instr.entry (.pointer (some ⟨r,0,none⟩))).run P w'=.ok (.tuple #[kv p.1,p.2]) w'∧w.grownBy w' (some r)∧w'.heap.size=w.heap.size:=by
 have hltr:=h.lt.1;obtain⟨hne,es,clock,since,c0,seen,hB,hr,hold,hsc,hscl,hnd,hp⟩:=h;rcases run_next_at (P:=P) w ty r B since c0 seen es clock hr hB hold hsc with⟨h0,hrun⟩ | ⟨e,he,w1,hw1,hrun⟩
 ·left
  refine⟨?_,hrun⟩;have:(leftOf es seen).toList=[]:=List.eq_nil_of_length_eq_zero (by simpa using h0)
  rw[this] at hp;cases left with
  | nil=>rfl
  | cons p l=>simp [z1r] at hp
 ·right
  have he':e∈es.toList.filter (fun x=>!seen.contains x.born):=by
   have:=he;unfold leftOf at this;rwa [Array.toList_filter] at this
  obtain⟨a,b,h1,h2⟩:=z6o hnd he';have hl1:(leftOf es seen).toList=a++e :: b:=by unfold leftOf;rw[Array.toList_filter];exact h1
  have hl2:(leftOf es (seen.push e.born)).toList=a++b:=by
   unfold leftOf;rw[Array.toList_filter,← h2]
   apply List.filter_congr
   intro x _;rw[Array.contains_push];simp [Bool.not_or]
  rw[hl1] at hp;unfold z1r at hp;rw[List.map_append,List.map_cons] at hp;obtain⟨l1,p,l2,rfl,q1,q2,q3⟩:=z6p hp;injection q2 with q4 q5
  have hw1h:w1.heap=w.heap:=by rcases hw1 with rfl | rfl <;> rfl
  have hset:∀ o,(setBlock w1 r o).heap[r]? = some o:=fun o=>by simp [setBlock,hw1h,hltr]
  have hoth:∀ o j,j≠r→(setBlock w1 r o).heap[j]? = w.heap[j]?:=fun o j hj=>by simp [setBlock,hw1h,Ne.symm hj]
  have hmem:e∈es.toList:=(List.mem_filter.1 he').1;rw[← q4,← q5] at hrun;refine⟨l1,p,l2,_,rfl,hrun,⟨hne,es,clock,since,clock,seen.push e.born,by rw[hoth _ _ (Ne.symm hne)];exact hB,hset _,hold,hscl,hscl,hnd,?_⟩,?_,?_,?_⟩
  ·rw[hl2];unfold z1r;rw[List.map_append,List.map_append,q1,q3]
  ·have:=run_entry_at (P:=P) (setBlock w1 r (.mapIter (some B) since (seen.push e.born) clock)) r B since seen es clock e (hset _) (by rw[hoth _ _ (Ne.symm hne)];exact hB) hmem hnd
   rw[← q4,← q5] at this;exact this
  ·rcases hw1 with rfl | rfl <;> exact⟨rfl,rfl,rfl,by simp [setBlock],fun k hk hk2=>hoth _ k (fun e=>hk2 (by rw[e]))⟩
  ·simp [setBlock,hw1h]
end
structure Pat where
 parts:List ByteArray
 rest:Bool
def z79 (s:ByteArray):Bool:=Lib.hasPrefix s.data.toList [42]
def z7a (s:ByteArray):Bool:=(s.data.toList.drop 1).all fun c=>z0t c.toNat
def z7b (s:ByteArray):Int:=if z0v s then 1 else if z79 s then (if z7a s then 2 else 0) else 0
def z7c (j:Nat)(x:ByteArray):Bool:=decide (z7b x≠0) && !(decide (j=0) && decide (z7b x=2))
def z7d (l:List ByteArray):Bool:=(List.range l.length).all fun j=>z7c j ((l[j]?).getD z2l)
def z7e (p:Pat):Int:=if p.parts.length=0∨(p.parts.length=1∧p.rest=false) then 30 else if z7d p.parts=false then 30 else if 12<p.parts.length then 31 else 0
theorem z7f {l:List ByteArray}{j:Nat}(h:j<l.length)(hf:z7c j l[j]=false):z7d l=false:=by
 unfold z7d;rw[List.all_eq_false];exact⟨j,List.mem_range.2 h,by rw[List.getElem?_eq_getElem h];simpa using hf⟩
theorem z7g {l:List ByteArray}(h:∀ j (hj:j<l.length),z7c j l[j]=true):z7d l=true:=by
 unfold z7d;rw[List.all_eq_true];intro j hj;rw[List.mem_range] at hj;rw[List.getElem?_eq_getElem hj];exact h j hj
theorem z7h {s:ByteArray}{k:Nat}(h:k<s.size)(h1:1≤k)(hb:z0t s[k].toNat=false):z7a s=false:=by
 unfold z7a;rw[List.all_eq_false];have hl:k<s.data.toList.length:=h;refine⟨s.data.toList[k],?_,?_⟩
 ·refine List.mem_iff_getElem.2 ⟨k - 1,by rw[List.length_drop];omega,?_⟩
  rw[List.getElem_drop];congr 1;omega
 ·have e:s.data.toList[k]=s[k]:=by rw[Array.getElem_toList];rfl
  rw[e,hb];simp
theorem z7i {s:ByteArray}(h:∀ k (hk:k<s.size),1≤k→z0t s[k].toNat=true):z7a s=true:=by
 unfold z7a;rw[List.all_eq_true];intro c hc;obtain⟨i,hi,rfl⟩:=List.mem_iff_getElem.1 hc;rw[List.getElem_drop];rw[List.length_drop] at hi;have hk:1+i<s.size:=by have:s.data.toList.length=s.size:=rfl;omega
 have e:s.data.toList[1+i]'(by have:s.data.toList.length=s.size:=rfl;omega)=s[1+i]:=by rw[Array.getElem_toList];rfl
 rw[e];exact h _ hk (by omega)
theorem z7j {a b:Int}(h:a=b):Ending.returned (.int .i64 a)=.returned (.int .i64 b):=by rw[h]
theorem z7k (s:ByteArray)(w:World):Calls prog 110 #[.string s] w fun e w'=>e=.returned (.bool (z79 s))∧w=w':=by
 go_enter func110,ntmps110;go_wp2_with (go_at_call 102;refine (Tryz.strings_HasPrefix _ _ _).mono ?_;rintro e w' ⟨rfl,rfl⟩)
 go_ret;exact⟨rfl,rfl⟩
theorem z7l (s:ByteArray)(w:World)(hs:s.size≤maxLen):
  Calls prog 161 #[.string s] w fun e w'=>e=.returned (.int .i64 (z7b s))∧w=w':=by
 have hsz:s.size≤9223372036854775807:=by unfold maxLen at hs;omega
 have HC:=hd_ (z19 s w hs);have HP:=hd_ (Tryz.strings_HasPrefix s ⟨#[42]⟩ w);clear hs;cases hc:z0v s with
 | true =>
  have HF:Hid (z7b s=1):=hd_ (by unfold z7b;rw[if_pos hc])
  rw[hc] at HC;clear hc;go_enter func161,ntmps161;go_wp2_with (go_at_call 103;refine HC.out.mono ?_;rintro e w' ⟨rfl,rfl⟩)
  go_ret;exact⟨z7j HF.out.symm,rfl⟩
 | false =>
  rw[hc] at HC;cases hp:Lib.hasPrefix s.data.toList [42] with
  | false =>
   have HF:Hid (z7b s=0):=hd_ (by unfold z7b z79;rw[hc,hp];rfl)
   have hp':Lib.hasPrefix s.data.toList (⟨#[42]⟩:ByteArray).data.toList=false:=hp;rw[hp'] at HP;clear hc hp hp';go_enter func161,ntmps161;go_wp2_with (first
    | (go_at_call 103;refine HC.out.mono ?_;rintro e w' ⟨rfl,rfl⟩)
    | (go_at_call 102;refine HP.out.mono ?_;rintro e w' ⟨rfl,rfl⟩))
   go_ret;exact⟨z7j HF.out.symm,rfl⟩
  | true =>
   have HT:Hid (z7b s=if z7a s then 2 else 0):=hd_ (by unfold z7b z79;rw[hc,hp];rfl)
   have h1:1≤s.size:=by
    rcases Nat.eq_zero_or_pos s.size with h0 | h0
    ·have:s.data.toList=[]:=List.eq_nil_of_length_eq_zero (by simpa using h0)
     rw[this] at hp;cases hp
    ·exact h0
   have hp':Lib.hasPrefix s.data.toList (⟨#[42]⟩:ByteArray).data.toList=true:=hp;rw[hp'] at HP;clear hc hp hp';go_enter func161,ntmps161;go_wp2_with (first
    | (go_at_call 103;refine HC.out.mono ?_;rintro e w' ⟨rfl,rfl⟩)
    | (go_at_call 102;refine HP.out.mono ?_;rintro e w' ⟨rfl,rfl⟩))
   go_loop [3] (fun i=>∃ k:Nat,1≤k∧k≤s.size∧i=.int .i64 k∧Hid (∀ j (hj:j<s.size),1≤j→j<k→z0t s[j].toNat=true)) (fun i=>s.size - (intOf i).toNat)
   case atStart=>exact⟨1,Nat.le_refl _,h1,rfl,fun j _ a b=>by omega⟩
   case round =>
    obtain⟨k,hk1,hk,rfl,HI⟩:=hrel;by_cases hlt:k<s.size
    ·cases hl:z0t s[k].toNat
     ·have HF:Hid (z7b s=0):=hd_ (by rw[HT.out,z7h hlt hk1 hl];rfl)
      have HL:=hd_ hl;clear HI;go_wp2_with (go_at_call 149;refine (z0x _ _).mono ?_;rintro e w' ⟨rfl,rfl⟩)
      go_ret;exact⟨z7j HF.out.symm,rfl⟩
     ·have HN:Hid (∀ j (hj:j<s.size),1≤j→j<k+1→z0t s[j].toNat=true):=hd_ (fun j hj a b=>by
       by_cases e:j=k
       ·subst e;exact hl
       ·exact HI.out j hj a (by omega))
      have HL:=hd_ hl;clear HI;go_wp2_with (go_at_call 149;refine (z0x _ _).mono ?_;rintro e w' ⟨rfl,rfl⟩)
      go_round
      case rel=>exact⟨k+1,by omega,by omega,by go_num,HN.out⟩
      case measure=>simp [intOf];omega
    ·have hke:k=s.size:=by omega
     have HF:Hid (z7b s=2):=hd_ (by rw[HT.out,z7i (fun j hj a=>HI.out j hj a (by omega))];rfl)
     clear HI hke;go_wp2
     go_ret;exact⟨z7j HF.out.symm,rfl⟩
theorem toList_inj {a b:ByteArray}:a.toList=b.toList↔a=b:=by
 constructor
 ·intro h;rw[ByteArray.toList_eq,ByteArray.toList_eq] at h;cases a with | mk x=>cases b with | mk y =>
  congr 1;exact Array.toList_inj.1 h
 ·intro h;rw[h]
theorem z7m (a b:Fil)(w:World):(Op.equal 185 (z2p a) (z2p b)).run prog w=.ok (a == b) w:=by
 obtain⟨a0,a1⟩:=a;obtain⟨b0,b1⟩:=b;show (Op.equalIn 10000 185 _ _).run prog w=_
 unfold z2p;rw[run_equalIn_agg w 9999 185 _ _ (by kernel_rfl) (by kernel_rfl)]
 simp [go_sem,Op.eqFields,toList_inj]
 by_cases h1:a0=b0 <;> by_cases h2:a1=b1 <;> simp [h1,h2]
theorem z7n (b:Bool)(a:Fil)(w:World):(Instr.checkKey b 10000 185 (z2p a)).run prog w=.ok () w:=by
 unfold z2p;rw[Instr.checkKey];simp [run_underlying underlying185,go_sem]
 rw[z29 underlying9 b _ w 9998,Result.andThen_ok];exact z2a underlying3 b _ w 9998
theorem z7o (a:Fil):Instr.sameBits 10000 (z2p a) (z2p a)=true:=by
 unfold z2p;rw[Instr.sameBits];simp [z2b,z2c]
theorem z7p:z1s prog 185 z2p:=
 ⟨z23 underlying185 (fun _ _=>rfl) z7m,z7n,fun a b h=>by
  have:b=a:=(eq_of_beq h).symm;subst this;exact z7o b⟩
theorem z7q:z1s prog 9 Value.string:=z2d underlying9
def z7r (w:World)(B:Nat)(f:ByteArray→Option Rev):Prop:=z2f Value.string Rev.val w B f
def z7s (w:World)(B:Nat)(f:ByteArray→Option Edt):Prop:=z2f Value.string Edt.val w B f
def z7t (w:World)(B:Nat)(f:Fil→Option Fil):Prop:=z2f z2p z2p w B f
theorem z7u (w:World):(zeroValue 66).run prog w=.ok z2m.val w:=by kernel_rfl
theorem z7v (w:World):(zeroValue 90).run prog w=.ok z2n.val w:=by kernel_rfl
theorem z7w (w:World):(zeroValue 185).run prog w=.ok (z2p z2o) w:=by kernel_rfl
section
variable {w : World} {B : Nat}
theorem z7r.look {f:ByteArray→Option Rev}(h:z7r w B f)(p:ByteArray):(Instr.lookup 179 (.map (some B)) (.string p) false).run prog w=.ok (.agg #[.string (z2x f p).path,.int .i64 (z2x f p).num,.int .i64 (z2x f p).chg,.int .i64 (z2x f p).act,.int .i64 (z2x f p).ty.base,.bool (z2x f p).ty.k,.bool (z2x f p).ty.l,.bool (z2x f p).ty.x,.int .u64 (z2x f p).sum,.int .i64 (z2x f p).size,.string (z2x f p).frm,.int .i64 (z2x f p).fnum]) w:=by
 rw[z2f.lookup h z7q underlying179 (z7u w) p false];unfold z2h z2x;cases f p <;> rfl
theorem z7r.look2 {f:ByteArray→Option Rev}(h:z7r w B f)(p:ByteArray):(Instr.lookup 179 (.map (some B)) (.string p) true).run prog w=.ok (.tuple #[.agg #[.string (z2x f p).path,.int .i64 (z2x f p).num,.int .i64 (z2x f p).chg,.int .i64 (z2x f p).act,.int .i64 (z2x f p).ty.base,.bool (z2x f p).ty.k,.bool (z2x f p).ty.l,.bool (z2x f p).ty.x,.int .u64 (z2x f p).sum,.int .i64 (z2x f p).size,.string (z2x f p).frm,.int .i64 (z2x f p).fnum],.bool (f p).isSome]) w:=by
 rw[z2f.lookup h z7q underlying179 (z7u w) p true];unfold z2h z2x;cases f p <;> rfl
def z7x (f:ByteArray→Option Edt)(p:ByteArray):Edt:=(f p).getD z2n
theorem z7s.look {f:ByteArray→Option Edt}(h:z7s w B f)(p:ByteArray):(Instr.lookup 180 (.map (some B)) (.string p) false).run prog w=.ok (.agg #[.string (z7x f p).path,.int .i64 (z7x f p).act,.int .i64 (z7x f p).ty.base,.bool (z7x f p).ty.k,.bool (z7x f p).ty.l,.bool (z7x f p).ty.x,.int .u64 (z7x f p).sum,.int .i64 (z7x f p).size,.int .i64 (z7x f p).base,.string (z7x f p).frm,.int .i64 (z7x f p).fnum,.int .i64 (z7x f p).fence]) w:=by
 rw[z2f.lookup h z7q underlying180 (z7v w) p false];unfold z2h z7x;cases f p <;> rfl
theorem z7s.look2 {f:ByteArray→Option Edt}(h:z7s w B f)(p:ByteArray):(Instr.lookup 180 (.map (some B)) (.string p) true).run prog w=.ok (.tuple #[.agg #[.string (z7x f p).path,.int .i64 (z7x f p).act,.int .i64 (z7x f p).ty.base,.bool (z7x f p).ty.k,.bool (z7x f p).ty.l,.bool (z7x f p).ty.x,.int .u64 (z7x f p).sum,.int .i64 (z7x f p).size,.int .i64 (z7x f p).base,.string (z7x f p).frm,.int .i64 (z7x f p).fnum,.int .i64 (z7x f p).fence],.bool (f p).isSome]) w:=by
 rw[z2f.lookup h z7q underlying180 (z7v w) p true];unfold z2h z7x;cases f p <;> rfl
def z7y (f:Fil→Option Fil)(p:Fil):Fil:=(f p).getD z2o
theorem z7t.look {f:Fil→Option Fil}(h:z7t w B f)(p:ByteArray)(n:Int):(Instr.lookup 181 (.map (some B)) (.agg #[.string p,.int .i64 n]) false).run prog w=.ok (.agg #[.string (z7y f (p,n)).1,.int .i64 (z7y f (p,n)).2]) w:=by
 have:=z2f.lookup h z7p underlying181 (z7w w) (p,n) false;unfold z2h at this;unfold z7y;cases hf:f (p,n) <;> (rw[hf] at this;exact this)
theorem z7t.look2 {f:Fil→Option Fil}(h:z7t w B f)(p:ByteArray)(n:Int):(Instr.lookup 181 (.map (some B)) (.agg #[.string p,.int .i64 n]) true).run prog w=.ok (.tuple #[.agg #[.string (z7y f (p,n)).1,.int .i64 (z7y f (p,n)).2],.bool (f (p,n)).isSome]) w:=by
 have:=z2f.lookup h z7p underlying181 (z7w w) (p,n) true;unfold z2h at this;unfold z7y;cases hf:f (p,n) <;> (rw[hf] at this;exact this)
end
theorem z7z {w:World}{g:Nat}{e:TypeId}{a0 a1 a2 a3 a4 a5 a6 a7 a8 a9 a10 a11:Value}(h:Blk w g e [a0,a1,a2,a3,a4,a5,a6,a7,a8,a9,a10,a11]):
  w.cell? ⟨g,0,none⟩=some a0∧w.cell? ⟨g,1,none⟩=some a1∧w.cell? ⟨g,2,none⟩=some a2∧w.cell? ⟨g,3,none⟩=some a3∧w.cell? ⟨g,4,none⟩=some a4∧w.cell? ⟨g,5,none⟩=some a5 ∧
  w.cell? ⟨g,6,none⟩=some a6∧w.cell? ⟨g,7,none⟩=some a7∧w.cell? ⟨g,8,none⟩=some a8∧w.cell? ⟨g,9,none⟩=some a9∧w.cell? ⟨g,10,none⟩=some a10∧w.cell? ⟨g,11,none⟩=some a11:=
 ⟨h.cell 0,h.cell 1,h.cell 2,h.cell 3,h.cell 4,h.cell 5,h.cell 6,h.cell 7,h.cell 8,h.cell 9,h.cell 10,h.cell 11⟩
theorem box2 {w:World}{g:Nat}{e:TypeId}{a b:Value}(h:Blk w g e [a,b]):w.cell? ⟨g,0,none⟩=some a∧w.cell? ⟨g,1,none⟩=some b∧w.frozen? ⟨g,0,none⟩=false∧w.frozen? ⟨g,1,none⟩=false:=
 ⟨h.cell 0,h.cell 1,h.frozen 0,h.frozen 1⟩
theorem zce {P:Program}{W:World}{ops:Array Oper}{o:Oper}{a:Act}{K:Act→World→Prop}{Q:Exit→Act→World→Prop}{E:Prop}(hgd:o.guard=none){s x:Operand}{t:TypeId}
  (ho:o.op=.call { callee:=.builtin .append,args:=#[s,x],argTypes:=#[t,t] })
  {e:TypeId} {size bytes base:Nat} (he:z0e P t e size bytes) {v:Value} {n:Nat} {xs:List Value} (hown:W.ownsRow base e size v n xs) (hs:a.eval s=v)
  {u:Value} {m:Nat} {news:List Value} (hr:Row W size u m news) (hx:a.eval x=u) (h1:∀ u∈news,u.oneCell'=true) (hbytes:(n+m) * bytes≤140737488355328) (h63:n+m≤maxLen) (hbase:base≤W.heap.size)
  (h:∀ A' c' w',w'.ownsRow base e size (.slice A' (n+m) c') (n+m) (xs++news)→W.grownBy w' v.ownBlock →
   ((Value.slice A' (n+m) c').ownBlock=v.ownBlock∨(Value.slice A' (n+m) c').ownBlock=some W.heap.size)→K (a.put o.dst (.slice A' (n+m) c')) w'):
  if Region.wanted o (yielded ops a.tmps)=true then Oper.wp P o a W K Q else E:=by
 have hw:Region.wanted o (yielded ops a.tmps)=true:=by simp [Region.wanted,hgd]
 rw[if_pos hw];obtain⟨A',c',w',hrun,h2,h3,h4⟩:=z0h (ty:=o.type) he hown hr h1 hbytes h63 hbase;unfold Oper.wp execOp;simp only[ho,resolve,invoke,builtin,Sem.run_bind,Sem.run_pure,Result.andThen_ok,List.map_toArray,List.map_cons,List.map_nil,hs,hx,hrun]
 exact h A' c' w' h2 h3 h4
theorem zcf {a w:World}(h:Below a.heap.size a w)(o:Obj):Below a.heap.size a (w.alloc o):=h.alloc h.size o
theorem Blk.below' {w w':World}{g:Nat}{e:TypeId}{cs:List Value}(h:Blk w g e cs)(hb:Below w.heap.size w w'):Blk w' g e cs:=h.below hb h.lt
theorem Blk.drew' {w:World}{g:Nat}{e:TypeId}{cs:List Value}(h:Blk w g e cs):Blk w.drew g e cs:=h
theorem zcg {w:World}{B:Nat}{e:TypeId}{k:Nat}{v:Value}{n:Nat}{xs:List Value}(h:w.ownsRow B e k v n xs)(o:Obj):(w.alloc o).ownsRow B e k v n xs:=z0n h ((Below.refl _ _).alloc (Nat.le_refl _) _)
theorem zch {w:World}{g:Nat}{cs:List Value}{e:TypeId}(hg:g=w.heap.size):Blk (w.alloc (.cells cs.toArray e)) g e cs:=by rw[hg];exact z0l w cs e
def zci (n:Nat):Code→Option (Array Oper)
 | .region i ops _=>if i=n then some ops else none
 | .seq a b=>(zci n a).or (zci n b)
 | .cond _ a b=>(zci n a).or (zci n b)
 | .block _ a=>zci n a
 | .loop a=>zci n a
 | _=>none
end Go.Proofs.YtegeboijhifmcaaGreatDoor
