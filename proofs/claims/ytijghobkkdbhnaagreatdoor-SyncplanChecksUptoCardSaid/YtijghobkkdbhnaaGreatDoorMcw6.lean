/- A part. -/
import Derived.Test.YtijghobkkdbhnaaGreatDoorMcw2
import Derived.Test.YtijghobkkdbhnaaGreatDoorMyShelf
import Derived.Lib.Strings
import Derived.Deep.RegionHeld3
import Derived.Deep.MidRow
import Derived.StillTailTactics
import Derived.IntWalk
import Derived.Maps.RangeRun
set_option linter.unusedVariables false
set_option linter.unusedSimpArgs false
set_option maxHeartbeats 1000000
namespace Go.Proofs.YtijghobkkdbhnaaGreatDoor
open Go.Proofs.Tryz
open Go.RowKit
structure Pat where
 parts:List ByteArray
 rest:Bool
def z7b (s:ByteArray):Bool:=Lib.hasPrefix s.data.toList [42]
def z7c (s:ByteArray):Bool:=(s.data.toList.drop 1).all fun c=>z0y c.toNat
def z7d (s:ByteArray):Int:=if z12 s then 1 else if z7b s then (if z7c s then 2 else 0) else 0
def z7e (j:Nat)(x:ByteArray):Bool:=decide (z7d x≠0) && !(decide (j=0) && decide (z7d x=2))
def z7f (l:List ByteArray):Bool:=(List.range l.length).all fun j=>z7e j ((l[j]?).getD z2q)
def z7g (p:Pat):Int:=if p.parts.length=0∨(p.parts.length=1∧p.rest=false) then 30 else if z7f p.parts=false then 30 else if 12<p.parts.length then 31 else 0
theorem z7h {l:List ByteArray}{j:Nat}(h:j<l.length)(hf:z7e j l[j]=false):z7f l=false:=by
 unfold z7f;rw[List.all_eq_false];exact⟨j,List.mem_range.2 h,by rw[List.getElem?_eq_getElem h];simpa using hf⟩
theorem z7i {l:List ByteArray}(h:∀ j (hj:j<l.length),z7e j l[j]=true):z7f l=true:=by
 unfold z7f;rw[List.all_eq_true];intro j hj;rw[List.mem_range] at hj;rw[List.getElem?_eq_getElem hj];exact h j hj
theorem z7j {s:ByteArray}{k:Nat}(h:k<s.size)(h1:1≤k)(hb:z0y s[k].toNat=false):z7c s=false:=by
 unfold z7c;rw[List.all_eq_false];have hl:k<s.data.toList.length:=h;refine⟨s.data.toList[k],?_,?_⟩
 ·refine List.mem_iff_getElem.2 ⟨k - 1,by rw[List.length_drop];omega,?_⟩
  rw[List.getElem_drop];congr 1;omega
 ·have e:s.data.toList[k]=s[k]:=by rw[Array.getElem_toList];rfl
  rw[e,hb];simp
theorem z7k {s:ByteArray}(h:∀ k (hk:k<s.size),1≤k→z0y s[k].toNat=true):z7c s=true:=by
 unfold z7c;rw[List.all_eq_true];intro c hc;obtain⟨i,hi,rfl⟩:=List.mem_iff_getElem.1 hc;rw[List.getElem_drop];rw[List.length_drop] at hi;have hk:1+i<s.size:=by have:s.data.toList.length=s.size:=rfl;omega
 have e:s.data.toList[1+i]'(by have:s.data.toList.length=s.size:=rfl;omega)=s[1+i]:=by rw[Array.getElem_toList];rfl
 rw[e];exact h _ hk (by omega)
theorem z7l {a b:Int}(h:a=b):Ending.returned (.int .i64 a)=.returned (.int .i64 b):=by rw[h]
theorem z7m (s:ByteArray)(w:World):Calls prog 135 #[.string s] w fun e w'=>e=.returned (.bool (z7b s))∧w=w':=by
 go_enter func135,ntmps135;go_wp2_with (go_at_call 126;refine (Tryz.strings_HasPrefix _ _ _).mono ?_;rintro e w' ⟨rfl,rfl⟩)
 go_ret;exact⟨rfl,rfl⟩
theorem z7n (s:ByteArray)(w:World)(hs:s.size≤maxLen):
  Calls prog 190 #[.string s] w fun e w'=>e=.returned (.int .i64 (z7d s))∧w=w':=by
 have hsz:s.size≤9223372036854775807:=by unfold maxLen at hs;omega
 have HC:=hd_ (z1e s w hs);have HP:=hd_ (Tryz.strings_HasPrefix s ⟨#[42]⟩ w);clear hs;cases hc:z12 s with
 | true =>
  have HF:Hid (z7d s=1):=hd_ (by unfold z7d;rw[if_pos hc])
  rw[hc] at HC;clear hc;go_enter func190,ntmps190;go_wp2_with (go_at_call 127;refine HC.out.mono ?_;rintro e w' ⟨rfl,rfl⟩)
  go_ret;exact⟨z7l HF.out.symm,rfl⟩
 | false =>
  rw[hc] at HC;cases hp:Lib.hasPrefix s.data.toList [42] with
  | false =>
   have HF:Hid (z7d s=0):=hd_ (by unfold z7d z7b;rw[hc,hp];rfl)
   have hp':Lib.hasPrefix s.data.toList (⟨#[42]⟩:ByteArray).data.toList=false:=hp;rw[hp'] at HP;clear hc hp hp';go_enter func190,ntmps190;go_wp2_with (first
    | (go_at_call 127;refine HC.out.mono ?_;rintro e w' ⟨rfl,rfl⟩)
    | (go_at_call 126;refine HP.out.mono ?_;rintro e w' ⟨rfl,rfl⟩))
   go_ret;exact⟨z7l HF.out.symm,rfl⟩
  | true =>
   have HT:Hid (z7d s=if z7c s then 2 else 0):=hd_ (by unfold z7d z7b;rw[hc,hp];rfl)
   have h1:1≤s.size:=by
    rcases Nat.eq_zero_or_pos s.size with h0 | h0
    ·have:s.data.toList=[]:=List.eq_nil_of_length_eq_zero (by simpa using h0)
     rw[this] at hp;cases hp
    ·exact h0
   have hp':Lib.hasPrefix s.data.toList (⟨#[42]⟩:ByteArray).data.toList=true:=hp;rw[hp'] at HP;clear hc hp hp';go_enter func190,ntmps190;go_wp2_with (first
    | (go_at_call 127;refine HC.out.mono ?_;rintro e w' ⟨rfl,rfl⟩)
    | (go_at_call 126;refine HP.out.mono ?_;rintro e w' ⟨rfl,rfl⟩))
   go_loop [3] (fun i=>∃ k:Nat,1≤k∧k≤s.size∧i=.int .i64 k∧Hid (∀ j (hj:j<s.size),1≤j→j<k→z0y s[j].toNat=true)) (fun i=>s.size - (intOf i).toNat)
   case atStart=>exact⟨1,Nat.le_refl _,h1,rfl,fun j _ a b=>by omega⟩
   case round =>
    obtain⟨k,hk1,hk,rfl,HI⟩:=hrel;by_cases hlt:k<s.size
    ·cases hl:z0y s[k].toNat
     ·have HF:Hid (z7d s=0):=hd_ (by rw[HT.out,z7j hlt hk1 hl];rfl)
      have HL:=hd_ hl;clear HI;go_wp2_with (go_at_call 177;refine (z14 _ _).mono ?_;rintro e w' ⟨rfl,rfl⟩)
      go_ret;exact⟨z7l HF.out.symm,rfl⟩
     ·have HN:Hid (∀ j (hj:j<s.size),1≤j→j<k+1→z0y s[j].toNat=true):=hd_ (fun j hj a b=>by
       by_cases e:j=k
       ·subst e;exact hl
       ·exact HI.out j hj a (by omega))
      have HL:=hd_ hl;clear HI;go_wp2_with (go_at_call 177;refine (z14 _ _).mono ?_;rintro e w' ⟨rfl,rfl⟩)
      go_round
      case rel=>exact⟨k+1,by omega,by omega,by go_num,HN.out⟩
      case measure=>simp [intOf];omega
    ·have hke:k=s.size:=by omega
     have HF:Hid (z7d s=2):=hd_ (by rw[HT.out,z7k (fun j hj a=>HI.out j hj a (by omega))];rfl)
     clear HI hke;go_wp2
     go_ret;exact⟨z7l HF.out.symm,rfl⟩
theorem toList_inj {a b:ByteArray}:a.toList=b.toList↔a=b:=by
 constructor
 ·intro h;rw[ByteArray.toList_eq,ByteArray.toList_eq] at h;cases a with | mk x=>cases b with | mk y =>
  congr 1;exact Array.toList_inj.1 h
 ·intro h;rw[h]
theorem z7o (a b:Fil)(w:World):(Op.equal 206 (z2u a) (z2u b)).run prog w=.ok (a == b) w:=by
 obtain⟨a0,a1⟩:=a;obtain⟨b0,b1⟩:=b;show (Op.equalIn 10000 206 _ _).run prog w=_
 unfold z2u;rw[run_equalIn_agg w 9999 206 _ _ (by kernel_rfl) (by kernel_rfl)]
 simp [go_sem,Op.eqFields,toList_inj]
 by_cases h1:a0=b0 <;> by_cases h2:a1=b1 <;> simp [h1,h2]
theorem z7p (b:Bool)(a:Fil)(w:World):(Instr.checkKey b 10000 206 (z2u a)).run prog w=.ok () w:=by
 unfold z2u;rw[Instr.checkKey];simp [run_underlying underlying206,go_sem]
 rw[z2e underlying9 b _ w 9998,Result.andThen_ok];exact z2f underlying3 b _ w 9998
theorem z7q (a:Fil):Instr.sameBits 10000 (z2u a) (z2u a)=true:=by
 unfold z2u;rw[Instr.sameBits];simp [z2g,z2h]
theorem z7r:z1x prog 206 z2u:=
 ⟨z2a underlying206 (fun _ _=>rfl) z7o,z7p,fun a b h=>by
  have:b=a:=(eq_of_beq h).symm;subst this;exact z7q b⟩
theorem z7s:z1x prog 9 Value.string:=z2i underlying9
def z7t (w:World)(B:Nat)(f:ByteArray→Option Rev):Prop:=z2k Value.string Rev.val w B f
def z7u (w:World)(B:Nat)(f:ByteArray→Option Edt):Prop:=z2k Value.string Edt.val w B f
def z7v (w:World)(B:Nat)(f:Fil→Option Fil):Prop:=z2k z2u z2u w B f
theorem z7w (w:World):(zeroValue 90).run prog w=.ok z2r.val w:=by kernel_rfl
theorem z7x (w:World):(zeroValue 100).run prog w=.ok z2s.val w:=by kernel_rfl
theorem z7y (w:World):(zeroValue 206).run prog w=.ok (z2u z2t) w:=by kernel_rfl
section
variable {w : World} {B : Nat}
theorem z7t.look {f:ByteArray→Option Rev}(h:z7t w B f)(p:ByteArray):(Instr.lookup 200 (.map (some B)) (.string p) false).run prog w=.ok (.agg #[.string (z33 f p).path,.int .i64 (z33 f p).num,.int .i64 (z33 f p).chg,.int .i64 (z33 f p).act,.int .i64 (z33 f p).ty.base,.bool (z33 f p).ty.k,.bool (z33 f p).ty.l,.bool (z33 f p).ty.x,.int .u64 (z33 f p).sum,.int .i64 (z33 f p).size,.string (z33 f p).frm,.int .i64 (z33 f p).fnum]) w:=by
 rw[z2k.lookup h z7s underlying200 (z7w w) p false];unfold z2m z33;cases f p <;> rfl
theorem z7t.look2 {f:ByteArray→Option Rev}(h:z7t w B f)(p:ByteArray):(Instr.lookup 200 (.map (some B)) (.string p) true).run prog w=.ok (.tuple #[.agg #[.string (z33 f p).path,.int .i64 (z33 f p).num,.int .i64 (z33 f p).chg,.int .i64 (z33 f p).act,.int .i64 (z33 f p).ty.base,.bool (z33 f p).ty.k,.bool (z33 f p).ty.l,.bool (z33 f p).ty.x,.int .u64 (z33 f p).sum,.int .i64 (z33 f p).size,.string (z33 f p).frm,.int .i64 (z33 f p).fnum],.bool (f p).isSome]) w:=by
 rw[z2k.lookup h z7s underlying200 (z7w w) p true];unfold z2m z33;cases f p <;> rfl
def z7z (f:ByteArray→Option Edt)(p:ByteArray):Edt:=(f p).getD z2s
theorem z7u.look {f:ByteArray→Option Edt}(h:z7u w B f)(p:ByteArray):(Instr.lookup 201 (.map (some B)) (.string p) false).run prog w=.ok (.agg #[.string (z7z f p).path,.int .i64 (z7z f p).act,.int .i64 (z7z f p).ty.base,.bool (z7z f p).ty.k,.bool (z7z f p).ty.l,.bool (z7z f p).ty.x,.int .u64 (z7z f p).sum,.int .i64 (z7z f p).size,.int .i64 (z7z f p).base,.string (z7z f p).frm,.int .i64 (z7z f p).fnum,.int .i64 (z7z f p).fence]) w:=by
 rw[z2k.lookup h z7s underlying201 (z7x w) p false];unfold z2m z7z;cases f p <;> rfl
theorem z7u.look2 {f:ByteArray→Option Edt}(h:z7u w B f)(p:ByteArray):(Instr.lookup 201 (.map (some B)) (.string p) true).run prog w=.ok (.tuple #[.agg #[.string (z7z f p).path,.int .i64 (z7z f p).act,.int .i64 (z7z f p).ty.base,.bool (z7z f p).ty.k,.bool (z7z f p).ty.l,.bool (z7z f p).ty.x,.int .u64 (z7z f p).sum,.int .i64 (z7z f p).size,.int .i64 (z7z f p).base,.string (z7z f p).frm,.int .i64 (z7z f p).fnum,.int .i64 (z7z f p).fence],.bool (f p).isSome]) w:=by
 rw[z2k.lookup h z7s underlying201 (z7x w) p true];unfold z2m z7z;cases f p <;> rfl
def z80 (f:Fil→Option Fil)(p:Fil):Fil:=(f p).getD z2t
theorem z7v.look {f:Fil→Option Fil}(h:z7v w B f)(p:ByteArray)(n:Int):(Instr.lookup 202 (.map (some B)) (.agg #[.string p,.int .i64 n]) false).run prog w=.ok (.agg #[.string (z80 f (p,n)).1,.int .i64 (z80 f (p,n)).2]) w:=by
 have:=z2k.lookup h z7r underlying202 (z7y w) (p,n) false;unfold z2m at this;unfold z80;cases hf:f (p,n) <;> (rw[hf] at this;exact this)
theorem z7v.look2 {f:Fil→Option Fil}(h:z7v w B f)(p:ByteArray)(n:Int):(Instr.lookup 202 (.map (some B)) (.agg #[.string p,.int .i64 n]) true).run prog w=.ok (.tuple #[.agg #[.string (z80 f (p,n)).1,.int .i64 (z80 f (p,n)).2],.bool (f (p,n)).isSome]) w:=by
 have:=z2k.lookup h z7r underlying202 (z7y w) (p,n) true;unfold z2m at this;unfold z80;cases hf:f (p,n) <;> (rw[hf] at this;exact this)
end
theorem z81 {w:World}{g:Nat}{e:TypeId}{a0 a1 a2 a3 a4 a5 a6 a7 a8 a9 a10 a11:Value}(h:Blk w g e [a0,a1,a2,a3,a4,a5,a6,a7,a8,a9,a10,a11]):
  w.cell? ⟨g,0,none⟩=some a0∧w.cell? ⟨g,1,none⟩=some a1∧w.cell? ⟨g,2,none⟩=some a2∧w.cell? ⟨g,3,none⟩=some a3∧w.cell? ⟨g,4,none⟩=some a4∧w.cell? ⟨g,5,none⟩=some a5 ∧
  w.cell? ⟨g,6,none⟩=some a6∧w.cell? ⟨g,7,none⟩=some a7∧w.cell? ⟨g,8,none⟩=some a8∧w.cell? ⟨g,9,none⟩=some a9∧w.cell? ⟨g,10,none⟩=some a10∧w.cell? ⟨g,11,none⟩=some a11:=
 ⟨h.cell 0,h.cell 1,h.cell 2,h.cell 3,h.cell 4,h.cell 5,h.cell 6,h.cell 7,h.cell 8,h.cell 9,h.cell 10,h.cell 11⟩
theorem box2 {w:World}{g:Nat}{e:TypeId}{a b:Value}(h:Blk w g e [a,b]):w.cell? ⟨g,0,none⟩=some a∧w.cell? ⟨g,1,none⟩=some b∧w.frozen? ⟨g,0,none⟩=false∧w.frozen? ⟨g,1,none⟩=false:=
 ⟨h.cell 0,h.cell 1,h.frozen 0,h.frozen 1⟩
open Go.ChangeMaps (setBlock)
section
variable {κ : Type} {kv : κ → Value} {w w' : World} {r B : Nat} {left : List (κ × Value)}
def z9l (kv:κ→Value)(w:World)(r B:Nat)(left:List (κ×Value)):Prop:=
 r≠B∧∃(es:Array MapEntry) (clock since c0:Nat) (seen:Array Nat),w.heap[B]? = some (.map es clock)∧w.heap[r]? = some (.mapIter (some B) since seen c0)∧(∀ e∈es.toList,e.born<since)∧since≤c0∧since≤clock∧(es.toList.map (·.born)).Nodup ∧
  z1w (leftOf es seen).toList=left.map fun p=>(kv p.1,p.2)
theorem z9l.keep (h:z9l kv w r B left)(h1:w'.heap[B]? = w.heap[B]?)(h2:w'.heap[r]? = w.heap[r]?):z9l kv w' r B left:=by
 obtain⟨hne,es,clock,since,c0,seen,a,b,rest⟩:=h;exact⟨hne,es,clock,since,c0,seen,h1.trans a,h2.trans b,rest⟩
theorem z9l.lt (h:z9l kv w r B left):r<w.heap.size∧B<w.heap.size:=by
 obtain⟨hne,es,clock,since,c0,seen,a,b,rest⟩:=h;exact⟨(Array.getElem?_eq_some_iff.1 b).1,(Array.getElem?_eq_some_iff.1 a).1⟩
theorem z9l.below (h:z9l kv w r B left)(hb:zB w w'):z9l kv w' r B left:=h.keep (hb.block _ h.lt.2) (hb.block _ h.lt.1)
theorem z9l.setCell (h:z9l kv w r B left){p:Addr}(h1:p.block≠r)(h2:p.block≠B)(u:Value):z9l kv (w.setCell p u) r B left:=
 h.keep (Below.heap_setCell w p u B (fun e=>h2 e.symm)) (Below.heap_setCell w p u r (fun e=>h1 e.symm))
theorem z1z.range {P:Program}{m:List (κ×Value)}(h:z1z kv w B m){t k e:TypeId}(ht:P.underlying t=some (.map k e)):
  ∃ w',(Instr.range t (.map (some B))).run P w=.ok (.pointer (some ⟨w.heap.size,0,none⟩)) w'∧z9l kv w' w.heap.size B m∧zB w w'∧w'.heap.size=w.heap.size+1:=by
 have hlt:=h.lt;obtain⟨es,clock,hB,hp,hst⟩:=h;refine⟨_,run_range_map w t k e B es clock ht hB,⟨by omega,es,clock,clock,clock,#[],?_,heap_alloc_new w _,hst.1,Nat.le_refl _,Nat.le_refl _,hst.2,?_⟩,(Below.refl _ _).alloc (Nat.le_refl _) _,by simp⟩
 ·rw[heap_alloc_old w _ hlt];exact hB
 ·have:leftOf es #[]=es:=by unfold leftOf;simp
  rw[this];exact hp
theorem z9m {es:List MapEntry}{p:MapEntry→Bool}{e:MapEntry}(hn:(es.map (·.born)).Nodup)(he:e∈es.filter p):
  ∃ a b,es.filter p=a++e :: b∧es.filter (fun x=>p x && !(x.born == e.born))=a++b:=by
 induction es with
 | nil=>simp at he
 | cons x es ih =>
  rw[List.map_cons,List.nodup_cons] at hn;by_cases hxe:x.born=e.born
  ·have hnot:e∉es:=fun h=>hn.1 (by rw[hxe];exact List.mem_map.2 ⟨e,h,rfl⟩)
   have hex:x=e:=by
    have:=(List.mem_filter.1 he).1;rcases List.mem_cons.1 this with h | h
    ·exact h.symm
    ·exact absurd h hnot
   subst hex;have hpx:p x=true:=(List.mem_filter.1 he).2;refine⟨[],es.filter p,by simp [hpx],?_⟩
   rw[List.filter_cons];simp only[hpx,beq_self_eq_true,Bool.not_true,Bool.and_false,Bool.false_eq_true,if_false,List.nil_append]
   apply List.filter_congr
   intro y hy;have:y.born≠x.born:=fun h=>hn.1 (by rw[← h];exact List.mem_map.2 ⟨y,hy,rfl⟩)
   simp [this]
  ·have hne:(x.born == e.born)=false:=by simpa using hxe
   have he':e∈es.filter p:=by
    rw[List.filter_cons] at he;split at he
    ·rcases List.mem_cons.1 he with h | h
     ·exact absurd (by rw[h]) hxe
     ·exact h
    ·exact he
   obtain⟨a,b,h1,h2⟩:=ih hn.2 he';cases hpx:p x
   ·exact⟨a,b,by simp [hpx,h1],by simp [hpx,h2]⟩
   ·exact⟨x :: a,b,by simp [hpx,h1],by simp [hpx,hne,h2]⟩
theorem z9n {α β:Type}{f:α→β}{l:List α}{a b:List β}{x:β}(h:a++x :: b=l.map f):∃ l1 y l2,l=l1++y :: l2∧l1.map f=a∧f y=x∧l2.map f=b:=by
 induction a generalizing l with
 | nil =>
  cases l with
  | nil=>simp at h
  | cons y l=>simp at h;exact⟨[],y,l,rfl,rfl,h.1.symm,h.2.symm⟩
 | cons c a ih =>
  cases l with
  | nil=>simp at h
  | cons y l =>
   simp at h
   obtain⟨l1,z,l2,rfl,h1,h2,h3⟩:=ih h.2;exact⟨y :: l1,z,l2,rfl,by simp [h.1,h1],h2,h3⟩
theorem z9l.next {P:Program}(h:z9l kv w r B left)(ty:TypeId):
  (left=[]∧(Instr.next (.pointer (some ⟨r,0,none⟩)) false ty).run P w=.ok (.tuple #[.bool false]) w) ∨
  ∃ a p b w',left=a++p :: b∧(Instr.next (.pointer (some ⟨r,0,none⟩)) false ty).run P w=.ok (.tuple #[.bool true,kv p.1,p.2]) w'∧z9l kv w' r B (a++b) ∧
   (Instr.entry (.pointer (some ⟨r,0,none⟩))).run P w'=.ok (.tuple #[kv p.1,p.2]) w'∧w.grownBy w' (some r)∧w'.heap.size=w.heap.size:=by
 have hltr:=h.lt.1;obtain⟨hne,es,clock,since,c0,seen,hB,hr,hold,hsc,hscl,hnd,hp⟩:=h;rcases run_next_at (P:=P) w ty r B since c0 seen es clock hr hB hold hsc with⟨h0,hrun⟩ | ⟨e,he,w1,hw1,hrun⟩
 ·left
  refine⟨?_,hrun⟩;have:(leftOf es seen).toList=[]:=List.eq_nil_of_length_eq_zero (by simpa using h0)
  rw[this] at hp;cases left with
  | nil=>rfl
  | cons p l=>simp [z1w] at hp
 ·right
  have he':e∈es.toList.filter (fun x=>!seen.contains x.born):=by
   have:=he;unfold leftOf at this;rwa [Array.toList_filter] at this
  obtain⟨a,b,h1,h2⟩:=z9m hnd he';have hl1:(leftOf es seen).toList=a++e :: b:=by unfold leftOf;rw[Array.toList_filter];exact h1
  have hl2:(leftOf es (seen.push e.born)).toList=a++b:=by
   unfold leftOf;rw[Array.toList_filter,← h2]
   apply List.filter_congr
   intro x _;rw[Array.contains_push];simp [Bool.not_or]
  rw[hl1] at hp;unfold z1w at hp;rw[List.map_append,List.map_cons] at hp;obtain⟨l1,p,l2,rfl,q1,q2,q3⟩:=z9n hp;injection q2 with q4 q5
  have hw1h:w1.heap=w.heap:=by rcases hw1 with rfl | rfl <;> rfl
  have hset:∀ o,(setBlock w1 r o).heap[r]? = some o:=fun o=>by simp [setBlock,hw1h,hltr]
  have hoth:∀ o j,j≠r→(setBlock w1 r o).heap[j]? = w.heap[j]?:=fun o j hj=>by simp [setBlock,hw1h,Ne.symm hj]
  have hmem:e∈es.toList:=(List.mem_filter.1 he').1;rw[← q4,← q5] at hrun;refine⟨l1,p,l2,_,rfl,hrun,⟨hne,es,clock,since,clock,seen.push e.born,by rw[hoth _ _ (Ne.symm hne)];exact hB,hset _,hold,hscl,hscl,hnd,?_⟩,?_,?_,?_⟩
  ·rw[hl2];unfold z1w;rw[List.map_append,List.map_append,q1,q3]
  ·have:=run_entry_at (P:=P) (setBlock w1 r (.mapIter (some B) since (seen.push e.born) clock)) r B since seen es clock e (hset _) (by rw[hoth _ _ (Ne.symm hne)];exact hB) hmem hnd
   rw[← q4,← q5] at this;exact this
  ·rcases hw1 with rfl | rfl <;> exact⟨rfl,rfl,rfl,by simp [setBlock],fun k hk hk2=>hoth _ k (fun e=>hk2 (by rw[e]))⟩
  ·simp [setBlock,hw1h]
end
def zgt:List (List UInt8)→List (List UInt8)→Int
 | [],[]=>0
 | [],_ :: _=>-1
 | _ :: _,[]=>1
 | a :: l,b :: m=>if Lib.compareBytes a b=0 then zgt l m else Lib.compareBytes a b
def zgu:List (List UInt8)→List UInt8
 | []=>[]
 | p :: ps=>47 :: p++zgu ps
theorem zgv (p:List UInt8)(ps:List (List UInt8)):47 :: Lib.join (p :: ps) [47]=zgu (p :: ps):=by
 induction ps generalizing p with
 | nil=>simp [Lib.join_one,zgu]
 | cons q ps ih =>
  rw[z1m p (q :: ps) (by simp),zgu,← ih q]
  simp
def zgw (l:List UInt8):Prop:=l=[]∨∃ r,l=47 :: r
theorem zgx (ps:List (List UInt8)):zgw (zgu ps):=by
 cases ps with
 | nil=>exact .inl rfl
 | cons p ps=>exact .inr ⟨p++zgu ps,by simp [zgu]⟩
theorem zgy:∀(p q X Y:List UInt8),(47:UInt8)∉p→(47:UInt8)∉q→zgw X→zgw Y→z2y (p++X) (q++Y)=if Lib.compareBytes p q=0 then z2y X Y else Lib.compareBytes p q
 | [],[],X,Y,_,_,_,_=>by simp [Lib.compareBytes]
 | [],b :: q,X,Y,_,hq,hX,_=>by
  have hb:b≠47:=fun e=>hq (by rw[e];exact List.mem_cons_self ..)
  rcases hX with rfl | ⟨r,rfl⟩
  ·simp [Lib.compareBytes,z2y]
  ·simp [Lib.compareBytes,z2y]
   exact fun e=>absurd e.symm hb
 | a :: p,[],X,Y,hp,_,_,hY=>by
  have ha:a≠47:=fun e=>hp (by rw[e];exact List.mem_cons_self ..)
  rcases hY with rfl | ⟨r,rfl⟩
  ·simp [Lib.compareBytes,z2y]
  ·simp [Lib.compareBytes,z2y,ha]
 | a :: p,b :: q,X,Y,hp,hq,hX,hY=>by
  have ha:a≠47:=fun e=>hp (by rw[e];exact List.mem_cons_self ..)
  have hb:b≠47:=fun e=>hq (by rw[e];exact List.mem_cons_self ..)
  have ih:=zgy p q X Y (fun h=>hp (List.mem_cons_of_mem _ h)) (fun h=>hq (List.mem_cons_of_mem _ h)) hX hY;rw[List.cons_append,List.cons_append,z2y,Lib.compareBytes];by_cases e:a=b
  ·subst e;have hlt:¬ a<a:=by rw[UInt8.lt_iff_toNat_lt];omega
   rw[if_pos rfl,if_neg hlt,if_neg hlt];exact ih
  ·rw[if_neg e,if_neg ha,if_neg hb];by_cases hl:a<b
   ·rw[if_pos hl,if_pos hl];simp
   ·have hg:b<a:=by
     have:a.toNat≠b.toNat:=fun h=>e (UInt8.toNat_inj.1 h);rw[UInt8.lt_iff_toNat_lt] at hl ⊢;omega
    rw[if_neg hl,if_neg hl,if_pos hg];simp
theorem zgz:∀(ps qs:List (List UInt8)),(∀ p∈ps,(47:UInt8)∉p)→(∀ q∈qs,(47:UInt8)∉q)→z2y (zgu ps) (zgu qs)=zgt ps qs
 | [],[],_,_=>rfl
 | [],q :: qs,_,_=>by simp [zgu,z2y,zgt]
 | p :: ps,[],_,_=>by simp [zgu,z2y,zgt]
 | p :: ps,q :: qs,hp,hq=>by
  have ih:=zgz ps qs (fun x hx=>hp x (List.mem_cons_of_mem _ hx)) (fun x hx=>hq x (List.mem_cons_of_mem _ hx));rw[zgu,zgu,List.cons_append,List.cons_append,z2y,if_pos rfl,zgy p q _ _ (hp p (List.mem_cons_self ..)) (hq q (List.mem_cons_self ..)) (zgx _) (zgx _),zgt,ih]
theorem zh0 {l:List UInt8}{least:Nat}{ps:List (List UInt8)}(h:z2v l least=some ps):l=47 :: zgu ps∧∀ p∈ps,(47:UInt8)∉p:=by
 unfold z2v at h;split at h
 ·rename_i hc
  injection h with h
  subst h;have hp:=hc.1;have hl:l=47 :: 47 :: l.drop 2:=by
   match l,hp with
   | [],hp=>simp [Lib.hasPrefix] at hp
   | [a],hp=>simp [Lib.hasPrefix] at hp
   | a :: b :: r,hp =>
    simp [Lib.hasPrefix] at hp
    obtain⟨rfl,rfl⟩:=hp;rfl
  have hj:=z1n (l.drop 2);refine⟨?_,fun p hp=>(z1j hp).1⟩;cases hs:z1f (l.drop 2) with
  | nil=>exact absurd hs (z1g _)
  | cons p ps =>
   rw[← zgv,← hs,hj];exact hl
 ·cases h
theorem zh1 {a b:ByteArray}{ps qs:List (List UInt8)}(ha:z2v a.data.toList 2=some ps)(hb:z2v b.data.toList 2=some qs):z2z a b=zgt ps qs:=by
 have va:z2x a=true:=by unfold z2x z2w;rw[ha];rfl
 have vb:z2x b=true:=by unfold z2x z2w;rw[hb];rfl
 obtain⟨a1,a2⟩:=zh0 ha;obtain⟨b1,b2⟩:=zh0 hb;rw[z5j va vb,a1,b1,z2y,if_pos rfl,zgz ps qs a2 b2]
