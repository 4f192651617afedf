/- A part. -/
import Derived.Test.YtijghobkkdbhnaaGreatDoorMgw2
import Derived.Test.YtijghobkkdbhnaaGreatDoorShelf
import Derived.Test.YtijghobkkdbhnaaGreatDoorCards
import Derived.Test.YtijghobkkdbhnaaGreatDoorTie
import Derived.Sort.LotA
import Derived.Shelf.SlSortCmp.KitK
import Derived.Lib.QuietBelow
import Derived.Lib.Strings
import Derived.Deep.RegionHeld3
import Derived.Deep.MidRow
import Derived.StillTailTactics
import Derived.IntWalk
import Derived.Deep.DeepCutAuto
import Derived.ProofKit
import Derived.OpenShut
import Derived.Deep.DeepHandedRow
import Derived.Lib.LaidTab
import Derived.Lib.SmallJoins
set_option linter.unusedVariables false
set_option linter.unusedSimpArgs false
set_option maxHeartbeats 4000000
set_option maxRecDepth 100000
namespace Go.Proofs.YtijghobkkdbhnaaGreatDoor
open Go.Proofs.Tryz
open Go.RowKit
theorem z0n {w w':World}{B:Nat}{e:TypeId}{k:Nat}{v:Value}{n:Nat}{xs:List Value}(h:w.ownsRow B e k v n xs)(hb:Below w.heap.size w w'):w'.ownsRow B e k v n xs:=by
 refine⟨h.1,?_⟩;rcases h.2 with⟨e1,e2⟩ | ⟨g,cap,cur,e1,h1,hg,rest⟩
 ·exact .inl ⟨e1,e2⟩
 ·exact .inr ⟨g,cap,cur,e1,h1,(hb.block g (Array.getElem?_eq_some_iff.1 hg).1).trans hg,rest⟩
theorem z0o {w:World}{B:Nat}{e:TypeId}{k:Nat}{v:Value}{n:Nat}{xs:List Value}(h:w.ownsRow B e k v n xs):∃ A c,v=.slice A n c:=by
 rcases h.2 with⟨e1,e2⟩ | ⟨g,cap,cur,e1,_⟩
 ·exact⟨none,0,by rw[e1,e2]⟩
 ·exact⟨_,cap,e1⟩
theorem z0p {B:Nat}{a w:World}(h:Below B a w)(n:Nat):Below B a (w.drewN n):=⟨h.os,h.tape,h.output,h.size,h.block⟩
theorem z0q {B:Nat}{a w w':World}(h:Below B a w)(hB:B≤w.heap.size)(h2:Below w.heap.size w w'):Below B a w':=h.trans (h2.mono hB)
theorem z0r {w w1 w2:World}(h1:Below w.heap.size w w1)(h2:Below w1.heap.size w1 w2):Below w.heap.size w w2:=h1.trans (h2.mono h1.size)
theorem box4 {w:World}{g:Nat}{e:TypeId}{a b c d:Value}(h:Blk w g e [a,b,c,d]):
  w.cell? ⟨g,0,none⟩=some a∧w.cell? ⟨g,1,none⟩=some b∧w.cell? ⟨g,2,none⟩=some c∧w.cell? ⟨g,3,none⟩=some d ∧
  w.frozen? ⟨g,0,none⟩=false∧w.frozen? ⟨g,1,none⟩=false∧w.frozen? ⟨g,2,none⟩=false∧w.frozen? ⟨g,3,none⟩=false:=
 ⟨h.cell 0,h.cell 1,h.cell 2,h.cell 3,h.frozen 0,h.frozen 1,h.frozen 2,h.frozen 3⟩
theorem z0s {w:World}{B:Nat}{e:TypeId}{k:Nat}{v:Value}{n:Nat}{xs:List Value}(h:w.ownsRow B e k v n xs)(hn:0<n):∃ g c,v=.slice (some ⟨g,0,none⟩) n c:=by
 rcases h.2 with⟨e1,e2⟩ | ⟨g,cap,cur,e1,_⟩
 ·omega
 ·exact⟨_,cap,e1⟩
open Go.RowKit Go.Lib
open Go.Sort hiding Below
section
variable {P : Program} {α : Type} [Inhabited α] {enc : α → List Value} {k : Nat} {e : TypeId} {w0 W W' : World} {blk off C : Nat} {d : Array α}
structure SB (enc:α→List Value)(k:Nat)(e:TypeId)(w0:World)(blk off C:Nat)(d:Array α)(W:World):Prop where
 hold:HoldsK enc k W blk off d
 own:∃ cur:Array Value,W.heap[blk]? = some (.cells cur e (0,0))∧cur.size=C
 gr:w0.grownBy W (some blk)
theorem SB.lt (h:SB enc k e w0 blk off C d W):blk<W.heap.size:=by
 obtain⟨cur,h1,-⟩:=h.own;exact (Array.getElem?_eq_some_iff.1 h1).1
theorem SB.below (h:SB enc k e w0 blk off C d W)(hb:Go.RowKit.Below W.heap.size W W'):SB enc k e w0 blk off C d W':=by
 have hl:=h.lt;refine⟨fun j hj=>?_,?_,?_⟩
 ·obtain⟨h1,h2⟩:=h.hold j hj;exact⟨(hb.cell (p:=⟨blk,off+j,none⟩) hl).trans h1,(hb.frozen (p:=⟨blk,off+j,none⟩) hl).trans h2⟩
 ·rw[hb.block blk hl];exact h.own
 ·exact⟨hb.os.trans h.gr.os,hb.tape.trans h.gr.tape,hb.output.trans h.gr.output,Nat.le_trans h.gr.size hb.size,fun j hj hne=>(hb.block j (Nat.lt_of_lt_of_le hj h.gr.size)).trans (h.gr.block j hj hne)⟩
theorem SB.drew (h:SB enc k e w0 blk off C d W):SB enc k e w0 blk off C d W.drew:=h.below (Below.refl _ _).drew
end
structure Pat where
 parts:List ByteArray
 rest:Bool
def z7e (s:ByteArray):Bool:=Lib.hasPrefix s.data.toList [42]
def z7f (s:ByteArray):Bool:=(s.data.toList.drop 1).all fun c=>z0t c.toNat
def z7g (s:ByteArray):Int:=if z0v s then 1 else if z7e s then (if z7f s then 2 else 0) else 0
def z7h (j:Nat)(x:ByteArray):Bool:=decide (z7g x≠0) && !(decide (j=0) && decide (z7g x=2))
def z7i (l:List ByteArray):Bool:=(List.range l.length).all fun j=>z7h j ((l[j]?).getD z2l)
def z7j (p:Pat):Int:=if p.parts.length=0∨(p.parts.length=1∧p.rest=false) then 30 else if z7i p.parts=false then 30 else if 12<p.parts.length then 31 else 0
theorem z7k {l:List ByteArray}{j:Nat}(h:j<l.length)(hf:z7h j l[j]=false):z7i l=false:=by
 unfold z7i;rw[List.all_eq_false];exact⟨j,List.mem_range.2 h,by rw[List.getElem?_eq_getElem h];simpa using hf⟩
theorem z7l {l:List ByteArray}(h:∀ j (hj:j<l.length),z7h j l[j]=true):z7i l=true:=by
 unfold z7i;rw[List.all_eq_true];intro j hj;rw[List.mem_range] at hj;rw[List.getElem?_eq_getElem hj];exact h j hj
theorem z7m {s:ByteArray}{k:Nat}(h:k<s.size)(h1:1≤k)(hb:z0t s[k].toNat=false):z7f s=false:=by
 unfold z7f;rw[List.all_eq_false];have hl:k<s.data.toList.length:=h;refine⟨s.data.toList[k],?_,?_⟩
 ·refine List.mem_iff_getElem.2 ⟨k - 1,by rw[List.length_drop];omega,?_⟩
  rw[List.getElem_drop];congr 1;omega
 ·have e:s.data.toList[k]=s[k]:=by rw[Array.getElem_toList];rfl
  rw[e,hb];simp
theorem z7n {s:ByteArray}(h:∀ k (hk:k<s.size),1≤k→z0t s[k].toNat=true):z7f s=true:=by
 unfold z7f;rw[List.all_eq_true];intro c hc;obtain⟨i,hi,rfl⟩:=List.mem_iff_getElem.1 hc;rw[List.getElem_drop];rw[List.length_drop] at hi;have hk:1+i<s.size:=by have:s.data.toList.length=s.size:=rfl;omega
 have e:s.data.toList[1+i]'(by have:s.data.toList.length=s.size:=rfl;omega)=s[1+i]:=by rw[Array.getElem_toList];rfl
 rw[e];exact h _ hk (by omega)
theorem z7o {a b:Int}(h:a=b):Ending.returned (.int .i64 a)=.returned (.int .i64 b):=by rw[h]
theorem z7p (s:ByteArray)(w:World):Calls prog 135 #[.string s] w fun e w'=>e=.returned (.bool (z7e s))∧w=w':=by
 go_enter func135,ntmps135;go_wp2_with (go_at_call 126;refine (Tryz.strings_HasPrefix _ _ _).mono ?_;rintro e w' ⟨rfl,rfl⟩)
 go_ret;exact⟨rfl,rfl⟩
theorem z7q (s:ByteArray)(w:World)(hs:s.size≤maxLen):
  Calls prog 190 #[.string s] w fun e w'=>e=.returned (.int .i64 (z7g s))∧w=w':=by
 have hsz:s.size≤9223372036854775807:=by unfold maxLen at hs;omega
 have HC:=hd_ (z19 s w hs);have HP:=hd_ (Tryz.strings_HasPrefix s ⟨#[42]⟩ w);clear hs;cases hc:z0v s with
 | true =>
  have HF:Hid (z7g s=1):=hd_ (by unfold z7g;rw[if_pos hc])
  rw[hc] at HC;clear hc;go_enter func190,ntmps190;go_wp2_with (go_at_call 127;refine HC.out.mono ?_;rintro e w' ⟨rfl,rfl⟩)
  go_ret;exact⟨z7o HF.out.symm,rfl⟩
 | false =>
  rw[hc] at HC;cases hp:Lib.hasPrefix s.data.toList [42] with
  | false =>
   have HF:Hid (z7g s=0):=hd_ (by unfold z7g z7e;rw[hc,hp];rfl)
   have hp':Lib.hasPrefix s.data.toList (⟨#[42]⟩:ByteArray).data.toList=false:=hp;rw[hp'] at HP;clear hc hp hp';go_enter func190,ntmps190;go_wp2_with (first
    | (go_at_call 127;refine HC.out.mono ?_;rintro e w' ⟨rfl,rfl⟩)
    | (go_at_call 126;refine HP.out.mono ?_;rintro e w' ⟨rfl,rfl⟩))
   go_ret;exact⟨z7o HF.out.symm,rfl⟩
  | true =>
   have HT:Hid (z7g s=if z7f s then 2 else 0):=hd_ (by unfold z7g z7e;rw[hc,hp];rfl)
   have h1:1≤s.size:=by
    rcases Nat.eq_zero_or_pos s.size with h0 | h0
    ·have:s.data.toList=[]:=List.eq_nil_of_length_eq_zero (by simpa using h0)
     rw[this] at hp;cases hp
    ·exact h0
   have hp':Lib.hasPrefix s.data.toList (⟨#[42]⟩:ByteArray).data.toList=true:=hp;rw[hp'] at HP;clear hc hp hp';go_enter func190,ntmps190;go_wp2_with (first
    | (go_at_call 127;refine HC.out.mono ?_;rintro e w' ⟨rfl,rfl⟩)
    | (go_at_call 126;refine HP.out.mono ?_;rintro e w' ⟨rfl,rfl⟩))
   go_loop [3] (fun i=>∃ k:Nat,1≤k∧k≤s.size∧i=.int .i64 k∧Hid (∀ j (hj:j<s.size),1≤j→j<k→z0t s[j].toNat=true)) (fun i=>s.size - (intOf i).toNat)
   case atStart=>exact⟨1,Nat.le_refl _,h1,rfl,fun j _ a b=>by omega⟩
   case round =>
    obtain⟨k,hk1,hk,rfl,HI⟩:=hrel;by_cases hlt:k<s.size
    ·cases hl:z0t s[k].toNat
     ·have HF:Hid (z7g s=0):=hd_ (by rw[HT.out,z7m hlt hk1 hl];rfl)
      have HL:=hd_ hl;clear HI;go_wp2_with (go_at_call 177;refine (z0x _ _).mono ?_;rintro e w' ⟨rfl,rfl⟩)
      go_ret;exact⟨z7o HF.out.symm,rfl⟩
     ·have HN:Hid (∀ j (hj:j<s.size),1≤j→j<k+1→z0t s[j].toNat=true):=hd_ (fun j hj a b=>by
       by_cases e:j=k
       ·subst e;exact hl
       ·exact HI.out j hj a (by omega))
      have HL:=hd_ hl;clear HI;go_wp2_with (go_at_call 177;refine (z0x _ _).mono ?_;rintro e w' ⟨rfl,rfl⟩)
      go_round
      case rel=>exact⟨k+1,by omega,by omega,by go_num,HN.out⟩
      case measure=>simp [intOf];omega
    ·have hke:k=s.size:=by omega
     have HF:Hid (z7g s=2):=hd_ (by rw[HT.out,z7n (fun j hj a=>HI.out j hj a (by omega))];rfl)
     clear HI hke;go_wp2
     go_ret;exact⟨z7o HF.out.symm,rfl⟩
theorem toList_inj {a b:ByteArray}:a.toList=b.toList↔a=b:=by
 constructor
 ·intro h;rw[ByteArray.toList_eq,ByteArray.toList_eq] at h;cases a with | mk x=>cases b with | mk y =>
  congr 1;exact Array.toList_inj.1 h
 ·intro h;rw[h]
theorem z7r (a b:Fil)(w:World):(Op.equal 206 (z2p a) (z2p b)).run prog w=.ok (a == b) w:=by
 obtain⟨a0,a1⟩:=a;obtain⟨b0,b1⟩:=b;show (Op.equalIn 10000 206 _ _).run prog w=_
 unfold z2p;rw[run_equalIn_agg w 9999 206 _ _ (by kernel_rfl) (by kernel_rfl)]
 simp [go_sem,Op.eqFields,toList_inj]
 by_cases h1:a0=b0 <;> by_cases h2:a1=b1 <;> simp [h1,h2]
theorem z7s (b:Bool)(a:Fil)(w:World):(Instr.checkKey b 10000 206 (z2p a)).run prog w=.ok () w:=by
 unfold z2p;rw[Instr.checkKey];simp [run_underlying underlying206,go_sem]
 rw[z29 underlying9 b _ w 9998,Result.andThen_ok];exact z2a underlying3 b _ w 9998
theorem z7t (a:Fil):Instr.sameBits 10000 (z2p a) (z2p a)=true:=by
 unfold z2p;rw[Instr.sameBits];simp [z2b,z2c]
theorem z7u:z1s prog 206 z2p:=
 ⟨z23 underlying206 (fun _ _=>rfl) z7r,z7s,fun a b h=>by
  have:b=a:=(eq_of_beq h).symm;subst this;exact z7t b⟩
theorem z7v:z1s prog 9 Value.string:=z2d underlying9
def z7w (w:World)(B:Nat)(f:ByteArray→Option Rev):Prop:=z2f Value.string Rev.val w B f
def z7x (w:World)(B:Nat)(f:ByteArray→Option Edt):Prop:=z2f Value.string Edt.val w B f
def z7y (w:World)(B:Nat)(f:Fil→Option Fil):Prop:=z2f z2p z2p w B f
theorem z7z (w:World):(zeroValue 90).run prog w=.ok z2m.val w:=by kernel_rfl
theorem z80 (w:World):(zeroValue 100).run prog w=.ok z2n.val w:=by kernel_rfl
theorem z81 (w:World):(zeroValue 206).run prog w=.ok (z2p z2o) w:=by kernel_rfl
section
variable {w : World} {B : Nat}
theorem z7w.look {f:ByteArray→Option Rev}(h:z7w w B f)(p:ByteArray):(Instr.lookup 200 (.map (some B)) (.string p) false).run prog w=.ok (.agg #[.string (z2x f p).path,.int .i64 (z2x f p).num,.int .i64 (z2x f p).chg,.int .i64 (z2x f p).act,.int .i64 (z2x f p).ty.base,.bool (z2x f p).ty.k,.bool (z2x f p).ty.l,.bool (z2x f p).ty.x,.int .u64 (z2x f p).sum,.int .i64 (z2x f p).size,.string (z2x f p).frm,.int .i64 (z2x f p).fnum]) w:=by
 rw[z2f.lookup h z7v underlying200 (z7z w) p false];unfold z2h z2x;cases f p <;> rfl
theorem z7w.look2 {f:ByteArray→Option Rev}(h:z7w w B f)(p:ByteArray):(Instr.lookup 200 (.map (some B)) (.string p) true).run prog w=.ok (.tuple #[.agg #[.string (z2x f p).path,.int .i64 (z2x f p).num,.int .i64 (z2x f p).chg,.int .i64 (z2x f p).act,.int .i64 (z2x f p).ty.base,.bool (z2x f p).ty.k,.bool (z2x f p).ty.l,.bool (z2x f p).ty.x,.int .u64 (z2x f p).sum,.int .i64 (z2x f p).size,.string (z2x f p).frm,.int .i64 (z2x f p).fnum],.bool (f p).isSome]) w:=by
 rw[z2f.lookup h z7v underlying200 (z7z w) p true];unfold z2h z2x;cases f p <;> rfl
def z82 (f:ByteArray→Option Edt)(p:ByteArray):Edt:=(f p).getD z2n
theorem z7x.look {f:ByteArray→Option Edt}(h:z7x w B f)(p:ByteArray):(Instr.lookup 201 (.map (some B)) (.string p) false).run prog w=.ok (.agg #[.string (z82 f p).path,.int .i64 (z82 f p).act,.int .i64 (z82 f p).ty.base,.bool (z82 f p).ty.k,.bool (z82 f p).ty.l,.bool (z82 f p).ty.x,.int .u64 (z82 f p).sum,.int .i64 (z82 f p).size,.int .i64 (z82 f p).base,.string (z82 f p).frm,.int .i64 (z82 f p).fnum,.int .i64 (z82 f p).fence]) w:=by
 rw[z2f.lookup h z7v underlying201 (z80 w) p false];unfold z2h z82;cases f p <;> rfl
theorem z7x.look2 {f:ByteArray→Option Edt}(h:z7x w B f)(p:ByteArray):(Instr.lookup 201 (.map (some B)) (.string p) true).run prog w=.ok (.tuple #[.agg #[.string (z82 f p).path,.int .i64 (z82 f p).act,.int .i64 (z82 f p).ty.base,.bool (z82 f p).ty.k,.bool (z82 f p).ty.l,.bool (z82 f p).ty.x,.int .u64 (z82 f p).sum,.int .i64 (z82 f p).size,.int .i64 (z82 f p).base,.string (z82 f p).frm,.int .i64 (z82 f p).fnum,.int .i64 (z82 f p).fence],.bool (f p).isSome]) w:=by
 rw[z2f.lookup h z7v underlying201 (z80 w) p true];unfold z2h z82;cases f p <;> rfl
def z83 (f:Fil→Option Fil)(p:Fil):Fil:=(f p).getD z2o
theorem z7y.look {f:Fil→Option Fil}(h:z7y w B f)(p:ByteArray)(n:Int):(Instr.lookup 202 (.map (some B)) (.agg #[.string p,.int .i64 n]) false).run prog w=.ok (.agg #[.string (z83 f (p,n)).1,.int .i64 (z83 f (p,n)).2]) w:=by
 have:=z2f.lookup h z7u underlying202 (z81 w) (p,n) false;unfold z2h at this;unfold z83;cases hf:f (p,n) <;> (rw[hf] at this;exact this)
theorem z7y.look2 {f:Fil→Option Fil}(h:z7y w B f)(p:ByteArray)(n:Int):(Instr.lookup 202 (.map (some B)) (.agg #[.string p,.int .i64 n]) true).run prog w=.ok (.tuple #[.agg #[.string (z83 f (p,n)).1,.int .i64 (z83 f (p,n)).2],.bool (f (p,n)).isSome]) w:=by
 have:=z2f.lookup h z7u underlying202 (z81 w) (p,n) true;unfold z2h at this;unfold z83;cases hf:f (p,n) <;> (rw[hf] at this;exact this)
end
theorem z84 {w:World}{g:Nat}{e:TypeId}{a0 a1 a2 a3 a4 a5 a6 a7 a8 a9 a10 a11:Value}(h:Blk w g e [a0,a1,a2,a3,a4,a5,a6,a7,a8,a9,a10,a11]):
  w.cell? ⟨g,0,none⟩=some a0∧w.cell? ⟨g,1,none⟩=some a1∧w.cell? ⟨g,2,none⟩=some a2∧w.cell? ⟨g,3,none⟩=some a3∧w.cell? ⟨g,4,none⟩=some a4∧w.cell? ⟨g,5,none⟩=some a5 ∧
  w.cell? ⟨g,6,none⟩=some a6∧w.cell? ⟨g,7,none⟩=some a7∧w.cell? ⟨g,8,none⟩=some a8∧w.cell? ⟨g,9,none⟩=some a9∧w.cell? ⟨g,10,none⟩=some a10∧w.cell? ⟨g,11,none⟩=some a11:=
 ⟨h.cell 0,h.cell 1,h.cell 2,h.cell 3,h.cell 4,h.cell 5,h.cell 6,h.cell 7,h.cell 8,h.cell 9,h.cell 10,h.cell 11⟩
theorem box2 {w:World}{g:Nat}{e:TypeId}{a b:Value}(h:Blk w g e [a,b]):w.cell? ⟨g,0,none⟩=some a∧w.cell? ⟨g,1,none⟩=some b∧w.frozen? ⟨g,0,none⟩=false∧w.frozen? ⟨g,1,none⟩=false:=
 ⟨h.cell 0,h.cell 1,h.frozen 0,h.frozen 1⟩
theorem patE_0 {p:Pat}(h:p.parts.length=0):z7j p=30:=by unfold z7j;rw[if_pos (.inl h)]
theorem za1 {p:Pat}(h:p.parts.length=1)(hr:p.rest=false):z7j p=30:=by unfold z7j;rw[if_pos (.inr ⟨h,hr⟩)]
theorem za2 {p:Pat}(h:z7i p.parts=false):z7j p=30:=by
 unfold z7j;by_cases h1:p.parts.length=0∨(p.parts.length=1∧p.rest=false)
 ·rw[if_pos h1]
 ·rw[if_neg h1,if_pos h]
theorem za3 {p:Pat}(h1:¬(p.parts.length=0∨(p.parts.length=1∧p.rest=false)))(h:z7i p.parts=true):z7j p=if 12<p.parts.length then 31 else 0:=by
 unfold z7j;rw[if_neg h1,if_neg (by rw[h];simp)]
theorem za4 (s:ByteArray):z7g s=0∨z7g s=1∨z7g s=2:=by
 unfold z7g;split
 ·exact .inr (.inl rfl)
 ·split
  ·split
   ·exact .inr (.inr rfl)
   ·exact .inl rfl
  ·exact .inl rfl
theorem za5 (p:Pat)(A:Option Addr)(c:Nat)(w:World)(hS:Strs w (.slice A p.parts.length c) p.parts)(hz:∀ x∈p.parts,x.size≤maxLen):
  Calls prog 133 #[.agg #[.slice A p.parts.length c,.bool p.rest]] w fun e w'=>e=.returned (.int .i64 (z7j p))∧Below w.heap.size w w':=by
 obtain⟨A',c',e',hcc,hmm,-⟩:=id hS;injection e' with e1 e2 e3
 subst e1 e3;unfold maxLen at hmm;have HS:=hd_ hS;have HZ:=hd_ hz;have HF:=hd_ (fun x (hx:x.size≤maxLen) X=>z7q x X hx);obtain⟨parts,rest⟩:=p;dsimp only at hcc hmm HS HZ ⊢
 have HE0:=hd_ (@patE_0 ⟨parts,rest⟩);have HE1:=hd_ (@za1 ⟨parts,rest⟩);have HEF:=hd_ (@za2 ⟨parts,rest⟩);have HEE:=hd_ (@za3 ⟨parts,rest⟩);have hB:=z0l w [.slice A parts.length c,.bool rest] 68;have hA:Below w.heap.size w (w.alloc (.cells #[.slice A parts.length c,.bool rest] 68)):=(Below.refl _ _).alloc (Nat.le_refl _) _;clear hS hz e2;go_enter func133,ntmps133;go_upto_region 1 with fail;generalize w.alloc (.cells #[.slice A parts.length c,.bool rest] 68)=W1 at hB hA ⊢;have d0:W1.cell? ⟨w.heap.size,0,none⟩=some (.slice A parts.length c):=hB.cell 0;have d1:W1.cell? ⟨w.heap.size,1,none⟩=some (.bool rest):=hB.cell 1;have HB:=hd_ hB;have HA:=hd_ hA;clear hB hA;by_cases h0:parts.length=0
 ·have q0:((parts.length:Int) == 0)=true:=by rw[beq_iff_eq];omega
  have HR:=hd_ (HE0.out h0);clear h0;go_wp2_with fail;go_ret;exact⟨z7o HR.out.symm,HA.out⟩
 have q0:((parts.length:Int) == 0)=false:=by rw[beq_eq_false_iff_ne];omega
 have HN1:Hid (parts.length=1∧rest=false∨¬(parts.length=0∨(parts.length=1∧rest=false))):=hd_ (by
  by_cases h:parts.length=1∧rest=false
  ·exact .inl h
  ·exact .inr (fun hh=>by rcases hh with hh | hh;exact h0 hh;exact h hh))
 clear h0;rcases HN1.out with⟨h1,hr⟩ | hgood
 ·have q1:((parts.length:Int) == 1)=true:=by rw[beq_iff_eq];omega
  have HR:=hd_ (HE1.out h1 hr);subst hr;clear h1 HN1;go_wp2_with fail;go_ret;exact⟨z7o HR.out.symm,HA.out⟩
 have HG:=hd_ hgood;clear HN1 hgood;go_cut [19] (fun v wx=>v=.bool false∧wx=W1)
 case first =>
  by_cases h1:parts.length=1
  ·have q1:((parts.length:Int) == 1)=true:=by rw[beq_iff_eq];omega
   have hr:rest=true:=by
    cases rest with
    | true=>rfl
    | false=>exact absurd (.inr ⟨h1,rfl⟩) HG.out
   subst hr;clear h1;go_wp2_with fail;go_meet
   exact⟨rfl,rfl⟩
  ·have q1:((parts.length:Int) == 1)=false:=by rw[beq_eq_false_iff_ne];omega
   clear h1;go_wp2_with fail;go_meet
   exact⟨rfl,rfl⟩
 case rest =>
  obtain⟨rfl,rfl⟩:=hcut;clear q0;go_wp2_with fail;go_loop [23] (fun i=>∃ k:Nat,k≤parts.length∧i=.int .i64 k∧Hid (∀ j (hj:j<parts.length),j<k→z7h j parts[j]=true)) (fun i=>parts.length - (intOf i).toNat)
  case atStart=>exact⟨0,Nat.zero_le _,rfl,fun j _ a=>by omega⟩
  case round =>
   obtain⟨k,hk,rfl,HI⟩:=hrel;by_cases hlt:k<parts.length
   ·obtain⟨ad,rfl,hab,x0⟩:=Strs.at_ (HS.out.below HA.out) hlt;have HX:=hd_ (HF.out parts[k] (HZ.out _ (List.getElem_mem hlt)));have HNO:=hd_ (fun h=>HEF.out (z7k hlt h));have HYS:Hid (z7h k parts[k]=true→∀ j (hj:j<parts.length),j<k+1→z7h j parts[j]=true):=hd_ (fun h j hj a=>by
     by_cases e:j=k
     ·subst e;exact h
     ·exact HI.out j hj (by omega))
    have HPO:Hid (z7h k parts[k]=(decide (z7g parts[k]≠0) && !(decide (k=0) && decide (z7g parts[k]=2)))):=hd_ rfl;have hfc:=za4 parts[k];generalize parts[k]=x at x0 HX HNO HYS HPO hfc;generalize z7g x=f at HX HPO hfc;clear HI;rcases hfc with rfl | rfl | rfl
    ·have HR:=hd_ (HNO.out (by rw[HPO.out];rfl))
     go_wp2_with (go_at_call 190;refine (HX.out _).mono ?_;rintro e w' ⟨rfl,rfl⟩)
     go_ret;exact⟨z7o HR.out.symm,HA.out⟩
    ·have HR:=hd_ (HYS.out (by rw[HPO.out];simp))
     go_wp2_with (go_at_call 190;refine (HX.out _).mono ?_;rintro e w' ⟨rfl,rfl⟩)
     go_round
     case rel=>exact⟨k+1,by omega,by go_num,HR.out⟩
     case measure=>simp [intOf];omega
    ·by_cases hk0:k=0
     ·have HR:=hd_ (HNO.out (by rw[HPO.out,hk0];rfl))
      have qk:((k:Int) == 0)=true:=by rw[beq_iff_eq];omega
      have HK:=hd_ hk0;clear hk0;go_wp2_with (go_at_call 190;refine (HX.out _).mono ?_;rintro e w' ⟨rfl,rfl⟩)
      go_ret;exact⟨z7o HR.out.symm,HA.out⟩
     ·have HR:=hd_ (HYS.out (by rw[HPO.out];simp [hk0]))
      have qk:((k:Int) == 0)=false:=by rw[beq_eq_false_iff_ne];omega
      clear hk0;go_wp2_with (go_at_call 190;refine (HX.out _).mono ?_;rintro e w' ⟨rfl,rfl⟩)
      go_round
      case rel=>exact⟨k+1,by omega,by go_num,HR.out⟩
      case measure=>simp [intOf];omega
   ·have HR:=hd_ (HEE.out HG.out (z7l (fun j hj=>HI.out j hj (by omega))))
    have hge:¬((k:Int)<(parts.length:Int)):=by omega
    clear HI;by_cases h12:12<parts.length
    ·have q12:decide ((12:Int)<(parts.length:Int))=true:=by simp;omega
     rw[if_pos h12] at HR;clear h12;go_wp2_with fail;go_ret;exact⟨z7o HR.out.symm,HA.out⟩
    ·have q12:decide ((12:Int)<(parts.length:Int))=false:=by simp;omega
     rw[if_neg h12] at HR;clear h12;go_wp2_with fail;go_ret;exact⟨z7o HR.out.symm,HA.out⟩
def Under (n k:Int):Prop:=0≤k∧(1<n→k<n)∧(n≤1→k=0)
theorem zgk (x n:Int)(h:1<n):-n<x.tmod n∧x.tmod n<n:=by
 have h1:=Int.tmod_lt_of_pos x (b:=n) (by omega)
 have h2:=Int.lt_tmod_of_pos x (b:=n) (by omega)
 exact⟨by omega,h1⟩
theorem zgl (v n:Int)(w:World)(hn:n≤1000000000):Calls prog 52 #[.int .i64 v,.int .i64 n] w fun e w'=>∃ k,e=.returned (.int .i64 k)∧Under n k∧w=w':=by
 by_cases h1:n≤1
 ·have q:decide (n≤1)=true:=decide_eq_true h1;go_enter func52,ntmps52;go_wp2_with fail;go_ret;exact⟨0,rfl,⟨by omega,fun h=>by omega,fun _=>rfl⟩,rfl⟩
 ·have q:decide (n≤1)=false:=decide_eq_false h1;have q0:(n == 0)=false:=by rw[beq_eq_false_iff_ne];omega
  have q1:(n == -1)=false:=by rw[beq_eq_false_iff_ne];omega
  obtain⟨a1,a2⟩:=zgk v n (by omega)
  obtain⟨r,hr⟩:∃ r,v.tmod n=r:=⟨_,rfl⟩;rw[hr] at a1 a2;have hw:IntKind.i64.wrap r=r:=by rw[IntKind.wrap_i64];omega
  by_cases h2:r<0
  ·have q2:decide (r<0)=true:=decide_eq_true h2;have hw2:IntKind.i64.wrap (r+n)=r+n:=by rw[IntKind.wrap_i64];omega
   go_enter func52,ntmps52;go_wp2_with fail;go_ret;exact⟨_,rfl,⟨by omega,fun _=>by omega,fun h=>by omega⟩,rfl⟩
  ·have q2:decide (r<0)=false:=decide_eq_false h2;go_enter func52,ntmps52;go_wp2_with fail;go_ret;exact⟨_,rfl,⟨by omega,fun _=>by omega,fun h=>by omega⟩,rfl⟩
end Go.Proofs.YtijghobkkdbhnaaGreatDoor
/- The world of the witness: the listed tables hold what their initialisers lay. -/
namespace Go.Proofs.YtijghobkkdbhnaaGreatDoor.cardBase
open Go.Proofs.Tryz
open Go.ChangeShapes Go.WideShapes Go.ChangeAt Go.RowKit
theorem own:ownKnob prog.godebug=none:=by kernel_rfl
theorem laidOut:laidOutB prog=true:=by kernel_rfl
def lay0:Obj→Obj
 | .cells _ t frozen=>.cells #[.int .u8 128,.int .u8 191,.int .u8 160,.int .u8 191,.int .u8 128,.int .u8 159,.int .u8 144,.int .u8 191,.int .u8 128,.int .u8 143,.int .u8 0,.int .u8 0,.int .u8 0,.int .u8 0,.int .u8 0,.int .u8 0,.int .u8 0,.int .u8 0,.int .u8 0,.int .u8 0,.int .u8 0,.int .u8 0,.int .u8 0,.int .u8 0,.int .u8 0,.int .u8 0,.int .u8 0,.int .u8 0,.int .u8 0,.int .u8 0,.int .u8 0,.int .u8 0] t frozen
 | o=>o
def lay1:Obj→Obj
 | .cells _ t frozen=>.cells (Go.Pinned.utf8FirstZ.map fun(n:Nat)=>Value.int .u8 (n:Int)).toArray t frozen
 | o=>o
noncomputable def laidWorld (os:Os):World:=
 { World.holding prog os ⟨#[],#[],[]⟩ with heap:=(((World.holding prog os ⟨#[],#[],[]⟩).heap.modify 2 lay0).modify 1 lay1) }
end Go.Proofs.YtijghobkkdbhnaaGreatDoor.cardBase
