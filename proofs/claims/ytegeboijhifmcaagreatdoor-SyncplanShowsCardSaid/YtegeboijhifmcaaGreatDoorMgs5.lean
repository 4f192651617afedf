/- A part of the proof. -/
import Derived.Test.YtegeboijhifmcaaGreatDoorShelf
import Derived.Test.YtegeboijhifmcaaGreatDoorMsLeafH
import Derived.Deep.RegionHeld3
import Derived.Deep.MidRow
import Derived.StillTailTactics
import Derived.IntWalk
import Derived.Deep.DeepCutAuto
set_option linter.unusedVariables false
set_option linter.unusedSimpArgs false
set_option maxHeartbeats 4000000
set_option maxRecDepth 100000
namespace Go.Proofs.YtegeboijhifmcaaGreatDoor
open Go.Proofs.Tryz
open Go.RowKit
structure Pat where
 parts:List ByteArray
 rest:Bool
def z79 (s:ByteArray):Bool:=Lib.hasPrefix s.data.toList [42]
def z7a (s:ByteArray):Bool:=(s.data.toList.drop 1).all fun c=>z0t c.toNat
def z7b (s:ByteArray):Int:=if z0v s then 1 else if z79 s then (if z7a s then 2 else 0) else 0
def z7c (j:Nat)(x:ByteArray):Bool:=decide (z7b x≠0) && !(decide (j=0) && decide (z7b x=2))
def z7d (l:List ByteArray):Bool:=(List.range l.length).all fun j=>z7c j ((l[j]?).getD z2l)
def z7e (p:Pat):Int:=if p.parts.length=0∨(p.parts.length=1∧p.rest=false) then 30 else if z7d p.parts=false then 30 else if 12<p.parts.length then 31 else 0
theorem z7f {l:List ByteArray}{j:Nat}(h:j<l.length)(hf:z7c j l[j]=false):z7d l=false:=by
 unfold z7d;rw[List.all_eq_false];exact⟨j,List.mem_range.2 h,by rw[List.getElem?_eq_getElem h];simpa using hf⟩
theorem z7g {l:List ByteArray}(h:∀ j (hj:j<l.length),z7c j l[j]=true):z7d l=true:=by
 unfold z7d;rw[List.all_eq_true];intro j hj;rw[List.mem_range] at hj;rw[List.getElem?_eq_getElem hj];exact h j hj
theorem z7h {s:ByteArray}{k:Nat}(h:k<s.size)(h1:1≤k)(hb:z0t s[k].toNat=false):z7a s=false:=by
 unfold z7a;rw[List.all_eq_false];have hl:k<s.data.toList.length:=h;refine⟨s.data.toList[k],?_,?_⟩
 ·refine List.mem_iff_getElem.2 ⟨k - 1,by rw[List.length_drop];omega,?_⟩
  rw[List.getElem_drop];congr 1;omega
 ·have e:s.data.toList[k]=s[k]:=by rw[Array.getElem_toList];rfl
  rw[e,hb];simp
theorem z7i {s:ByteArray}(h:∀ k (hk:k<s.size),1≤k→z0t s[k].toNat=true):z7a s=true:=by
 unfold z7a;rw[List.all_eq_true];intro c hc;obtain⟨i,hi,rfl⟩:=List.mem_iff_getElem.1 hc;rw[List.getElem_drop];rw[List.length_drop] at hi;have hk:1+i<s.size:=by have:s.data.toList.length=s.size:=rfl;omega
 have e:s.data.toList[1+i]'(by have:s.data.toList.length=s.size:=rfl;omega)=s[1+i]:=by rw[Array.getElem_toList];rfl
 rw[e];exact h _ hk (by omega)
theorem z7j {a b:Int}(h:a=b):Ending.returned (.int .i64 a)=.returned (.int .i64 b):=by rw[h]
theorem z7k (s:ByteArray)(w:World):Calls prog 110 #[.string s] w fun e w'=>e=.returned (.bool (z79 s))∧w=w':=by
 go_enter func110,ntmps110;go_wp2_with (go_at_call 102;refine (Tryz.strings_HasPrefix _ _ _).mono ?_;rintro e w' ⟨rfl,rfl⟩)
 go_ret;exact⟨rfl,rfl⟩
theorem z7l (s:ByteArray)(w:World)(hs:s.size≤maxLen):
  Calls prog 161 #[.string s] w fun e w'=>e=.returned (.int .i64 (z7b s))∧w=w':=by
 have hsz:s.size≤9223372036854775807:=by unfold maxLen at hs;omega
 have HC:=hd_ (z19 s w hs);have HP:=hd_ (Tryz.strings_HasPrefix s ⟨#[42]⟩ w);clear hs;cases hc:z0v s with
 | true =>
  have HF:Hid (z7b s=1):=hd_ (by unfold z7b;rw[if_pos hc])
  rw[hc] at HC;clear hc;go_enter func161,ntmps161;go_wp2_with (go_at_call 103;refine HC.out.mono ?_;rintro e w' ⟨rfl,rfl⟩)
  go_ret;exact⟨z7j HF.out.symm,rfl⟩
 | false =>
  rw[hc] at HC;cases hp:Lib.hasPrefix s.data.toList [42] with
  | false =>
   have HF:Hid (z7b s=0):=hd_ (by unfold z7b z79;rw[hc,hp];rfl)
   have hp':Lib.hasPrefix s.data.toList (⟨#[42]⟩:ByteArray).data.toList=false:=hp;rw[hp'] at HP;clear hc hp hp';go_enter func161,ntmps161;go_wp2_with (first
    | (go_at_call 103;refine HC.out.mono ?_;rintro e w' ⟨rfl,rfl⟩)
    | (go_at_call 102;refine HP.out.mono ?_;rintro e w' ⟨rfl,rfl⟩))
   go_ret;exact⟨z7j HF.out.symm,rfl⟩
  | true =>
   have HT:Hid (z7b s=if z7a s then 2 else 0):=hd_ (by unfold z7b z79;rw[hc,hp];rfl)
   have h1:1≤s.size:=by
    rcases Nat.eq_zero_or_pos s.size with h0 | h0
    ·have:s.data.toList=[]:=List.eq_nil_of_length_eq_zero (by simpa using h0)
     rw[this] at hp;cases hp
    ·exact h0
   have hp':Lib.hasPrefix s.data.toList (⟨#[42]⟩:ByteArray).data.toList=true:=hp;rw[hp'] at HP;clear hc hp hp';go_enter func161,ntmps161;go_wp2_with (first
    | (go_at_call 103;refine HC.out.mono ?_;rintro e w' ⟨rfl,rfl⟩)
    | (go_at_call 102;refine HP.out.mono ?_;rintro e w' ⟨rfl,rfl⟩))
   go_loop [3] (fun i=>∃ k:Nat,1≤k∧k≤s.size∧i=.int .i64 k∧Hid (∀ j (hj:j<s.size),1≤j→j<k→z0t s[j].toNat=true)) (fun i=>s.size - (intOf i).toNat)
   case atStart=>exact⟨1,Nat.le_refl _,h1,rfl,fun j _ a b=>by omega⟩
   case round =>
    obtain⟨k,hk1,hk,rfl,HI⟩:=hrel;by_cases hlt:k<s.size
    ·cases hl:z0t s[k].toNat
     ·have HF:Hid (z7b s=0):=hd_ (by rw[HT.out,z7h hlt hk1 hl];rfl)
      have HL:=hd_ hl;clear HI;go_wp2_with (go_at_call 149;refine (z0x _ _).mono ?_;rintro e w' ⟨rfl,rfl⟩)
      go_ret;exact⟨z7j HF.out.symm,rfl⟩
     ·have HN:Hid (∀ j (hj:j<s.size),1≤j→j<k+1→z0t s[j].toNat=true):=hd_ (fun j hj a b=>by
       by_cases e:j=k
       ·subst e;exact hl
       ·exact HI.out j hj a (by omega))
      have HL:=hd_ hl;clear HI;go_wp2_with (go_at_call 149;refine (z0x _ _).mono ?_;rintro e w' ⟨rfl,rfl⟩)
      go_round
      case rel=>exact⟨k+1,by omega,by omega,by go_num,HN.out⟩
      case measure=>simp [intOf];omega
    ·have hke:k=s.size:=by omega
     have HF:Hid (z7b s=2):=hd_ (by rw[HT.out,z7i (fun j hj a=>HI.out j hj a (by omega))];rfl)
     clear HI hke;go_wp2
     go_ret;exact⟨z7j HF.out.symm,rfl⟩
theorem toList_inj {a b:ByteArray}:a.toList=b.toList↔a=b:=by
 constructor
 ·intro h;rw[ByteArray.toList_eq,ByteArray.toList_eq] at h;cases a with | mk x=>cases b with | mk y =>
  congr 1;exact Array.toList_inj.1 h
 ·intro h;rw[h]
theorem z7m (a b:Fil)(w:World):(Op.equal 185 (z2p a) (z2p b)).run prog w=.ok (a == b) w:=by
 obtain⟨a0,a1⟩:=a;obtain⟨b0,b1⟩:=b;show (Op.equalIn 10000 185 _ _).run prog w=_
 unfold z2p;rw[run_equalIn_agg w 9999 185 _ _ (by kernel_rfl) (by kernel_rfl)]
 simp [go_sem,Op.eqFields,toList_inj]
 by_cases h1:a0=b0 <;> by_cases h2:a1=b1 <;> simp [h1,h2]
theorem z7n (b:Bool)(a:Fil)(w:World):(Instr.checkKey b 10000 185 (z2p a)).run prog w=.ok () w:=by
 unfold z2p;rw[Instr.checkKey];simp [run_underlying underlying185,go_sem]
 rw[z29 underlying9 b _ w 9998,Result.andThen_ok];exact z2a underlying3 b _ w 9998
theorem z7o (a:Fil):Instr.sameBits 10000 (z2p a) (z2p a)=true:=by
 unfold z2p;rw[Instr.sameBits];simp [z2b,z2c]
theorem z7p:z1s prog 185 z2p:=
 ⟨z23 underlying185 (fun _ _=>rfl) z7m,z7n,fun a b h=>by
  have:b=a:=(eq_of_beq h).symm;subst this;exact z7o b⟩
theorem z7q:z1s prog 9 Value.string:=z2d underlying9
def z7r (w:World)(B:Nat)(f:ByteArray→Option Rev):Prop:=z2f Value.string Rev.val w B f
def z7s (w:World)(B:Nat)(f:ByteArray→Option Edt):Prop:=z2f Value.string Edt.val w B f
def z7t (w:World)(B:Nat)(f:Fil→Option Fil):Prop:=z2f z2p z2p w B f
theorem z7u (w:World):(zeroValue 66).run prog w=.ok z2m.val w:=by kernel_rfl
theorem z7v (w:World):(zeroValue 90).run prog w=.ok z2n.val w:=by kernel_rfl
theorem z7w (w:World):(zeroValue 185).run prog w=.ok (z2p z2o) w:=by kernel_rfl
section
variable {w : World} {B : Nat}
theorem z7r.look {f:ByteArray→Option Rev}(h:z7r w B f)(p:ByteArray):(Instr.lookup 179 (.map (some B)) (.string p) false).run prog w=.ok (.agg #[.string (z2x f p).path,.int .i64 (z2x f p).num,.int .i64 (z2x f p).chg,.int .i64 (z2x f p).act,.int .i64 (z2x f p).ty.base,.bool (z2x f p).ty.k,.bool (z2x f p).ty.l,.bool (z2x f p).ty.x,.int .u64 (z2x f p).sum,.int .i64 (z2x f p).size,.string (z2x f p).frm,.int .i64 (z2x f p).fnum]) w:=by
 rw[z2f.lookup h z7q underlying179 (z7u w) p false];unfold z2h z2x;cases f p <;> rfl
theorem z7r.look2 {f:ByteArray→Option Rev}(h:z7r w B f)(p:ByteArray):(Instr.lookup 179 (.map (some B)) (.string p) true).run prog w=.ok (.tuple #[.agg #[.string (z2x f p).path,.int .i64 (z2x f p).num,.int .i64 (z2x f p).chg,.int .i64 (z2x f p).act,.int .i64 (z2x f p).ty.base,.bool (z2x f p).ty.k,.bool (z2x f p).ty.l,.bool (z2x f p).ty.x,.int .u64 (z2x f p).sum,.int .i64 (z2x f p).size,.string (z2x f p).frm,.int .i64 (z2x f p).fnum],.bool (f p).isSome]) w:=by
 rw[z2f.lookup h z7q underlying179 (z7u w) p true];unfold z2h z2x;cases f p <;> rfl
def z7x (f:ByteArray→Option Edt)(p:ByteArray):Edt:=(f p).getD z2n
theorem z7s.look {f:ByteArray→Option Edt}(h:z7s w B f)(p:ByteArray):(Instr.lookup 180 (.map (some B)) (.string p) false).run prog w=.ok (.agg #[.string (z7x f p).path,.int .i64 (z7x f p).act,.int .i64 (z7x f p).ty.base,.bool (z7x f p).ty.k,.bool (z7x f p).ty.l,.bool (z7x f p).ty.x,.int .u64 (z7x f p).sum,.int .i64 (z7x f p).size,.int .i64 (z7x f p).base,.string (z7x f p).frm,.int .i64 (z7x f p).fnum,.int .i64 (z7x f p).fence]) w:=by
 rw[z2f.lookup h z7q underlying180 (z7v w) p false];unfold z2h z7x;cases f p <;> rfl
theorem z7s.look2 {f:ByteArray→Option Edt}(h:z7s w B f)(p:ByteArray):(Instr.lookup 180 (.map (some B)) (.string p) true).run prog w=.ok (.tuple #[.agg #[.string (z7x f p).path,.int .i64 (z7x f p).act,.int .i64 (z7x f p).ty.base,.bool (z7x f p).ty.k,.bool (z7x f p).ty.l,.bool (z7x f p).ty.x,.int .u64 (z7x f p).sum,.int .i64 (z7x f p).size,.int .i64 (z7x f p).base,.string (z7x f p).frm,.int .i64 (z7x f p).fnum,.int .i64 (z7x f p).fence],.bool (f p).isSome]) w:=by
 rw[z2f.lookup h z7q underlying180 (z7v w) p true];unfold z2h z7x;cases f p <;> rfl
def z7y (f:Fil→Option Fil)(p:Fil):Fil:=(f p).getD z2o
theorem z7t.look {f:Fil→Option Fil}(h:z7t w B f)(p:ByteArray)(n:Int):(Instr.lookup 181 (.map (some B)) (.agg #[.string p,.int .i64 n]) false).run prog w=.ok (.agg #[.string (z7y f (p,n)).1,.int .i64 (z7y f (p,n)).2]) w:=by
 have:=z2f.lookup h z7p underlying181 (z7w w) (p,n) false;unfold z2h at this;unfold z7y;cases hf:f (p,n) <;> (rw[hf] at this;exact this)
theorem z7t.look2 {f:Fil→Option Fil}(h:z7t w B f)(p:ByteArray)(n:Int):(Instr.lookup 181 (.map (some B)) (.agg #[.string p,.int .i64 n]) true).run prog w=.ok (.tuple #[.agg #[.string (z7y f (p,n)).1,.int .i64 (z7y f (p,n)).2],.bool (f (p,n)).isSome]) w:=by
 have:=z2f.lookup h z7p underlying181 (z7w w) (p,n) true;unfold z2h at this;unfold z7y;cases hf:f (p,n) <;> (rw[hf] at this;exact this)
end
theorem z7z {w:World}{g:Nat}{e:TypeId}{a0 a1 a2 a3 a4 a5 a6 a7 a8 a9 a10 a11:Value}(h:Blk w g e [a0,a1,a2,a3,a4,a5,a6,a7,a8,a9,a10,a11]):
  w.cell? ⟨g,0,none⟩=some a0∧w.cell? ⟨g,1,none⟩=some a1∧w.cell? ⟨g,2,none⟩=some a2∧w.cell? ⟨g,3,none⟩=some a3∧w.cell? ⟨g,4,none⟩=some a4∧w.cell? ⟨g,5,none⟩=some a5 ∧
  w.cell? ⟨g,6,none⟩=some a6∧w.cell? ⟨g,7,none⟩=some a7∧w.cell? ⟨g,8,none⟩=some a8∧w.cell? ⟨g,9,none⟩=some a9∧w.cell? ⟨g,10,none⟩=some a10∧w.cell? ⟨g,11,none⟩=some a11:=
 ⟨h.cell 0,h.cell 1,h.cell 2,h.cell 3,h.cell 4,h.cell 5,h.cell 6,h.cell 7,h.cell 8,h.cell 9,h.cell 10,h.cell 11⟩
theorem box2 {w:World}{g:Nat}{e:TypeId}{a b:Value}(h:Blk w g e [a,b]):w.cell? ⟨g,0,none⟩=some a∧w.cell? ⟨g,1,none⟩=some b∧w.frozen? ⟨g,0,none⟩=false∧w.frozen? ⟨g,1,none⟩=false:=
 ⟨h.cell 0,h.cell 1,h.frozen 0,h.frozen 1⟩
def z80 (part:ByteArray):ByteArray:=part.extract 1 part.size
def z81 (part comp:ByteArray):ByteArray:=if z79 part then ⟨(Lib.trimSuffix comp.data.toList (z80 part).data.toList).toArray⟩ else z2l
def z82 (part comp:ByteArray):Bool:=if z79 part then Lib.hasSuffix comp.data.toList (z80 part).data.toList && !decide (z81 part comp=z2l) else decide (part=comp)
theorem z83 {s:ByteArray}(h:z79 s=true):1≤s.size:=by
 rcases Nat.eq_zero_or_pos s.size with h0 | h0
 ·have:s.data.toList=[]:=List.eq_nil_of_length_eq_zero (by simpa using h0)
  unfold z79 at h;rw[this] at h;cases h
 ·exact h0
theorem z84 (a b:ByteArray):(a.toList == b.toList)=decide (a=b):=by
 rw[Bool.eq_iff_iff,beq_iff_eq,decide_eq_true_eq,toList_inj]
theorem z85 {x y:ByteArray}{a b:Bool}(h1:x=y)(h2:a=b):Ending.returned (.tuple #[.string x,.bool a])=.returned (.tuple #[.string y,.bool b]):=by rw[h1,h2]
theorem z86 (part comp:ByteArray)(w:World)(hp:part.size≤9223372036854775807)(hs:comp.size≤9223372036854775807):
  Calls prog 109 #[.string part,.string comp] w fun e w'=>e=.returned (.tuple #[.string (z81 part comp),.bool (z82 part comp)])∧w=w':=by
 have HI:=hd_ (z7k part w);have HC:=hd_ (Tryz.strings_CutSuffix comp (part.extract 1 part.size) w hs);cases hst:z79 part with
 | false =>
  have HV:Hid (z81 part comp=⟨#[]⟩∧z82 part comp=decide (part=comp)):=hd_ (by unfold z81 z82;rw[hst];exact⟨rfl,rfl⟩)
  have HE:=hd_ (z84 part comp);rw[hst] at HI;clear hst;go_enter func109,ntmps109;go_wp2_with (go_at_call 110;refine HI.out.mono ?_;rintro e w' ⟨rfl,rfl⟩)
  go_ret2;exact⟨z85 HV.out.1.symm (by rw[HV.out.2];exact HE.out),rfl⟩
 | true =>
  have h1:1≤part.size:=z83 hst;have HV:Hid (z81 part comp=⟨(Lib.trimSuffix comp.data.toList (z80 part).data.toList).toArray⟩∧z82 part comp=(Lib.hasSuffix comp.data.toList (z80 part).data.toList && !decide (z81 part comp=z2l))):=hd_ ⟨by unfold z81;rw[hst];rfl,by unfold z82;rw[hst];rfl⟩
  rw[hst] at HI;clear hst;change Hid (Calls prog 162 #[.string comp,.string (part.extract 1 part.size)] w fun e w'=>e=.returned (.tuple #[.string ⟨(Lib.trimSuffix comp.data.toList (z80 part).data.toList).toArray⟩,.bool (Lib.hasSuffix comp.data.toList (z80 part).data.toList)])∧w'=w) at HC;generalize (⟨(Lib.trimSuffix comp.data.toList (z80 part).data.toList).toArray⟩:ByteArray)=x at HC HV;generalize Lib.hasSuffix comp.data.toList (z80 part).data.toList=ok at HC HV;have HE:=hd_ (z84 x ⟨#[]⟩);go_enter func109,ntmps109;cases ok with
  | false =>
   go_wp2_with (first
    | (go_at_call 110;refine HI.out.mono ?_;rintro e w' ⟨rfl,rfl⟩)
    | (go_at_call 162;refine HC.out.mono ?_;rintro e w' ⟨rfl,rfl⟩))
   go_ret2;exact⟨z85 HV.out.1.symm (by rw[HV.out.2];rfl),rfl⟩
  | true =>
   by_cases hx:x=⟨#[]⟩
   ·have HX:=hd_ hx;have q:(x.toList == (⟨#[]⟩:ByteArray).toList)=true:=by rw[HE.out];simpa using hx
    have q2:x.toList=[]:=by rw[hx,ByteArray.toList_eq]
    clear hx;go_wp2_with (first
     | (go_at_call 110;refine HI.out.mono ?_;rintro e w' ⟨rfl,rfl⟩)
     | (go_at_call 162;refine HC.out.mono ?_;rintro e w' ⟨rfl,rfl⟩))
    go_ret2;exact⟨z85 HV.out.1.symm (by rw[HV.out.2,HV.out.1,HX.out];rfl),rfl⟩
   ·have HX:=hd_ hx;have q:(x.toList == (⟨#[]⟩:ByteArray).toList)=false:=by rw[HE.out];simpa using hx
    have q2:¬ x.toList=[]:=fun h=>hx (toList_inj.1 (h.trans (by rw[ByteArray.toList_eq])))
    have q3:x.toList.isEmpty=false:=by cases hh:x.toList;exact absurd hh q2;rfl
    clear hx;go_wp2_with (first
     | (go_at_call 110;refine HI.out.mono ?_;rintro e w' ⟨rfl,rfl⟩)
     | (go_at_call 162;refine HC.out.mono ?_;rintro e w' ⟨rfl,rfl⟩))
    go_ret2;exact⟨z85 HV.out.1.symm (by rw[HV.out.2,HV.out.1,decide_eq_false (show ¬ x=z2l from HX.out)];rfl),rfl⟩
theorem patE_0 {p:Pat}(h:p.parts.length=0):z7e p=30:=by unfold z7e;rw[if_pos (.inl h)]
theorem z9w {p:Pat}(h:p.parts.length=1)(hr:p.rest=false):z7e p=30:=by unfold z7e;rw[if_pos (.inr ⟨h,hr⟩)]
theorem z9x {p:Pat}(h:z7d p.parts=false):z7e p=30:=by
 unfold z7e;by_cases h1:p.parts.length=0∨(p.parts.length=1∧p.rest=false)
 ·rw[if_pos h1]
 ·rw[if_neg h1,if_pos h]
theorem z9y {p:Pat}(h1:¬(p.parts.length=0∨(p.parts.length=1∧p.rest=false)))(h:z7d p.parts=true):z7e p=if 12<p.parts.length then 31 else 0:=by
 unfold z7e;rw[if_neg h1,if_neg (by rw[h];simp)]
theorem z9z (s:ByteArray):z7b s=0∨z7b s=1∨z7b s=2:=by
 unfold z7b;split
 ·exact .inr (.inl rfl)
 ·split
  ·split
   ·exact .inr (.inr rfl)
   ·exact .inl rfl
  ·exact .inl rfl
theorem za0 (p:Pat)(A:Option Addr)(c:Nat)(w:World)(hS:Strs w (.slice A p.parts.length c) p.parts)(hz:∀ x∈p.parts,x.size≤maxLen):
  Calls prog 108 #[.agg #[.slice A p.parts.length c,.bool p.rest]] w fun e w'=>e=.returned (.int .i64 (z7e p))∧Below w.heap.size w w':=by
 obtain⟨A',c',e',hcc,hmm,-⟩:=id hS;injection e' with e1 e2 e3
 subst e1 e3;unfold maxLen at hmm;have HS:=hd_ hS;have HZ:=hd_ hz;have HF:=hd_ (fun x (hx:x.size≤maxLen) X=>z7l x X hx);obtain⟨parts,rest⟩:=p;dsimp only at hcc hmm HS HZ ⊢
 have HE0:=hd_ (@patE_0 ⟨parts,rest⟩);have HE1:=hd_ (@z9w ⟨parts,rest⟩);have HEF:=hd_ (@z9x ⟨parts,rest⟩);have HEE:=hd_ (@z9y ⟨parts,rest⟩);have hB:=z0l w [.slice A parts.length c,.bool rest] 97;have hA:Below w.heap.size w (w.alloc (.cells #[.slice A parts.length c,.bool rest] 97)):=(Below.refl _ _).alloc (Nat.le_refl _) _;clear hS hz e2;go_enter func108,ntmps108;go_upto_region 1 with fail;generalize w.alloc (.cells #[.slice A parts.length c,.bool rest] 97)=W1 at hB hA ⊢;have d0:W1.cell? ⟨w.heap.size,0,none⟩=some (.slice A parts.length c):=hB.cell 0;have d1:W1.cell? ⟨w.heap.size,1,none⟩=some (.bool rest):=hB.cell 1;have HB:=hd_ hB;have HA:=hd_ hA;clear hB hA;by_cases h0:parts.length=0
 ·have q0:((parts.length:Int) == 0)=true:=by rw[beq_iff_eq];omega
  have HR:=hd_ (HE0.out h0);clear h0;go_wp2_with fail;go_ret;exact⟨z7j HR.out.symm,HA.out⟩
 have q0:((parts.length:Int) == 0)=false:=by rw[beq_eq_false_iff_ne];omega
 have HN1:Hid (parts.length=1∧rest=false∨¬(parts.length=0∨(parts.length=1∧rest=false))):=hd_ (by
  by_cases h:parts.length=1∧rest=false
  ·exact .inl h
  ·exact .inr (fun hh=>by rcases hh with hh | hh;exact h0 hh;exact h hh))
 clear h0;rcases HN1.out with⟨h1,hr⟩ | hgood
 ·have q1:((parts.length:Int) == 1)=true:=by rw[beq_iff_eq];omega
  have HR:=hd_ (HE1.out h1 hr);subst hr;clear h1 HN1;go_wp2_with fail;go_ret;exact⟨z7j HR.out.symm,HA.out⟩
 have HG:=hd_ hgood;clear HN1 hgood;go_cut [19] (fun v wx=>v=.bool false∧wx=W1)
 case first =>
  by_cases h1:parts.length=1
  ·have q1:((parts.length:Int) == 1)=true:=by rw[beq_iff_eq];omega
   have hr:rest=true:=by
    cases rest with
    | true=>rfl
    | false=>exact absurd (.inr ⟨h1,rfl⟩) HG.out
   subst hr;clear h1;go_wp2_with fail;go_meet
   exact⟨rfl,rfl⟩
  ·have q1:((parts.length:Int) == 1)=false:=by rw[beq_eq_false_iff_ne];omega
   clear h1;go_wp2_with fail;go_meet
   exact⟨rfl,rfl⟩
 case rest =>
  obtain⟨rfl,rfl⟩:=hcut;clear q0;go_wp2_with fail;go_loop [23] (fun i=>∃ k:Nat,k≤parts.length∧i=.int .i64 k∧Hid (∀ j (hj:j<parts.length),j<k→z7c j parts[j]=true)) (fun i=>parts.length - (intOf i).toNat)
  case atStart=>exact⟨0,Nat.zero_le _,rfl,fun j _ a=>by omega⟩
  case round =>
   obtain⟨k,hk,rfl,HI⟩:=hrel;by_cases hlt:k<parts.length
   ·obtain⟨ad,rfl,hab,x0⟩:=Strs.at_ (HS.out.below HA.out) hlt;have HX:=hd_ (HF.out parts[k] (HZ.out _ (List.getElem_mem hlt)));have HNO:=hd_ (fun h=>HEF.out (z7f hlt h));have HYS:Hid (z7c k parts[k]=true→∀ j (hj:j<parts.length),j<k+1→z7c j parts[j]=true):=hd_ (fun h j hj a=>by
     by_cases e:j=k
     ·subst e;exact h
     ·exact HI.out j hj (by omega))
    have HPO:Hid (z7c k parts[k]=(decide (z7b parts[k]≠0) && !(decide (k=0) && decide (z7b parts[k]=2)))):=hd_ rfl;have hfc:=z9z parts[k];generalize parts[k]=x at x0 HX HNO HYS HPO hfc;generalize z7b x=f at HX HPO hfc;clear HI;rcases hfc with rfl | rfl | rfl
    ·have HR:=hd_ (HNO.out (by rw[HPO.out];rfl))
     go_wp2_with (go_at_call 161;refine (HX.out _).mono ?_;rintro e w' ⟨rfl,rfl⟩)
     go_ret;exact⟨z7j HR.out.symm,HA.out⟩
    ·have HR:=hd_ (HYS.out (by rw[HPO.out];simp))
     go_wp2_with (go_at_call 161;refine (HX.out _).mono ?_;rintro e w' ⟨rfl,rfl⟩)
     go_round
     case rel=>exact⟨k+1,by omega,by go_num,HR.out⟩
     case measure=>simp [intOf];omega
    ·by_cases hk0:k=0
     ·have HR:=hd_ (HNO.out (by rw[HPO.out,hk0];rfl))
      have qk:((k:Int) == 0)=true:=by rw[beq_iff_eq];omega
      have HK:=hd_ hk0;clear hk0;go_wp2_with (go_at_call 161;refine (HX.out _).mono ?_;rintro e w' ⟨rfl,rfl⟩)
      go_ret;exact⟨z7j HR.out.symm,HA.out⟩
     ·have HR:=hd_ (HYS.out (by rw[HPO.out];simp [hk0]))
      have qk:((k:Int) == 0)=false:=by rw[beq_eq_false_iff_ne];omega
      clear hk0;go_wp2_with (go_at_call 161;refine (HX.out _).mono ?_;rintro e w' ⟨rfl,rfl⟩)
      go_round
      case rel=>exact⟨k+1,by omega,by go_num,HR.out⟩
      case measure=>simp [intOf];omega
   ·have HR:=hd_ (HEE.out HG.out (z7g (fun j hj=>HI.out j hj (by omega))))
    have hge:¬((k:Int)<(parts.length:Int)):=by omega
    clear HI;by_cases h12:12<parts.length
    ·have q12:decide ((12:Int)<(parts.length:Int))=true:=by simp;omega
     rw[if_pos h12] at HR;clear h12;go_wp2_with fail;go_ret;exact⟨z7j HR.out.symm,HA.out⟩
    ·have q12:decide ((12:Int)<(parts.length:Int))=false:=by simp;omega
     rw[if_neg h12] at HR;clear h12;go_wp2_with fail;go_ret;exact⟨z7j HR.out.symm,HA.out⟩
end Go.Proofs.YtegeboijhifmcaaGreatDoor
