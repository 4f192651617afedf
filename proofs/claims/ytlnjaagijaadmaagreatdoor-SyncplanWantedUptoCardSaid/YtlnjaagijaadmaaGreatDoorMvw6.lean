/- A part. -/
import Derived.Test.YtlnjaagijaadmaaGreatDoorMvw3
import Derived.Test.YtlnjaagijaadmaaGreatDoorMvw4
import Derived.Deep.RegionHeld3
import Derived.Deep.MidRow
import Derived.StillTailTactics
set_option linter.unusedVariables false
set_option linter.unusedSimpArgs false
set_option maxHeartbeats 1000000
namespace Go.Proofs.YtlnjaagijaadmaaGreatDoor
open Go.Proofs.Tryz
open Go.RowKit
theorem toList_inj {a b:zA}:a.toList=b.toList↔a=b:=by
 constructor
 ·intro h;rw[ByteArray.toList_eq,ByteArray.toList_eq] at h;cases a with | mk x=>cases b with | mk y =>
  congr 1;exact Array.toList_inj.1 h
 ·intro h;rw[h]
theorem z4s (a b:Fil)(w:zW):(Op.equal 188 (z2v a) (z2v b)).run prog w=.ok (a == b) w:=by
 obtain⟨a0,a1⟩:=a;obtain⟨b0,b1⟩:=b;show (Op.equalIn 10000 188 _ _).run prog w=_
 unfold z2v;rw[run_equalIn_agg w 9999 188 _ _ (by kernel_rfl) (by kernel_rfl)]
 simp [go_sem,Op.eqFields,toList_inj]
 by_cases h1:a0=b0 <;> by_cases h2:a1=b1 <;> simp [h1,h2]
theorem z4t (b:Bool)(a:Fil)(w:zW):(Instr.checkKey b 10000 188 (z2v a)).run prog w=.ok () w:=by
 unfold z2v;rw[Instr.checkKey];simp [run_underlying underlying188,go_sem]
 rw[z2f underlying9 b _ w 9998,Result.andThen_ok];exact z2g underlying3 b _ w 9998
theorem z4u (a:Fil):Instr.sameBits 10000 (z2v a) (z2v a)=true:=by
 unfold z2v;rw[Instr.sameBits];simp [z2h,z2i]
theorem z4v:z1y prog 188 z2v:=
 ⟨z2b underlying188 (fun _ _=>rfl) z4s,z4t,fun a b h=>by
  have:b=a:=(eq_of_beq h).symm;subst this;exact z4u b⟩
theorem z4w:z1y prog 9 Value.string:=z2j underlying9
def z4x (w:zW)(B:Nat)(f:zA->Option Rev):Prop:=z2l zS Rev.val w B f
def z4y (w:zW)(B:Nat)(f:zA->Option Edt):Prop:=z2l zS Edt.val w B f
def z4z (w:zW)(B:Nat)(f:Fil->Option Fil):Prop:=z2l z2v z2v w B f
theorem z50 (w:zW):(zeroValue 78).run prog w=.ok z2s.val w:=by kernel_rfl
theorem z52 (w:zW):(zeroValue 88).run prog w=.ok z2t.val w:=by kernel_rfl
theorem z54 (w:zW):(zeroValue 188).run prog w=.ok (z2v z2u) w:=by kernel_rfl
section
variable {w : zW} {B : Nat}
theorem z4x.look {f:zA->Option Rev}(h:z4x w B f)(p:zA):(Instr.lookup 182 (.map (some B)) (zS p) false).run prog w=.ok (.agg #[zS (z34 f p).kt,zI (z34 f p).num,zI (z34 f p).chg,zI (z34 f p).act,zI (z34 f p).ty.base,.bool (z34 f p).ty.k,.bool (z34 f p).ty.l,.bool (z34 f p).ty.x,.int .u64 (z34 f p).sum,zI (z34 f p).size,zS (z34 f p).frm,zI (z34 f p).fnum]) w:=by
 rw[z2l.lookup h z4w underlying182 (z50 w) p false];unfold z2n z34;cases f p <;> rfl
theorem z4x.look2 {f:zA->Option Rev}(h:z4x w B f)(p:zA):(Instr.lookup 182 (.map (some B)) (zS p) true).run prog w=.ok (.tuple #[.agg #[zS (z34 f p).kt,zI (z34 f p).num,zI (z34 f p).chg,zI (z34 f p).act,zI (z34 f p).ty.base,.bool (z34 f p).ty.k,.bool (z34 f p).ty.l,.bool (z34 f p).ty.x,.int .u64 (z34 f p).sum,zI (z34 f p).size,zS (z34 f p).frm,zI (z34 f p).fnum],.bool (f p).isSome]) w:=by
 rw[z2l.lookup h z4w underlying182 (z50 w) p true];unfold z2n z34;cases f p <;> rfl
def z55 (f:zA->Option Edt)(p:zA):Edt:=(f p).getD z2t
theorem z4y.look {f:zA->Option Edt}(h:z4y w B f)(p:zA):(Instr.lookup 183 (.map (some B)) (zS p) false).run prog w=.ok (.agg #[zS (z55 f p).kt,zI (z55 f p).act,zI (z55 f p).ty.base,.bool (z55 f p).ty.k,.bool (z55 f p).ty.l,.bool (z55 f p).ty.x,.int .u64 (z55 f p).sum,zI (z55 f p).size,zI (z55 f p).base,zS (z55 f p).frm,zI (z55 f p).fnum,zI (z55 f p).fence]) w:=by
 rw[z2l.lookup h z4w underlying183 (z52 w) p false];unfold z2n z55;cases f p <;> rfl
theorem z4y.look2 {f:zA->Option Edt}(h:z4y w B f)(p:zA):(Instr.lookup 183 (.map (some B)) (zS p) true).run prog w=.ok (.tuple #[.agg #[zS (z55 f p).kt,zI (z55 f p).act,zI (z55 f p).ty.base,.bool (z55 f p).ty.k,.bool (z55 f p).ty.l,.bool (z55 f p).ty.x,.int .u64 (z55 f p).sum,zI (z55 f p).size,zI (z55 f p).base,zS (z55 f p).frm,zI (z55 f p).fnum,zI (z55 f p).fence],.bool (f p).isSome]) w:=by
 rw[z2l.lookup h z4w underlying183 (z52 w) p true];unfold z2n z55;cases f p <;> rfl
def z56 (f:Fil->Option Fil)(p:Fil):Fil:=(f p).getD z2u
theorem z4z.look {f:Fil->Option Fil}(h:z4z w B f)(p:zA)(n:Int):(Instr.lookup 184 (.map (some B)) (.agg #[zS p,zI n]) false).run prog w=.ok (.agg #[zS (z56 f (p,n)).1,zI (z56 f (p,n)).2]) w:=by
 have:=z2l.lookup h z4v underlying184 (z54 w) (p,n) false;unfold z2n at this;unfold z56;cases hf:f (p,n) <;> (rw[hf] at this;exact this)
theorem z4z.look2 {f:Fil->Option Fil}(h:z4z w B f)(p:zA)(n:Int):(Instr.lookup 184 (.map (some B)) (.agg #[zS p,zI n]) true).run prog w=.ok (.tuple #[.agg #[zS (z56 f (p,n)).1,zI (z56 f (p,n)).2],.bool (f (p,n)).isSome]) w:=by
 have:=z2l.lookup h z4v underlying184 (z54 w) (p,n) true;unfold z2n at this;unfold z56;cases hf:f (p,n) <;> (rw[hf] at this;exact this)
end
theorem z57 {w:zW}{g:Nat}{e:TypeId}{a0 a1 a2 a3 a4 a5 a6 a7 a8 a9 a10 a11:zV}(h:Blk w g e [a0,a1,a2,a3,a4,a5,a6,a7,a8,a9,a10,a11]):
  w.cell? ⟨g,0,none⟩=some a0/\w.cell? ⟨g,1,none⟩=some a1/\w.cell? ⟨g,2,none⟩=some a2/\w.cell? ⟨g,3,none⟩=some a3/\w.cell? ⟨g,4,none⟩=some a4/\w.cell? ⟨g,5,none⟩=some a5 /\
  w.cell? ⟨g,6,none⟩=some a6/\w.cell? ⟨g,7,none⟩=some a7/\w.cell? ⟨g,8,none⟩=some a8/\w.cell? ⟨g,9,none⟩=some a9/\w.cell? ⟨g,10,none⟩=some a10/\w.cell? ⟨g,11,none⟩=some a11:=
 ⟨h.cell 0,h.cell 1,h.cell 2,h.cell 3,h.cell 4,h.cell 5,h.cell 6,h.cell 7,h.cell 8,h.cell 9,h.cell 10,h.cell 11⟩
theorem box2 {w:zW}{g:Nat}{e:TypeId}{a b:zV}(h:Blk w g e [a,b]):w.cell? ⟨g,0,none⟩=some a/\w.cell? ⟨g,1,none⟩=some b/\w.frozen? ⟨g,0,none⟩=false/\w.frozen? ⟨g,1,none⟩=false:=
 ⟨h.cell 0,h.cell 1,h.frozen 0,h.frozen 1⟩
def za5 (part:zA):zA:=part.extract 1 part.size
def za6 (part comp:zA):zA:=if z8r part then ⟨(Lib.trimSuffix comp.data.toList (za5 part).data.toList).toArray⟩ else z2r
def za7 (part comp:zA):Bool:=if z8r part then Lib.hasSuffix comp.data.toList (za5 part).data.toList && !decide (za6 part comp=z2r) else decide (part=comp)
theorem za8 {s:zA}(h:z8r s=true):1<=s.size:=by
 rcases ZU s.size with h0 | h0
 ·have:s.data.toList=[]:=Zt (by simpa using h0)
  unfold z8r at h;rw[this] at h;cases h
 ·exact h0
theorem za9 (a b:zA):(a.toList == b.toList)=decide (a=b):=by
 rw[ZY,beq_iff_eq,decide_eq_true_eq,toList_inj]
theorem zaa {x y:zA}{a b:Bool}(h1:x=y)(h2:a=b):Ending.returned (.tuple #[zS x,.bool a])=.returned (.tuple #[zS y,.bool b]):=by rw[h1,h2]
theorem zab (part comp:zA)(w:zW)(hp:part.size<=9223372036854775807)(hs:comp.size<=9223372036854775807):
  Calls prog 109 #[zS part,zS comp] w fun e w'=>e=.returned (.tuple #[zS (za6 part comp),.bool (za7 part comp)])/\w=w':=by
 have HI:=hd_ (z92 part w);have HC:=hd_ (Tryz.strings_CutSuffix comp (part.extract 1 part.size) w hs);cases hst:z8r part with
 | false =>
  have HV:Hid (za6 part comp=⟨#[]⟩/\za7 part comp=decide (part=comp)):=hd_ (by unfold za6 za7;rw[hst];exact⟨rfl,rfl⟩)
  have HE:=hd_ (za9 part comp);rw[hst] at HI;clear hst;go_enter func109,ntmps109;go_wp2_with (go_at_call 110;refine HI.mono ?_;rintro e w' ⟨rfl,rfl⟩)
  go_ret2;exact⟨zaa HV.1.symm (by rw[HV.out.2];exact HE),rfl⟩
 | true =>
  have h1:1<=part.size:=za8 hst;have HV:Hid (za6 part comp=⟨(Lib.trimSuffix comp.data.toList (za5 part).data.toList).toArray⟩/\za7 part comp=(Lib.hasSuffix comp.data.toList (za5 part).data.toList && !decide (za6 part comp=z2r))):=hd_ ⟨by unfold za6;rw[hst];rfl,by unfold za7;rw[hst];rfl⟩
  rw[hst] at HI;clear hst;change Hid (Calls prog 165 #[zS comp,zS (part.extract 1 part.size)] w fun e w'=>e=.returned (.tuple #[zS ⟨(Lib.trimSuffix comp.data.toList (za5 part).data.toList).toArray⟩,.bool (Lib.hasSuffix comp.data.toList (za5 part).data.toList)])/\w'=w) at HC;generalize (⟨(Lib.trimSuffix comp.data.toList (za5 part).data.toList).toArray⟩:zA)=x at HC HV;generalize Lib.hasSuffix comp.data.toList (za5 part).data.toList=ok at HC HV;have HE:=hd_ (za9 x ⟨#[]⟩);go_enter func109,ntmps109;cases ok with
  | false =>
   go_wp2_with (first
    | (go_at_call 110;refine HI.mono ?_;rintro e w' ⟨rfl,rfl⟩)
    | (go_at_call 165;refine HC.mono ?_;rintro e w' ⟨rfl,rfl⟩))
   go_ret2;exact⟨zaa HV.1.symm (by rw[HV.out.2];rfl),rfl⟩
  | true =>
   by_cases hx:x=⟨#[]⟩
   ·have HX:=hd_ hx;have q:(x.toList == (⟨#[]⟩:zA).toList)=true:=by rw[HE.out];simpa using hx
    have q2:x.toList=[]:=by rw[hx,ByteArray.toList_eq]
    clear hx;go_wp2_with (first
     | (go_at_call 110;refine HI.mono ?_;rintro e w' ⟨rfl,rfl⟩)
     | (go_at_call 165;refine HC.mono ?_;rintro e w' ⟨rfl,rfl⟩))
    go_ret2;exact⟨zaa HV.1.symm (by rw[HV.out.2,HV.out.1,HX.out];rfl),rfl⟩
   ·have HX:=hd_ hx;have q:(x.toList == (⟨#[]⟩:zA).toList)=false:=by rw[HE.out];simpa using hx
    have q2:¬ x.toList=[]:=fun h=>hx (toList_inj.1 (h.trans (by rw[ByteArray.toList_eq])))
    have q3:x.toList.isEmpty=false:=by cases hh:x.toList;exact absurd hh q2;rfl
    clear hx;go_wp2_with (first
     | (go_at_call 110;refine HI.mono ?_;rintro e w' ⟨rfl,rfl⟩)
     | (go_at_call 165;refine HC.mono ?_;rintro e w' ⟨rfl,rfl⟩))
    go_ret2;exact⟨zaa HV.1.symm (by rw[HV.out.2,HV.out.1,decide_eq_false (show ¬ x=z2r from HX.out)];rfl),rfl⟩
