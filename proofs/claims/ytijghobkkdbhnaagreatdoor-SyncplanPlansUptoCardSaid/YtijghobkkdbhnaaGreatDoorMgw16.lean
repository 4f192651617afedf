/- A part. -/
import Derived.Test.YtijghobkkdbhnaaGreatDoorMgw11
import Derived.Test.YtijghobkkdbhnaaGreatDoorMgw15
import Derived.ShutString
import Derived.ChangeOld
import Derived.Deep.Slices
import Derived.Deep.Fields
import Derived.ChangeSlices
set_option linter.unusedVariables false
set_option linter.unusedSimpArgs false
set_option maxHeartbeats 8000000
set_option maxRecDepth 100000
namespace Go.Proofs.YtijghobkkdbhnaaGreatDoor
open Go.Proofs.Tryz
open Go.RowKit
theorem ze3 (f:ByteArray→Option Rev)(p:ByteArray):z2w f p=((f p).isSome && z2v (z2x f p).act):=by
 unfold z2w z2x;cases f p <;> rfl
theorem ze4 {w:World}{g:Nat}{e:TypeId}{a0 a1 a2 a3 a4 a5 a6 a7 a8 a9 a10 a11:Value}(h:Blk w g e [a0,a1,a2,a3,a4,a5,a6,a7,a8,a9,a10,a11]):
  w.frozen? ⟨g,0,none⟩=false∧w.frozen? ⟨g,1,none⟩=false∧w.frozen? ⟨g,2,none⟩=false∧w.frozen? ⟨g,3,none⟩=false∧w.frozen? ⟨g,4,none⟩=false∧w.frozen? ⟨g,5,none⟩=false ∧
  w.frozen? ⟨g,6,none⟩=false∧w.frozen? ⟨g,7,none⟩=false∧w.frozen? ⟨g,8,none⟩=false∧w.frozen? ⟨g,9,none⟩=false∧w.frozen? ⟨g,10,none⟩=false∧w.frozen? ⟨g,11,none⟩=false:=
 ⟨h.frozen 0,h.frozen 1,h.frozen 2,h.frozen 3,h.frozen 4,h.frozen 5,h.frozen 6,h.frozen 7,h.frozen 8,h.frozen 9,h.frozen 10,h.frozen 11⟩
theorem ze5 {w:World}{g:Nat}{e:TypeId}{a0 a1 a2 a3 a4 a5 a6 a7 a8 a9 a10 a11:Value}(h:Blk w g e [a0,a1,a2,a3,a4,a5,a6,a7,a8,a9,a10,a11])(r:Rev):
  Blk ((((((((((((w.setCell ⟨g,0,none⟩ (.string r.path)).setCell ⟨g,1,none⟩ (.int .i64 r.num)).setCell ⟨g,2,none⟩ (.int .i64 r.chg)).setCell ⟨g,3,none⟩ (.int .i64 r.act)).setCell ⟨g,4,none⟩ (.int .i64 r.ty.base)).setCell ⟨g,5,none⟩ (.bool r.ty.k)).setCell ⟨g,6,none⟩ (.bool r.ty.l)).setCell ⟨g,7,none⟩ (.bool r.ty.x)).setCell ⟨g,8,none⟩ (.int .u64 r.sum)).setCell ⟨g,9,none⟩ (.int .i64 r.size)).setCell ⟨g,10,none⟩ (.string r.frm)).setCell ⟨g,11,none⟩ (.int .i64 r.fnum)) g e [.string r.path,.int .i64 r.num,.int .i64 r.chg,.int .i64 r.act,.int .i64 r.ty.base,.bool r.ty.k,.bool r.ty.l,.bool r.ty.x,.int .u64 r.sum,.int .i64 r.size,.string r.frm,.int .i64 r.fnum]:=
 ((((((((((((h.set_ 0 _).set_ 1 _).set_ 2 _).set_ 3 _).set_ 4 _).set_ 5 _).set_ 6 _).set_ 7 _).set_ 8 _).set_ 9 _).set_ 10 _).set_ 11 _)
theorem ze6 {B:Nat}{w0 w:World}{g:Nat}(h:Below B w0 w)(hg:B≤g)(r:Rev):Below B w0 ((((((((((((w.setCell ⟨g,0,none⟩ (.string r.path)).setCell ⟨g,1,none⟩ (.int .i64 r.num)).setCell ⟨g,2,none⟩ (.int .i64 r.chg)).setCell ⟨g,3,none⟩ (.int .i64 r.act)).setCell ⟨g,4,none⟩ (.int .i64 r.ty.base)).setCell ⟨g,5,none⟩ (.bool r.ty.k)).setCell ⟨g,6,none⟩ (.bool r.ty.l)).setCell ⟨g,7,none⟩ (.bool r.ty.x)).setCell ⟨g,8,none⟩ (.int .u64 r.sum)).setCell ⟨g,9,none⟩ (.int .i64 r.size)).setCell ⟨g,10,none⟩ (.string r.frm)).setCell ⟨g,11,none⟩ (.int .i64 r.fnum)):=
 ((((((((((((h.setCell hg _).setCell hg _).setCell hg _).setCell hg _).setCell hg _).setCell hg _).setCell hg _).setCell hg _).setCell hg _).setCell hg _).setCell hg _).setCell hg _)
theorem ze7 (f:ByteArray→Option Rev)(p:ByteArray)(g:Nat)(dv dr ev rv:Value)(n:Int)(cl tx:ByteArray)(bl be bn:Nat)(w:World)(hk:Chk w g dv dr n cl tx ev rv bl be bn)(hL:z7w w bl f):
  Calls prog 232 #[.pointer (some ⟨g,0,none⟩),.string p] w
   fun e w'=>e=.returned (.tuple #[.agg #[.string (z2x f p).path,.int .i64 (z2x f p).num,.int .i64 (z2x f p).chg,.int .i64 (z2x f p).act,.int .i64 (z2x f p).ty.base,.bool (z2x f p).ty.k,.bool (z2x f p).ty.l,.bool (z2x f p).ty.x,.int .u64 (z2x f p).sum,.int .i64 (z2x f p).size,.string (z2x f p).frm,.int .i64 (z2x f p).fnum],.bool (z2w f p)])∧Below w.heap.size w w':=by
 have hbW:Below w.heap.size w (w.alloc (.cells #[.string ⟨#[]⟩,.int .i64 0,.int .i64 0,.int .i64 0,.int .i64 0,.bool false,.bool false,.bool false,.int .u64 0,.int .i64 0,.string ⟨#[]⟩,.int .i64 0] 90)):=(Below.refl _ _).alloc (Nat.le_refl _) _;have hK:Chk (w.alloc (.cells #[.string ⟨#[]⟩,.int .i64 0,.int .i64 0,.int .i64 0,.int .i64 0,.bool false,.bool false,.bool false,.int .u64 0,.int .i64 0,.string ⟨#[]⟩,.int .i64 0] 90)) g dv dr n cl tx ev rv bl be bn:=Blk.below hk hbW (Blk.lt hk);have hlk:=z7w.look2 (w:=w.alloc (.cells #[.string ⟨#[]⟩,.int .i64 0,.int .i64 0,.int .i64 0,.int .i64 0,.bool false,.bool false,.bool false,.int .u64 0,.int .i64 0,.string ⟨#[]⟩,.int .i64 0] 90)) (z2f.below hL hbW) p;obtain⟨-,-,-,-,-,k7,-,-⟩:=z4a hK;clear hK;have HL:=hd_ (ze3 f p);have hgl:=Blk.lt hk;generalize z2x f p=r at hlk HL ⊢;generalize (f p).isSome=b at hlk HL;obtain⟨W,hW⟩:∃ W,W=(w.alloc (.cells #[.string ⟨#[]⟩,.int .i64 0,.int .i64 0,.int .i64 0,.int .i64 0,.bool false,.bool false,.bool false,.int .u64 0,.int .i64 0,.string ⟨#[]⟩,.int .i64 0] 90)).alloc (.cells #[.string r.path,.int .i64 r.num,.int .i64 r.chg,.int .i64 r.act,.int .i64 r.ty.base,.bool r.ty.k,.bool r.ty.l,.bool r.ty.x,.int .u64 r.sum,.int .i64 r.size,.string r.frm,.int .i64 r.fnum] 90):=⟨_,rfl⟩;have hbW2:Below w.heap.size w W:=by rw[hW];exact hbW.alloc hbW.size _
 have hZ:Blk W w.heap.size 90 [.string ⟨#[]⟩,.int .i64 0,.int .i64 0,.int .i64 0,.int .i64 0,.bool false,.bool false,.bool false,.int .u64 0,.int .i64 0,.string ⟨#[]⟩,.int .i64 0]:=by rw[hW];exact (z0l w _ _).alloc _
 have hR:Blk W (w.heap.size+1) 90 [.string r.path,.int .i64 r.num,.int .i64 r.chg,.int .i64 r.act,.int .i64 r.ty.base,.bool r.ty.k,.bool r.ty.l,.bool r.ty.x,.int .u64 r.sum,.int .i64 r.size,.string r.frm,.int .i64 r.fnum]:=by
  rw[hW];have:=z0l (w.alloc (.cells #[.string ⟨#[]⟩,.int .i64 0,.int .i64 0,.int .i64 0,.int .i64 0,.bool false,.bool false,.bool false,.int .u64 0,.int .i64 0,.string ⟨#[]⟩,.int .i64 0] 90)) [.string r.path,.int .i64 r.num,.int .i64 r.chg,.int .i64 r.act,.int .i64 r.ty.base,.bool r.ty.k,.bool r.ty.l,.bool r.ty.x,.int .u64 r.sum,.int .i64 r.size,.string r.frm,.int .i64 r.fnum] 90;simpa using this
 have HW:=hd_ hW;clear hW;obtain⟨c0,c1,c2,c3,c4,c5,c6,c7,c8,c9,c10,c11⟩:=z84 hR;obtain⟨z0,z1,z2,z3,z4,z5,z6,z7,z8,z9,z10,z11⟩:=z84 hZ;obtain⟨y0,y1,y2,y3,y4,y5,y6,y7,y8,y9,y10,y11⟩:=ze4 hZ;cases b
 ·go_enter func232,ntmps232;go_wp2_with fail;rw[← HW.out];clear hlk k7 hbW;go_region
  have hZ2:=ze5 hZ r;have hB2:=ze6 hbW2 (Nat.le_refl w.heap.size) r;generalize ((((((((((((W.setCell ⟨w.heap.size,0,none⟩ (.string r.path)).setCell ⟨w.heap.size,1,none⟩ (.int .i64 r.num)).setCell ⟨w.heap.size,2,none⟩ (.int .i64 r.chg)).setCell ⟨w.heap.size,3,none⟩ (.int .i64 r.act)).setCell ⟨w.heap.size,4,none⟩ (.int .i64 r.ty.base)).setCell ⟨w.heap.size,5,none⟩ (.bool r.ty.k)).setCell ⟨w.heap.size,6,none⟩ (.bool r.ty.l)).setCell ⟨w.heap.size,7,none⟩ (.bool r.ty.x)).setCell ⟨w.heap.size,8,none⟩ (.int .u64 r.sum)).setCell ⟨w.heap.size,9,none⟩ (.int .i64 r.size)).setCell ⟨w.heap.size,10,none⟩ (.string r.frm)).setCell ⟨w.heap.size,11,none⟩ (.int .i64 r.fnum))=W3 at hZ2 hB2 ⊢;go_wp2_with fail;obtain⟨e0,e1,e2,e3,e4,e5,e6,e7,e8,e9,e10,e11⟩:=z84 hZ2;refine bodyPost_ret (v:=.tuple #[.agg #[.string r.path,.int .i64 r.num,.int .i64 r.chg,.int .i64 r.act,.int .i64 r.ty.base,.bool r.ty.k,.bool r.ty.l,.bool r.ty.x,.int .u64 r.sum,.int .i64 r.size,.string r.frm,.int .i64 r.fnum],.bool false]) (by simp [results,results232,go_sem,e0,e1,e2,e3,e4,e5,e6,e7,e8,e9,e10,e11]) rfl ⟨?_,hB2.drew⟩
  rw[HL.out];rfl
 ·go_enter func232,ntmps232;go_wp2_with fail;rw[← HW.out];clear hlk k7 hbW;go_region_with (go_at_call 234;refine (z3f _ _).mono ?_;rintro e w' ⟨rfl,rfl⟩)
  all_goals
   have hZ2:=ze5 hZ r;have hB2:=ze6 hbW2 (Nat.le_refl w.heap.size) r;generalize ((((((((((((W.setCell ⟨w.heap.size,0,none⟩ (.string r.path)).setCell ⟨w.heap.size,1,none⟩ (.int .i64 r.num)).setCell ⟨w.heap.size,2,none⟩ (.int .i64 r.chg)).setCell ⟨w.heap.size,3,none⟩ (.int .i64 r.act)).setCell ⟨w.heap.size,4,none⟩ (.int .i64 r.ty.base)).setCell ⟨w.heap.size,5,none⟩ (.bool r.ty.k)).setCell ⟨w.heap.size,6,none⟩ (.bool r.ty.l)).setCell ⟨w.heap.size,7,none⟩ (.bool r.ty.x)).setCell ⟨w.heap.size,8,none⟩ (.int .u64 r.sum)).setCell ⟨w.heap.size,9,none⟩ (.int .i64 r.size)).setCell ⟨w.heap.size,10,none⟩ (.string r.frm)).setCell ⟨w.heap.size,11,none⟩ (.int .i64 r.fnum))=W3 at hZ2 hB2 ⊢;go_wp2_with fail;obtain⟨e0,e1,e2,e3,e4,e5,e6,e7,e8,e9,e10,e11⟩:=z84 hZ2;refine bodyPost_ret (v:=.tuple #[.agg #[.string r.path,.int .i64 r.num,.int .i64 r.chg,.int .i64 r.act,.int .i64 r.ty.base,.bool r.ty.k,.bool r.ty.l,.bool r.ty.x,.int .u64 r.sum,.int .i64 r.size,.string r.frm,.int .i64 r.fnum],.bool (z2v r.act)]) (by simp [results,results232,go_sem,e0,e1,e2,e3,e4,e5,e6,e7,e8,e9,e10,e11]) rfl ⟨?_,hB2.drew⟩
   rw[HL.out];rfl
theorem at_fn (m:Int)(B:Nat)(r:Rev)(w:World)(hB:w.cell? ⟨B,0,none⟩=some (.int .i64 m)):Calls prog 73 #[.agg #[.string r.path,.int .i64 r.num,.int .i64 r.chg,.int .i64 r.act,.int .i64 r.ty.base,.bool r.ty.k,.bool r.ty.l,.bool r.ty.x,.int .u64 r.sum,.int .i64 r.size,.string r.frm,.int .i64 r.fnum],.pointer (some ⟨B,0,none⟩)] w fun e w'=>e=.returned (.bool ((fun v:Rev=>decide (v.chg≤m)) r))∧Below w.heap.size w w':=by
 have hBl:=z03 hB;go_enter func73,ntmps73;go_wp2_with fail;go_ret;exact⟨z0w (rfl),(Below.refl _ _).alloc (Nat.le_refl _) _⟩
theorem zei (revs:List Rev)(q:ByteArray)(m:Int)(B:Nat)(dv dr:Value)(w:World)(hR:z45 w dv revs)(hB:w.cell? ⟨B,0,none⟩=some (.int .i64 m))(hl:revs.length≤1000000):
  Calls prog 72 #[.agg #[dv,dr],.string q,.func (.func 73) #[] #[.pointer (some ⟨B,0,none⟩)]] w
   fun e w'=>e=.returned (.tuple #[.agg #[.string (zeh (z30 revs q (fun v:Rev=>decide (v.chg≤m)))).path,.int .i64 (zeh (z30 revs q (fun v:Rev=>decide (v.chg≤m)))).num,.int .i64 (zeh (z30 revs q (fun v:Rev=>decide (v.chg≤m)))).chg,.int .i64 (zeh (z30 revs q (fun v:Rev=>decide (v.chg≤m)))).act,.int .i64 (zeh (z30 revs q (fun v:Rev=>decide (v.chg≤m)))).ty.base,.bool (zeh (z30 revs q (fun v:Rev=>decide (v.chg≤m)))).ty.k,.bool (zeh (z30 revs q (fun v:Rev=>decide (v.chg≤m)))).ty.l,.bool (zeh (z30 revs q (fun v:Rev=>decide (v.chg≤m)))).ty.x,.int .u64 (zeh (z30 revs q (fun v:Rev=>decide (v.chg≤m)))).sum,.int .i64 (zeh (z30 revs q (fun v:Rev=>decide (v.chg≤m)))).size,.string (zeh (z30 revs q (fun v:Rev=>decide (v.chg≤m)))).frm,.int .i64 (zeh (z30 revs q (fun v:Rev=>decide (v.chg≤m)))).fnum],.bool (z30 revs q (fun v:Rev=>decide (v.chg≤m))).isSome])∧Below w.heap.size w w':=by
 obtain⟨Ar,cr,rfl,hcr,hmr,-⟩:=id hR;have HR:=hd_ hR;clear hR;unfold maxLen at hmr;rw[zeg];have HF:=hd_ (fun(r:Rev) (W:World) (hb:Below w.heap.size w W)=>at_fn m B r W (z04 hB hb (z03 hB)));have hb0:Below w.heap.size w (((w.alloc (.cells #[.slice Ar revs.length cr,dr] 27)).alloc (.cells #[.string ⟨#[]⟩,.int .i64 0,.int .i64 0,.int .i64 0,.int .i64 0,.bool false,.bool false,.bool false,.int .u64 0,.int .i64 0,.string ⟨#[]⟩,.int .i64 0] 90)).alloc (.cells #[.string ⟨#[]⟩,.int .i64 0,.int .i64 0,.int .i64 0,.int .i64 0,.bool false,.bool false,.bool false,.int .u64 0,.int .i64 0,.string ⟨#[]⟩,.int .i64 0] 90)):=(((Below.refl _ _).alloc (Nat.le_refl _) _).alloc (by simp) _).alloc (by simp;omega) _
 generalize (fun v:Rev=>decide (v.chg≤m))=p at HF ⊢;go_enter func72,ntmps72;go_wp2_with fail;go_loopw [9,15] (fun o i wr=>∃(k:Nat),k≤revs.length∧i=.int .i64 k∧Below w.heap.size w wr∧o=.bool ((revs.take k).foldl (zef q p) none).isSome∧Blk wr (w.heap.size+1) 90 [.string ⟨#[]⟩,.int .i64 0,.int .i64 0,.int .i64 0,.int .i64 0,.bool false,.bool false,.bool false,.int .u64 0,.int .i64 0,.string ⟨#[]⟩,.int .i64 0]∧Blk wr (w.heap.size+1+1) 90 [.string (zeh ((revs.take k).foldl (zef q p) none)).path,.int .i64 (zeh ((revs.take k).foldl (zef q p) none)).num,.int .i64 (zeh ((revs.take k).foldl (zef q p) none)).chg,.int .i64 (zeh ((revs.take k).foldl (zef q p) none)).act,.int .i64 (zeh ((revs.take k).foldl (zef q p) none)).ty.base,.bool (zeh ((revs.take k).foldl (zef q p) none)).ty.k,.bool (zeh ((revs.take k).foldl (zef q p) none)).ty.l,.bool (zeh ((revs.take k).foldl (zef q p) none)).ty.x,.int .u64 (zeh ((revs.take k).foldl (zef q p) none)).sum,.int .i64 (zeh ((revs.take k).foldl (zef q p) none)).size,.string (zeh ((revs.take k).foldl (zef q p) none)).frm,.int .i64 (zeh ((revs.take k).foldl (zef q p) none)).fnum]) (fun _ i _=>revs.length - (intOf i).toNat)
 case atStart =>
  refine⟨0,Nat.zero_le _,rfl,hb0,rfl,?_,?_⟩
  ·have:=z0l (w.alloc (.cells #[.slice Ar revs.length cr,dr] 27)) [.string ⟨#[]⟩,.int .i64 0,.int .i64 0,.int .i64 0,.int .i64 0,.bool false,.bool false,.bool false,.int .u64 0,.int .i64 0,.string ⟨#[]⟩,.int .i64 0] 90;have:=this.alloc (.cells #[.string ⟨#[]⟩,.int .i64 0,.int .i64 0,.int .i64 0,.int .i64 0,.bool false,.bool false,.bool false,.int .u64 0,.int .i64 0,.string ⟨#[]⟩,.int .i64 0] 90);simpa using this
  ·have:=z0l ((w.alloc (.cells #[.slice Ar revs.length cr,dr] 27)).alloc (.cells #[.string ⟨#[]⟩,.int .i64 0,.int .i64 0,.int .i64 0,.int .i64 0,.bool false,.bool false,.bool false,.int .u64 0,.int .i64 0,.string ⟨#[]⟩,.int .i64 0] 90)) [.string ⟨#[]⟩,.int .i64 0,.int .i64 0,.int .i64 0,.int .i64 0,.bool false,.bool false,.bool false,.int .u64 0,.int .i64 0,.string ⟨#[]⟩,.int .i64 0] 90;simp only[World.size_alloc] at this
   exact this
 case round =>
  obtain⟨k,hk,rfl,hbr,rfl,hZ,hF⟩:=hrel;by_cases hlt:k<revs.length
  ·obtain⟨ad,rfl,hab,hld⟩:=z45.at_ (HR.out.below hbr) hlt;have HT:=hd_ (show revs.take (k+1)=revs.take k++[revs[k]] from List.take_succ_eq_append_getElem hlt);have HG:Hid ((revs.take (k+1)).foldl (zef q p) none=zef q p ((revs.take k).foldl (zef q p) none) revs[k]):=hd_ (by rw[HT.out,List.foldl_append];rfl)
   generalize revs[k]=r at hld HT HG;generalize (revs.take k).foldl (zef q p) none=o at hF HG;obtain⟨x0,x1,x2,x3,x4,x5,x6,x7,x8,x9,x10,x11⟩:=hld;have hbx:=hbr.alloc hbr.size (.cells #[.string r.path,.int .i64 r.num,.int .i64 r.chg,.int .i64 r.act,.int .i64 r.ty.base,.bool r.ty.k,.bool r.ty.l,.bool r.ty.x,.int .u64 r.sum,.int .i64 r.size,.string r.frm,.int .i64 r.fnum] 90);have hZx:=hZ.alloc (.cells #[.string r.path,.int .i64 r.num,.int .i64 r.chg,.int .i64 r.act,.int .i64 r.ty.base,.bool r.ty.k,.bool r.ty.l,.bool r.ty.x,.int .u64 r.sum,.int .i64 r.size,.string r.frm,.int .i64 r.fnum] 90);have hFx:=hF.alloc (.cells #[.string r.path,.int .i64 r.num,.int .i64 r.chg,.int .i64 r.act,.int .i64 r.ty.base,.bool r.ty.k,.bool r.ty.l,.bool r.ty.x,.int .u64 r.sum,.int .i64 r.size,.string r.frm,.int .i64 r.fnum] 90);have hX:=z0l wr [.string r.path,.int .i64 r.num,.int .i64 r.chg,.int .i64 r.act,.int .i64 r.ty.base,.bool r.ty.k,.bool r.ty.l,.bool r.ty.x,.int .u64 r.sum,.int .i64 r.size,.string r.frm,.int .i64 r.fnum] 90;by_cases hp:r.path=q
   ·have HC:=hd_ (HF.out r (wr.alloc (.cells #[.string r.path,.int .i64 r.num,.int .i64 r.chg,.int .i64 r.act,.int .i64 r.ty.base,.bool r.ty.k,.bool r.ty.l,.bool r.ty.x,.int .u64 r.sum,.int .i64 r.size,.string r.frm,.int .i64 r.fnum] 90)) hbx);cases hpr:p r
    ·rw[hpr] at HC;have HS:Hid (zef q p o r=o):=hd_ (by unfold zef;rw[hpr];simp)
     clear hpr;subst hp;go_wp2_with fail;refine HC.out.mono ?_;rintro e w2 ⟨rfl,hb2⟩;go_wp2_with fail;go_roundw
     case rel=>exact⟨k+1,by omega,by go_num,z0r hbx hb2,by rw[HG.out,HS.out],hZx.below hb2 hZx.lt,by rw[HG.out,HS.out];exact hFx.below hb2 hFx.lt⟩
     case measure=>simp [intOf];omega
    ·rw[hpr] at HC;have hnew:∀ b:Bool,o.isSome=false∨(zeh o).num<r.num→zef q p o r=some r:=by
      intro b h;unfold zef;rw[if_pos ⟨hp,hpr⟩];cases o with
      | none=>rfl
      | some x =>
       rcases h with h | h
       ·cases h
       ·exact if_pos h
     have hold:o.isSome=true→¬(zeh o).num<r.num→zef q p o r=o:=by
      intro h1 h2;unfold zef;rw[if_pos ⟨hp,hpr⟩];cases o with
      | none=>cases h1
      | some x=>exact if_neg h2
     clear hpr;subst hp;by_cases hn:o.isSome=false∨(zeh o).num<r.num
     ·have HS:=hd_ (hnew true hn);clear hnew hold;cases hos:o.isSome
      ·clear hn;go_wp2_with fail;refine HC.out.mono ?_;rintro e w2 ⟨rfl,hb2⟩;have hX2:=hX.below hb2 hX.lt;have hF2:=hFx.below hb2 hFx.lt;have hZ2:=hZx.below hb2 hZx.lt;have hbw2:=z0r hbx hb2;obtain⟨c0,c1,c2,c3,c4,c5,c6,c7,c8,c9,c10,c11⟩:=z84 hX2;obtain⟨f0,f1,f2,f3,f4,f5,f6,f7,f8,f9,f10,f11⟩:=z84 hF2;obtain⟨y0,y1,y2,y3,y4,y5,y6,y7,y8,y9,y10,y11⟩:=ze4 hF2;clear hb2;have hF3:=ze5 hF2 r;have hB3:=ze6 hbw2 (show w.heap.size≤w.heap.size+1+1 by omega) r
       have hZ3:=far12 hZ2 (show w.heap.size+1+1≠w.heap.size+1 by omega) r
       go_wp2_with fail;go_roundw
       case rel=>exact⟨k+1,by omega,by go_num,hB3,by rw[HG.out,HS.out];rfl,hZ3,by rw[HG.out,HS.out];exact hF3⟩
       case measure=>simp [intOf];omega
      ·have hn2:(zeh o).num<r.num:=by rcases hn with h | h;(rw[hos] at h;cases h);exact h
       clear hn;go_wp2_with fail;refine HC.out.mono ?_;rintro e w2 ⟨rfl,hb2⟩;have hX2:=hX.below hb2 hX.lt;have hF2:=hFx.below hb2 hFx.lt;have hZ2:=hZx.below hb2 hZx.lt;have hbw2:=z0r hbx hb2;obtain⟨c0,c1,c2,c3,c4,c5,c6,c7,c8,c9,c10,c11⟩:=z84 hX2;obtain⟨f0,f1,f2,f3,f4,f5,f6,f7,f8,f9,f10,f11⟩:=z84 hF2;obtain⟨y0,y1,y2,y3,y4,y5,y6,y7,y8,y9,y10,y11⟩:=ze4 hF2;clear hb2;have hF3:=ze5 hF2 r;have hB3:=ze6 hbw2 (show w.heap.size≤w.heap.size+1+1 by omega) r
       have hZ3:=far12 hZ2 (show w.heap.size+1+1≠w.heap.size+1 by omega) r
       go_wp2_with fail;go_roundw
       case rel=>exact⟨k+1,by omega,by go_num,hB3,by rw[HG.out,HS.out];rfl,hZ3,by rw[HG.out,HS.out];exact hF3⟩
       case measure=>simp [intOf];omega
     ·rw[not_or] at hn;have hos:o.isSome=true:=by
       cases h:o.isSome
       ·exact absurd h hn.1
       ·rfl
      have hn2:¬(zeh o).num<r.num:=hn.2;have HS:=hd_ (hold hos hn2);clear hnew hold hn;go_wp2_with fail;refine HC.out.mono ?_;rintro e w2 ⟨rfl,hb2⟩;have hX2:=hX.below hb2 hX.lt;have hF2:=hFx.below hb2 hFx.lt;have hZ2:=hZx.below hb2 hZx.lt;have hbw2:=z0r hbx hb2;obtain⟨c0,c1,c2,c3,c4,c5,c6,c7,c8,c9,c10,c11⟩:=z84 hX2;obtain⟨f0,f1,f2,f3,f4,f5,f6,f7,f8,f9,f10,f11⟩:=z84 hF2;clear hb2;go_wp2_with fail;go_roundw
      case rel=>exact⟨k+1,by omega,by go_num,hbw2,by rw[HG.out,HS.out,hos],hZ2,by rw[HG.out,HS.out];exact hF2⟩
      case measure=>simp [intOf];omega
   ·have HS:Hid (zef q p o r=o):=hd_ (by unfold zef;rw[if_neg (fun h=>hp h.1)])
    have sq:=zec r.path q;rw[show decide (r.path=q)=false by simpa using hp] at sq
    clear hp;go_wp2_with fail;go_roundw
    case rel=>exact⟨k+1,by omega,by go_num,hbx,by rw[HG.out,HS.out],hZx,by rw[HG.out,HS.out];exact hFx⟩
    case measure=>simp [intOf];omega
  ·rw[List.take_of_length_le (by omega)] at hF ⊢
   obtain⟨o,ho⟩:∃ o,revs.foldl (zef q p) none=o:=⟨_,rfl⟩;rw[ho] at hF ⊢;obtain⟨r,hr⟩:∃ r,zeh o=r:=⟨_,rfl⟩;rw[hr] at hF;have HO:=hd_ ho;have HR2:=hd_ hr;clear ho hr;obtain⟨f0,f1,f2,f3,f4,f5,f6,f7,f8,f9,f10,f11⟩:=z84 hF;obtain⟨z0,z1,z2,z3,z4,z5,z6,z7,z8,z9,z10,z11⟩:=z84 hZ;obtain⟨y0,y1,y2,y3,y4,y5,y6,y7,y8,y9,y10,y11⟩:=ze4 hZ;go_wp2_with fail;have hZ3:=ze5 hZ r;have hB3:=ze6 hbr (show w.heap.size≤w.heap.size+1 by omega) r
   generalize ((((((((((((wr.setCell ⟨w.heap.size+1,0,none⟩ (.string r.path)).setCell ⟨w.heap.size+1,1,none⟩ (.int .i64 r.num)).setCell ⟨w.heap.size+1,2,none⟩ (.int .i64 r.chg)).setCell ⟨w.heap.size+1,3,none⟩ (.int .i64 r.act)).setCell ⟨w.heap.size+1,4,none⟩ (.int .i64 r.ty.base)).setCell ⟨w.heap.size+1,5,none⟩ (.bool r.ty.k)).setCell ⟨w.heap.size+1,6,none⟩ (.bool r.ty.l)).setCell ⟨w.heap.size+1,7,none⟩ (.bool r.ty.x)).setCell ⟨w.heap.size+1,8,none⟩ (.int .u64 r.sum)).setCell ⟨w.heap.size+1,9,none⟩ (.int .i64 r.size)).setCell ⟨w.heap.size+1,10,none⟩ (.string r.frm)).setCell ⟨w.heap.size+1,11,none⟩ (.int .i64 r.fnum))=W3 at hZ3 hB3 ⊢;obtain⟨e0,e1,e2,e3,e4,e5,e6,e7,e8,e9,e10,e11⟩:=z84 hZ3;exact bodyPost_ret (v:=.tuple #[.agg #[.string r.path,.int .i64 r.num,.int .i64 r.chg,.int .i64 r.act,.int .i64 r.ty.base,.bool r.ty.k,.bool r.ty.l,.bool r.ty.x,.int .u64 r.sum,.int .i64 r.size,.string r.frm,.int .i64 r.fnum],.bool o.isSome]) (by simp [results,results72,go_sem,e0,e1,e2,e3,e4,e5,e6,e7,e8,e9,e10,e11]) rfl ⟨by rw[HO.out,HR2.out],hB3⟩
theorem at_any (revs:List Rev)(q:ByteArray)(m:Int)(dv dr:Value)(w:World)(hR:z45 w dv revs)(hl:revs.length≤1000000):
  Calls prog 35 #[.agg #[dv,dr],.string q,.int .i64 m] w
   fun e w'=>e=.returned (.tuple #[.agg #[.string (zeh (z30 revs q (fun v:Rev=>decide (v.chg≤m)))).path,.int .i64 (zeh (z30 revs q (fun v:Rev=>decide (v.chg≤m)))).num,.int .i64 (zeh (z30 revs q (fun v:Rev=>decide (v.chg≤m)))).chg,.int .i64 (zeh (z30 revs q (fun v:Rev=>decide (v.chg≤m)))).act,.int .i64 (zeh (z30 revs q (fun v:Rev=>decide (v.chg≤m)))).ty.base,.bool (zeh (z30 revs q (fun v:Rev=>decide (v.chg≤m)))).ty.k,.bool (zeh (z30 revs q (fun v:Rev=>decide (v.chg≤m)))).ty.l,.bool (zeh (z30 revs q (fun v:Rev=>decide (v.chg≤m)))).ty.x,.int .u64 (zeh (z30 revs q (fun v:Rev=>decide (v.chg≤m)))).sum,.int .i64 (zeh (z30 revs q (fun v:Rev=>decide (v.chg≤m)))).size,.string (zeh (z30 revs q (fun v:Rev=>decide (v.chg≤m)))).frm,.int .i64 (zeh (z30 revs q (fun v:Rev=>decide (v.chg≤m)))).fnum],.bool (z30 revs q (fun v:Rev=>decide (v.chg≤m))).isSome])∧Below w.heap.size w w':=by
 have HR:=hd_ hR;obtain⟨Ar,cr,rfl,-⟩:=hR;obtain⟨dv,hdv⟩:∃ v,Value.slice Ar revs.length cr=v:=⟨_,rfl⟩;have hb0:Below w.heap.size w (((w.alloc (.cells #[(.slice Ar revs.length cr),dr] 27)).alloc (.cells #[.int .i64 m] 3)).alloc (.cells #[.string ⟨#[]⟩,.int .i64 0,.int .i64 0,.int .i64 0,.int .i64 0,.bool false,.bool false,.bool false,.int .u64 0,.int .i64 0,.string ⟨#[]⟩,.int .i64 0] 90)):=((((Below.refl _ _).alloc (Nat.le_refl _) _).alloc (by simp) _).alloc (by simp;omega) _)
 have hZ:Blk (((w.alloc (.cells #[(.slice Ar revs.length cr),dr] 27)).alloc (.cells #[.int .i64 m] 3)).alloc (.cells #[.string ⟨#[]⟩,.int .i64 0,.int .i64 0,.int .i64 0,.int .i64 0,.bool false,.bool false,.bool false,.int .u64 0,.int .i64 0,.string ⟨#[]⟩,.int .i64 0] 90)) (w.heap.size+1+1) 90 [.string ⟨#[]⟩,.int .i64 0,.int .i64 0,.int .i64 0,.int .i64 0,.bool false,.bool false,.bool false,.int .u64 0,.int .i64 0,.string ⟨#[]⟩,.int .i64 0]:=by
  have h1:=z0l ((w.alloc (.cells #[(.slice Ar revs.length cr),dr] 27)).alloc (.cells #[.int .i64 m] 3)) [.string ⟨#[]⟩,.int .i64 0,.int .i64 0,.int .i64 0,.int .i64 0,.bool false,.bool false,.bool false,.int .u64 0,.int .i64 0,.string ⟨#[]⟩,.int .i64 0] 90;simp only[World.size_alloc] at h1
  exact h1
 have hcell:(((w.alloc (.cells #[(.slice Ar revs.length cr),dr] 27)).alloc (.cells #[.int .i64 m] 3)).alloc (.cells #[.string ⟨#[]⟩,.int .i64 0,.int .i64 0,.int .i64 0,.int .i64 0,.bool false,.bool false,.bool false,.int .u64 0,.int .i64 0,.string ⟨#[]⟩,.int .i64 0] 90)).cell? ⟨w.heap.size+1,0,none⟩=some (.int .i64 m):=by
  have h1:=(z0l (w.alloc (.cells #[(.slice Ar revs.length cr),dr] 27)) [.int .i64 m] 3).alloc (.cells #[.string ⟨#[]⟩,.int .i64 0,.int .i64 0,.int .i64 0,.int .i64 0,.bool false,.bool false,.bool false,.int .u64 0,.int .i64 0,.string ⟨#[]⟩,.int .i64 0] 90);simp only[World.size_alloc] at h1
  exact h1.cell 0
 have HC:=hd_ (zei revs q m (w.heap.size+1) (.slice Ar revs.length cr) dr _ (HR.out.below hb0) hcell hl);clear hdv dv hcell;generalize z30 revs q (fun v:Rev=>decide (v.chg≤m))=o at HC ⊢;generalize zeh o=r at HC ⊢;go_enter func35,ntmps35;go_wp2_with fail;refine HC.out.mono ?_;rintro e w1 ⟨rfl,hb1⟩;have hZ1:=hZ.below hb1 hZ.lt;have hbw1:=z0r hb0 hb1;obtain⟨z0,z1,z2,z3,z4,z5,z6,z7,z8,z9,z10,z11⟩:=z84 hZ1;obtain⟨y0,y1,y2,y3,y4,y5,y6,y7,y8,y9,y10,y11⟩:=ze4 hZ1;clear hb1;go_wp2_with fail;have hZ3:=ze5 hZ1 r;have hB3:=ze6 hbw1 (show w.heap.size≤w.heap.size+1+1 by omega) r
 generalize ((((((((((((w1.setCell ⟨w.heap.size+1+1,0,none⟩ (.string r.path)).setCell ⟨w.heap.size+1+1,1,none⟩ (.int .i64 r.num)).setCell ⟨w.heap.size+1+1,2,none⟩ (.int .i64 r.chg)).setCell ⟨w.heap.size+1+1,3,none⟩ (.int .i64 r.act)).setCell ⟨w.heap.size+1+1,4,none⟩ (.int .i64 r.ty.base)).setCell ⟨w.heap.size+1+1,5,none⟩ (.bool r.ty.k)).setCell ⟨w.heap.size+1+1,6,none⟩ (.bool r.ty.l)).setCell ⟨w.heap.size+1+1,7,none⟩ (.bool r.ty.x)).setCell ⟨w.heap.size+1+1,8,none⟩ (.int .u64 r.sum)).setCell ⟨w.heap.size+1+1,9,none⟩ (.int .i64 r.size)).setCell ⟨w.heap.size+1+1,10,none⟩ (.string r.frm)).setCell ⟨w.heap.size+1+1,11,none⟩ (.int .i64 r.fnum))=W3 at hZ3 hB3 ⊢;obtain⟨e0,e1,e2,e3,e4,e5,e6,e7,e8,e9,e10,e11⟩:=z84 hZ3;exact bodyPost_ret (v:=.tuple #[.agg #[.string r.path,.int .i64 r.num,.int .i64 r.chg,.int .i64 r.act,.int .i64 r.ty.base,.bool r.ty.k,.bool r.ty.l,.bool r.ty.x,.int .u64 r.sum,.int .i64 r.size,.string r.frm,.int .i64 r.fnum],.bool o.isSome]) (by simp [results,results35,go_sem,e0,e1,e2,e3,e4,e5,e6,e7,e8,e9,e10,e11]) rfl ⟨rfl,hB3⟩
def zjp (hs:List Hav)(p:ByteArray):ByteArray:=((z6e hs p).map Hav.loc).getD z2l
section
variable {hs ws : List Hav} {op dt : List ByteArray}
theorem zjq {l:List Hav}{p:ByteArray}{a:Hav}(h:z6e l p=some a):a∈l∧a.path=p:=z61 h
theorem getH_of {l:List Hav}(h:zf6 l){a:Hav}(ha:a∈l):z6e l a.path=some a:=z65 h.srt ha
theorem zjr {b:ByteArray→Bool}{x:Syn}(h:z3o (zek b x).kind=false):b x.path=false∧z3o x.kind=false:=by
 rw[zeo] at h;cases e:b x.path <;> cases e2:z3o x.kind <;> simp_all
theorem zjs (h1:zf6 hs)(h2:zf6 ws){x:Syn}(hx:x∈zff hs ws op dt)(hd:z3o x.kind=false):
  ∃ y,z6j (z6e hs x.path) (z6e ws x.path)=some y∧y.path=x.path∧x=zfd op dt y∧x∈zfe hs ws op dt∧blB hs (zfe hs ws op dt) x.path=false:=by
 obtain⟨y,e1,e2,e3⟩:=zfl h1 h2 hx;rw[e2] at hd;obtain⟨d1,d2⟩:=zjr hd;have ek:(zfd op dt y).path=x.path:=e3;rw[ek] at d1;have ex:x=zfd op dt y:=by
  rw[e2];unfold zek
  rw[if_neg (by rw[ek,d1];decide)]
 refine⟨y,e1,e3,ex,?_,d1⟩;obtain⟨i1,i2⟩:=zfj (op:=op) (dt:=dt) h1 h2;have:=i2 x.path;rw[e1] at this;exact ex ▸ (z61 this).1
theorem zjt (h1:zf6 hs)(h2:zf6 ws){x:Syn}(hx:x∈zff hs ws op dt):zjo x (zjp hs x.path)=true:=by
 obtain⟨y,e1,e2,e3⟩:=zfl h1 h2 hx;have hr:=zen (blB hs (zfe hs ws op dt)) (zfd op dt y);rw[← e2] at hr;obtain⟨r1,r2,r3⟩:=hr;have hk:z3o x.kind=true∨x.kind=z3p x.frm x.dst:=by
  cases hst:z3o x.kind with
  | true=>exact .inl rfl
  | false =>
   right
   obtain⟨z,z1,-,zx,-,-⟩:=zjs h1 h2 hx hst;rw[zx] at hst ⊢;show zfc op dt z=z3p z.frm z.dst
   have hst':z3o (zfc op dt z)=false:=hst;unfold zfc at hst' ⊢
   split at hst'
   ·exact absurd hst' (by decide)
   ·rename_i c1
    rw[if_neg c1];split at hst'
    ·exact absurd hst' (by decide)
    ·rename_i c2
     rw[if_neg c2]
 have f1:x.num=y.num:=r1;have f2:x.frm=y.frm:=r2;have f3:x.dst=y.dst:=r3;have key:z3q x.path=true∧x.frm=zjp hs x.path∧¬(x.frm=z2l∧x.dst=z2l)∧(x.dst=z2l→x.num=0)∧(x.dst≠z2l→1≤x.num∧z3q x.dst=true):=by
  unfold zjp;rcases zfi e1 with⟨a,ea,ew,rfl⟩ | ⟨b,eh,eb,rfl⟩ | ⟨a,b,ea,eb,-,rfl⟩
  ·obtain⟨m,mp⟩:=zjq ea;have g1:x.frm=a.loc:=f2;have g2:x.dst=z2l:=f3;have g3:x.num=0:=f1;rw[g1,g2,g3,ea];exact⟨mp ▸ (zf7 (h1.ok a m)).1,rfl,fun h=>h1.locNe m h.1,fun _=>rfl,fun h=>absurd rfl h⟩
  ·obtain⟨m,mp⟩:=zjq eb;have g1:x.frm=z2l:=f2;have g2:x.dst=b.loc:=f3;have g3:x.num=b.num:=f1;rw[g1,g2,g3,eh];exact⟨mp ▸ (zf7 (h2.ok b m)).1,rfl,fun h=>h2.locNe m h.2,fun h=>absurd h (h2.locNe m),fun _=>⟨(zf7 (h2.ok b m)).2.2,(zf7 (h2.ok b m)).2.1⟩⟩
  ·obtain⟨m,mp⟩:=zjq ea;obtain⟨m2,-⟩:=zjq eb;have g1:x.frm=a.loc:=f2;have g2:x.dst=b.loc:=f3;have g3:x.num=b.num:=f1;rw[g1,g2,g3,ea];exact⟨mp ▸ (zf7 (h1.ok a m)).1,rfl,fun h=>h1.locNe m h.1,fun h=>absurd h (h2.locNe m2),fun _=>⟨(zf7 (h2.ok b m2)).2.2,(zf7 (h2.ok b m2)).2.1⟩⟩
 obtain⟨k1,k2,k3,k4,k5⟩:=key;unfold zjo;rw[k1,← k2];simp only[Bool.true_and,decide_true,Bool.and_eq_true,Bool.or_eq_true,Bool.not_eq_true',Bool.and_eq_false_iff,decide_eq_false_iff_not,beq_iff_eq]
 refine⟨⟨?_,?_⟩,hk⟩
 ·by_cases c:x.frm=z2l
  ·exact .inr fun c2=>k3 ⟨c,c2⟩
  ·exact .inl c
 ·by_cases c:x.dst=z2l
  ·rw[if_pos c];simpa using k4 c
  ·rw[if_neg c];obtain⟨q1,q2⟩:=k5 c;rw[q2];simpa using q1
end
def zlb:List Hav→ByteArray→Nat×Bool
 | [],_=>(0,false)
 | x :: l,p=>if x.path=p then (0,true) else if 0<z2u x.path p then (0,false) else ((zlb l p).1+1,(zlb l p).2)
def zlc (l:List Hav)(h:Hav):List Hav:=l.take (zlb l h.path).1++h :: l.drop ((zlb l h.path).1+if (zlb l h.path).2 then 1 else 0)
theorem zld:∀(l:List Hav) (p:ByteArray),(zlb l p).1≤l.length∧((zlb l p).2=true→(zlb l p).1<l.length)
 | [],_=>⟨Nat.le_refl _,fun h=>by cases h⟩
 | x :: l,p=>by
  obtain⟨h1,h2⟩:=zld l p;unfold zlb;split
  ·exact⟨Nat.zero_le _,fun _=>Nat.succ_pos _⟩
  ·split
   ·exact⟨Nat.zero_le _,fun h=>by cases h⟩
   ·exact⟨Nat.succ_le_succ h1,fun h=>Nat.succ_lt_succ (h2 h)⟩
theorem zle {p:ByteArray}:∀ {l:List Hav} {k:Nat} (hk:k<l.length),(∀ j (hj:j<l.length),j<k→l[j].path≠p∧¬ 0<z2u l[j].path p) →
  (l[k].path=p→zlb l p=(k,true))∧(l[k].path≠p→0<z2u l[k].path p→zlb l p=(k,false))
 | [],k,hk,_=>absurd hk (by simp)
 | x :: l,0,_,_=>by
  refine⟨fun e=>?_,fun e h=>?_⟩
  ·unfold zlb;rw[if_pos (show x.path=p from e)]
  ·unfold zlb;rw[if_neg (show ¬ x.path=p from e),if_pos (show 0<z2u x.path p from h)]
 | x :: l,k+1,hk,h=>by
  obtain⟨h1,h2⟩:=h 0 (Nat.succ_pos _) (Nat.succ_pos _);have h1':¬ x.path=p:=h1;have h2':¬ 0<z2u x.path p:=h2;obtain⟨i1,i2⟩:=zle (l:=l) (k:=k) (by simpa using hk) fun j hj hjk=>h (j+1) (by simpa using hj) (by omega)
  rw[List.getElem_cons_succ];refine⟨fun e=>?_,fun e h=>?_⟩
  ·unfold zlb;rw[if_neg h1',if_neg h2',i1 e]
  ·unfold zlb;rw[if_neg h1',if_neg h2',i2 e h]
theorem zlf {p:ByteArray}:∀ {l:List Hav},(∀ j (hj:j<l.length),l[j].path≠p∧¬ 0<z2u l[j].path p)→zlb l p=(l.length,false)
 | [],_=>rfl
 | x :: l,h=>by
  obtain⟨h1,h2⟩:=h 0 (Nat.succ_pos _);have h1':¬ x.path=p:=h1;have h2':¬ 0<z2u x.path p:=h2;have i:=zlf (l:=l) (p:=p) fun j hj=>h (j+1) (by simpa using hj)
  unfold zlb;rw[if_neg h1',if_neg h2',i];rfl
theorem zlg (x:Hav)(l:List Hav)(h:Hav):zlc (x :: l) h=if x.path=h.path then h :: l else if 0<z2u x.path h.path then h :: x :: l else x :: zlc l h:=by
 unfold zlc;rw[zlb];by_cases h1:x.path=h.path
 ·rw[if_pos h1,if_pos h1];rfl
 ·rw[if_neg h1,if_neg h1];by_cases h2:0<z2u x.path h.path
  ·rw[if_pos h2,if_pos h2];rfl
  ·rw[if_neg h2,if_neg h2];show x :: (l.take _++h :: (x :: l).drop _)=_
   rw[show (zlb l h.path).1+1+(if (zlb l h.path).2=true then 1 else 0)=(zlb l h.path).1+(if (zlb l h.path).2=true then 1 else 0)+1 by omega,List.drop_succ_cons]
theorem zlh:∀(l:List Hav) (h x:Hav),x∈zlc l h→x=h∨x∈l
 | [],h,x,hx=>by
  have hx':x∈[h]:=hx;exact .inl (List.mem_singleton.1 hx')
 | y :: l,h,x,hx=>by
  rw[zlg] at hx;split at hx
  ·rcases List.mem_cons.1 hx with e | e
   ·exact .inl e
   ·exact .inr (List.mem_cons_of_mem _ e)
  ·split at hx
   ·rcases List.mem_cons.1 hx with e | e
    ·exact .inl e
    ·exact .inr e
   ·rcases List.mem_cons.1 hx with e | e
    ·exact .inr (by rw[e];exact List.mem_cons_self ..)
    ·rcases zlh l h x e with e | e
     ·exact .inl e
     ·exact .inr (List.mem_cons_of_mem _ e)
theorem zli (l:List Hav)(h:Hav):(zlc l h).length≤l.length+1:=by
 unfold zlc;rw[List.length_append,List.length_take,List.length_cons,List.length_drop];split <;> omega
theorem zlj:∀(l:List Hav) (h:Hav),z6c l→(∀ x∈l,z2s x.path=true)→z2s h.path=true→z6c (zlc l h)∧∀ p,z6e (zlc l h) p=if p=h.path then some h else z6e l p
 | [],h,_,_,_=>by
  refine⟨List.pairwise_singleton _ _,fun p=>?_⟩;show z5y Hav.path [h] p=_
  rw[z63];by_cases e:p=h.path
  ·rw[if_pos e.symm,if_pos e]
  ·rw[if_neg (fun e2=>e e2.symm),if_neg e]
 | x :: l,h,hs,hv,hh=>by
  have hvx:=hv x (List.mem_cons_self ..);rw[zlg];by_cases h1:x.path=h.path
  ·rw[if_pos h1];refine⟨List.pairwise_cons.2 ⟨fun b hb=>?_,hs.tail⟩,fun p=>?_⟩
   ·rw[← h1];exact hs.head b hb
   ·show z5y Hav.path (h :: l) p=if p=h.path then some h else z5y Hav.path (x :: l) p
    rw[z63,z63,h1];by_cases e:p=h.path
    ·rw[if_pos e.symm,if_pos e]
    ·rw[if_neg (fun e2=>e e2.symm),if_neg e,if_neg (fun e2=>e e2.symm)]
  ·rw[if_neg h1];by_cases h2:0<z2u x.path h.path
   ·rw[if_pos h2];have h3:z2u h.path x.path<0:=by rw[z5q];omega
    refine⟨List.pairwise_cons.2 ⟨fun b hb=>?_,hs⟩,fun p=>?_⟩
    ·rcases List.mem_cons.1 hb with e | e
     ·rw[e];exact h3
     ·exact z5f hh hvx (hv b (List.mem_cons_of_mem _ e)) h3 (hs.head b e)
    ·show z5y Hav.path (h :: x :: l) p=_
     rw[z63];by_cases e:p=h.path
     ·rw[if_pos e.symm,if_pos e]
     ·rw[if_neg (fun e2=>e e2.symm),if_neg e]
   ·rw[if_neg h2];have h3:z2u x.path h.path<0:=by
     rcases Int.lt_or_le (z2u x.path h.path) 0 with h | h
     ·exact h
     ·exact absurd (z6l hvx hh (by omega) h2) h1
    obtain⟨i1,i2⟩:=zlj l h hs.tail (fun y hy=>hv y (List.mem_cons_of_mem _ hy)) hh;refine⟨List.pairwise_cons.2 ⟨fun b hb=>?_,i1⟩,fun p=>?_⟩
    ·rcases zlh l h b hb with e | e
     ·rw[e];exact h3
     ·exact hs.head b e
    ·show z5y Hav.path (x :: zlc l h) p=if p=h.path then some h else z5y Hav.path (x :: l) p
     rw[z63,z63];have i2':=i2 p;by_cases e:x.path=p
     ·rw[if_pos e,if_pos e,if_neg (fun e2=>h1 (e.trans e2))]
     ·rw[if_neg e,if_neg e];exact i2'
def zlk (D:List Rev)(f:ByteArray→Option ByteArray)(m:Int)(k:Nat)(out:List Hav):Prop:=
 z6c out∧(∀ x∈out,x.path∈zfm)∧(∀ x∈out,zfq D f m x.path=some x)∧∀(j:Nat) (hj:j<D.length),j<k→∀ h,zfq D f m D[j].path=some h→h∈out
theorem refW_0 (D:List Rev)(f:ByteArray→Option ByteArray)(m:Int):zlk D f m 0 []:=⟨List.Pairwise.nil,(fun x h=>by cases h),(fun x h=>by cases h),fun j _ h=>by omega⟩
theorem refW_no {D:List Rev}{f:ByteArray→Option ByteArray}{m:Int}{k:Nat}{out:List Hav}(h:zlk D f m k out)(hk:k<D.length)(e:zfq D f m D[k].path=none):zlk D f m (k+1) out:=
 ⟨h.1,h.2.1,h.2.2.1,fun j hj hjk x hx=>by
  by_cases ej:j=k
  ·subst ej;rw[e] at hx;cases hx
  ·exact h.2.2.2 j hj (by omega) x hx⟩
theorem zll {p:ByteArray}(h:p∈zfm):z2s p=true:=(zf8 (zfo p h)).1
theorem zlm {D:List Rev}{f:ByteArray→Option ByteArray}{m:Int}{k:Nat}{out:List Hav}{x:Hav}(h:zlk D f m k out)(hk:k<D.length)(h6:∀ r∈D,r.path∈zfm)(e:zfq D f m D[k].path=some x):zlk D f m (k+1) (zlc out x):=by
 obtain⟨h1,h2,h3,h4⟩:=h;have hxp:x.path=D[k].path:=(zft e).1;have hx6:x.path∈zfm:=by rw[hxp];exact h6 _ (List.getElem_mem hk)
 obtain⟨i1,i2⟩:=zlj out x h1 (fun y hy=>zll (h2 y hy)) (zll hx6);have hmem:∀ y,y∈zlc out x↔y=x∨(y∈out∧y.path≠x.path):=by
  intro y;constructor
  ·intro hy;have hg:=z65 i1 hy;have hg':z6e (zlc out x) y.path=some y:=hg;rw[i2] at hg';by_cases ey:y.path=x.path
   ·rw[if_pos ey] at hg';exact .inl (Option.some.inj hg').symm
   ·rw[if_neg ey] at hg';exact .inr ⟨(z61 hg').1,ey⟩
  ·rintro (rfl | ⟨hy,ey⟩)
   ·have:=i2 y.path;rw[if_pos rfl] at this;exact (z61 this).1
   ·have:=i2 y.path;rw[if_neg ey] at this;have hg:z6e out y.path=some y:=z65 h1 hy;rw[hg] at this;exact (z61 this).1
 refine⟨i1,fun y hy=>?_,fun y hy=>?_,fun j hj hjk y hy=>?_⟩
 ·rcases (hmem y).1 hy with rfl | ⟨a,_⟩
  ·exact hx6
  ·exact h2 y a
 ·rcases (hmem y).1 hy with rfl | ⟨a,_⟩
  ·rw[hxp];exact e
  ·exact h3 y a
 ·by_cases ep:D[j].path=D[k].path
  ·rw[ep,e] at hy;exact (hmem y).2 (.inl (Option.some.inj hy).symm)
  ·have hjk2:j≠k:=fun ee=>ep (by subst ee;rfl)
   have hy2:=h4 j hj (by omega) y hy
   refine (hmem y).2 (.inr ⟨hy2,?_⟩);rw[(zft hy).1,hxp];exact ep
theorem zln {D:List Rev}{f:ByteArray→Option ByteArray}{m:Int}{out:List Hav}(h:zlk D f m D.length out)(hn:∀ r∈D,1≤r.num)(hf:zfp f):out=zfr D f m:=by
 refine z66 h.1 (zfu hn hf).srt fun x=>⟨fun hx=>?_,fun hx=>?_⟩
 ·exact List.mem_filterMap.2 ⟨x.path,h.2.1 x hx,h.2.2.1 x hx⟩
 ·obtain⟨p,hp,e⟩:=List.mem_filterMap.1 hx;obtain⟨e1,-,r,hr,e3,-⟩:=zft e;obtain⟨j,hj,rfl⟩:=List.getElem_of_mem hr;exact h.2.2.2 j hj hj x (by rw[e3];exact e)
theorem zlo {D:List Rev}{f:ByteArray→Option ByteArray}{m:Int}{k:Nat}{out:List Hav}(h:zlk D f m k out):out.length≤6:=by
 have e:out.map Hav.path=zfm.filter (fun p=>decide (p∈out.map Hav.path)):=z66 (z69 (kb:=fun q:ByteArray=>q) h.1 fun _=>rfl) (z6b zfn _) fun a=>by
  rw[List.mem_filter,decide_eq_true_eq];refine⟨fun ha=>⟨?_,ha⟩,fun ha=>ha.2⟩;obtain⟨x,hx,rfl⟩:=List.mem_map.1 ha;exact h.2.1 x hx
 have h1:=congrArg List.length e;rw[List.length_map] at h1;rw[h1];exact Nat.le_trans (List.length_filter_le _ _) (by decide)
end Go.Proofs.YtijghobkkdbhnaaGreatDoor
/- Lists of have-entries and of steps as arguments under an Upto bound: their texts are short, they are not long. -/
namespace Go.Proofs.YtijghobkkdbhnaaGreatDoor.upto
open Go.Proofs.Tryz
open Go.RowKit Go.ChangeShapes Go.WideShapes Go.Deep
theorem zqr {H:Type}(d:DataW H):1≤Rows.uptoBulk d:=by
 cases d with
 | lit l=>cases l <;> simp [Rows.uptoBulk]
 | nil=>simp [Rows.uptoBulk]
 | ptr d=>simp [Rows.uptoBulk]
 | slice elems spare=>simp [Rows.uptoBulk]
 | agg parts=>simp [Rows.uptoBulk]
 | iface t d=>simp [Rows.uptoBulk]
 | map entries=>simp [Rows.uptoBulk]
 | held h=>simp [Rows.uptoBulk]
theorem zqs {H:Type}{d:DataW H}{l:List (DataW H)}(h:d∈l):Rows.uptoBulk d≤Rows.uptoBulkAll l:=by
 induction l with
 | nil=>cases h
 | cons x r ih =>
  simp only[Rows.uptoBulkAll]
  rcases List.mem_cons.1 h with e | e
  ·subst e;omega
  ·have:=ih e;omega
theorem all_le {H:Type}{M:Nat}{l:List (DataW H)}(h:∀ d∈l,M≤Rows.uptoBulk d):l.length * M≤Rows.uptoBulkAll l:=by
 induction l with
 | nil=>simp [Rows.uptoBulkAll]
 | cons x r ih =>
  simp only[Rows.uptoBulkAll,List.length_cons,Nat.succ_mul]
  have h1:=h x (List.mem_cons_self ..);have h2:=ih (fun d hd=>h d (List.mem_cons_of_mem _ hd));omega
theorem zqt {α:Type}{p:Nat→α→Prop}:∀(n:Nat),(∀ i,i<n→∃ x,p i x)→∃ l:List α,l.length=n∧∀ i (h:i<l.length),p i l[i]
 | 0,_=>⟨[],rfl,fun i h=>absurd h (by simp)⟩
 | n+1,h=>by
  obtain⟨l,hl,hp⟩:=zqt n (fun i hi=>h i (by omega))
  obtain⟨x,hx⟩:=h n (by omega)
  refine⟨l++[x],by simp [hl],fun i hi=>?_⟩
  by_cases hil:i<l.length
  ·rw[List.getElem_append_left hil];exact hp i hil
  ·have:i=n:=by simp at hi;omega
   subst this;rw[List.getElem_append_right (by omega)];simpa using hx
section
variable {H : Type} {enc : TypeId × Value → H} {P : Program} {w : World} {spare : Nat → Bool} {held : Bool}
def Rd {α:Type}(enc:TypeId×Value→H)(P:Program)(w:World)(spare:Nat→Bool)(held:Bool)(e:TypeId)(f:α→List Value)(Pr:α→Prop)(M:Nat):Prop:=
 ∀ n cs y,DataW.trod enc P w 0 spare held n e cs=some y→Rows.uptoBulk y.1≤1048576→M≤Rows.uptoBulk y.1∧∃ x,cs=f x∧Pr x
theorem zqu {t:TypeId}(ht:P.underlying t=some .string):Rd enc P w spare held t (fun s:ByteArray=>[.string s]) (fun s=>s.size≤1048576) 1:=fun n cs y h hw=>by
 obtain⟨s,e,hy,hs⟩:=DataW.trod_string ht h;refine⟨zqr _,s,e,?_⟩;subst hy;simp only[Rows.uptoBulk] at hw
 have h2:s.data.toList.length=s.size:=rfl;first | omega | (simp at hw;omega)
theorem zrk {t:TypeId}{k:IntKind}(ht:P.underlying t=some (.int k)):Rd enc P w spare held t (fun n:Int=>[.int k n]) (fun n=>(Lit.int k n).wf=true) 1:=fun n cs y h _=>by
 obtain⟨s,e,_,hs⟩:=DataW.trod_int ht h;exact⟨zqr _,s,e,hs⟩
theorem zqv {e:TypeId}{fs:Array Field}{cs:List Value}{n:Nat}{y:DataW H×List MemPlace}(he:P.underlying e=some (.struct fs))(h:DataW.trod enc P w 0 spare held n e cs=some y)(hw:Rows.uptoBulk y.1≤1048576):
  fs.size+1≤Rows.uptoBulk y.1∧cs.length=P.cellsOf e∧∀(i:Nat) (f:Field) (T:TypeId) (off k:Nat),fs[i]? = some f→f.type=T→f.offset=off→P.cellsOf T=k →
   ∃ n' y',DataW.trod enc P w 0 spare held n' T ((cs.drop off).take k)=some y'∧Rows.uptoBulk y'.1≤1048576:=by
 obtain⟨ys,n',_,hy,hl,hlen,hfld⟩:=DataW.trod_struct he h;refine⟨?_,hl,fun i f T off k hf hT ho hk=>?_⟩
 ·rw[hy];simp only[Rows.uptoBulk]
  have:=all_le (M:=1) (l:=ys.map (·.1)) (fun d _=>zqr d);rw[List.length_map] at this;omega
 ·have:=hfld i f hf;have hi:=(Array.getElem?_eq_some_iff.1 hf).1;rw[List.getElem?_eq_getElem (by omega)] at this
  rw[hT,ho,hk] at this;refine⟨n',_,this,?_⟩;rw[hy] at hw;simp only[Rows.uptoBulk] at hw
  have h3:(ys[i]'(by omega)).1∈ys.map (·.1):=List.mem_map_of_mem (List.getElem_mem _)
  have:=zqs h3;omega
theorem zqw {α:Type}{f:α→List Value}{Pr:α→Prop}{k M:Nat}{t e:TypeId}(hf:∀ x,(f x).length=k)(hk:0<k)(ht:P.underlying t=some (.slice e))(hC:P.cellsOf e=k)(hR:Rd enc P w spare held e f Pr M):
  ∀ n cs y,DataW.trod enc P w 0 spare held n t cs=some y→Rows.uptoBulk y.1≤1048576→∃(v:Value) (l:List α),cs=[v]∧l.length * M≤1048576∧(∃ A c,v=.slice A l.length c)∧Row w k v l.length (l.flatMap f)∧∀ x∈l,Pr x:=by
 intro n cs y h hw;rcases open_slice ht h with⟨rfl,_⟩ | ⟨x,len,cap,m,nf,D,Pl,rfl,_,hl,hm,hmm,hy,hi⟩
 ·exact⟨_,[],rfl,by simp,⟨none,0,rfl⟩,Row.nil_ w k,by simp⟩
 ·have hnm:len≤m:=by rw[hmm];split <;> omega
  rw[hy] at hw;simp only[Rows.uptoBulk] at hw
  have hsm:∀ i,i<len→Rows.uptoBulk (D i)≤1048576:=fun i hin=>by
   have h3:D i∈(List.range len).map D:=List.mem_map.2 ⟨i,List.mem_range.2 hin,rfl⟩;have h4:=zqs h3;omega
  obtain⟨l,hll,hp⟩:=zqt (α:=α) (p:=fun i q=>M≤Rows.uptoBulk (D i)∧(∀ j u,(f q)[j]? = some u→w.cell? (x.add (i * k+j))=some u)∧Pr q) len (fun i hin=>by
   obtain⟨cs',hcc,htr⟩:=hi i (by omega)
   rw[hC] at hcc;obtain⟨_,hcl,hat⟩:=World.cells?_some hcc;obtain⟨hM,q,rfl,hq⟩:=hR _ _ _ htr (hsm i hin);refine⟨q,hM,fun j u hu=>?_,hq⟩;have hj:j<k:=by rw[← hf q];exact (List.getElem?_eq_some_iff.1 hu).1
   have:=hat j (by omega)
   rw[z01] at this;rw[this];first | exact hu | (simpa using hu))
  refine⟨_,l,rfl,?_,⟨some x,cap,by rw[hll]⟩,?_,fun q hq=>?_⟩
  ·have h5:=all_le (M:=M) (l:=(List.range len).map D) (fun d hd=>by
    obtain⟨i,hi',rfl⟩:=List.mem_map.1 hd;have:=List.mem_range.1 hi';exact (hp i (by omega)).1)
   rw[List.length_map,List.length_range] at h5;rw[hll];omega
  ·rw[hll];refine⟨_,_,rfl,hl,hm,by rw[z43 f k hf,hll],fun h=>(by cases h),fun hn=>⟨x,rfl,?_,fun j u hu=>?_⟩⟩
   ·have h0:0<(f (l[0]'(by omega))).length:=by rw[hf];exact hk
    have:=(hp 0 (by omega)).2.1 0 _ (List.getElem?_eq_getElem h0)
    exact (z00 x _) ▸ z03 this
   ·have hjl:j<len * k:=by have:=(List.getElem?_eq_some_iff.1 hu).1;rwa [z43 f k hf,hll] at this
    have hq:j / k<l.length:=by rw[hll,Nat.div_lt_iff_lt_mul hk];exact hjl
    have hr:j % k<k:=Nat.mod_lt _ hk;have e1:j / k * k+j % k=j:=by rw[Nat.mul_comm];exact Nat.div_add_mod j k
    have e2:=z44 f k hf l (j / k) (j % k) hq hr;rw[e1,hu] at e2;have:=(hp (j / k) hq).2.1 (j % k) u e2.symm;rwa [e1] at this
  ·obtain⟨i,hil,rfl⟩:=List.mem_iff_getElem.1 hq;exact (hp i hil).2.2
end
section
variable {H : Type} {enc : TypeId × Value → H}
theorem rd_hav (w:World)(spare:Nat→Bool)(held:Bool):Rd enc prog w spare held 96 Hav.cells (fun x=>x.path.size≤1048576∧x.loc.size≤1048576) 4:=by
 intro n cs y h hw;obtain⟨hM,hl0,hF⟩:=zqv underlying96 h hw;have hl:cs.length=3:=hl0.trans (by kernel_rfl)
 obtain⟨n0,y0,h0,wh0⟩:=hF 0 _ 9 0 1 rfl rfl rfl (by kernel_rfl)
 obtain⟨-,a0,e0,p0⟩:=zqu underlying9 _ _ _ h0 wh0;obtain⟨n1,y1,h1,wh1⟩:=hF 1 _ 3 1 1 rfl rfl rfl (by kernel_rfl)
 obtain⟨-,a1,e1,p1⟩:=zrk underlying3 _ _ _ h1 wh1;obtain⟨n2,y2,h2,wh2⟩:=hF 2 _ 9 2 1 rfl rfl rfl (by kernel_rfl)
 obtain⟨-,a2,e2,p2⟩:=zqu underlying9 _ _ _ h2 wh2;refine⟨hM,?_⟩;clear h hw hF hM hl0 h0 wh0 h1 wh1 h2 wh2;match cs,hl with
 | [u0,u1,u2],_ =>
  have e0':[u0]=_:=e0;have e1':[u1]=_:=e1;have e2':[u2]=_:=e2;clear e0 e1 e2;simp only[List.cons.injEq,and_true] at e0' e1' e2'
  subst e0' e1' e2';exact⟨⟨a0,a1,a2⟩,rfl,p0,p2⟩
theorem havs_arg {w:World}{r:Reach}{b0:Nat}{spare:Nat→Bool}{held:Bool}{v:Value}{d:DataW H}{p:List MemPlace}(hv:Value.okWide prog w r b0 28 v)(h:DataW.Trod enc prog w 0 spare held 28 v d p)(hw:Rows.uptoBulk d≤1048576):
  ∃(l:List Hav) (A:Option Addr) (c:Nat),v=.slice A l.length c∧z4b w (.slice A l.length c) l∧l.length * 4≤1048576∧∀ x∈l,x.path.size≤1048576∧x.loc.size≤1048576:=by
 obtain⟨a,n,c,rfl⟩:=okWide_slice underlying28 hv;obtain⟨m,hm⟩:=h;obtain⟨v',l,e,h1,⟨A,c',h2⟩,h3,h4⟩:=zqw (k:=3) (fun _=>rfl) (by decide) underlying28 (by kernel_rfl) (rd_hav w spare held) _ _ _ hm hw
 simp only[Value.cells,List.cons.injEq,and_true] at e
 subst h2;injection e with e1 e2 e3
 subst e1 e2 e3;exact⟨l,_,_,rfl,h3,h1,h4⟩
end
end Go.Proofs.YtijghobkkdbhnaaGreatDoor.upto
