/- A part of the proof. -/
import Derived.Test.YtegeboijhifmcaaGreatDoorMgw31
import Derived.Test.YtegeboijhifmcaaGreatDoorMgw38
set_option linter.unusedVariables false
set_option linter.unusedSimpArgs false
namespace Go.Proofs.YtegeboijhifmcaaGreatDoor
open Go.RowKit
theorem z50.lt {w:World}{ad:Addr}{x:Syn}(h:z50 w ad x):ad.block<w.heap.size:=z03 h.1
theorem zqh {w w':World}{ad:Addr}{x:Syn}(h:z50 w ad x)(hb:ad.block<w.heap.size)(hB:Below w.heap.size w w'):z50 w' ad x:=
 ⟨(hB.cell hb).trans h.1,(hB.cell (p:=⟨ad.block,ad.off+1,none⟩) hb).trans h.2.1,(hB.cell (p:=⟨ad.block,ad.off+2,none⟩) hb).trans h.2.2.1,(hB.cell (p:=⟨ad.block,ad.off+3,none⟩) hb).trans h.2.2.2.1,(hB.cell (p:=⟨ad.block,ad.off+4,none⟩) hb).trans h.2.2.2.2⟩
theorem zqi (s:ByteArray):(s=z2l∧s.toList=[]∧(s.toList == (⟨#[]⟩:ByteArray).toList)=true)∨¬ s=z2l∧¬ s.toList=[]∧s.toList.isEmpty=false:=by
 by_cases h:s=z2l
 ·exact .inl ⟨h,z3v h⟩
 ·exact .inr ⟨h,z3w h⟩
theorem setH {w:World}{g:Nat}{e:TypeId}{a b c:Value}(h:Blk w g e [a,b,c])(v:Hav):Blk (((w.setCell ⟨g,0,none⟩ (.string v.path)).setCell ⟨g,1,none⟩ (.int .i64 v.num)).setCell ⟨g,2,none⟩ (.string v.loc)) g e [.string v.path,.int .i64 v.num,.string v.loc]:=((h.set_ 0 (.string v.path)).set_ 1 (.int .i64 v.num)).set_ 2 (.string v.loc)
theorem belowH {w w':World}{B g:Nat}(h:Below B w w')(hg:B≤g)(v:Hav):Below B w (((w'.setCell ⟨g,0,none⟩ (.string v.path)).setCell ⟨g,1,none⟩ (.int .i64 v.num)).setCell ⟨g,2,none⟩ (.string v.loc)):=
 ((h.setCell (p:=⟨g,0,none⟩) hg _).setCell (p:=⟨g,1,none⟩) hg _).setCell (p:=⟨g,2,none⟩) hg _
end Go.Proofs.YtegeboijhifmcaaGreatDoor
