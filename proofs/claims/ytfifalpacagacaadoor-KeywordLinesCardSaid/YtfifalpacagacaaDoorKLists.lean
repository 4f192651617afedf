/- The contracts of the functions that make lists: names, Collapsed, Expanded, named. -/
import Derived.Test.YtfifalpacagacaaDoorKLeaf2
namespace Go.Proofs.YtfifalpacagacaaDoor.kw
set_option linter.unusedVariables false
set_option linter.unusedSimpArgs false
open Go.RowKit

theorem strInfo : (Tryd.prog.info? 9).map (fun i => (i.zero, i.size, i.bytes)) = some (some (.string ⟨#[]⟩), 1, 16) := by kernel_rfl
theorem strElem : ElemOk Tryd.prog 23 9 1 16 := elemOk_of Tryd.underlying23 strInfo rfl (by decide)

def dol : ByteArray := ⟨#[36]⟩
def colText (s : ByteArray) : ByteArray := ⟨#[36]⟩ ++ s ++ ⟨#[36]⟩
def expText (p : ByteArray × ByteArray) : ByteArray := ⟨#[36]⟩ ++ p.1 ++ ⟨#[58, 32]⟩ ++ p.2 ++ ⟨#[32, 36]⟩

end Go.Proofs.YtfifalpacagacaaDoor.kw
