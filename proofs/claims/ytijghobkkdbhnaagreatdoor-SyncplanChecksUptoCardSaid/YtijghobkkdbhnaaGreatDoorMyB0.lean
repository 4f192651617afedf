/- A part. -/
import Derived.Below
namespace Go.Proofs.YtijghobkkdbhnaaGreatDoor
open Go.RowKit
abbrev zB(w w':World):Prop:=Below w.heap.size w w'
