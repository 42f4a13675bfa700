/- A draw of the tape leaves memory as it is. -/
import Derived.Test.YtagiipecfdmceaaGreatDoorSchTgs
import Derived.BigQuiet
import Derived.Deep.QuietTactic
import Derived.Deep.LoopGhost
import Derived.Test.YtagiipecfdmceaaGreatDoorSchNos
import Derived.Test.YtagiipecfdmceaaGreatDoorRegs
set_option linter.unusedVariables false
namespace Go.Proofs.YtagiipecfdmceaaGreatDoor
open Go.RowKit

theorem below_drewN {B : Nat} {a w : World} (h : Below B a w) (q : Nat) : Below B a (w.drewN q) := ⟨h.os, h.tape, h.output, h.size, h.block⟩

end Go.Proofs.YtagiipecfdmceaaGreatDoor
