/- General part of: The walks of the law package's live and same. -/
import Derived.Test.YtagiipecfdmceaaGreatDoorSchQs
set_option linter.unusedVariables false
set_option linter.unusedSimpArgs false
namespace Go.Proofs.YtagiipecfdmceaaGreatDoor
open Go.RowKit

def sz : ByteArray := ⟨#[122]⟩
attribute [local irreducible] checkP thenE

end Go.Proofs.YtagiipecfdmceaaGreatDoor
