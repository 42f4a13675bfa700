import Derived.Test.YtijhdmidffenbaaGreatDoorSchQim
set_option linter.unusedVariables false
set_option linter.unusedSimpArgs false
namespace Go.Proofs.YtijhdmidffenbaaGreatDoor
open Go.RowKit
def sz:ByteArray:=⟨#[122]⟩
attribute [local irreducible] checkP thenE
end Go.Proofs.YtijhdmidffenbaaGreatDoor
