import Derived.Test.YtijhdmidffenbaaGreatDoorSchQrm
set_option linter.unusedVariables false
set_option linter.unusedSimpArgs false
namespace Go.Proofs.YtijhdmidffenbaaGreatDoor
open Go.RowKit
def sx:ByteArray:=⟨#[120]⟩
def sz:ByteArray:=⟨#[122]⟩
attribute [local irreducible] checkP thenE
end Go.Proofs.YtijhdmidffenbaaGreatDoor
