import Derived.Test.YtijhdmidffenbaaGreatDoorSchLgrm
set_option linter.unusedVariables false
set_option linter.unusedSimpArgs false
namespace Go.Proofs.YtijhdmidffenbaaGreatDoor
open Go.RowKit
def joinD:List (List UInt8)→List UInt8
 | []=>[]
 | [a]=>a
 | a :: b :: t=>a++44 :: joinD (b :: t)
end Go.Proofs.YtijhdmidffenbaaGreatDoor
