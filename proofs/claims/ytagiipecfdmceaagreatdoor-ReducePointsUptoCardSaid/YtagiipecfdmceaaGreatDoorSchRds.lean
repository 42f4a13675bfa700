/- The walks of the reference's find, Int, Ints, Bits, and of schema.Int, Ints, Bits. -/
import Derived.Test.YtagiipecfdmceaaGreatDoorSchCas
import Derived.Test.YtagiipecfdmceaaGreatDoorShelf
import Derived.Test.YtagiipecfdmceaaGreatDoorSchNos
set_option linter.unusedVariables false
set_option linter.unusedSimpArgs false
namespace Go.Proofs.YtagiipecfdmceaaGreatDoor
open Go.RowKit

end Go.Proofs.YtagiipecfdmceaaGreatDoor
