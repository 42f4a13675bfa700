/- The walks of the reference's find, Int, Ints, Bits, and of schema.Int, Ints, Bits. -/
import Derived.Test.YtagiipecfdmceaaGreatDoorSchCar
import Derived.Test.YtagiipecfdmceaaGreatDoorShelf
import Derived.Test.YtagiipecfdmceaaGreatDoorSchNor
set_option linter.unusedVariables false
set_option linter.unusedSimpArgs false
namespace Go.Proofs.YtagiipecfdmceaaGreatDoor
open Go.RowKit

end Go.Proofs.YtagiipecfdmceaaGreatDoor
