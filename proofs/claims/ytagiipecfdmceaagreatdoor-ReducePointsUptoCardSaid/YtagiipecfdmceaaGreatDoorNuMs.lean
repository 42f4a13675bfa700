/- The plain laws of num, fourth part: a difference is the sum with the sign turned; Abs and Relu as the greater one; whole numbers behind Float and back. No program in sight. -/
import Derived.Test.YtagiipecfdmceaaGreatDoorFlMs
namespace Go.Proofs.YtagiipecfdmceaaGreatDoor
namespace Fl
open Ieee Go.RowKit

/-! ### behind Float and back -/

theorem foi32 (y : Int) : floatOfInt .f32 y = single.nearest (decide (y < 0)) y.natAbs 0 := rfl

end Fl
end Go.Proofs.YtagiipecfdmceaaGreatDoor
