import Derived.Test.YtijhdmidffenbaaGreatDoorFlM2rm
set_option linter.unusedVariables false
set_option linter.unusedSimpArgs false
namespace Go.Proofs.YtijhdmidffenbaaGreatDoor
namespace Fl
open Ieee Go.RowKit
theorem foi32 (y:Int):floatOfInt .f32 y=single.nearest (decide (y < 0)) y.natAbs 0:=rfl
end Fl
end Go.Proofs.YtijhdmidffenbaaGreatDoor
