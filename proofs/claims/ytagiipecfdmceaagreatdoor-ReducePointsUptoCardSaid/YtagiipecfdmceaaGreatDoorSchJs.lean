/- What stands between the commas of joined names: plain facts. -/
import Derived.Test.YtagiipecfdmceaaGreatDoorSchLgs
set_option linter.unusedVariables false
set_option linter.unusedSimpArgs false
namespace Go.Proofs.YtagiipecfdmceaaGreatDoor
open Go.RowKit

def joinD : List (List UInt8) → List UInt8
  | [] => []
  | [a] => a
  | a :: b :: t => a ++ 44 :: joinD (b :: t)

theorem joinD_snoc {l : List (List UInt8)} (h : l ≠ []) (x : List UInt8) : joinD (l ++ [x]) = joinD l ++ 44 :: x := by
  induction l with
  | nil => exact absurd rfl h
  | cons a t ih =>
    cases t with
    | nil => rfl
    | cons b t =>
      have := ih (by simp)
      show a ++ 44 :: joinD (b :: t ++ [x]) = (a ++ 44 :: joinD (b :: t)) ++ 44 :: x
      rw [this]
      simp

end Go.Proofs.YtagiipecfdmceaaGreatDoor
