/- The walks of the reference's find, Int, Ints, Bits, and of schema.Int, Ints, Bits. -/
import Derived.Test.YtagiipecfdmceaaGreatDoorSchCa
import Derived.Test.YtagiipecfdmceaaGreatDoorShelf
import Derived.Test.YtagiipecfdmceaaGreatDoorSchNo
set_option linter.unusedVariables false
set_option linter.unusedSimpArgs false
namespace Go.Proofs.YtagiipecfdmceaaGreatDoor
open Go.RowKit

theorem find_at {ats : List At} {nm : ByteArray} {kd : Int} {k : Nat} {a : At} (h : (ats.take k).any (isA nm kd) = false) (ha : ats[k]? = some a) (hi : isA nm kd a = true) : findA ats nm kd = some a := by
  unfold findA
  obtain ⟨hlt, e⟩ := List.getElem?_eq_some_iff.1 ha
  rw [List.find?_eq_some_iff_getElem]
  refine ⟨hi, k, hlt, e, fun j hj => ?_⟩
  have := List.any_eq_false.1 h (ats[j]'(by omega)) (by rw [List.mem_take_iff_getElem]; exact ⟨j, by omega, rfl⟩)
  simpa using this
theorem find_not {ats : List At} {nm : ByteArray} {kd : Int} (h : ats.any (isA nm kd) = false) : findA ats nm kd = none := by
  unfold findA
  rw [List.find?_eq_none]
  exact fun x hx => List.any_eq_false.1 h x hx
theorem isA_not_kind {a : At} {nm : ByteArray} {kd : Int} (h : ¬ a.kind = kd) : isA nm kd a = false := by unfold isA; simp [h]
theorem isA_not_name {a : At} {nm : ByteArray} {kd : Int} (h : ¬ a.name.toList = nm.toList) : isA nm kd a = false := by unfold isA; simp [str_ne h]
theorem isA_is {a : At} {nm : ByteArray} {kd : Int} (h : a.name.toList = nm.toList) (g : a.kind = kd) : isA nm kd a = true := by unfold isA; simp [toList_inj h, g]

end Go.Proofs.YtagiipecfdmceaaGreatDoor
