/- Opening arguments that are rows of values, and tensors. -/
import Derived.Test.YtagiipecfdmceaaGreatDoorGrA
import Derived.Test.YtagiipecfdmceaaGreatDoorSchXn
set_option linter.unusedVariables false
set_option maxRecDepth 100000
namespace Go.Proofs.YtagiipecfdmceaaGreatDoor
open Go.RowKit Go.ChangeShapes Go.WideShapes Go.Deep

theorem open_values {H : Type} {enc : TypeId × Value → H} {W : World} {r : Reach} {b0 : Nat} {v : Value} {d : DataW H} {p : List MemPlace}
    (hv : Value.okWide Tryz.prog W r b0 26 v) (hd : DataW.Trod enc Tryz.prog W 0 (fun _ => true) true 26 v d p) (hlt : ∀ y ∈ p, y.block < W.heap.size) (hb : Rows.uptoBulk d ≤ 1048576) : ∃ l, SlIn 3 rdValue W v l := by
  obtain ⟨a, len, cap, rfl⟩ := okWide_slice Tryz.underlying26 hv
  obtain ⟨fuel, hf⟩ := hd
  obtain ⟨l, v1, e, h⟩ := fits_values.2 enc W fuel _ _ hf hlt hb
  simp [Value.cells] at e
  subst e
  exact ⟨l, h⟩
theorem open_tensor {H : Type} {enc : TypeId × Value → H} {W : World} {r : Reach} {b0 : Nat} {v : Value} {d : DataW H} {p : List MemPlace}
    (hv : Value.okWide Tryz.prog W r b0 38 v) (hd : DataW.Trod enc Tryz.prog W 0 (fun _ => true) true 38 v d p) (hlt : ∀ y ∈ p, y.block < W.heap.size) (hb : Rows.uptoBulk d ≤ 1048576) : ∃ (t : Int × List Int × List Int) (vd vx : Value), v = .agg #[.int .i64 t.1, vd, vx] ∧ InI t.1 ∧ IntsIn W vd t.2.1 ∧ IntsIn W vx t.2.2 := by
  obtain ⟨cs, t, rfl, vd, vx, e, h1, h2, h3⟩ := open_arg Tryz.underlying38 fits_tensor hv hd hlt hb
  refine ⟨t, vd, vx, ?_, h1, h2, h3⟩
  congr 1
  rw [← Array.toList_inj, e]

end Go.Proofs.YtagiipecfdmceaaGreatDoor
