/- How the row of ViewCuts reads a cut. -/
import Derived.Test.YtfdafceolkmkoaaViewRow
namespace Go.Proofs.Ytfdafceolkmkoaa
open Go.ChangeShapes Go.WideShapes Go.ChangeAt Go.RowKit

theorem cellsCut : Try.prog.cellsOf 51 = 3 := by kernel_rfl

theorem open_cut {H : Type} {enc : TypeId × Value → H} {W : World} {r : Reach} {b0 : Nat} {v : Value} {d : DataW H} {p : List MemPlace} (hv : Value.okWide Try.prog W r b0 51 v) (hd : DataW.Trod enc Try.prog W 0 (fun _ => true) true 51 v d p) :
    ∃ x y z, v = .agg #[.int .i64 x, .int .i64 y, .int .i64 z] ∧ InI x ∧ InI y ∧ InI z := by
  obtain ⟨cs, rfl, hsz⟩ := okWide_struct Try.underlying51 hv
  rw [cellsCut] at hsz
  obtain ⟨fuel, hf⟩ := hd
  simp only [Value.cells] at hf
  obtain ⟨y0, y1, y2, k, hx, hl, u0, u1, u2⟩ := Go.Deep.trod_struct3 Try.underlying51 hf
  rw [show Try.prog.cellsOf 3 = 1 from cellsInt] at u0 u1 u2
  match cs, hsz with
  | ⟨[c0, c1, c2]⟩, _ =>
  simp at u0 u1 u2
  obtain ⟨x0, g0, e0, w0⟩ := DataW.trod_int Try.underlying3 u0
  obtain ⟨x1, g1, e1, w1⟩ := DataW.trod_int Try.underlying3 u1
  obtain ⟨x2, g2, e2, w2⟩ := DataW.trod_int Try.underlying3 u2
  simp at g0 g1 g2
  subst g0 g1 g2
  exact ⟨x0, x1, x2, rfl, i64_of_wf w0, i64_of_wf w1, i64_of_wf w2⟩

end Go.Proofs.Ytfdafceolkmkoaa
