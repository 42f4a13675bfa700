/- How the rows of the laws of num read their arguments: two whole numbers in an array by value. -/
import Derived.Test.YtepmacimknblpaaRows
import Derived.Test.YtepmacimknblpaaNumL
import Derived.ProofKit
import Derived.OpenShut
import Derived.ShutString
import Derived.Lib.SmallJoins
namespace Go.Proofs.Ytepmacimknblpaa
open Go.ChangeShapes Go.WideShapes Go.ChangeAt Go.RowKit Fl

theorem own : ownKnob Try.prog.godebug = none := by kernel_rfl
theorem cellsPair : Try.prog.cellsOf 28 = 2 := by kernel_rfl
theorem cellsInt64 : Try.prog.cellsOf 2 = 1 := by kernel_rfl

theorem i64_of_wf {x : Int} (h : (Lit.int .i64 x).wf = true) : -9223372036854775808 ≤ x ∧ x ≤ 9223372036854775807 := by
  simp [Lit.wf, IntKind.min, IntKind.max, IntKind.signed, IntKind.bits] at h
  omega

/-- What was there reads as it did. -/
theorem grown_heap {W w : World} (h : Grown W w) {i : Nat} (hi : i < W.heap.size) : w.heap[i]? = W.heap[i]? := by
  have h1 := h.1.2.2 i hi
  generalize w.heap[i]? = b at *
  generalize W.heap[i]? = a at *
  split at h1
  · obtain ⟨rfl, rfl, hs, hc⟩ := h1
    congr 2
    refine Array.ext hs fun j h2 h3 => ?_
    have := hc j (fun g => g)
    rw [Array.getElem?_eq_getElem h2, Array.getElem?_eq_getElem h3] at this
    exact Option.some.inj this
  · rcases h1 with h1 | ⟨rfl, rfl⟩
    · exact h1.elim
    · rfl
  · exact h1

theorem grown_cell {W w : World} (h : Grown W w) {a : Addr} (hi : a.block < W.heap.size) : w.cell? a = W.cell? a := by
  have := grown_heap h hi
  unfold World.cell?
  rw [this]

theorem grown_old {w0 w : World} (h : Grown w0 w) {a : Addr} {v : Value} (hi : a.block < w0.heap.size) (hv : w0.cell? a = some v) : w.cell? a = some v := by
  rw [grown_cell h hi]; exact hv

theorem toList_of (l : List UInt8) : (⟨l.toArray⟩ : ByteArray).toList = l := by simp

theorem binary_l (l : List UInt8) (t x y : Int) (h0 : -9223372036854775808 ≤ x) (h1 : x ≤ 9223372036854775807) (g0 : -9223372036854775808 ≤ y) (g1 : y ≤ 9223372036854775807) (w : World) :
    Calls Try.prog 19 #[.string ⟨l.toArray⟩, .int .i64 t, .int .i64 x, .int .i64 y] w fun res w' => res = .returned (.tuple #[.int .i64 (bin l t x y).1, .int .i64 (bin l t x y).2]) ∧ Grown w w' := by
  have := binary_any ⟨l.toArray⟩ t x y h0 h1 g0 g1 w
  rw [toList_of] at this
  exact this

theorem unary_l (l : List UInt8) (t x : Int) (h0 : -9223372036854775808 ≤ x) (h1 : x ≤ 9223372036854775807) (w : World) :
    Calls Try.prog 14 #[.string ⟨l.toArray⟩, .int .i64 t, .int .i64 x] w fun res w' => res = .returned (.tuple #[.int .i64 (un l t x).1, .int .i64 (un l t x).2]) ∧ Grown w w' := by
  have := unary_any ⟨l.toArray⟩ t x h0 h1 w
  rw [toList_of] at this
  exact this

section
variable {H : Type} {enc : TypeId × Value → H} {w : World} {base : Nat} {spare : Nat → Bool} {held : Bool}

theorem open_pair {r : Reach} {b0 : Nat} {v : Value} {d : DataW H} {p : List MemPlace} (hv : Value.okWide Try.prog w r b0 28 v) (hd : DataW.Trod enc Try.prog w base spare held 28 v d p) :
    ∃ x y : Int, v = .agg #[.int .i64 x, .int .i64 y] ∧ d = .agg [.lit (.int .i64 x), .lit (.int .i64 y)] ∧ p = [] ∧ (Lit.int .i64 x).wf = true ∧ (Lit.int .i64 y).wf = true := by
  obtain ⟨cs, rfl, hsz, _⟩ : ∃ cs, v = .agg cs ∧ cs.size = Try.prog.cellsOf 28 ∧ Row.okWide Try.prog w r b0 28 cs := by
    simpa [Value.okWide, Try.underlying28] using hv
  rw [cellsPair] at hsz
  obtain ⟨c0, c1, rfl⟩ := Joins.array2 hsz
  obtain ⟨fuel, hf⟩ := hd
  simp only [Value.cells] at hf
  obtain ⟨xs, m, _, hx, _, hl, hel⟩ := DataW.trod_array Try.underlying28 hf
  rw [cellsInt64] at hel
  have e0 := hel 0 (by decide)
  have e1 := hel 1 (by decide)
  match xs, hl with
  | [y0, y1], _ =>
    simp at e0 e1
    obtain ⟨x0, g0, rfl, w0⟩ := DataW.trod_int Try.underlying2 e0
    obtain ⟨x1, g1, rfl, w1⟩ := DataW.trod_int Try.underlying2 e1
    simp at g0 g1
    subst g0 g1
    simp at hx
    obtain ⟨rfl, rfl⟩ := hx
    exact ⟨x0, x1, rfl, rfl, rfl, w0, w1⟩

theorem shut_pair {x y : Int} (wx : (Lit.int .i64 x).wf = true) (wy : (Lit.int .i64 y).wf = true) :
    DataW.Trod enc Try.prog w base spare held 28 (.agg #[.int .i64 x, .int .i64 y]) (.agg [.lit (.int .i64 x), .lit (.int .i64 y)]) [] :=
  ⟨2, by simp [DataW.trod, Value.cells, Try.underlying28, Try.underlying2, cellsPair, cellsInt64, wx, wy, show List.range 2 = [0, 1] from rfl]⟩

end
end Go.Proofs.Ytepmacimknblpaa
