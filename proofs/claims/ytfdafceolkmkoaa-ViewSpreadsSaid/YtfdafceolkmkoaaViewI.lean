/- The walk of view.places: the iterator's contract: it hands out the places in their order. -/
import Derived.Test.YtfdafceolkmkoaaViewP
import Derived.Test.YtfdafceolkmkoaaViewL
import Derived.Test.YtfdafceolkmkoaaViewF
import Derived.Shelf.Abstract
import Derived.OwnWalkIn
import Derived.TacticsInMore
import Derived.LoopNIn
import Derived.LoopIn
import Derived.Maps.AppendAt
set_option linter.unusedVariables false
namespace Go.Proofs.Ytfdafceolkmkoaa
open Go.RowKit Go.Shelf Vw

attribute [local go_sem] Oper.semAt_some

/-! ### a row of numbers of the call's own -/

def intCells (xs : List Int) : Array Value := (xs.map (Value.int .i64)).toArray
/-- Block B is a row of these numbers. -/
def RowAt (w : World) (B : Nat) (xs : List Int) : Prop := w.heap[B]? = some (.cells (intCells xs) 3 (0, 0))

theorem RowAt.lt {w : World} {B : Nat} {xs : List Int} (h : RowAt w B xs) : B < w.heap.size := (Array.getElem?_eq_some_iff.1 h).1
theorem RowAt.cell {w : World} {B : Nat} {xs : List Int} (h : RowAt w B xs) {j : Nat} (hj : j < xs.length) : w.cell? ⟨B, j, none⟩ = some (.int .i64 (xs.getD j 0)) := by
  simp [World.cell?, show w.heap[B]? = _ from h, intCells, List.getElem?_eq_getElem hj, List.getD]
theorem RowAt.frozen {w : World} {B : Nat} {xs : List Int} (h : RowAt w B xs) (j : Nat) : w.frozen? ⟨B, j, none⟩ = false := by
  simp [World.frozen?, show w.heap[B]? = _ from h]
theorem RowAt.set {w : World} {B : Nat} {xs : List Int} (h : RowAt w B xs) (j : Nat) (x : Int) : RowAt (w.setCell ⟨B, j, none⟩ (.int .i64 x)) B (xs.set j x) := by
  obtain ⟨hlt, hk⟩ := Array.getElem?_eq_some_iff.1 h
  show (w.heap.modify B _)[B]? = _
  rw [Array.getElem?_eq_getElem (by rw [Array.size_modify]; exact hlt), Array.getElem_modify_self, hk]
  simp [intCells, List.map_set]
theorem RowAt.keep {w w' : World} {B : Nat} {xs : List Int} (h : RowAt w B xs) (g : w'.heap[B]? = w.heap[B]?) : RowAt w' B xs := g.trans h
theorem RowAt.new (w : World) (xs : List Int) : RowAt (w.alloc (.cells (intCells xs) 3)) w.heap.size xs := World.alloc_heap_new w _

theorem info_int : (Try.prog.info? 3).map (fun i => (i.zero, i.size, i.bytes)) = some (some (.int .i64 0), 1, 8) := by kernel_rfl

theorem run_make_ints (w : World) (r : Nat) (hr : r ≤ 100000) : (Instr.makeSlice 22 (.int .i64 (r : Int)) (.int .i64 (r : Int))).run Try.prog w = .ok (.slice (some ⟨w.heap.size, 0, none⟩) r r) (w.alloc (.cells (intCells (List.replicate r 0)) 3)) := by
  obtain ⟨i0, hi, hz0, hz1, hz2⟩ := info_parts info_int
  have := run_make (P := Try.prog) w 22 3 i0 (.int .i64 0) Try.underlying22 hi hz0 .i64 .i64 (r : Int) (r : Int) (by omega) (by omega) (by rw [hz2]; omega) (by omega)
  rw [this]
  have e : madeCells (Value.int .i64 0).cells (((r : Int).toNat) * i0.size) = intCells (List.replicate r 0) := by
    rw [hz1]
    refine Array.toList_inj.1 ?_
    have h2 := toList_madeCells_one (.int .i64 0) r
    simpa [intCells, Value.cells] using h2
  rw [e]
  simp

theorem zeros_rep : ∀ {ds : List Int}, zeros ds = List.replicate ds.length 0
  | [] => rfl
  | d :: ds => by simp [zeros, zeros_rep, List.replicate_succ]

theorem crd_inj : ∀ {ds : List Int} {k m : Int}, Pos ds → 0 ≤ k → k < pr ds → 0 ≤ m → m < pr ds → crd ds k = crd ds m → k = m
  | [], k, m, _, h0, h1, g0, g1, _ => by simp [pr] at h1 g1; omega
  | d :: ds, k, m, h, h0, h1, g0, g1, e => by
    have hP := pr_pos h.tail
    simp only [crd, List.cons.injEq] at e
    have := crd_inj (ds := ds) h.tail (Int.emod_nonneg k (by omega)) (Int.emod_lt_of_pos k (by omega)) (Int.emod_nonneg m (by omega)) (Int.emod_lt_of_pos m (by omega)) e.2
    have h2 := Int.mul_ediv_add_emod k (pr ds)
    have h3 := Int.mul_ediv_add_emod m (pr ds)
    rw [e.1] at h2
    omega

open Classical in
/-- How many are still to come, read off the row. -/
noncomputable def left (B : Nat) (ds : List Int) (w : World) : Nat :=
  if h : ∃ k : Int, 0 ≤ k ∧ k < pr ds ∧ RowAt w B (crd ds k) then (pr ds - Classical.choose h).toNat else 0

theorem left_eq {B : Nat} {ds : List Int} {w : World} {k : Int} (hp : Pos ds) (h0 : 0 ≤ k) (h1 : k < pr ds) (h : RowAt w B (crd ds k)) : left B ds w = (pr ds - k).toNat := by
  have hex : ∃ k : Int, 0 ≤ k ∧ k < pr ds ∧ RowAt w B (crd ds k) := ⟨k, h0, h1, h⟩
  unfold left
  rw [dif_pos hex]
  obtain ⟨a, b, c⟩ := Classical.choose_spec hex
  have e : crd ds (Classical.choose hex) = crd ds k := by
    have := (show w.heap[B]? = _ from c).symm.trans h
    simp only [Option.some.injEq, Obj.cells.injEq, intCells, and_true] at this
    have h2 := congrArg Array.toList this
    simp only at h2
    exact (List.map_inj_right (fun x y e => by injection e)).1 h2
  rw [crd_inj hp a b h0 h1 e]

/-- The places that a view shows, in their order. -/
def places (off : Int) (ds ss : List Int) (n : Nat) : List Int := (List.range n).map fun (k : Nat) => off + plc ss (crd ds (k : Int))

theorem places_length (off : Int) (ds ss : List Int) (n : Nat) : (places off ds ss n).length = n := by simp [places]
theorem places_next (off : Int) (ds ss : List Int) (k : Nat) : places off ds ss (k + 1) = places off ds ss k ++ [off + plc ss (crd ds (k : Int))] := by
  simp [places, List.range_succ]
theorem places_part (off : Int) (ds ss : List Int) {k n : Nat} (h : k < n) : ∃ rest, places off ds ss n = places off ds ss k ++ (off + plc ss (crd ds (k : Int))) :: rest := by
  refine ⟨((List.range (n - (k + 1))).map (fun (j : Nat) => off + plc ss (crd ds ((k + 1 + j : Nat) : Int)))), ?_⟩
  have e : n = (k + 1) + (n - (k + 1)) := by omega
  have : List.range n = List.range (k + 1) ++ (List.range (n - (k + 1))).map (k + 1 + ·) := by
    conv => lhs; rw [e]
    exact List.range_add
  unfold places
  rw [this, List.map_append, List.range_succ, List.map_append]
  simp

end Go.Proofs.Ytfdafceolkmkoaa
