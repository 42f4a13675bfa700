/- The walk of view.Transpose at a view and an order of dimensions that may be. -/
import Derived.Test.YtfdafceolkmkoaaViewX
import Derived.BigRegion
set_option linter.unusedVariables false
namespace Go.Proofs.Ytfdafceolkmkoaa
open Go.RowKit Vw

/-- A row of cells whose first hold these numbers. -/
def RowC (w : World) (g : Nat) (xs : List Int) : Prop := ∃ cur, w.heap[g]? = some (.cells cur 3 (0, 0)) ∧ cur.toList.take xs.length = xs.map (Value.int .i64) ∧ xs.length ≤ cur.size

theorem RowC.cell {w : World} {g : Nat} {xs : List Int} (h : RowC w g xs) {j : Nat} (hj : j < xs.length) : w.cell? ⟨g, j, none⟩ = some (.int .i64 (xs.getD j 0)) := by
  obtain ⟨cur, h1, h2, h3⟩ := h
  have h4 : (cur.toList.take xs.length)[j]? = (xs.map (Value.int .i64))[j]? := by rw [h2]
  rw [List.getElem?_take_of_lt hj, List.getElem?_map, List.getElem?_eq_getElem hj] at h4
  simp only [Option.map_some, Array.getElem?_toList] at h4
  have h5 : w.cell? ⟨g, j, none⟩ = cur[j]? := by simp [World.cell?, h1]
  rw [h5, h4]
  simp [List.getD, List.getElem?_eq_getElem hj]
theorem RowC.frozen {w : World} {g : Nat} {xs : List Int} (h : RowC w g xs) (j : Nat) : w.frozen? ⟨g, j, none⟩ = false := by
  obtain ⟨cur, h1, _⟩ := h
  simp [World.frozen?, h1]
theorem RowC.lt {w : World} {g : Nat} {xs : List Int} (h : RowC w g xs) : g < w.heap.size := by
  obtain ⟨cur, h1, _⟩ := h
  exact (Array.getElem?_eq_some_iff.1 h1).1
theorem RowC.set {w : World} {g : Nat} {xs : List Int} (h : RowC w g xs) (j : Nat) (x : Int) : RowC (w.setCell ⟨g, j, none⟩ (.int .i64 x)) g (xs.set j x) := by
  obtain ⟨cur, h1, h2, h3⟩ := h
  obtain ⟨hlt, hk⟩ := Array.getElem?_eq_some_iff.1 h1
  refine ⟨cur.setIfInBounds j (.int .i64 x), ?_, ?_, by simpa using h3⟩
  · show (w.heap.modify g _)[g]? = _
    rw [Array.getElem?_eq_getElem (by rw [Array.size_modify]; exact hlt), Array.getElem_modify_self, hk]
    rfl
  · rw [List.length_set, List.map_set, ← h2, Array.toList_setIfInBounds, List.take_set]
theorem RowC.keep {w w' : World} {g : Nat} {xs : List Int} (h : RowC w g xs) (e : w'.heap[g]? = w.heap[g]?) : RowC w' g xs := by
  obtain ⟨cur, h1, h2⟩ := h
  exact ⟨cur, e.trans h1, h2⟩
theorem RowC.fresh {w : World} {B g cap : Nat} {xs : List Int} (h : RowC w g xs) (hB : B ≤ g) (hc : xs.length ≤ cap) : Fresh B w (.slice (some ⟨g, 0, none⟩) xs.length cap) xs := by
  obtain ⟨cur, h1, h2, h3⟩ := h
  exact Or.inr ⟨g, cap, cur, rfl, hB, h1, hc, h2⟩
theorem Fresh.rowC {B : Nat} {w : World} {v : Value} {xs : List Int} (h : Fresh B w v xs) (h0 : xs ≠ []) : ∃ g cap, v = .slice (some ⟨g, 0, none⟩) xs.length cap ∧ B ≤ g ∧ xs.length ≤ cap ∧ RowC w g xs := by
  rcases h with ⟨e, _⟩ | ⟨g, cap, cur, rfl, hB, hg, hc, ht⟩
  · exact absurd e h0
  · refine ⟨g, cap, rfl, hB, hc, cur, hg, ht, ?_⟩
    have := congrArg List.length ht
    simp at this; omega

/-- Of some a new order has come. -/
def pd (ds ps : List Int) (k : Nat) : List Int := (ps.take k).map (fun p => ds.getD p.toNat 0) ++ ds.drop k

theorem pd_length {ds ps : List Int} {k : Nat} (h : k ≤ ps.length) (hl : ps.length = ds.length) : (pd ds ps k).length = ds.length := by
  simp [pd]; omega
theorem pd_step {ds ps : List Int} {k : Nat} (h : k < ps.length) (hl : ps.length = ds.length) : (pd ds ps k).set k (ds.getD (ps.getD k 0).toNat 0) = pd ds ps (k + 1) := by
  unfold pd
  rw [drop_next (zs := ds) (by omega), List.set_append_right _ _ (by simp; omega), take_next h]
  simp [Nat.min_eq_left (Nat.le_of_lt h)]
theorem pd_zero (ds ps : List Int) : pd ds ps 0 = ds := by simp [pd]
theorem pd_all {ds ps : List Int} (hl : ps.length = ds.length) : pd ds ps ps.length = ps.map (fun p => ds.getD p.toNat 0) := by
  unfold pd
  rw [List.take_length, List.drop_eq_nil_of_le (by omega), List.append_nil]

/-- The numbers from 0 on. -/
def rng (n : Nat) : List Int := (List.range n).map fun (k : Nat) => (k : Int)
theorem rng_length (n : Nat) : (rng n).length = n := by simp [rng]
theorem rng_get {n k : Nat} (h : k < n) : (rng n).getD k 0 = (k : Int) := by
  simp [rng, List.getD, h]
theorem perm_range {ps : List Int} {n : Nat} (h : sortI ps = rng n) : ∀ p ∈ ps, 0 ≤ p ∧ p < n := by
  intro p hp
  have h1 : p ∈ sortI ps := (List.mergeSort_perm ps _).mem_iff.2 hp
  rw [h] at h1
  simp only [rng, List.mem_map, List.mem_range] at h1
  obtain ⟨k, hk, rfl⟩ := h1
  omega

/-- What stands while the new order is laid. -/
structure TrS (w : World) (b2 b4 b8 gd gs : Nat) (off : Int) (d s d' s' : Value) (ds ss ps : List Int) (k : Nat) (wr : World) : Prop where
  v2 : Box3 wr b2 (.int .i64 off) d s
  v4 : Box3 wr b4 (.int .i64 0) (.slice none 0 0) (.slice none 0 0)
  v8 : Box3 wr b8 (.int .i64 off) d' s'
  rd : RowC wr gd (pd ds ps k)
  rs : RowC wr gs (pd ss ps k)
  below : Below w.heap.size w wr

variable {w : World} {b2 b4 b8 gd gs : Nat} {off : Int} {d s d' s' : Value} {ds ss ps : List Int} {k : Nat} {wr : World}

theorem TrS.step (h : TrS w b2 b4 b8 gd gs off d s d' s' ds ss ps k wr) (hk : k < ps.length) (hl : ps.length = ds.length) (hl2 : ss.length = ds.length)
    (n1 : gd ≠ gs) (n2 : b2 ≠ gd) (n3 : b2 ≠ gs) (n4 : b4 ≠ gd) (n5 : b4 ≠ gs) (n8 : b8 ≠ gd) (n9 : b8 ≠ gs) (hgd : w.heap.size ≤ gd) (hgs : w.heap.size ≤ gs) :
    TrS w b2 b4 b8 gd gs off d s d' s' ds ss ps (k + 1) ((wr.setCell ⟨gd, k, none⟩ (.int .i64 (ds.getD (ps.getD k 0).toNat 0))).setCell ⟨gs, k, none⟩ (.int .i64 (ss.getD (ps.getD k 0).toNat 0))) := by
  have two : ∀ b, b ≠ gd → b ≠ gs → ((wr.setCell ⟨gd, k, none⟩ (.int .i64 (ds.getD (ps.getD k 0).toNat 0))).setCell ⟨gs, k, none⟩ (.int .i64 (ss.getD (ps.getD k 0).toNat 0))).heap[b]? = wr.heap[b]? := fun b h1 h2 =>
    (Below.heap_setCell _ _ _ b h2).trans (Below.heap_setCell _ _ _ b h1)
  refine ⟨(two b2 n2 n3).trans h.v2, (two b4 n4 n5).trans h.v4, (two b8 n8 n9).trans h.v8, ?_, ?_, (h.below.setCell (p := ⟨gd, k, none⟩) hgd _).setCell (p := ⟨gs, k, none⟩) hgs _⟩
  · have := h.rd.set k (ds.getD (ps.getD k 0).toNat 0)
    rw [pd_step hk hl] at this
    exact this.keep (Below.heap_setCell _ _ _ gd n1)
  · have h2 : RowC (wr.setCell ⟨gd, k, none⟩ (.int .i64 (ds.getD (ps.getD k 0).toNat 0))) gs (pd ss ps k) := h.rs.keep (Below.heap_setCell _ _ _ gs (Ne.symm n1))
    have := h2.set k (ss.getD (ps.getD k 0).toNat 0)
    rw [pd_step hk (by omega)] at this
    exact this
theorem TrS.drew (h : TrS w b2 b4 b8 gd gs off d s d' s' ds ss ps k wr) : TrS w b2 b4 b8 gd gs off d s d' s' ds ss ps k wr.drew :=
  ⟨h.v2, h.v4, h.v8, h.rd.keep rfl, h.rs.keep rfl, h.below.drew⟩

end Go.Proofs.Ytfdafceolkmkoaa
