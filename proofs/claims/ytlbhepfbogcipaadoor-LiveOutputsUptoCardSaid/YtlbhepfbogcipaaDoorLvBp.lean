/- Of live.rows: rows of rows of truths. -/
import Derived.Test.YtlbhepfbogcipaaDoorLvRp
set_option linter.unusedVariables false
set_option linter.unusedSimpArgs false
namespace Go.Proofs.YtlbhepfbogcipaaDoor
open Go.RowKit

def boolCs (n : Nat) (f : Nat → Bool) : Array Value := ((List.range n).map fun i => Value.bool (f i)).toArray
/-- A row of truths of the call's own. -/
def RowB (w : World) (b n : Nat) (f : Nat → Bool) : Prop := BoxN w b (boolCs n f) 4
theorem RowB.lt {w : World} {b n : Nat} {f : Nat → Bool} (h : RowB w b n f) : b < w.heap.size := BoxN.lt h
theorem RowB.keep {w w' : World} {b n : Nat} {f : Nat → Bool} (h : RowB w b n f) (g : w'.heap[b]? = w.heap[b]?) : RowB w' b n f := g.trans h
theorem RowB.cell {w : World} {b n : Nat} {f : Nat → Bool} (h : RowB w b n f) {j : Nat} (hj : j < n) : w.cell? ⟨b, j, none⟩ = some (.bool (f j)) := BoxN.cell h j (by simp [boolCs, hj])
theorem RowB.frozen {w : World} {b n : Nat} {f : Nat → Bool} (h : RowB w b n f) (j : Nat) : w.frozen? ⟨b, j, none⟩ = false := BoxN.frozen h j
theorem RowB.congr {w : World} {b n : Nat} {f g : Nat → Bool} (h : RowB w b n f) (e : ∀ j, j < n → f j = g j) : RowB w b n g := by
  unfold RowB
  have : boolCs n g = boolCs n f := by
    unfold boolCs
    congr 1
    refine List.map_congr_left fun j hj => ?_
    rw [e j (List.mem_range.1 hj)]
  rw [this]; exact h
theorem RowB.set {w : World} {b n : Nat} {f g : Nat → Bool} (h : RowB w b n f) {j : Nat} {x : Bool} (hx : g j = x) (hg : ∀ k, k ≠ j → g k = f k) : RowB (w.setCell ⟨b, j, none⟩ (.bool x)) b n g := by
  have h2 := BoxN.set h j (.bool x)
  unfold RowB
  have : boolCs n g = (boolCs n f).setIfInBounds j (.bool x) := by
    unfold boolCs
    rw [List.setIfInBounds_toArray]
    congr 1
    refine List.ext_getElem? fun i => ?_
    rw [List.getElem?_set]
    by_cases hij : j = i
    · subst hij
      by_cases hj : j < n
      · simp [hj, hx]
      · simp [hj]
    · simp only [if_neg hij, List.getElem?_map]
      by_cases hi : i < n
      · rw [List.getElem?_range hi]
        simp [hg i (fun e => hij e.symm)]
      · rw [List.getElem?_eq_none (by simp; omega)]; rfl
  rw [this]; exact h2
theorem RowB.new (w : World) (n : Nat) : RowB (w.alloc (.cells (doneCells n []) 4)) w.heap.size n (fun _ => false) := BoxN.new w _ _

theorem info_bools : (Tryd.prog.info? 35).map (fun i => (i.zero, i.size, i.bytes)) = some (some (.slice none 0 0), 1, 24) := by kernel_rfl
theorem run_make_nilsB (w : World) (r : Nat) (hr : r ≤ 100000) : (Instr.makeSlice 31 (.int .i64 (r : Int)) (.int .i64 (r : Int))).run Tryd.prog w = .ok (.slice (some ⟨w.heap.size, 0, none⟩) r r) (w.alloc (.cells (nilRows r).toArray 35)) := by
  obtain ⟨i0, hi, hz0, hz1, hz2⟩ := info_parts info_bools
  have := run_make (P := Tryd.prog) w 31 35 i0 (.slice none 0 0) Tryd.underlying31 hi hz0 .i64 .i64 (r : Int) (r : Int) (by omega) (by omega) (by rw [hz2]; omega) (by omega)
  rw [this]
  have e : madeCells (Value.slice none 0 0).cells (((r : Int).toNat) * i0.size) = (nilRows r).toArray := by
    rw [hz1]
    refine Array.toList_inj.1 ?_
    have h2 := toList_madeCells_one (.slice none 0 0) r
    show _ = nilRows r
    unfold nilRows
    rw [← h2]
    simp [Value.cells]
  rw [e]
  simp

/-- The rows from the m-th on are made. -/
structure BoolRows (w : World) (B n : Nat) (rs : List Value) (F : Nat → Nat → Bool) (m : Nat) : Prop where
  len : rs.length = n
  box : BoxN w B rs.toArray 35
  row : ∀ k, m ≤ k → k < n → ∃ b, rs[k]? = some (.slice (some ⟨b, 0, none⟩) n n) ∧ B < b ∧ RowB w b n (F k)
theorem BoolRows.new (w : World) (n : Nat) (F : Nat → Nat → Bool) : BoolRows (w.alloc (.cells (nilRows n).toArray 35)) w.heap.size n (nilRows n) F n :=
  ⟨by unfold nilRows; simp, BoxN.new w _ _, fun k h1 h2 => by omega⟩
/-- A table of truths, as whoever reads it sees it. -/
structure TabB (w : World) (v : Value) (n : Nat) (F : Nat → Nat → Bool) : Prop where
  rows : ∃ B, v = .slice (some ⟨B, 0, none⟩) n n ∧ B < w.heap.size ∧ ∀ k, k < n → ∃ b, w.cell? ⟨B, k, none⟩ = some (.slice (some ⟨b, 0, none⟩) n n) ∧ b < w.heap.size ∧ ∀ j, j < n → w.cell? ⟨b, j, none⟩ = some (.bool (F k j))
theorem TabB.below {w w' : World} {v : Value} {n : Nat} {F : Nat → Nat → Bool} (h : TabB w v n F) (hB : Below w.heap.size w w') : TabB w' v n F := by
  obtain ⟨B, e, hb, h⟩ := h.rows
  refine ⟨B, e, by have := hB.size; omega, fun k hk => ?_⟩
  obtain ⟨b, h1, h2, h3⟩ := h k hk
  exact ⟨b, (hB.cell (p := ⟨B, k, none⟩) hb).trans h1, by have := hB.size; omega, fun j hj => (hB.cell (p := ⟨b, j, none⟩) h2).trans (h3 j hj)⟩
theorem BoolRows.tab {w : World} {B n : Nat} {rs : List Value} {F : Nat → Nat → Bool} (h : BoolRows w B n rs F 0) : TabB w (.slice (some ⟨B, 0, none⟩) n n) n F :=
  ⟨B, rfl, h.box.lt, fun k hk => by
    obtain ⟨b, h1, h2, h3⟩ := h.row k (Nat.zero_le _) hk
    exact ⟨b, h.box.cell k (by rw [List.getElem?_toArray]; exact h1), h3.lt, fun j hj => h3.cell hj⟩⟩
/-- With the next row behind a new block. -/
theorem BoolRows.next {w W : World} {B n i : Nat} {rs : List Value} {F : Nat → Nat → Bool} (h : BoolRows w B n rs F (i + 1)) (hi : i < n)
    (hW : BoxN W B (rs.set i (.slice (some ⟨w.heap.size, 0, none⟩) n n)).toArray 35) (hk : ∀ g, g < w.heap.size → g ≠ B → W.heap[g]? = w.heap[g]?) (hr : RowB W w.heap.size n (F i)) : BoolRows W B n (rs.set i (.slice (some ⟨w.heap.size, 0, none⟩) n n)) F i := by
  refine ⟨by rw [List.length_set]; exact h.len, hW, fun k h1 h2 => ?_⟩
  by_cases e : k = i
  · subst e
    exact ⟨w.heap.size, List.getElem?_set_self (by rw [h.len]; exact h2), h.box.lt, hr⟩
  · obtain ⟨b, e1, e2, e3⟩ := h.row k (by omega) h2
    exact ⟨b, by rw [List.getElem?_set_ne (fun c => e c.symm)]; exact e1, e2, e3.keep (hk b e3.lt (by omega))⟩

/-! ### what a row holds on the way -/

def accF (R : Nat → List Nat) (F : Nat → Nat → Bool) (i p : Nat) (b : Nat) : Bool := ((R i).take p).any fun r => decide (r = b) || F r b
theorem accF_zero (R : Nat → List Nat) (F : Nat → Nat → Bool) (i b : Nat) : accF R F i 0 b = false := by unfold accF; simp
theorem accF_next {R : Nat → List Nat} {F : Nat → Nat → Bool} {i p r : Nat} (h : (R i)[p]? = some r) (b : Nat) : accF R F i (p + 1) b = (accF R F i p b || decide (r = b) || F r b) := by
  unfold accF; rw [List.take_add_one, h]; simp [Bool.or_assoc]
theorem accF_end {R : Nat → List Nat} {F : Nat → Nat → Bool} {i b : Nat} (h : F i b = (R i).any fun r => decide (r = b) || F r b) : accF R F i (R i).length b = F i b := by
  unfold accF; rw [List.take_length, h]
def orF (x : Nat → Bool) (F : Nat → Nat → Bool) (r q : Nat) (b : Nat) : Bool := x b || decide (r = b) || (decide (b < q) && F r b)

end Go.Proofs.YtlbhepfbogcipaaDoor
