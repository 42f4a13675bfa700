/- Of the law GraphOrders: plain facts; rows of numbers of the call's own. -/
import Derived.Test.YtlbhepfbogcipaaGreatDoorGrOw
set_option linter.unusedVariables false
set_option linter.unusedSimpArgs false
namespace Go.Proofs.YtlbhepfbogcipaaGreatDoor
open Go.RowKit

/-! ### a row of numbers -/

def intCs (xs : List Int) : Array Value := (xs.map (Value.int .i64)).toArray
def RowI (w : World) (B : Nat) (xs : List Int) : Prop := w.heap[B]? = some (.cells (intCs xs) 3 (0, 0))
theorem RowI.lt {w : World} {B : Nat} {xs : List Int} (h : RowI w B xs) : B < w.heap.size := (Array.getElem?_eq_some_iff.1 h).1
theorem RowI.cell {w : World} {B : Nat} {xs : List Int} (h : RowI w B xs) {j : Nat} (hj : j < xs.length) : w.cell? ⟨B, j, none⟩ = some (.int .i64 (xs.getD j 0)) := by
  simp [World.cell?, show w.heap[B]? = _ from h, intCs, List.getElem?_eq_getElem hj, List.getD]
theorem RowI.frozen {w : World} {B : Nat} {xs : List Int} (h : RowI w B xs) (j : Nat) : w.frozen? ⟨B, j, none⟩ = false := by
  simp [World.frozen?, show w.heap[B]? = _ from h]
theorem RowI.set {w : World} {B : Nat} {xs : List Int} (h : RowI w B xs) (j : Nat) (x : Int) : RowI (w.setCell ⟨B, j, none⟩ (.int .i64 x)) B (xs.set j x) := by
  obtain ⟨hlt, hk⟩ := Array.getElem?_eq_some_iff.1 h
  show (w.heap.modify B _)[B]? = _
  rw [Array.getElem?_eq_getElem (by rw [Array.size_modify]; exact hlt), Array.getElem_modify_self, hk]
  simp [intCs, List.map_set]
theorem RowI.keep {w w' : World} {B : Nat} {xs : List Int} (h : RowI w B xs) (g : w'.heap[B]? = w.heap[B]?) : RowI w' B xs := g.trans h
theorem RowI.new (w : World) (xs : List Int) : RowI (w.alloc (.cells (intCs xs) 3)) w.heap.size xs := World.alloc_heap_new w _
theorem run_make_intsG (w : World) (r : Nat) (hr : r ≤ 100000) : (Instr.makeSlice 40 (.int .i64 (r : Int)) (.int .i64 (r : Int))).run Tryz.prog w = .ok (.slice (some ⟨w.heap.size, 0, none⟩) r r) (w.alloc (.cells (intCs (List.replicate r 0)) 3)) := by
  obtain ⟨i0, hi, hz0, hz1, hz2⟩ := info_parts info_int
  have := run_make (P := Tryz.prog) w 40 3 i0 (.int .i64 0) Tryz.underlying40 hi hz0 .i64 .i64 (r : Int) (r : Int) (by omega) (by omega) (by rw [hz2]; omega) (by omega)
  rw [this]
  have e : madeCells (Value.int .i64 0).cells (((r : Int).toNat) * i0.size) = intCs (List.replicate r 0) := by
    rw [hz1]
    refine Array.toList_inj.1 ?_
    have h2 := toList_madeCells_one (.int .i64 0) r
    simpa [intCs, Value.cells] using h2
  rw [e]
  simp

/-! ### where each stands -/

/-- Behind the first so many of the order: each node's place, and one. -/
def atF (l : List Nat) (n : Nat) : Nat → List Int
  | 0 => List.replicate n 0
  | p + 1 => (atF l n p).set (l.getD p 0) ((p : Int) + 1)
theorem atF_len (l : List Nat) (n : Nat) : ∀ p, (atF l n p).length = n
  | 0 => by simp [atF]
  | p + 1 => by rw [atF, List.length_set, atF_len l n p]
theorem atF_in {l : List Nat} {n : Nat} (hn : l.Nodup) (hl : ∀ i ∈ l, i < n) : ∀ (p q i : Nat), p ≤ l.length → q < p → l[q]? = some i → (atF l n p).getD i 0 = (q : Int) + 1
  | 0, q, i, _, h, _ => absurd h (by omega)
  | p + 1, q, i, hpl, h, hi => by
    rw [atF]
    obtain ⟨hql, eq⟩ := List.getElem?_eq_some_iff.1 hi
    have hin : i < n := hl i (List.mem_of_getElem? hi)
    by_cases e : q = p
    · subst e
      have : l.getD q 0 = i := by simp [List.getD, hi]
      rw [this, List.getD, List.getElem?_set_self (by rw [atF_len]; exact hin)]
      rfl
    · have hne : l.getD p 0 ≠ i := by
        rw [List.getD, List.getElem?_eq_getElem (by omega), Option.getD_some]
        intro c
        rw [← eq] at c
        exact e ((List.getElem_inj hn).1 c).symm
      rw [List.getD, List.getElem?_set_ne hne, ← List.getD]
      exact atF_in hn hl p q i (by omega) (by omega) hi
theorem atF_out {l : List Nat} {n : Nat} (hn : l.Nodup) : ∀ (p i : Nat), p ≤ l.length → (∀ q, q < p → l[q]? ≠ some i) → (atF l n p).getD i 0 = 0
  | 0, i, _, _ => by
    unfold atF
    by_cases h : i < n
    · simp [List.getD, h]
    · rw [List.getD, List.getElem?_eq_none (by simp; omega)]; rfl
  | p + 1, i, hp, h => by
    rw [atF]
    have hne : l.getD p 0 ≠ i := by
      intro c
      rw [List.getD, List.getElem?_eq_getElem (by omega), Option.getD_some] at c
      exact h p (by omega) (List.getElem?_eq_some_iff.2 ⟨by omega, c⟩)
    rw [List.getD, List.getElem?_set_ne hne, ← List.getD]
    exact atF_out hn p i (by omega) (fun q hq => h q (by omega))
theorem atF_new {l : List Nat} {n p i : Nat} (hn : l.Nodup) (hi : l[p]? = some i) : (atF l n p).getD i 0 = 0 := by
  obtain ⟨hp, e⟩ := List.getElem?_eq_some_iff.1 hi
  refine atF_out hn p i (by omega) (fun q hq c => ?_)
  obtain ⟨hq2, e2⟩ := List.getElem?_eq_some_iff.1 c
  have := (List.getElem_inj hn).1 (e2.trans e.symm)
  omega
theorem atF_step {l : List Nat} {n p i : Nat} (hi : l[p]? = some i) : (atF l n p).set i ((p : Int) + 1) = atF l n (p + 1) := by
  rw [atF]
  simp [List.getD, hi]

/-- What a graph in whose order is nothing wrong is like. -/
structure FineG (g : Gr) : Prop where
  great : tooGreat g = false
  parts : partsE g = 0
  like : unlikeB (namesG g) = true
  named : namedB g = true
  full : (work g).length = g.nodes.length
theorem fineG_of {g : Gr} (h : orderE g = 0) : FineG g := by
  unfold orderE at h
  by_cases h1 : tooGreat g = true
  · rw [if_pos h1] at h; exact absurd h (by decide)
  rw [if_neg h1] at h
  by_cases h2 : partsE g = 0
  · rw [if_neg (fun c => c h2)] at h
    by_cases h3 : unlikeB (namesG g) = false
    · rw [if_pos h3] at h; exact absurd h (by decide)
    rw [if_neg h3] at h
    by_cases h4 : namedB g = false
    · rw [if_pos h4] at h; exact absurd h (by decide)
    rw [if_neg h4] at h
    by_cases h5 : (work g).length = g.nodes.length
    · exact ⟨by simpa using h1, h2, by simpa using h3, by simpa using h4, h5⟩
    · rw [if_pos h5] at h; exact absurd h (by decide)
  · rw [if_pos h2] at h; exact absurd h h2
theorem FineG.outs {g : Gr} (h : FineG g) : (g.nodes.map (·.out)).Nodup := by
  have h1 := unlike_nodup h.like
  unfold namesG at h1
  exact (List.nodup_append.1 h1).2.1
/-- Nobody who is read stands behind the one that reads. -/
theorem FineG.before {g : Gr} (h : FineG g) {i k : Nat} {ni nk : Nd} (hi : g.nodes[i]? = some ni) (hk : g.nodes[k]? = some nk) (hs : nk.out ∈ ni.ins) :
    (atF (work g) g.nodes.length (work g).length).getD k 0 < (atF (work g) g.nodes.length (work g).length).getD i 0 := by
  have hg := work_good g
  have hil := (List.getElem?_eq_some_iff.1 hi).1
  obtain ⟨p, hp, e⟩ := List.mem_iff_getElem.1 (nodup_full hg.nodup hg.lt h.full hil)
  have hp2 : (work g)[p]? = some i := List.getElem?_eq_some_iff.2 ⟨hp, e⟩
  obtain ⟨q, hq, e2⟩ := hg.before h.outs hp2 hi hk hs
  rw [atF_in hg.nodup hg.lt _ p i (Nat.le_refl _) hp hp2, atF_in hg.nodup hg.lt _ q k (Nat.le_refl _) (by omega) e2]
  omega

end Go.Proofs.YtlbhepfbogcipaaGreatDoor
