/- The walk of shape.Strides. -/
import Derived.Test.YtfdafceolkmkoaaViewS
set_option linter.unusedVariables false
namespace Go.Proofs.Ytfdafceolkmkoaa
open Go.RowKit Vw

/-- How far the next element stands, in each dimension. -/
def strd : List Int → List Int
  | [] => []
  | _ :: ds => pr ds :: strd ds

theorem strd_length : ∀ {ds : List Int}, (strd ds).length = ds.length
  | [] => rfl
  | _ :: ds => by simp [strd, strd_length]

theorem pr_drop : ∀ {zs : List Int} {j : Nat}, (∀ d ∈ zs, 1 ≤ d) → 1 ≤ pr (zs.drop j) ∧ pr (zs.drop j) ≤ pr zs
  | zs, 0, h => ⟨pr_pos h, by simp⟩
  | [], j + 1, h => by simp [pr]
  | d :: ds, j + 1, h => by
    have ih := pr_drop (zs := ds) (j := j) (fun x hx => h x (by simp [hx]))
    have h1 := h d (by simp)
    have h2 : 1 * pr ds ≤ d * pr ds := Int.mul_le_mul_of_nonneg_right h1 (by omega)
    simp only [List.drop_succ_cons, pr]
    omega

/-- The row after some steps. -/
def strRow (zs : List Int) (m : Nat) : List Int := List.replicate m 0 ++ strd (zs.drop m)

theorem strRow_length {zs : List Int} {m : Nat} (h : m ≤ zs.length) : (strRow zs m).length = zs.length := by
  simp [strRow, strd_length]; omega
theorem strRow_step {zs : List Int} {j : Nat} (h : j < zs.length) : (strRow zs (j + 1)).set j (pr (zs.drop (j + 1))) = strRow zs j := by
  unfold strRow
  rw [drop_next h, List.replicate_succ', List.append_assoc, List.set_append_right _ _ (by simp)]
  simp [strd]
theorem strRow_zero (zs : List Int) : strRow zs 0 = strd zs := by simp [strRow]
theorem strRow_full (zs : List Int) : strRow zs zs.length = List.replicate zs.length 0 := by simp [strRow, strd]
theorem pr_next {zs : List Int} {j : Nat} (h : j < zs.length) : pr (zs.drop (j + 1)) * zs.getD j 0 = pr (zs.drop j) := by
  rw [drop_next h]; simp [pr, Int.mul_comm]

attribute [local irreducible] cnt strd pr strRow

theorem strides_bad {w : World} {v : Value} {zs : List Int} (h : Hid (IntsIn w v zs)) (he : Hid ((cnt zs).2 ≠ 0)) (w : World) (h2 : Hid (IntsIn w v zs)) :
    Calls Try.prog 40 #[v] w fun e w' => e = .returned (.tuple #[.slice none 0 0, .int .i64 (cnt zs).2]) ∧ w = w' := by
  have HC := Lib.hid (count_any h2.out)
  have hne := he.out
  generalize cnt zs = cc at *
  go_enter Try.func40, Try.ntmps40
  go_wp2_with (go_at_call 39; refine HC.out.mono ?_; rintro e w' ⟨rfl, rfl⟩)
  all_goals first
    | (go_ret2; exact ⟨rfl, rfl⟩)
    | (exfalso; have h3 := he.out; simp_all)

set_option maxHeartbeats 1000000 in
theorem strides_row (b off cap : Nat) (zs : List Int) (w : World) (hlen : zs.length ≤ 6) (hb : b < w.heap.size) (hr : Hid (Reads w b off zs)) (hin : Hid (IntsIn w (.slice (some ⟨b, off, none⟩) zs.length cap) zs)) (hp : Hid (∀ d ∈ zs, 1 ≤ d ∧ d ≤ 65536)) (hN : Hid (pr zs ≤ 65536)) (he : Hid ((cnt zs).2 = 0)) :
    Calls Try.prog 40 #[.slice (some ⟨b, off, none⟩) zs.length cap] w fun e w' => e = .returned (.tuple #[.slice (some ⟨w.heap.size, 0, none⟩) zs.length zs.length, .int .i64 0]) ∧ RowAt w' w.heap.size (strd zs) ∧ Below w.heap.size w w' := by
  have HC := Lib.hid (count_any hin.out)
  rw [show cnt zs = ((cnt zs).1, 0) by rw [← he.out]] at HC
  generalize (cnt zs).1 = c1 at *
  have hmk := fun w => run_make_ints w zs.length (by omega)
  have hrow : Hid (RowAt (w.alloc (.cells (intCells (List.replicate zs.length 0)) 3)) w.heap.size (strRow zs zs.length)) := Lib.hid (by rw [strRow_full]; exact RowAt.new w _)
  have hbel : Hid (Below w.heap.size w (w.alloc (.cells (intCells (List.replicate zs.length 0)) 3))) := Lib.hid ((Below.refl _ w).alloc (Nat.le_refl _) _)
  have hpr0 : Hid (pr (zs.drop zs.length) = 1) := Lib.hid (by rw [List.drop_length]; unfold pr; rfl)
  go_enter Try.func40, Try.ntmps40
  go_wp2_with (go_at_call 39; refine HC.out.mono ?_; rintro e w' ⟨rfl, rfl⟩)
  go_loopw [7, 23] (fun n i wr => ∃ m k : Nat, Hid (k + m = zs.length) ∧ n = .int .i64 (pr (zs.drop m)) ∧ i = .int .i64 (k : Int) ∧ Hid (RowAt wr w.heap.size (strRow zs m)) ∧ Hid (Below w.heap.size w wr)) (fun _ i _ => zs.length - (intOf i).toNat)
  case atStart => exact ⟨zs.length, 0, Lib.hid (by omega), by rw [hpr0.out], rfl, hrow, hbel⟩
  case round =>
    obtain ⟨m, k, hkm, rfl, rfl, hrw, hbl⟩ := hrel
    have hm : m ≤ zs.length := by have := hkm.out; omega
    rcases (match m with | 0 => Or.inl rfl | i + 1 => Or.inr ⟨i, rfl⟩ : m = 0 ∨ ∃ i, m = i + 1) with e0 | ⟨j, e0⟩
    · subst e0
      obtain rfl : k = zs.length := by have := hkm.out; omega
      go_wp2
      go_ret2
      exact ⟨rfl, by rw [← strRow_zero]; exact hrw.out, hbl.out⟩
    · subst e0
      have hj : j < zs.length := by omega
      have hcx := (hbl.out.cell (p := ⟨b, off + j, none⟩) hb).trans (hr.out j hj)
      have hfz := hrw.out.frozen j
      have hcell := hrw.out.cell (j := j) (by rw [strRow_length hm]; omega)
      have hset : Hid (RowAt (wr.setCell ⟨w.heap.size, j, none⟩ (.int .i64 (pr (zs.drop (j + 1))))) w.heap.size (strRow zs j)) := Lib.hid (by rw [← strRow_step hj]; exact hrw.out.set j _)
      have hb3 : Hid (Below w.heap.size w (wr.setCell ⟨w.heap.size, j, none⟩ (.int .i64 (pr (zs.drop (j + 1)))))) := Lib.hid (hbl.out.setCell (p := ⟨w.heap.size, j, none⟩) (Nat.le_refl _) _)
      have hcx2 := (hb3.out.cell (p := ⟨b, off + j, none⟩) hb).trans (hr.out j hj)
      have hpn := Lib.hid (pr_next hj)
      have hd := hp.out _ (getD_mem hj)
      have hq := pr_drop (zs := zs) (j := j + 1) (fun d hd => (hp.out d hd).1)
      have hq2 := pr_drop (zs := zs) (j := j) (fun d hd => (hp.out d hd).1)
      have hN2 := hN.out
      have hkl : k < zs.length := by have := hkm.out; omega
      have hidx : (zs.length : Int) - 1 - (k : Int) = (j : Int) := by have := hkm.out; omega
      generalize hpj : pr (zs.drop (j + 1)) = pj at *
      have hmul : pj * zs.getD j 0 = pr (zs.drop j) := hpn.out
      generalize zs.getD j 0 = z at *
      generalize hpj2 : pr (zs.drop j) = pj2 at *
      have HP2 := Lib.hid hpj2
      clear hpj hpj2
      go_wp2
      go_roundw
      case rel => exact ⟨j, k + 1, Lib.hid (by have := hkm.out; omega), by rw [HP2.out], by go_num, hset, hb3⟩
      case measure => simp [intOf]; omega


/-- A slice of numbers in memory of the call's own. -/
def Fresh (B : Nat) (w' : World) (v : Value) (zs : List Int) : Prop :=
  (zs = [] ∧ ∃ a0 cap, v = .slice a0 0 cap) ∨ ∃ g cap cur, v = .slice (some ⟨g, 0, none⟩) zs.length cap ∧ B ≤ g ∧ w'.heap[g]? = some (.cells cur 3 (0, 0)) ∧ zs.length ≤ cap ∧ cur.toList.take zs.length = zs.map (Value.int .i64)

theorem Fresh.ints {B : Nat} {w' : World} {v : Value} {zs : List Int} (h : Fresh B w' v zs) (hlen : zs.length * 8 ≤ 140737488351232) (hw : ∀ z ∈ zs, InI z) : IntsIn w' v zs := by
  rcases h with ⟨rfl, a0, cap, rfl⟩ | ⟨g, cap, cur, rfl, hB, hg, hc, ht⟩
  · exact .empty a0 cap
  · by_cases h0 : zs = []
    · subst h0; exact .empty _ cap
    · refine .row g 0 cap zs h0 hc (Array.getElem?_eq_some_iff.1 hg).1 (fun j hj => ?_) hlen hw
      have h2 : (cur.toList.take zs.length)[j]? = (zs.map (Value.int .i64))[j]? := by rw [ht]
      rw [List.getElem?_take_of_lt hj, List.getElem?_map, List.getElem?_eq_getElem hj] at h2
      simp only [Option.map_some, Array.getElem?_toList] at h2
      have h3 : w'.cell? ⟨g, 0 + j, none⟩ = cur[0 + j]? := by simp [World.cell?, hg]
      rw [h3, Nat.zero_add, h2]
      simp [List.getD, List.getElem?_eq_getElem hj]

theorem Fresh.row {B g : Nat} {w' : World} {zs : List Int} {n : Nat} (h : RowAt w' g zs) (hB : B ≤ g) (hn : n = zs.length) : Fresh B w' (.slice (some ⟨g, 0, none⟩) n n) zs := by
  subst hn
  exact Or.inr ⟨g, zs.length, _, rfl, hB, h, Nat.le_refl _, by simp [intCells, List.take_of_length_le]⟩

theorem Fresh.below {B : Nat} {w w' : World} {v : Value} {zs : List Int} (h : Fresh B w v zs) (hb : Below w.heap.size w w') : Fresh B w' v zs := by
  rcases h with h | ⟨g, cap, cur, e, hB, hg, hc, ht⟩
  · exact Or.inl h
  · exact Or.inr ⟨g, cap, cur, e, hB, (hb.block g (Array.getElem?_eq_some_iff.1 hg).1).trans hg, hc, ht⟩

theorem strides_empty (a0 : Option Addr) (cap : Nat) (w : World) :
    Calls Try.prog 40 #[.slice a0 0 cap] w fun e w' => e = .returned (.tuple #[.slice (some ⟨w.heap.size, 0, none⟩) 0 0, .int .i64 0]) ∧ RowAt w' w.heap.size (strd []) ∧ Below w.heap.size w w' := by
  have HC := Lib.hid (count_any (IntsIn.empty (w := w) a0 cap))
  rw [show cnt [] = (1, 0) by unfold cnt cntLoop; decide] at HC
  have hmk : ∀ w : World, (Instr.makeSlice 22 (.int .i64 0) (.int .i64 0)).run Try.prog w = .ok (.slice (some ⟨w.heap.size, 0, none⟩) 0 0) (w.alloc (.cells (intCells (List.replicate 0 0)) 3)) := fun w => run_make_ints w 0 (by omega)
  have hrow : Hid (RowAt (w.alloc (.cells (intCells (List.replicate 0 0)) 3)) w.heap.size (strd [])) := Lib.hid (by unfold strd; exact RowAt.new w _)
  have hbel : Hid (Below w.heap.size w (w.alloc (.cells (intCells (List.replicate 0 0)) 3))) := Lib.hid ((Below.refl _ w).alloc (Nat.le_refl _) _)
  go_enter Try.func40, Try.ntmps40
  go_wp2_with (go_at_call 39; refine HC.out.mono ?_; rintro e w' ⟨rfl, rfl⟩)
  go_rounds 1
  go_ret2
  exact ⟨rfl, hrow.out, hbel.out⟩

/-- What comes out of Strides. -/
def StrOut (w : World) (zs : List Int) (e : Ending) (w' : World) : Prop :=
  Below w.heap.size w w' ∧ (((cnt zs).2 ≠ 0 ∧ e = .returned (.tuple #[.slice none 0 0, .int .i64 (cnt zs).2])) ∨ ((cnt zs).2 = 0 ∧ ∃ v, e = .returned (.tuple #[v, .int .i64 0]) ∧ Fresh w.heap.size w' v (strd zs)))

theorem strides_any {w : World} {v : Value} {zs : List Int} (h : IntsIn w v zs) : Calls Try.prog 40 #[v] w (StrOut w zs) := by
  by_cases he : (cnt zs).2 = 0
  · have hg := cnt_good he
    have h' := h
    cases h with
    | empty a0 cap =>
      refine (strides_empty a0 cap w).mono ?_
      rintro e w' ⟨h1, h2, h3⟩
      exact ⟨h3, Or.inr ⟨he, _, h1, Fresh.row h2 (Nat.le_refl _) (by unfold strd; rfl)⟩⟩
    | row b off cap _ h0 hc hb hr hlen hw =>
      refine (strides_row b off cap zs w hg.2.1 hb (Lib.hid hr) (Lib.hid h') (Lib.hid hg.1) (Lib.hid hg.2.2.2) (Lib.hid he)).mono ?_
      rintro e w' ⟨h1, h2, h3⟩
      exact ⟨h3, Or.inr ⟨he, _, h1, Fresh.row h2 (Nat.le_refl _) (by rw [strd_length])⟩⟩
  · refine (strides_bad (w := w) (Lib.hid h) (Lib.hid he) w (Lib.hid h)).mono ?_
    rintro e w' ⟨h1, rfl⟩
    exact ⟨Below.refl _ _, Or.inl ⟨he, h1⟩⟩

end Go.Proofs.Ytfdafceolkmkoaa
