/- The walk of the reference's Perm. -/
import Derived.Test.YtfdafceolkmkoaaViewRp
set_option linter.unusedVariables false
namespace Go.Proofs.Ytfdafceolkmkoaa
open Go.RowKit Vw

/-- Are these the numbers below n, each once? -/
def PermD (ps : List Int) (n : Nat) : Prop := ps.length = n ∧ ∀ i, i < n → (i : Int) ∈ ps

instance (ps : List Int) (n : Nat) : Decidable (PermD ps n) := by unfold PermD; infer_instance

theorem perm_of_subset {α : Type} [BEq α] [LawfulBEq α] : ∀ {xs ys : List α}, xs.Nodup → (∀ x ∈ xs, x ∈ ys) → ys.length = xs.length → xs.Perm ys
  | [], ys, _, _, h => by rw [List.eq_nil_of_length_eq_zero h]
  | x :: xs, ys, hn, hs, hl => by
    have hx := hs x (by simp)
    have hn' := List.nodup_cons.1 hn
    have ih := perm_of_subset (xs := xs) (ys := ys.erase x) hn'.2 (fun y hy => by
      have hne : y ≠ x := fun e => hn'.1 (e ▸ hy)
      exact (List.mem_erase_of_ne hne).2 (hs y (by simp [hy]))) (by rw [List.length_erase_of_mem hx]; simp at hl; omega)
    exact (ih.cons x).trans (List.perm_cons_erase hx).symm

theorem permD_ord {ps : List Int} {n : Nat} : PermD ps n ↔ Ord ps n := by
  constructor
  · rintro ⟨hl, h⟩
    refine ⟨hl, (perm_of_subset (rng_nodup n) (fun x hx => ?_) (by rw [rng_length, hl])).symm⟩
    obtain ⟨i, hi, rfl⟩ := List.mem_map.1 hx
    exact h i (List.mem_range.1 hi)
  · rintro h
    refine ⟨h.1, fun i hi => ?_⟩
    obtain ⟨j, hj, e⟩ := h.has hi
    rw [← e]
    exact getD_mem (by rw [h.1]; exact hj)

/-- Is a number among the first ones? -/
def metB (ps : List Int) (i : Int) (k : Nat) : Bool := (ps.take k).any fun p => p == i

theorem metB_zero (ps : List Int) (i : Int) : metB ps i 0 = false := by simp [metB]
theorem metB_next {ps : List Int} {i : Int} {k : Nat} (h : k < ps.length) : metB ps i (k + 1) = (metB ps i k || (ps.getD k 0 == i)) := by
  unfold metB
  rw [take_next h]; simp
theorem metB_all {ps : List Int} {i : Int} : metB ps i ps.length = true ↔ i ∈ ps := by
  simp [metB]

def MetTo (ps : List Int) (k : Nat) : Prop := ∀ i, i < k → (i : Int) ∈ ps

theorem MetTo.next {ps : List Int} {k : Nat} (h : MetTo ps k) (g : (k : Int) ∈ ps) : MetTo ps (k + 1) := fun i hi => by
  by_cases e : i = k
  · subst e; exact g
  · exact h i (by omega)

theorem permD_no {ps : List Int} {n k : Nat} (hk : k < n) (h : ¬ (k : Int) ∈ ps) : ¬ PermD ps n := fun g => h (g.2 k hk)
theorem permD_yes {ps : List Int} {n : Nat} (hl : ps.length = n) (h : MetTo ps n) : PermD ps n := ⟨hl, h⟩
theorem permD_len {ps : List Int} {n : Nat} (hl : ps.length ≠ n) : ¬ PermD ps n := fun g => hl g.1
theorem metTo_zero (ps : List Int) : MetTo ps 0 := fun i hi => by omega

attribute [local irreducible] metB MetTo PermD

set_option maxRecDepth 100000 in
set_option maxHeartbeats 2000000 in
theorem rperm_any {w : World} (pv : Value) (ps : List Int) (n : Nat) (hp : IntsIn w pv ps) (hn : n ≤ 6) :
    Calls Try.prog 38 #[pv, .int .i64 (n : Int)] w fun e w' => e = .returned (.bool (decide (PermD ps n))) ∧ w = w' := by
  obtain ⟨a1, c1, rfl⟩ := hp.form
  have H := Lib.hid hp.rows.2
  have hpl := hp.wf.1
  clear hp
  by_cases hl : ps.length = n
  rotate_left
  · have e := decide_eq_false (permD_len hl)
    rw [e]
    have hb : ((ps.length : Int) != (n : Int)) = true := by simp; omega
    go_enter Try.func38, Try.ntmps38
    go_wp2_with fail
    go_ret
    exact ⟨rfl, rfl⟩
  · have HL := Lib.hid hl
    subst hl
    clear HL
    go_enter Try.func38, Try.ntmps38
    go_wp2_with fail
    go_loop [5] (fun i => ∃ k : Nat, k ≤ ps.length ∧ i = .int .i64 (k : Int) ∧ Hid (MetTo ps k)) (fun i => ps.length - (intOf i).toNat)
    case atStart => exact ⟨0, Nat.zero_le _, rfl, Lib.hid (metTo_zero ps)⟩
    case round =>
      obtain ⟨k, hk, rfl, hm⟩ := hrel
      by_cases hkl : k < ps.length
      · have hki : (k : Int) < (ps.length : Int) := by omega
        go_wp2_with fail
        go_loop [6, 7] (fun f j => ∃ m : Nat, m ≤ ps.length ∧ f = .bool (metB ps (k : Int) m) ∧ j = .int .i64 (m : Int)) (fun _ j => ps.length - (intOf j).toNat)
        case atStart => exact ⟨0, Nat.zero_le _, by rw [metB_zero], rfl⟩
        case round =>
          obtain ⟨m, hml, rfl, rfl⟩ := hrel
          by_cases hmk : m < ps.length
          · have hmi : (m : Int) < (ps.length : Int) := by omega
            obtain ⟨b, o, rfl, hbb, hr⟩ := H.out m hmk
            have hcx := hr m hmk
            have hnx := Lib.hid (metB_next (i := (k : Int)) hmk)
            generalize ps.getD m 0 = z at *
            cases hmb : metB ps (k : Int) m
            · rw [hmb] at hnx
              have hn2 : Hid (metB ps (k : Int) (m + 1) = (z == (k : Int))) := Lib.hid (by rw [hnx.out]; simp)
              clear hmb hnx
              go_wp2_with fail
              go_round
              case rel => exact ⟨m + 1, by omega, by rw [hn2.out], by go_num⟩
              case measure => simp [intOf]; omega
            · rw [hmb] at hnx
              have hn2 : Hid (metB ps (k : Int) (m + 1) = true) := Lib.hid (by rw [hnx.out]; simp)
              clear hmb hnx
              go_wp2_with fail
              go_round
              case rel => exact ⟨m + 1, by omega, by rw [hn2.out], by go_num⟩
              case measure => simp [intOf]; omega
          · obtain rfl : m = ps.length := by omega
            by_cases hmem : (k : Int) ∈ ps
            · rw [metB_all.2 hmem]
              have hm2 := Lib.hid (hm.out.next hmem)
              clear hmem
              go_wp2_with fail
              go_round
              case rel => exact ⟨k + 1, by omega, by go_num, hm2⟩
              case measure => simp [intOf]; omega
            · have e := Lib.hid (decide_eq_false (permD_no hkl hmem))
              have hmf : metB ps (k : Int) ps.length = false := by
                cases h : metB ps (k : Int) ps.length
                · rfl
                · exact absurd (metB_all.1 h) hmem
              rw [hmf]
              clear hmem hmf
              go_wp2_with fail
              go_ret
              exact ⟨ret_val (bool_val e.out.symm), rfl⟩
      · obtain rfl : k = ps.length := by omega
        have e := Lib.hid (decide_eq_true (permD_yes rfl hm.out))
        go_wp2_with fail
        go_ret
        exact ⟨ret_val (bool_val e.out.symm), rfl⟩

end Go.Proofs.Ytfdafceolkmkoaa
