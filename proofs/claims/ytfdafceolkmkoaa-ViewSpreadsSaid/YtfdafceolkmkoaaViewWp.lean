/- The plain law of ViewWhole: the whole of any dimensions shows the numbers from 0 on. -/
import Derived.Test.YtfdafceolkmkoaaViewNm
import Derived.Test.YtfdafceolkmkoaaViewRg
set_option linter.unusedVariables false
namespace Go.Proofs.Ytfdafceolkmkoaa
open Go.RowKit Vw

theorem plc_strd : ∀ {ds : List Int} {k : Int}, Pos ds → 0 ≤ k → k < pr ds → plc (strd ds) (crd ds k) = k
  | [], k, _, h0, h1 => by simp only [pr] at h1; simp only [strd, crd, plc]; omega
  | d :: ds, k, hp, h0, h1 => by
    have hpp := pr_pos hp.tail
    have e1 := Int.emod_nonneg k (show pr ds ≠ 0 by omega)
    have e2 := Int.emod_lt_of_pos k (show 0 < pr ds by omega)
    have ih := plc_strd (ds := ds) (k := k % pr ds) hp.tail e1 e2
    have := Int.mul_ediv_add_emod k (pr ds)
    simp only [strd, crd, plc]
    rw [ih, Int.mul_comm (k / pr ds) (pr ds)]
    omega

theorem whole_places {ds : List Int} (h : Pos ds) : places 0 ds (strd ds) (pr ds).toNat = upto (pr ds).toNat := by
  unfold places upto
  apply List.map_congr_left
  intro j hj
  have := List.mem_range.1 hj
  have hpp := pr_pos h
  rw [plc_strd h (by omega) (by omega)]
  omega

theorem strd_mem : ∀ {ds : List Int} {s : Int}, Pos ds → s ∈ strd ds → 1 ≤ s ∧ s ≤ pr ds
  | [], s, _, h => by simp [strd] at h
  | d :: ds, s, hp, h => by
    have hpp := pr_pos hp.tail
    have h1 := hp.head
    have h2 : 1 * pr ds ≤ d * pr ds := Int.mul_le_mul_of_nonneg_right h1 (by omega)
    simp only [strd, List.mem_cons] at h
    simp only [pr]
    rcases h with rfl | h
    · omega
    · have := strd_mem hp.tail h
      omega

theorem cnt_pos {ds : List Int} (h : (cnt ds).2 = 0) : Pos ds := fun d hd => ((cnt_good h).1 d hd).1

theorem whole_may {ds : List Int} (h : (cnt ds).2 = 0) : mayV 0 ds (strd ds) = true := by
  have hg := cnt_good h
  have hf : (strd ds).any farS = false := by
    rw [List.any_eq_false]
    intro s hs
    have := strd_mem (cnt_pos h) hs
    have h1 := hg.2.2.2
    simp only [farS, decide_eq_true_eq]
    omega
  simp [mayV, h, strd_length, hf]

theorem whole_reads {ds : List Int} (h : (cnt ds).2 = 0) : readL 0 ds (strd ds) (upto (pr ds).toNat) = some (upto (pr ds).toNat) := by
  unfold readL
  rw [whole_places (cnt_pos h)]
  rw [if_pos ⟨whole_may h, fun p hp => by have := upto_mem hp; rw [upto_length]; omega⟩]
  congr 1
  conv => rhs; rw [← List.map_id (upto (pr ds).toNat)]
  apply List.map_congr_left
  intro p hp
  have := upto_mem hp
  rw [upto_getD (by omega)]
  simp only [id]
  omega

theorem resh_whole {ds ps : List Int} (h : (cnt ds).2 = 0) : (reshO 0 ds (strd ds) ps).1 ≠ 0 ∨ (reshO 0 ds (strd ds) ps = (0, 0, ps, strd ps) ∧ (cnt ps).2 = 0 ∧ pr ps = pr ds) := by
  unfold reshO
  have hm := whole_may h
  rw [if_neg (by rw [hm]; decide)]
  by_cases h1 : (cnt ps).2 ≠ 0
  · rw [if_pos h1]; exact Or.inl h1
  rw [if_neg h1]
  by_cases h2 : (cnt ds).1 ≠ (cnt ps).1
  · rw [if_pos h2]; exact Or.inl (by decide)
  rw [if_neg h2]
  have h1' : (cnt ps).2 = 0 := by simpa using h1
  have h2' : (cnt ds).1 = (cnt ps).1 := by simpa using h2
  by_cases h3 : PlTo ds (strd ds) ds.length
  · rw [if_pos h3]
    exact Or.inr ⟨rfl, h1', by rw [← (cnt_good h1').2.2.1, ← (cnt_good h).2.2.1, h2']⟩
  · rw [if_neg h3]; exact Or.inl (by decide)

end Go.Proofs.Ytfdafceolkmkoaa
