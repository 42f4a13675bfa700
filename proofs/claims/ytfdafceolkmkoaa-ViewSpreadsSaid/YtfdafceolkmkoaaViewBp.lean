/- The plain law of ViewBack: an order of dimensions and the one that turns back; two orders, one behind the other. -/
import Derived.Test.YtfdafceolkmkoaaViewOp
set_option linter.unusedVariables false
namespace Go.Proofs.Ytfdafceolkmkoaa
open Go.RowKit Vw

/-- An order of n dimensions. -/
def Ord (ps : List Int) (n : Nat) : Prop := ps.length = n ∧ ps.Perm (rng n)

theorem rng_nodup (n : Nat) : (rng n).Nodup := by
  rw [List.nodup_iff_pairwise_ne, List.pairwise_iff_getElem]
  intro i j hi hj hij
  simp [rng]
  omega

theorem Ord.of_sort {ps : List Int} {n : Nat} (h : sortI ps = rng n) (hl : ps.length = n) : Ord ps n := ⟨hl, order_perm h⟩

theorem sort_perm {xs ys : List Int} (h : xs.Perm ys) : sortI xs = sortI ys := by
  have hs : ∀ zs : List Int, (sortI zs).Pairwise fun a b => a ≤ b := fun zs => by
    have := List.pairwise_mergeSort (le := fun x y : Int => decide (x ≤ y)) (fun a b c h1 h2 => by simp at *; omega) (fun a b => by simp; omega) zs
    exact this.imp fun h => by simpa using h
  refine List.Perm.eq_of_pairwise (le := fun a b : Int => a ≤ b) (fun a b _ _ h1 h2 => by omega) (hs xs) (hs ys) ?_
  exact ((List.mergeSort_perm xs _).trans h).trans (List.mergeSort_perm ys _).symm

theorem rng_sorted (n : Nat) : sortI (rng n) = rng n := by
  unfold sortI
  refine List.mergeSort_of_pairwise ?_
  rw [List.pairwise_iff_getElem]
  intro i j hi hj hij
  simp [rng]
  omega

theorem Ord.sort {ps : List Int} {n : Nat} (h : Ord ps n) : sortI ps = rng n := by rw [sort_perm h.2, rng_sorted]

theorem Ord.at {ps : List Int} {n i : Nat} (h : Ord ps n) (hi : i < n) : 0 ≤ ps.getD i 0 ∧ ps.getD i 0 < n := perm_range h.sort _ (getD_mem (by rw [h.1]; exact hi))

theorem Ord.inj {ps : List Int} {n i j : Nat} (h : Ord ps n) (hi : i < n) (hj : j < n) (e : ps.getD i 0 = ps.getD j 0) : i = j := by
  have hn : ps.Nodup := h.2.symm.nodup (rng_nodup n)
  rw [List.nodup_iff_pairwise_ne, List.pairwise_iff_getElem] at hn
  have l := h.1
  simp only [List.getD, List.getElem?_eq_getElem (show i < ps.length by omega), List.getElem?_eq_getElem (show j < ps.length by omega), Option.getD_some] at e
  by_cases hij : i < j
  · exact absurd e (hn i j (by omega) (by omega) hij)
  · by_cases hji : j < i
    · exact absurd e.symm (hn j i (by omega) (by omega) hji)
    · omega

theorem Ord.has {ps : List Int} {n j : Nat} (h : Ord ps n) (hj : j < n) : ∃ i, i < n ∧ ps.getD i 0 = (j : Int) := by
  have hm : (j : Int) ∈ ps := h.2.mem_iff.2 (List.mem_map.2 ⟨j, List.mem_range.2 hj, rfl⟩)
  obtain ⟨i, hi, e⟩ := List.getElem_of_mem hm
  exact ⟨i, by have := h.1; omega, by simp [List.getD, List.getElem?_eq_getElem hi, e]⟩

theorem map_getD (f : Int → Int) (ps : List Int) {i : Nat} (hi : i < ps.length) : (ps.map f).getD i 0 = f (ps.getD i 0) := by
  simp [List.getD, List.getElem?_eq_getElem hi]

/-- The one that turns back. -/
def Back (ps : List Int) (n k : Nat) (qs : List Int) : Prop := qs.length = n ∧ ∀ i, i < k → qs.getD (ps.getD i 0).toNat 0 = (i : Int)

theorem Back.step {ps qs : List Int} {n k p : Nat} (ho : Ord ps n) (h : Back ps n k qs) (hk : k < n) (hp : ps.getD k 0 = (p : Int)) : Back ps n (k + 1) (qs.set p (k : Int)) := by
  have hpn : p < n := by have := ho.at hk; omega
  refine ⟨by rw [List.length_set]; exact h.1, fun i hi => ?_⟩
  by_cases e : i = k
  · subst e
    rw [hp, Int.toNat_natCast]
    simp [List.getD, h.1, hpn]
  · have hne : p ≠ (ps.getD i 0).toNat := fun e2 => e (ho.inj (by omega) hk (by have := ho.at (show i < n by omega); omega))
    have e3 : (qs.set p (k : Int)).getD (ps.getD i 0).toNat 0 = qs.getD (ps.getD i 0).toNat 0 := by
      generalize (ps.getD i 0).toNat = m at hne ⊢
      simp [List.getD, List.getElem?_set_ne hne]
    rw [e3]
    exact h.2 i (by omega)

theorem Back.ord {ps qs : List Int} {n : Nat} (ho : Ord ps n) (h : Back ps n n qs) : Ord qs n := by
  have e : ps.map (fun p => qs.getD p.toNat 0) = rng n := by
    refine List.ext_getElem (by simp [rng_length, ho.1]) fun j h1 h2 => ?_
    have hj : j < n := by simpa [rng_length] using h2
    have := h.2 j hj
    have l := ho.1
    simp only [List.getD, List.getElem?_eq_getElem (show j < ps.length by omega), Option.getD_some] at this
    simp [rng, List.getD, this]
  have p := ho.2.map (fun p => qs.getD p.toNat 0)
  rw [e, ← h.1, map_all qs] at p
  exact ⟨h.1, by rw [← h.1]; exact p.symm⟩

theorem Back.turned {ps qs ds : List Int} {n : Nat} (ho : Ord ps n) (h : Back ps n n qs) (hd : ds.length = n) : (qs.map fun q => (ps.map fun p => ds.getD p.toNat 0).getD q.toNat 0) = ds := by
  refine List.ext_getElem (by simp [h.1, hd]) fun j h1 h2 => ?_
  obtain ⟨i, hi, e⟩ := ho.has (show j < n by omega)
  have e2 := h.2 i hi
  rw [e, Int.toNat_natCast] at e2
  have hj : j < qs.length := by simpa using h1
  rw [List.getElem_map]
  have e3 : qs[j] = (i : Int) := by simpa [List.getD, List.getElem?_eq_getElem hj] using e2
  rw [e3, Int.toNat_natCast, map_getD _ _ (by rw [ho.1]; exact hi), e, Int.toNat_natCast]
  simp [List.getD, List.getElem?_eq_getElem h2]

/-- Both orders, one behind the other. -/
def both (ps qs : List Int) : List Int := qs.map fun q => ps.getD q.toNat 0

theorem both_ord {ps qs : List Int} {n : Nat} (h1 : Ord ps n) (h2 : Ord qs n) : Ord (both ps qs) n := by
  have p := h2.2.map (fun q => ps.getD q.toNat 0)
  have e : (rng n).map (fun q => ps.getD q.toNat 0) = ps := by
    have := map_all ps
    rw [h1.1] at this
    exact this
  rw [e] at p
  exact ⟨by simp [both, h2.1], p.trans h1.2⟩

theorem both_turned {ps qs : List Int} {n : Nat} (ds : List Int) (h1 : Ord ps n) (h2 : Ord qs n) : ((both ps qs).map fun p => ds.getD p.toNat 0) = qs.map fun q => (ps.map fun p => ds.getD p.toNat 0).getD q.toNat 0 := by
  unfold both
  rw [List.map_map]
  apply List.map_congr_left
  intro q hq
  have := perm_range h2.sort q hq
  simp only [Function.comp]
  rw [map_getD _ _ (by rw [h1.1]; omega)]

/-- A view that is turned may be. -/
theorem may_turned {off : Int} {ds ss ps : List Int} (hm : mayV off ds ss = true) (ho : Ord ps ds.length) : mayV off (ps.map fun p => ds.getD p.toNat 0) (ps.map fun p => ss.getD p.toNat 0) = true := by
  have hg := may_good hm
  generalize hds : (ps.map fun p => ds.getD p.toNat 0) = ds'
  generalize hss : (ps.map fun p => ss.getD p.toNat 0) = ss'
  have pd : ds'.Perm ds := by
    have := ho.2.map (fun p => ds.getD p.toNat 0)
    rw [map_all, hds] at this
    exact this
  have psx : ss'.Perm ss := by
    have := ho.2.map (fun p => ss.getD p.toNat 0)
    rw [← hg.2.2.2.2.1, map_all, hss] at this
    exact this
  have hcnt : cnt ds' = (pr ds', 0) := cnt_of (fun d hd => (hg.1 d (pd.mem_iff.1 hd)).1) (by rw [pd.length_eq]; exact hg.2.1) (by rw [pr_perm pd]; exact hg.2.2.2.1)
  have hll : ss'.length = ds'.length := by rw [psx.length_eq, pd.length_eq, hg.2.2.2.2.1]
  have hfar : ss'.any farS = false := by
    rw [List.any_eq_false]
    intro s hs
    have := hg.2.2.2.2.2.2.2 s (psx.mem_iff.1 hs)
    simp only [farS, decide_eq_true_eq]
    omega
  have h1 := hg.2.2.2.2.2.1
  have h2 := hg.2.2.2.2.2.2.1
  simp [mayV, hcnt, hll, hfar, h1]
  omega

theorem tr_good {off : Int} {ds ss ps : List Int} (hm : mayV off ds ss = true) (ho : Ord ps ds.length) : trO off ds ss ps = (0, off, ps.map fun p => ds.getD p.toNat 0, ps.map fun p => ss.getD p.toNat 0) := by
  unfold trO
  rw [if_neg (by rw [hm]; decide), if_pos ⟨by rw [ho.1]; exact ho.sort, ho.1⟩]

theorem tr_ok {off : Int} {ds ss ps : List Int} (h : (trO off ds ss ps).1 = 0) : mayV off ds ss = true ∧ Ord ps ds.length := by
  unfold trO at h
  cases hm : mayV off ds ss
  · rw [if_pos hm] at h; exact absurd h (by decide)
  · rw [if_neg (by rw [hm]; decide)] at h
    by_cases h2 : sortI ps = rng ps.length ∧ ps.length = ds.length
    · exact ⟨rfl, Ord.of_sort (by rw [← h2.2]; exact h2.1) h2.2⟩
    · rw [if_neg h2] at h; exact absurd h (by decide)

end Go.Proofs.Ytfdafceolkmkoaa
