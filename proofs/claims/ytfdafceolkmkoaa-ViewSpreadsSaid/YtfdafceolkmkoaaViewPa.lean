/- The plain law of ViewParts: the two parts of the first dimension show what the whole shows. -/
import Derived.Test.YtfdafceolkmkoaaViewS
set_option linter.unusedVariables false
namespace Go.Proofs.Ytfdafceolkmkoaa
open Go.RowKit Vw

theorem cntLoop_less : ∀ {ds : List Int} {n n' m : Int}, (∀ d ∈ ds, 1 ≤ d) → n' ≤ n → cntLoop n ds = (m, 0) → (cntLoop n' ds).2 = 0
  | [], _, _, _, _, _, _ => rfl
  | d :: ds, n, n', m, hp, hn, h => by
    have hd : 1 ≤ d := hp d (by simp)
    have hle : n' * d ≤ n * d := Int.mul_le_mul_of_nonneg_right hn (by omega)
    unfold cntLoop at h ⊢
    by_cases hc : 65536 < n * d
    · rw [if_pos hc] at h; simp at h
    · rw [if_neg hc] at h
      rw [if_neg (by omega)]
      exact cntLoop_less (fun x hx => hp x (by simp [hx])) hle h

theorem cnt_less {d0 a : Int} {ds : List Int} (h : (cnt (d0 :: ds)).2 = 0) (h1 : 1 ≤ a) (h2 : a ≤ d0) : (cnt (a :: ds)).2 = 0 := by
  unfold cnt at h ⊢
  by_cases hl : ((d0 :: ds).any fun d => decide (d < 1)) = true
  · rw [if_pos hl] at h; simp at h
  · rw [if_neg hl] at h
    simp only [List.any_cons, Bool.or_eq_true, decide_eq_true_eq, not_or] at hl
    have hl2 : ¬ ((a :: ds).any fun d => decide (d < 1)) = true := by
      simp only [List.any_cons, Bool.or_eq_true, decide_eq_true_eq, not_or]
      exact ⟨by omega, hl.2⟩
    rw [if_neg hl2]
    by_cases h6 : 6 < (d0 :: ds).length
    · rw [if_pos h6] at h; simp at h
    · rw [if_neg h6] at h
      rw [if_neg (by simpa using h6)]
      unfold cntLoop at h ⊢
      by_cases hc : 65536 < 1 * d0
      · rw [if_pos hc] at h; simp at h
      · rw [if_neg hc] at h
        rw [if_neg (by omega)]
        refine cntLoop_less (m := (cntLoop (1 * d0) ds).1) (fun x hx => ?_) (show 1 * a ≤ 1 * d0 by omega) (by rw [← h])
        have := hl.2
        simp only [List.any_eq_true, decide_eq_true_eq, not_exists, not_and] at this
        have := this x hx
        omega

theorem may_part {off d0 a s0 o2 : Int} {ds ss : List Int} (h : mayV off (d0 :: ds) (s0 :: ss) = true) (h1 : 1 ≤ a) (h2 : a ≤ d0) (h3 : 0 ≤ o2) (h4 : o2 < 65536) : mayV o2 (a :: ds) (s0 :: ss) = true := by
  unfold mayV at h ⊢
  simp only [Bool.and_eq_true, decide_eq_true_eq, Bool.not_eq_true'] at h ⊢
  obtain ⟨⟨⟨⟨a1, a2⟩, a3⟩, a4⟩, a5⟩ := h
  exact ⟨⟨⟨⟨cnt_less a1 h1 h2, a2⟩, h3⟩, h4⟩, a5⟩

theorem places_cons (off d0 s0 : Int) (ds ss : List Int) (n : Nat) : places off (d0 :: ds) (s0 :: ss) n = (List.range n).map fun (k : Nat) => off + (((k : Int) / pr ds) * s0 + plc ss (crd ds ((k : Int) % pr ds))) := rfl

theorem places_split {off d0 a s0 : Int} {ds ss : List Int} (hp : 1 ≤ pr ds) (h1 : 0 ≤ a) (h2 : a ≤ d0) :
    places off (d0 :: ds) (s0 :: ss) (pr (d0 :: ds)).toNat = places off (a :: ds) (s0 :: ss) (pr (a :: ds)).toNat ++ places (off + a * s0) ((d0 - a) :: ds) (s0 :: ss) (pr ((d0 - a) :: ds)).toNat := by
  rw [places_cons, places_cons, places_cons]
  have e : (pr (d0 :: ds)).toNat = (pr (a :: ds)).toNat + (pr ((d0 - a) :: ds)).toNat := by
    have x1 : pr (d0 :: ds) = pr (a :: ds) + pr ((d0 - a) :: ds) := by simp only [pr]; rw [← Int.add_mul]; congr 1; omega
    have x2 : 0 ≤ pr (a :: ds) := Int.mul_nonneg h1 (by omega)
    have x3 : 0 ≤ pr ((d0 - a) :: ds) := Int.mul_nonneg (by omega) (by omega)
    omega
  have x2 : 0 ≤ pr (a :: ds) := Int.mul_nonneg h1 (by omega)
  rw [e, List.range_add, List.map_append, List.map_map]
  congr 1
  apply List.map_congr_left
  intro j hj
  simp only [Function.comp]
  have e2 : (((pr (a :: ds)).toNat + j : Nat) : Int) = (j : Int) + a * pr ds := by
    rw [Int.natCast_add, Int.toNat_of_nonneg x2]; simp only [pr]; omega
  rw [e2, Int.add_mul_ediv_right _ _ (by omega), Int.add_mul_emod_self_right, Int.add_mul]
  omega

/-- THE PLAIN LAW. -/
theorem parts_law {off d0 a s0 : Int} {ds ss data l : List Int} (hm : mayV off (d0 :: ds) (s0 :: ss) = true) (h1 : 1 ≤ a) (h2 : a < d0) (h3 : off + a * s0 < 65536) (hr : readL off (d0 :: ds) (s0 :: ss) data = some l) :
    ∃ x y, readL off (a :: ds) (s0 :: ss) data = some x ∧ readL (off + a * s0) ((d0 - a) :: ds) (s0 :: ss) data = some y ∧ x ++ y = l := by
  have hg := may_good hm
  have hs0 : 0 ≤ s0 := (hg.2.2.2.2.2.2.2 s0 (by simp)).1
  have ho := hg.2.2.2.2.2.1
  have ho2 := hg.2.2.2.2.2.2.1
  have has : 0 ≤ a * s0 := Int.mul_nonneg (by omega) hs0
  have hp : 1 ≤ pr ds := pr_pos (fun d hd => (hg.1 d (by simp [hd])).1)
  have m1 := may_part hm h1 (by omega) ho (by omega)
  have m2 := may_part (a := d0 - a) (o2 := off + a * s0) hm (by omega) (by omega) (by omega) h3
  have hsp := places_split (off := off) (s0 := s0) (ss := ss) hp (show 0 ≤ a by omega) (show a ≤ d0 by omega)
  unfold readL at hr ⊢
  rw [hsp] at hr
  by_cases hc : mayV off (d0 :: ds) (s0 :: ss) = true ∧ ∀ p ∈ places off (a :: ds) (s0 :: ss) (pr (a :: ds)).toNat ++ places (off + a * s0) ((d0 - a) :: ds) (s0 :: ss) (pr ((d0 - a) :: ds)).toNat, p < data.length
  · rw [if_pos hc] at hr
    refine ⟨_, _, if_pos ⟨m1, fun p hp => hc.2 p (List.mem_append.2 (Or.inl hp))⟩, if_pos ⟨m2, fun p hp => hc.2 p (List.mem_append.2 (Or.inr hp))⟩, ?_⟩
    rw [← List.map_append]
    exact Option.some.inj hr
  · rw [if_neg hc] at hr; exact absurd hr (by simp)

/-- How long what is read is, and of what. -/
theorem read_mem {off : Int} {ds ss data l : List Int} (h : readL off ds ss data = some l) : l.length ≤ 65536 ∧ ∀ x ∈ l, x ∈ data ∨ x = 0 := by
  unfold readL at h
  by_cases hc : mayV off ds ss = true ∧ ∀ p ∈ places off ds ss (pr ds).toNat, p < data.length
  · rw [if_pos hc] at h
    have hg := may_good hc.1
    cases h
    refine ⟨by rw [List.length_map, places_length]; have := hg.2.2.2.1; omega, fun x hx => ?_⟩
    obtain ⟨p, hp, rfl⟩ := List.mem_map.1 hx
    by_cases hlt : p.toNat < data.length
    · exact Or.inl (by simp [List.getD, List.getElem?_eq_getElem hlt])
    · exact Or.inr (by rw [List.getD, List.getElem?_eq_none (by omega)]; rfl)
  · rw [if_neg hc] at h; exact absurd h (by simp)

theorem read_some_ne {off : Int} {ds ss data l : List Int} (h : readL off ds ss data = some l) : l ≠ [] := by
  unfold readL at h
  by_cases hc : mayV off ds ss = true ∧ ∀ p ∈ places off ds ss (pr ds).toNat, p < data.length
  · rw [if_pos hc] at h
    have hg := may_good hc.1
    have hp : 1 ≤ pr ds := pr_pos (fun d hd => (hg.1 d hd).1)
    cases h
    intro e
    have := congrArg List.length e
    rw [List.length_map, places_length] at this
    simp at this
    omega
  · rw [if_neg hc] at h; exact absurd h (by simp)

theorem parts_facts {off at_ : Int} {ds ss data l : List Int} (h0 : 0 < ds.length) (hm : mayV off ds ss = true) (h1 : 0 < at_) (h2 : at_ < ds.getD 0 0) (h3 : off + at_ * ss.getD 0 0 < 65536) (hr : readL off ds ss data = some l) :
    ∃ x y, readL (off + 0 * ss.getD 0 0) (ds.set 0 (at_ - 0)) ss data = some x ∧ readL (off + at_ * ss.getD 0 0) (ds.set 0 (ds.getD 0 0 - at_)) ss data = some y ∧ x ++ y = l := by
  have hl := (may_good hm).2.2.2.2.1
  match ds, ss, h0, hl with
  | d0 :: ds', s0 :: ss', _, _ =>
    obtain ⟨x, y, a, b, c⟩ := parts_law hm (by omega) h2 h3 hr
    exact ⟨x, y, by simpa using a, b, c⟩

end Go.Proofs.Ytfdafceolkmkoaa
