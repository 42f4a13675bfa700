/- The walks of the reference's Same, of lists and of views. -/
import Derived.Test.YtfdafceolkmkoaaViewPw
set_option linter.unusedVariables false
namespace Go.Proofs.Ytfdafceolkmkoaa
open Go.RowKit Vw

set_option maxHeartbeats 1000000 in
theorem rsame_rows (b1 o1 c1 b2 o2 c2 : Nat) (xs ys : List Int) (hlen : xs.length * 8 ≤ 140737488351232) (hl : xs.length = ys.length) (w : World) (hb1 : b1 < w.heap.size) (hb2 : b2 < w.heap.size) (h1 : Hid (Reads w b1 o1 xs)) (h2 : Hid (Reads w b2 o2 ys)) :
    Calls Try.prog 44 #[.slice (some ⟨b1, o1, none⟩) xs.length c1, .slice (some ⟨b2, o2, none⟩) ys.length c2] w fun e w' => e = .returned (.bool (decide (xs = ys))) ∧ Below w.heap.size w w' := by
  rw [← hl]
  have HL := Lib.hid hl
  clear hl
  go_enter Try.func44, Try.ntmps44
  go_wp2
  go_loopw [5] (fun i wr => ∃ k : Nat, k ≤ xs.length ∧ i = .int .i64 (k : Int) ∧ Hid (SameTo xs ys k) ∧ Hid (Below w.heap.size w wr)) (fun i _ => xs.length - (intOf i).toNat)
  case atStart => exact ⟨0, Nat.zero_le _, rfl, Lib.hid (fun j hj => by omega), Lib.hid (Below.refl _ _)⟩
  case round =>
    obtain ⟨k, hk, rfl, hs, hb⟩ := hrel
    by_cases hkl : k < xs.length
    · have x1 := (hb.out.cell (p := ⟨b1, o1 + k, none⟩) hb1).trans (h1.out k hkl)
      have x2 := (hb.out.cell (p := ⟨b2, o2 + k, none⟩) hb2).trans (h2.out k (by have := HL.out; omega))
      have hki : (k : Int) < (xs.length : Int) := by omega
      have hnx : Hid (xs.getD k 0 = ys.getD k 0 → SameTo xs ys (k + 1)) := Lib.hid fun h j hj => by
        by_cases e : j = k
        · subst e; exact h
        · exact hs.out j (by omega)
      have hno : Hid (xs.getD k 0 ≠ ys.getD k 0 → xs ≠ ys) := Lib.hid fun h e => h (by rw [e])
      generalize xs.getD k 0 = x at *
      generalize ys.getD k 0 = y at *
      by_cases hxy : x = y
      · have HN := Lib.hid (hnx.out hxy)
        subst hxy
        go_wp2
        go_quiet (fail)
        go_wp2
        go_roundw
        case rel => exact ⟨k + 1, by omega, by go_num, HN, Lib.hid (below_drewN hb.out _)⟩
        case measure => simp [intOf]; omega
      · have HN := Lib.hid (hno.out hxy)
        go_wp2
        go_quiet (fail)
        go_wp2
        go_ret
        exact ⟨ret_val (bool_val (by rw [decide_eq_false HN.out])), below_drewN hb.out _⟩
    · obtain rfl : k = xs.length := by omega
      have HN := Lib.hid (same_all HL.out hs.out)
      go_wp2
      go_ret
      exact ⟨ret_val (bool_val (by rw [decide_eq_true HN.out])), hb.out⟩

theorem rsame_lens (a1 a2 : Option Addr) (n1 n2 c1 c2 : Nat) (hl : (n1 : Int) ≠ (n2 : Int)) (w : World) :
    Calls Try.prog 44 #[.slice a1 n1 c1, .slice a2 n2 c2] w fun e w' => e = .returned (.bool false) ∧ w = w' := by
  have h : ((n1 : Int) != (n2 : Int)) = true := by simpa using hl
  go_enter Try.func44, Try.ntmps44
  go_wp2
  all_goals first
    | (go_ret; exact ⟨rfl, rfl⟩)
    | (exfalso; simp_all)

theorem rsame_empty (a1 a2 : Option Addr) (c1 c2 : Nat) (w : World) :
    Calls Try.prog 44 #[.slice a1 0 c1, .slice a2 0 c2] w fun e w' => e = .returned (.bool true) ∧ w = w' := by
  go_enter Try.func44, Try.ntmps44
  go_wp2
  go_rounds 1
  go_ret
  exact ⟨rfl, rfl⟩

/-- THE REFERENCE's SAME of lists. -/
theorem rsame_any {w : World} {a b : Value} {xs ys : List Int} (h1 : IntsIn w a xs) (h2 : IntsIn w b ys) :
    Calls Try.prog 44 #[a, b] w fun e w' => e = .returned (.bool (decide (xs = ys))) ∧ Below w.heap.size w w' := by
  by_cases hl : xs.length = ys.length
  · cases h1 with
    | empty a0 c0 =>
      have e : ys = [] := List.eq_nil_of_length_eq_zero (by simpa using hl.symm)
      subst e
      obtain ⟨a3, c3, rfl⟩ := h2.form
      refine (rsame_empty a0 a3 c0 c3 w).mono ?_
      rintro e w' ⟨rfl, rfl⟩
      exact ⟨rfl, Below.refl _ _⟩
    | row b1 o1 c1 _ n0 hc hb hr hlen hw =>
      cases h2 with
      | empty a0 c0 => exact absurd (List.eq_nil_of_length_eq_zero (by simpa using hl)) n0
      | row b2 o2 c2 _ n0' hc' hb' hr' hlen' hw' => exact rsame_rows b1 o1 c1 b2 o2 c2 xs ys hlen hl w hb hb' (Lib.hid hr) (Lib.hid hr')
  · obtain ⟨a1, c1, rfl⟩ := h1.form
    obtain ⟨a2, c2, rfl⟩ := h2.form
    refine (rsame_lens a1 a2 xs.length ys.length c1 c2 (by omega) w).mono ?_
    rintro e w' ⟨rfl, rfl⟩
    exact ⟨ret_val (bool_val (decide_eq_false (fun e => hl (by rw [e]))).symm), Below.refl _ _⟩

/-- Are two views the same? -/
def sameV (o1 o2 : Int) (d1 d2 s1 s2 : List Int) : Bool := decide (o1 = o2) && decide (d1 = d2) && decide (s1 = s2)

theorem sameV_refl (o : Int) (d s : List Int) : sameV o o d d s s = true := by simp [sameV]

set_option maxRecDepth 100000 in
set_option maxHeartbeats 2000000 in
/-- THE REFERENCE's SAME of views. -/
theorem same_any {w : World} {o1 o2 : Int} {u1 v1 u2 v2 : Value} {d1 s1 d2 s2 : List Int} (h1 : IntsIn w u1 d1) (h2 : IntsIn w v1 s1) (h3 : IntsIn w u2 d2) (h4 : IntsIn w v2 s2) :
    Calls Try.prog 18 #[.agg #[.int .i64 o1, u1, v1], .agg #[.int .i64 o2, u2, v2]] w fun e w' => e = .returned (.bool (sameV o1 o2 d1 d2 s1 s2)) ∧ Below w.heap.size w w' := by
  obtain ⟨a1, c1, rfl⟩ := h1.form
  obtain ⟨a2, c2, rfl⟩ := h2.form
  obtain ⟨a3, c3, rfl⟩ := h3.form
  obtain ⟨a4, c4, rfl⟩ := h4.form
  obtain ⟨WA, hWA⟩ : ∃ WA, Hid ((w.alloc (.cells #[.int .i64 o1, .slice a1 d1.length c1, .slice a2 s1.length c2] 24)).alloc (.cells #[.int .i64 o2, .slice a3 d2.length c3, .slice a4 s2.length c4] 24) = WA) := ⟨_, Lib.hid rfl⟩
  have bA : Hid (Below w.heap.size w WA) := Lib.hid (by rw [← hWA.out]; exact ((Below.refl _ w).alloc (Nat.le_refl _) _).alloc (by simp) _)
  have p1 : Hid (Box3 WA w.heap.size (.int .i64 o1) (.slice a1 d1.length c1) (.slice a2 s1.length c2)) := Lib.hid (by rw [← hWA.out]; exact (Below.heap_alloc _ _ _ (by simp)).trans (Box3.new w _ _ _))
  have p2 : Hid (Box3 WA (w.heap.size + 1) (.int .i64 o2) (.slice a3 d2.length c3) (.slice a4 s2.length c4)) := Lib.hid (by
    rw [← hWA.out]
    have := Box3.new (w.alloc (.cells #[.int .i64 o1, .slice a1 d1.length c1, .slice a2 s1.length c2] 24)) (.int .i64 o2) (.slice a3 d2.length c3) (.slice a4 s2.length c4)
    rwa [World.size_alloc] at this)
  have H1 := Lib.hid h1
  have H2 := Lib.hid h2
  have H3 := Lib.hid h3
  have H4 := Lib.hid h4
  clear h1 h2 h3 h4
  go_enter Try.func18, Try.ntmps18
  obtain ⟨y0, y1, y2⟩ := box3_cells p1.out
  obtain ⟨t0, t1, t2⟩ := box3_cells p2.out
  rw [← hWA.out] at y0 t0 y1 t1
  by_cases ho : o1 = o2
  · subst ho
    have HB : Hid (∀ {W : World} {e : Ending}, e = .returned (.bool (decide (s1 = s2))) → Below w.heap.size w W → d1 = d2 → e = .returned (.bool (sameV o1 o1 d1 d2 s1 s2)) ∧ Below w.heap.size w W) := Lib.hid (fun he hb hd => ⟨by rw [he]; simp [sameV, hd], hb⟩)
    go_wp2_with fail
    rw [hWA.out]
    clear y0 y1 y2 t0 t1 t2
    refine (rsame_any (H1.out.below bA.out) (H3.out.below bA.out)).mono ?_
    rintro e w1 ⟨rfl, B1⟩
    have b1 := Lib.hid (bA.out.trans (B1.mono bA.out.size))
    have q1 := Lib.hid (p1.out.below B1)
    have q2 := Lib.hid (p2.out.below B1)
    clear B1
    obtain ⟨y0, y1, y2⟩ := box3_cells q1.out
    obtain ⟨t0, t1, t2⟩ := box3_cells q2.out
    by_cases hdd : d1 = d2
    · have HD := Lib.hid hdd
      rw [decide_eq_true hdd]
      clear hdd
      go_wp2_with fail
      refine (rsame_any (H2.out.below b1.out) (H4.out.below b1.out)).mono ?_
      rintro e w2 ⟨rfl, B2⟩
      have b2 := Lib.hid (b1.out.trans (B2.mono b1.out.size))
      have he : Hid (decide (s1 = s2) = sameV o1 o1 d1 d2 s1 s2) := Lib.hid (by simp [sameV, HD.out])
      rw [he.out]
      clear B2
      go_wp2_with fail
      go_ret
      exact ⟨rfl, b2.out⟩
    · have he : Hid (sameV o1 o1 d1 d2 s1 s2 = false) := Lib.hid (by simp [sameV, hdd])
      rw [decide_eq_false hdd]
      go_wp2_with fail
      go_ret
      exact ⟨ret_val (bool_val he.out.symm), b1.out⟩
  · have he : Hid (sameV o1 o2 d1 d2 s1 s2 = false) := Lib.hid (by simp [sameV, ho])
    have hb : (o1 == o2) = false := by simpa using ho
    go_wp2_with fail
    go_ret
    rw [hWA.out]
    exact ⟨ret_val (bool_val he.out.symm), bA.out⟩

end Go.Proofs.Ytfdafceolkmkoaa
