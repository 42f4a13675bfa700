/- The walks of shape.Count and of the reference's Count. -/
import Derived.Test.YtfdafceolkmkoaaViewA
set_option linter.unusedVariables false
namespace Go.Proofs.Ytfdafceolkmkoaa
open Go.RowKit

theorem any_next {zs : List Int} {k : Nat} (h : k < zs.length) (p : Int → Bool) : (zs.drop k).any p = (p (zs.getD k 0) || (zs.drop (k + 1)).any p) := by
  rw [drop_next h]; rfl

theorem cnt_low {zs : List Int} (h : zs.any (fun d => decide (d < 1)) = true) : cnt zs = (0, 4) := by unfold cnt; rw [if_pos h]
theorem cnt_long {zs : List Int} (h : zs.any (fun d => decide (d < 1)) = false) (g : 6 < zs.length) : cnt zs = (0, 6) := by
  unfold cnt; rw [h, if_neg (by decide), if_pos g]
theorem cnt_loop {zs : List Int} (h : zs.any (fun d => decide (d < 1)) = false) (g : ¬ 6 < zs.length) : cnt zs = cntLoop 1 zs := by
  unfold cnt; rw [h, if_neg (by decide), if_neg g]
theorem low_not {zs : List Int} (h : zs.any (fun d => decide (d < 1)) = false) {k : Nat} (hk : k < zs.length) : 1 ≤ zs.getD k 0 := by
  have := List.any_eq_false.1 h _ (getD_mem hk)
  simpa using this
theorem any_end {zs : List Int} {k : Nat} (p : Int → Bool) (h : ¬ k < zs.length) : (zs.drop k).any p = false := by
  rw [List.drop_eq_nil_of_le (by omega)]; rfl
theorem loop_next {zs : List Int} {k : Nat} {n : Int} (h : k < zs.length) : cntLoop n (zs.drop k) = if 65536 < n * zs.getD k 0 then (0, 6) else cntLoop (n * zs.getD k 0) (zs.drop (k + 1)) := by
  rw [drop_next h]; rfl
theorem loop_end {zs : List Int} {k : Nat} {n : Int} (h : ¬ k < zs.length) : cntLoop n (zs.drop k) = (n, 0) := by
  rw [List.drop_eq_nil_of_le (by omega)]; rfl

theorem mul_big {n d : Int} (h1 : 1 ≤ n) (h : 65536 < d) : 65536 < n * d := by
  have : 1 * d ≤ n * d := Int.mul_le_mul_of_nonneg_right h1 (by omega)
  omega
theorem mul_pos' {n d : Int} (h1 : 1 ≤ n) (h : 1 ≤ d) : 1 ≤ n * d := by
  have : 1 * 1 ≤ n * d := Int.mul_le_mul h1 h (by decide) (by omega)
  omega
theorem mul_top {n d : Int} (h1 : 1 ≤ n) (h2 : n ≤ 65536) (h3 : 1 ≤ d) (h : d ≤ 65536) : n * d ≤ 4294967296 := by
  have : n * d ≤ 65536 * 65536 := Int.mul_le_mul h2 h (by omega) (by omega)
  omega

attribute [local irreducible] cnt cntLoop

set_option maxHeartbeats 1000000 in
theorem rcount_row (b off cap : Nat) (zs : List Int) (hlen : zs.length * 8 ≤ 140737488351232) (hw : Hid (∀ z ∈ zs, InI z)) (w : World) (hr : Hid (Reads w b off zs)) :
    Calls Try.prog 24 #[.slice (some ⟨b, off, none⟩) zs.length cap] w fun e w' => e = .returned (.tuple #[.int .i64 (cnt zs).1, .int .i64 (cnt zs).2]) ∧ w = w' := by
  go_enter Try.func24, Try.ntmps24
  go_wp2
  go_loop [4] (fun i => ∃ k : Nat, k ≤ zs.length ∧ i = .int .i64 (k : Int) ∧ Hid (zs.any (fun d => decide (d < 1)) = (zs.drop k).any (fun d => decide (d < 1)))) (fun i => zs.length - (intOf i).toNat)
  case atStart => exact ⟨0, Nat.zero_le _, rfl, Lib.hid (by simp)⟩
  case round =>
    obtain ⟨k, hk, rfl, hany⟩ := hrel
    by_cases hkl : k < zs.length
    · have hcx := hr.out k hkl
      have hn := Lib.hid (any_next hkl (fun d => decide (d < 1)))
      generalize zs.getD k 0 = z at *
      go_wp2
      · rename_i hz
        go_ret2
        have e := cnt_low (zs := zs) (by rw [hany.out, hn.out]; simp; omega)
        rw [e]
        exact ⟨rfl, rfl⟩
      · go_round
        case rel => exact ⟨k + 1, by omega, by go_num, Lib.hid (by rw [hany.out, hn.out]; simp; omega)⟩
        case measure => simp [intOf]; omega
    · have hlow := Lib.hid (by rw [hany.out, any_end _ hkl] : zs.any (fun d => decide (d < 1)) = false)
      have ek : k = zs.length := by omega
      go_wp2
      · rename_i hz
        go_ret2
        have e := cnt_long hlow.out (by omega)
        rw [e]
        exact ⟨rfl, rfl⟩
      · have h6 : zs.length ≤ 6 := by omega
        go_loop [5, 6] (fun n i => ∃ (m : Int) (k : Nat), k ≤ zs.length ∧ 1 ≤ m ∧ m ≤ 65536 ∧ n = .int .i64 m ∧ i = .int .i64 (k : Int) ∧ Hid (cnt zs = cntLoop m (zs.drop k))) (fun _ i => zs.length - (intOf i).toNat)
        case atStart => exact ⟨1, 0, Nat.zero_le _, by omega, by omega, rfl, rfl, Lib.hid (by rw [cnt_loop hlow.out (by omega)]; simp)⟩
        case round =>
          obtain ⟨m, k, hk, hm1, hm2, rfl, rfl, hc⟩ := hrel
          by_cases hkl : k < zs.length
          · have hcx := hr.out k hkl
            have hn := Lib.hid (loop_next (n := m) hkl)
            have h1 := low_not hlow.out hkl
            generalize zs.getD k 0 = z at *
            by_cases hbig : 65536 < z
            · have e : cnt zs = (0, 6) := by rw [hc.out, hn.out, if_pos (mul_big hm1 hbig)]
              rw [e]
              go_wp2
              go_ret2
              exact ⟨rfl, rfl⟩
            · have ht := mul_top hm1 hm2 h1 (by omega)
              have hp := mul_pos' hm1 h1
              by_cases hb2 : 65536 < m * z
              · have e : cnt zs = (0, 6) := by rw [hc.out, hn.out, if_pos hb2]
                rw [e]
                go_wp2
                go_ret2
                exact ⟨rfl, rfl⟩
              · have e : Hid (cnt zs = cntLoop (m * z) (zs.drop (k + 1))) := Lib.hid (by rw [hc.out, hn.out, if_neg hb2])
                go_wp2
                go_round
                case rel => exact ⟨m * z, k + 1, by omega, hp, by omega, by go_num, by go_num, e⟩
                case measure => simp [intOf]; omega
          · have e : cnt zs = (m, 0) := by rw [hc.out, loop_end hkl]
            have ek : k = zs.length := by omega
            rw [e]
            go_wp2
            go_ret2
            exact ⟨rfl, rfl⟩

theorem rcount_empty (a0 : Option Addr) (cap : Nat) (w : World) :
    Calls Try.prog 24 #[.slice a0 0 cap] w fun e w' => e = .returned (.tuple #[.int .i64 (cnt []).1, .int .i64 (cnt []).2]) ∧ w = w' := by
  have e : cnt [] = (1, 0) := by unfold cnt; unfold cntLoop; decide
  rw [e]
  go_enter Try.func24, Try.ntmps24
  go_wp2
  go_rounds 1
  go_wp2
  go_rounds 1
  go_wp2
  go_ret2
  exact ⟨rfl, rfl⟩

/-- THE REFERENCE's COUNT. -/
theorem rcount_any {w : World} {v : Value} {zs : List Int} (h : IntsIn w v zs) :
    Calls Try.prog 24 #[v] w fun e w' => e = .returned (.tuple #[.int .i64 (cnt zs).1, .int .i64 (cnt zs).2]) ∧ w = w' := by
  cases h with
  | empty a0 cap => exact rcount_empty a0 cap w
  | row b off cap _ h0 hc hb hr hlen hw => exact rcount_row b off cap zs hlen (Lib.hid hw) w (Lib.hid hr)


/-! ### shape.Count -/

def LowF (fn : Value) (p : Int → Bool) : Prop := (fn = .func (.func 54) #[] #[] ∧ p = fun d => decide (d < 1)) ∨ (fn = .func (.func 49) #[] #[] ∧ p = fun d => decide (d < 0 ∨ 65536 < d))

/-- The number of the first that a test holds of, or -1. -/
def fidx (p : Int → Bool) (zs : List Int) : Int := if zs.any p then (zs.findIdx p : Int) else -1

theorem findIdx_at {p : Int → Bool} {zs : List Int} {k : Nat} (hk : k < zs.length) (h : (zs.take k).any p = false) (g : p (zs.getD k 0) = true) : fidx p zs = k := by
  have e : zs = zs.take k ++ zs.getD k 0 :: zs.drop (k + 1) := by rw [← drop_next hk, List.take_append_drop]
  have ha : zs.any p = true := List.any_eq_true.2 ⟨_, getD_mem hk, g⟩
  unfold fidx
  rw [if_pos ha]
  have h3 : zs.findIdx p = k := by
    rw [List.findIdx_eq (by omega)]
    have h5 : zs[k] = zs.getD k 0 := by simp [List.getD, List.getElem?_eq_getElem hk]
    refine ⟨by rw [h5]; exact g, fun j hj => ?_⟩
    have h4 := List.any_eq_false.1 h (zs[j]'(by omega)) (by
      rw [List.mem_take_iff_getElem]
      exact ⟨j, by omega, rfl⟩)
    simpa using h4
  rw [h3]

theorem take_any_next {p : Int → Bool} {zs : List Int} {k : Nat} (hk : k < zs.length) (h : (zs.take k).any p = false) (g : p (zs.getD k 0) = false) : (zs.take (k + 1)).any p = false := by
  rw [List.take_add_one, List.any_append, h]
  have h5 : zs[k]? = some (zs.getD k 0) := by simp [List.getD, List.getElem?_eq_getElem hk]
  rw [h5]
  simpa using g

set_option maxHeartbeats 1000000 in
theorem indexLow_row (b off cap : Nat) (zs : List Int) (hlen : zs.length * 8 ≤ 140737488351232) (hw : Hid (∀ z ∈ zs, InI z)) (w : World) (hr : Hid (Reads w b off zs)) (fn : Value) (p : Int → Bool) (hp : LowF fn p) :
    Calls Try.prog 57 #[.slice (some ⟨b, off, none⟩) zs.length cap, fn] w fun e w' => e = .returned (.int .i64 (fidx p zs)) ∧ w = w' := by
  rcases hp with ⟨rfl, hp⟩ | ⟨rfl, hp⟩
  all_goals
    have HP := Lib.hid hp
    clear hp
    go_enter Try.func57, Try.ntmps57
    go_wp2
    go_loop [8] (fun i => ∃ k : Nat, k ≤ zs.length ∧ i = .int .i64 (k : Int) ∧ Hid ((zs.take k).any p = false)) (fun i => zs.length - (intOf i).toNat)
    case atStart => exact ⟨0, Nat.zero_le _, rfl, Lib.hid (by simp)⟩
    case round =>
      obtain ⟨k, hk, rfl, hany⟩ := hrel
      by_cases hkl : k < zs.length
      · have hcx := hr.out k hkl
        have hn := Lib.hid (@findIdx_at p _ _ hkl hany.out)
        have hn2 := Lib.hid (@take_any_next p _ _ hkl hany.out)
        have hI := (hw.out _ (getD_mem hkl)).1
        have hI2 := (hw.out _ (getD_mem hkl)).2
        generalize zs.getD k 0 = z at *
        go_wp2
        all_goals first
          | (go_ret
             refine ⟨ret_val (int_val ?_), rfl⟩
             exact (hn.out (by rw [HP.out]; simp; omega)).symm)
          | (go_round
             case rel => exact ⟨k + 1, by omega, by go_num, Lib.hid (hn2.out (by rw [HP.out]; simp; omega))⟩
             case measure => simp [intOf]; omega)
      · have ek : k = zs.length := by omega
        have e : Hid (fidx p zs = -1) := Lib.hid (by
          have := hany.out
          rw [ek, List.take_length] at this
          unfold fidx; rw [this]; rfl)
        go_wp2
        go_ret
        exact ⟨ret_val (int_val e.out.symm), rfl⟩

theorem indexLow_empty (a0 : Option Addr) (cap : Nat) (w : World) (fn : Value) (p : Int → Bool) (hp : LowF fn p) :
    Calls Try.prog 57 #[.slice a0 0 cap, fn] w fun e w' => e = .returned (.int .i64 (fidx p [])) ∧ w = w' := by
  have e : fidx p [] = -1 := rfl
  rw [e]
  rcases hp with ⟨rfl, hp⟩ | ⟨rfl, hp⟩
  all_goals
    go_enter Try.func57, Try.ntmps57
    go_wp2
    go_rounds 1
    go_ret
    exact ⟨rfl, rfl⟩

theorem indexLow_any {w : World} {v : Value} {zs : List Int} (h : IntsIn w v zs) (fn : Value) (p : Int → Bool) (hp : LowF fn p) :
    Calls Try.prog 57 #[v, fn] w fun e w' => e = .returned (.int .i64 (fidx p zs)) ∧ w = w' := by
  cases h with
  | empty a0 cap => exact indexLow_empty a0 cap w fn p hp
  | row b off cap _ h0 hc hb hr hlen hw => exact indexLow_row b off cap zs hlen (Lib.hid hw) w (Lib.hid hr) fn p hp

theorem fidx_ge (p : Int → Bool) (zs : List Int) : decide (0 ≤ fidx p zs) = zs.any p := by
  unfold fidx
  cases zs.any p
  · rfl
  · simp

theorem containsLow_any {w : World} {v : Value} {zs : List Int} (h : IntsIn w v zs) (fn : Value) (p : Int → Bool) (hp : LowF fn p) :
    Calls Try.prog 50 #[v, fn] w fun e w' => e = .returned (.bool (zs.any p)) ∧ w = w' := by
  have H := Lib.hid (indexLow_any h fn p hp)
  have hg := Lib.hid (fidx_ge p zs)
  go_enter Try.func50, Try.ntmps50
  go_wp2_with (go_at_call 57; refine H.out.mono ?_; rintro e w' ⟨rfl, rfl⟩)
  go_ret
  refine ⟨ret_val (bool_val ?_), rfl⟩
  have := hg.out
  simpa using this

set_option maxHeartbeats 1000000 in
theorem count_row (b off cap : Nat) (zs : List Int) (hlen : zs.length * 8 ≤ 140737488351232) (hw : Hid (∀ z ∈ zs, InI z)) (w : World) (hr : Hid (Reads w b off zs)) (hin : Hid (IntsIn w (.slice (some ⟨b, off, none⟩) zs.length cap) zs)) :
    Calls Try.prog 39 #[.slice (some ⟨b, off, none⟩) zs.length cap] w fun e w' => e = .returned (.tuple #[.int .i64 (cnt zs).1, .int .i64 (cnt zs).2]) ∧ w = w' := by
  have H := Lib.hid (containsLow_any hin.out (.func (.func 54) #[] #[]) _ (Or.inl ⟨rfl, rfl⟩))
  cases hb1 : zs.any (fun d => decide (d < 1))
  · rw [hb1] at H
    by_cases h6 : 6 < zs.length
    · have e : cnt zs = (0, 6) := cnt_long hb1 h6
      rw [e]
      clear hb1
      go_enter Try.func39, Try.ntmps39
      go_wp2_with (go_at_call 50; refine H.out.mono ?_; rintro e w' ⟨rfl, rfl⟩)
      go_ret2
      exact ⟨rfl, rfl⟩
    · have hlow := Lib.hid hb1
      have h6' : zs.length ≤ 6 := by omega
      clear hb1
      go_enter Try.func39, Try.ntmps39
      go_wp2_with (go_at_call 50; refine H.out.mono ?_; rintro e w' ⟨rfl, rfl⟩)
      go_loop [4, 14] (fun n i => ∃ (m : Int) (k : Nat), k ≤ zs.length ∧ 1 ≤ m ∧ m ≤ 65536 ∧ n = .int .i64 m ∧ i = .int .i64 (k : Int) ∧ Hid (cnt zs = cntLoop m (zs.drop k))) (fun _ i => zs.length - (intOf i).toNat)
      case atStart => exact ⟨1, 0, Nat.zero_le _, by omega, by omega, rfl, rfl, Lib.hid (by rw [cnt_loop hlow.out (by omega)]; simp)⟩
      case round =>
        obtain ⟨m, k, hk, hm1, hm2, rfl, rfl, hc⟩ := hrel
        by_cases hkl : k < zs.length
        · have hcx := hr.out k hkl
          have hn := Lib.hid (loop_next (n := m) hkl)
          have h1 := low_not hlow.out hkl
          have hI2 := (hw.out _ (getD_mem hkl)).2
          generalize zs.getD k 0 = z at *
          have hq := quo_test (n := m) (d := z) hm1
          rw [Int.tdiv_eq_ediv_of_nonneg (by decide)] at hq
          have hq0 : wrap64 (65536 / m) = 65536 / m := by
            have h3 : 65536 / m ≤ 65536 := Int.ediv_le_self _ (by decide)
            have h4 : 0 ≤ 65536 / m := Int.ediv_nonneg (by decide) (by omega)
            unfold wrap64; omega
          have hm0 : (m == 0) = false := by simp; omega
          by_cases hb2 : 65536 < m * z
          · have e : Hid (cnt zs = (0, 6)) := Lib.hid (by rw [hc.out, hn.out, if_pos hb2])
            have hlt : 65536 / m < z := hq.2 hb2
            clear hq hb2
            skip
            go_wp2
            go_ret2
            exact ⟨ret2_val (int_val (by rw [e.out])) (int_val (by rw [e.out])), rfl⟩
          · have e : Hid (cnt zs = cntLoop (m * z) (zs.drop (k + 1))) := Lib.hid (by rw [hc.out, hn.out, if_neg hb2])
            have hp := mul_pos' hm1 h1
            have hle : ¬ 65536 / m < z := fun h => hb2 (hq.1 h)
            clear hq
            skip
            go_wp2
            go_round
            case rel => exact ⟨m * z, k + 1, by omega, hp, by omega, by go_num, by go_num, e⟩
            case measure => simp [intOf]; omega
        · have e : Hid (cnt zs = (m, 0)) := Lib.hid (by rw [hc.out, loop_end hkl])
          have ek : k = zs.length := by omega
          go_wp2
          go_ret2
          exact ⟨ret2_val (int_val (by rw [e.out])) (int_val (by rw [e.out])), rfl⟩
  · rw [hb1] at H
    have e : cnt zs = (0, 4) := cnt_low hb1
    rw [e]
    clear hb1
    go_enter Try.func39, Try.ntmps39
    go_wp2_with (go_at_call 50; refine H.out.mono ?_; rintro e w' ⟨rfl, rfl⟩)
    go_ret2
    exact ⟨rfl, rfl⟩

theorem count_empty (a0 : Option Addr) (cap : Nat) (w : World) :
    Calls Try.prog 39 #[.slice a0 0 cap] w fun e w' => e = .returned (.tuple #[.int .i64 (cnt []).1, .int .i64 (cnt []).2]) ∧ w = w' := by
  have H := Lib.hid (containsLow_any (IntsIn.empty (w := w) a0 cap) (.func (.func 54) #[] #[]) _ (Or.inl ⟨rfl, rfl⟩))
  have e : cnt [] = (1, 0) := by unfold cnt; unfold cntLoop; decide
  rw [e]
  rw [show ([] : List Int).any (fun d => decide (d < 1)) = false from rfl] at H
  go_enter Try.func39, Try.ntmps39
  go_wp2_with (go_at_call 50; refine H.out.mono ?_; rintro e w' ⟨rfl, rfl⟩)
  go_rounds 1
  go_ret2
  exact ⟨rfl, rfl⟩

/-- COUNT. -/
theorem count_any {w : World} {v : Value} {zs : List Int} (h : IntsIn w v zs) :
    Calls Try.prog 39 #[v] w fun e w' => e = .returned (.tuple #[.int .i64 (cnt zs).1, .int .i64 (cnt zs).2]) ∧ w = w' := by
  have h' := h
  cases h with
  | empty a0 cap => exact count_empty a0 cap w
  | row b off cap _ h0 hc hb hr hlen hw => exact count_row b off cap zs hlen (Lib.hid hw) w (Lib.hid hr) (Lib.hid h')

end Go.Proofs.Ytfdafceolkmkoaa
