/- The walk of the reference's May. -/
import Derived.Test.YtfdafceolkmkoaaViewPw
set_option linter.unusedVariables false
namespace Go.Proofs.Ytfdafceolkmkoaa
open Go.RowKit Vw

theorem may_of {off : Int} {ds ss : List Int} {f : Bool} (h1 : (cnt ds).2 = 0) (h2 : ss.length = ds.length) (h3 : 0 ≤ off) (h4 : off < 65536) (h5 : ss.any farS = f) : mayV off ds ss = !f := by
  simp [mayV, h1, h2, h3, h4, h5]

theorem far_next {zs : List Int} {k : Nat} (h : k < zs.length) : (zs.drop k).any farS = (farS (zs.getD k 0) || (zs.drop (k + 1)).any farS) := any_next h farS

set_option maxRecDepth 100000 in
set_option maxHeartbeats 2000000 in
theorem rmay_any {w : World} {off : Int} {d s : Value} {ds ss : List Int} (hd : IntsIn w d ds) (hs : IntsIn w s ss) :
    Calls Try.prog 37 #[.agg #[.int .i64 off, d, s]] w fun e w' => e = .returned (.bool (mayV off ds ss)) ∧ Below w.heap.size w w' := by
  obtain ⟨a1, c1, rfl⟩ := hd.form
  obtain ⟨a2, c2, rfl⟩ := hs.form
  have hl1 := hd.wf.1
  have hl2 := hs.wf.1
  obtain ⟨W0, hW0⟩ : ∃ W0, Hid (w.alloc (.cells #[.int .i64 off, .slice a1 ds.length c1, .slice a2 ss.length c2] 24) = W0) := ⟨_, Lib.hid rfl⟩
  have b0 : Hid (Below w.heap.size w W0) := Lib.hid (by rw [← hW0.out]; exact (Below.refl _ w).alloc (Nat.le_refl _) _)
  have x0 : Hid (Box3 W0 w.heap.size (.int .i64 off) (.slice a1 ds.length c1) (.slice a2 ss.length c2)) := Lib.hid (by rw [← hW0.out]; exact Box3.new w _ _ _)
  have HR := Lib.hid hs.rows.2
  have HC := Lib.hid (rcount_any (hd.below b0.out))
  have HE : Hid ((cnt ds).2 ≠ 0 → mayV off ds ss = false) := Lib.hid fun h => by simp [mayV, h]
  have HL : Hid (ss.length ≠ ds.length → mayV off ds ss = false) := Lib.hid fun h => by simp [mayV, h]
  have HO : Hid (off < 0 → mayV off ds ss = false) := Lib.hid fun h => by simp [mayV, show ¬ 0 ≤ off by omega]
  have HP : Hid (65535 < off → mayV off ds ss = false) := Lib.hid fun h => by simp [mayV, show ¬ off < 65536 by omega]
  have HM : Hid ((cnt ds).2 = 0 → ss.length = ds.length → 0 ≤ off → off < 65536 → ∀ f, ss.any farS = f → mayV off ds ss = !f) := Lib.hid fun h1 h2 h3 h4 f h5 => may_of h1 h2 h3 h4 h5
  generalize mayV off ds ss = mv at *
  generalize cnt ds = cc at *
  obtain ⟨cn, ce⟩ := cc
  clear hd hs
  go_enter Try.func37, Try.ntmps37
  go_wp2_with fail
  rw [hW0.out]
  obtain ⟨y0, y1, y2⟩ := box3_cells x0.out
  by_cases he : ce = 0
  rotate_left
  · have e := HE.out he
    subst e
    have hb : (ce != 0) = true := by simpa using he
    go_wp2_with (first | (go_at_call 24; refine HC.out.mono ?_; rintro e w' ⟨rfl, rfl⟩) | fail)
    go_ret
    exact ⟨rfl, b0.out⟩
  by_cases hl : ss.length = ds.length
  rotate_left
  · have e := HL.out hl
    have hli : ((ss.length : Int) != (ds.length : Int)) = true := by simp; omega
    subst e he
    go_wp2_with (first | (go_at_call 24; refine HC.out.mono ?_; rintro e w' ⟨rfl, rfl⟩) | fail)
    go_ret
    exact ⟨rfl, b0.out⟩
  by_cases ho : off < 0
  · have e := HO.out ho
    subst e he
    go_wp2_with (first | (go_at_call 24; refine HC.out.mono ?_; rintro e w' ⟨rfl, rfl⟩) | fail)
    go_ret
    exact ⟨rfl, b0.out⟩
  by_cases hp : 65535 < off
  · have e := HP.out hp
    subst e he
    go_wp2_with (first | (go_at_call 24; refine HC.out.mono ?_; rintro e w' ⟨rfl, rfl⟩) | fail)
    go_ret
    exact ⟨rfl, b0.out⟩
  have HF := Lib.hid (HM.out he hl (by omega) (by omega))
  subst he
  rw [hl]
  rw [hl] at y2
  have HLL := Lib.hid hl
  clear hl
  go_wp2_with (first | (go_at_call 24; refine HC.out.mono ?_; rintro e w' ⟨rfl, rfl⟩) | fail)
  go_loop [5] (fun i => ∃ k : Nat, k ≤ ds.length ∧ i = .int .i64 (k : Int) ∧ Hid (ss.any farS = (ss.drop k).any farS)) (fun i => ds.length - (intOf i).toNat)
  case atStart => exact ⟨0, Nat.zero_le _, rfl, Lib.hid (by simp)⟩
  case round =>
    obtain ⟨k, hk, rfl, hany⟩ := hrel
    by_cases hkl : k < ds.length
    · have hks : k < ss.length := by have := HLL.out; omega
      obtain ⟨b, o, rfl, hb, hr⟩ := HR.out k hks
      have hcx := (b0.out.cell (p := ⟨b, o + k, none⟩) hb).trans (hr k hks)
      have hn := Lib.hid (far_next hks)
      generalize ss.getD k 0 = z at *
      by_cases hz : z < 0 ∨ 65536 < z
      · have e := HF.out true (by rw [hany.out, hn.out]; simp [farS, hz])
        subst e
        rcases hz with hz | hz
        · go_wp2
          go_ret
          exact ⟨rfl, b0.out⟩
        · go_wp2
          go_ret
          exact ⟨rfl, b0.out⟩
      · have e : Hid (ss.any farS = (ss.drop (k + 1)).any farS) := Lib.hid (by rw [hany.out, hn.out]; simp [farS, hz])
        go_wp2
        go_round
        case rel => exact ⟨k + 1, by omega, by go_num, e⟩
        case measure => simp [intOf]; omega
    · have e := HF.out false (by rw [hany.out, any_end farS (by have := HLL.out; omega)])
      subst e
      go_wp2
      go_ret
      exact ⟨rfl, b0.out⟩

end Go.Proofs.Ytfdafceolkmkoaa
