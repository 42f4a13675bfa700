/- The walk of the reference's Offset: of coordinates that are there. -/
import Derived.Test.YtfdafceolkmkoaaViewSf
set_option linter.unusedVariables false
namespace Go.Proofs.Ytfdafceolkmkoaa
open Go.RowKit Vw

theorem val_length : ∀ {ds cs : List Int}, Val ds cs → cs.length = ds.length
  | [], [], _ => rfl
  | [], _ :: _, h => h.elim
  | _ :: _, [], h => h.elim
  | d :: ds, c :: cs, h => by simp [val_length h.2]
theorem val_drop : ∀ {ds cs : List Int} (k : Nat), Val ds cs → Val (ds.drop k) (cs.drop k)
  | ds, cs, 0, h => h
  | [], [], k + 1, h => by simpa using h
  | [], _ :: _, _, h => h.elim
  | _ :: _, [], _, h => h.elim
  | d :: ds, c :: cs, k + 1, h => val_drop k h.2
theorem val_at : ∀ {ds cs : List Int} {k : Nat}, Val ds cs → k < ds.length → 0 ≤ cs.getD k 0 ∧ cs.getD k 0 < ds.getD k 0
  | [], _, _, _, h => by simp at h
  | _ :: _, [], _, h, _ => h.elim
  | d :: ds, c :: cs, 0, h, _ => by simpa using h.1
  | d :: ds, c :: cs, k + 1, h, g => by
    have := val_at (ds := ds) (cs := cs) (k := k) h.2 (by simpa using g)
    simpa using this

/-- The sum so far. -/
def Hn (ds cs : List Int) (i : Nat) (n : Int) : Prop := 0 ≤ n ∧ n * pr (ds.drop i) + plc (strd (ds.drop i)) (cs.drop i) = plc (strd ds) cs

theorem Hn.zero (ds cs : List Int) : Hn ds cs 0 0 := ⟨by omega, by simp⟩
theorem Hn.step {ds cs : List Int} {i : Nat} {n : Int} (h : Hn ds cs i n) (hv : Val ds cs) (hi : i < ds.length) : Hn ds cs (i + 1) (n * ds.getD i 0 + cs.getD i 0) := by
  have hl := val_length hv
  have hc := val_at hv hi
  obtain ⟨h0, h1⟩ := h
  have hm : 0 ≤ n * ds.getD i 0 := Int.mul_nonneg h0 (by omega)
  refine ⟨by omega, ?_⟩
  rw [drop_next hi, drop_next (zs := cs) (by omega)] at h1
  simp only [pr, strd, plc] at h1
  rw [← h1, Int.add_mul, Int.mul_assoc, Int.add_assoc]
theorem Hn.le {ds cs : List Int} {i : Nat} {n : Int} (h : Hn ds cs i n) (hp : Pos ds) (hv : Val ds cs) (hN : pr ds ≤ 65536) : n ≤ 65536 := by
  have h1 := pr_drop (zs := ds) (j := i) hp
  have h2 := (val_plc (ds := ds.drop i) (cs := cs.drop i) (fun d hd => hp d (List.mem_of_mem_drop hd)) (val_drop i hv)).1
  have h3 := (val_plc hp hv).1
  have h4 : n * 1 ≤ n * pr (ds.drop i) := Int.mul_le_mul_of_nonneg_left h1.1 h.1
  have := h.2
  omega
theorem Hn.all {ds cs : List Int} {n : Int} (h : Hn ds cs ds.length n) (hv : Val ds cs) : n = plc (strd ds) cs := by
  have := h.2
  rw [List.drop_length, List.drop_of_length_le (by rw [val_length hv]; exact Nat.le_refl _)] at this
  simp only [pr, strd, plc] at this
  omega

theorem hn_pos {ds cs : List Int} {i : Nat} {n : Int} (h : Hn ds cs i n) : 0 ≤ n := h.1

attribute [local irreducible] cnt Hn Val plc strd pr

set_option maxRecDepth 100000 in
set_option maxHeartbeats 4000000 in
theorem offset_good {w : World} (d a : Value) (ds cs : List Int) (hd : IntsIn w d ds) (ha : IntsIn w a cs) (hc : Hid ((cnt ds).2 = 0)) (hv : Hid (Val ds cs)) :
    Calls Try.prog 29 #[d, a] w fun e w' => e = .returned (.tuple #[.int .i64 (plc (strd ds) cs), .int .i64 0]) ∧ Below w.heap.size w w' := by
  obtain ⟨a1, c1, rfl⟩ := hd.form
  obtain ⟨a2, c2, rfl⟩ := ha.form
  have H1 := Lib.hid hd.rows.2
  have H2 := Lib.hid ha.rows.2
  have HC := Lib.hid (rcount_any hd)
  rw [hc.out] at HC
  have hg := cnt_good hc.out
  have hl6 := hg.2.1
  have HP := Lib.hid (cnt_pos hc.out)
  have HB := Lib.hid hg.1
  have HN := Lib.hid hg.2.2.2
  have hcl : Hid (cs.length = ds.length) := Lib.hid (val_length hv.out)
  rw [hcl.out]
  clear hd ha hg
  go_enter Try.func29, Try.ntmps29
  go_wp2_with (first | (go_at_call 24; refine HC.out.mono ?_; rintro e w' ⟨rfl, rfl⟩) | fail)
  go_loopw [8, 9] (fun n i wr => ∃ (k : Nat) (z : Int), k ≤ ds.length ∧ n = .int .i64 z ∧ i = .int .i64 (k : Int) ∧ Hid (Hn ds cs k z) ∧ Hid (Below w.heap.size w wr)) (fun _ i _ => ds.length - (intOf i).toNat)
  case atStart => exact ⟨0, 0, Nat.zero_le _, rfl, rfl, Lib.hid (Hn.zero _ _), Lib.hid (Below.refl _ _)⟩
  case round =>
    obtain ⟨k, z, hk, rfl, rfl, hh, hb⟩ := hrel
    by_cases hkl : k < ds.length
    · have hki : (k : Int) < (ds.length : Int) := by omega
      obtain ⟨b1, o1, rfl, hb1, hr1⟩ := H1.out k hkl
      obtain ⟨b2, o2, rfl, hb2, hr2⟩ := H2.out k (by rw [hcl.out]; exact hkl)
      have x1 := (hb.out.cell (p := ⟨b1, o1 + k, none⟩) hb1).trans (hr1 k hkl)
      have x2 := (hb.out.cell (p := ⟨b2, o2 + k, none⟩) hb2).trans (hr2 k (by rw [hcl.out]; exact hkl))
      have hva := val_at hv.out hkl
      have hst := hh.out.step hv.out hkl
      have hle := hst.le HP.out hv.out HN.out
      have hz0 : 0 ≤ z := hn_pos hh.out
      have hdk := HB.out _ (getD_mem hkl)
      have HST := Lib.hid hst
      generalize ds.getD k 0 = d1 at *
      generalize cs.getD k 0 = q1 at *
      have hm0 : 0 ≤ z * d1 := Int.mul_nonneg hz0 (by omega)
      generalize hm : z * d1 = m at *
      have e1 : IntKind.i64.wrap (z * d1) = m := by rw [hm]; exact IntWalk.i64_in _ (by omega)
      have e2 : IntKind.i64.wrap (m + q1) = m + q1 := IntWalk.i64_in _ (by omega)
      have g1 : ¬ q1 < 0 := by omega
      have g2 : ¬ d1 ≤ q1 := by omega
      have g1' : decide (q1 < 0) = false := by simpa using g1
      have g2' : decide (d1 ≤ q1) = false := by simpa using g2
      clear hm hst hle
      go_wp2
      go_quiet (fail)
      go_wp2
      go_quiet (fail)
      go_wp2
      go_roundw
      case rel => exact ⟨k + 1, m + q1, by omega, rfl, by go_num, HST, Lib.hid (below_drewN hb.out _)⟩
      case measure => simp [intOf]; omega
    · obtain rfl : k = ds.length := by omega
      have hA := hh.out.all hv.out
      subst hA
      go_wp2
      go_ret2
      exact ⟨rfl, hb.out⟩

end Go.Proofs.Ytfdafceolkmkoaa
