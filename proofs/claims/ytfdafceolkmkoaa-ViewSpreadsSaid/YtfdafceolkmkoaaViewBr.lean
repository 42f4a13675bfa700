/- The walk of the reference's Broadcast. -/
import Derived.Test.YtfdafceolkmkoaaViewBc
set_option linter.unusedVariables false
namespace Go.Proofs.Ytfdafceolkmkoaa
open Go.RowKit Vw

/-- What has come, from the back. -/
def RbTo (a b : List Int) (n k : Nat) (xs : List Int) : Prop := xs.length = n ∧ ∀ i, i < k → xs.getD (n - 1 - i) 0 = (outL a b).getD (n - 1 - i) 0

theorem RbTo.len {a b xs : List Int} {n k : Nat} (h : RbTo a b n k xs) : xs.length = n := h.1
theorem RbTo.zero (a b : List Int) (n : Nat) : RbTo a b n 0 (List.replicate n 0) := ⟨by simp, fun i hi => by omega⟩
theorem RbTo.step {a b xs : List Int} {n k p : Nat} (h : RbTo a b n k xs) (hn : n = max a.length b.length) (hk : k < n) (hp : p = n - 1 - k) : RbTo a b n (k + 1) (xs.set p (max (bk a k) (bk b k))) := by
  refine ⟨by rw [List.length_set]; exact h.1, fun i hi => ?_⟩
  by_cases e : i = k
  · subst e
    rw [outL_get (by omega), ← hn, show n - 1 - (n - 1 - i) = i by omega, hp]
    have hlt : n - 1 - i < xs.length := by have := h.1; omega
    simp [List.getD, hlt]
  · have : (xs.set p (max (bk a k) (bk b k))).getD (n - 1 - i) 0 = xs.getD (n - 1 - i) 0 := by simp [List.getD, List.getElem?_set_ne (show p ≠ n - 1 - i by omega)]
    rw [this]; exact h.2 i (by omega)
theorem RbTo.all {a b xs : List Int} {n : Nat} (h : RbTo a b n n xs) (hn : n = max a.length b.length) : xs = outL a b := by
  refine List.ext_getElem (by rw [h.1, outL_length, hn]) fun j h1 h2 => ?_
  have := h.2 (n - 1 - j) (by have := h.1; omega)
  rw [show n - 1 - (n - 1 - j) = j by have := h.1; omega] at this
  simpa [List.getD, List.getElem?_eq_getElem h1, List.getElem?_eq_getElem h2] using this
theorem Co.zero (a b : List Int) : Co a b 0 := fun i hi => by omega
theorem Co.next {a b : List Int} {k : Nat} (h : Co a b k) (g : Co1 a b k) : Co a b (k + 1) := fun i hi => by
  by_cases e : i = k
  · subst e; exact g
  · exact h i (by omega)
theorem co1_iff (a b : List Int) (i : Nat) : Co1 a b i ↔ (bk a i = bk b i ∨ bk a i = 1 ∨ bk b i = 1) := Iff.rfl

attribute [local irreducible] cnt outL Co1 Co bk RbTo

set_option maxRecDepth 100000 in
set_option maxHeartbeats 8000000 in
theorem rbroadcast_any {w : World} {va vb : Value} {xa xb : List Int} (ha : IntsIn w va xa) (hb0 : IntsIn w vb xb) : Calls Try.prog 48 #[va, vb] w (BOut w (bcO xa xb)) := by
  obtain ⟨a1, c1, rfl⟩ := ha.form
  obtain ⟨a2, c2, rfl⟩ := hb0.form
  have Ixa := Lib.hid ha
  have Ixb := Lib.hid hb0
  clear ha hb0
  have E1 : Hid ((cnt xa).2 ≠ 0 → bcO xa xb = ((cnt xa).2, [])) := Lib.hid fun h => by unfold bcO; rw [if_pos h]
  have E2 : Hid ((cnt xa).2 = 0 → (cnt xb).2 ≠ 0 → bcO xa xb = ((cnt xb).2, [])) := Lib.hid fun h g => by unfold bcO; rw [if_neg (by rw [h]; decide), if_pos g]
  go_enter Try.func48, Try.ntmps48
  go_wp2_with fail
  refine (rcount_any Ixa.out).mono ?_
  rintro e _ ⟨rfl, rfl⟩
  by_cases hca : (cnt xa).2 = 0
  rotate_left
  · have NX := Lib.hid (E1.out hca)
    have HNE := Lib.hid hca
    generalize (cnt xa).2 = ce at *
    have hb1 : (ce != 0) = true := by simpa using hca
    clear hca
    go_wp2_with fail
    go_ret2
    rw [NX.out]
    exact ⟨Below.refl _ _, Or.inl ⟨HNE.out, rfl⟩⟩
  have HA := Lib.hid hca
  rw [hca]
  clear hca
  go_wp2_with fail
  refine (rcount_any Ixb.out).mono ?_
  rintro e _ ⟨rfl, rfl⟩
  by_cases hcb : (cnt xb).2 = 0
  rotate_left
  · have NX := Lib.hid (E2.out HA.out hcb)
    have HNE := Lib.hid hcb
    generalize (cnt xb).2 = ce at *
    have hb1 : (ce != 0) = true := by simpa using hcb
    clear hcb
    go_wp2_with fail
    go_ret2
    rw [NX.out]
    exact ⟨Below.refl _ _, Or.inl ⟨HNE.out, rfl⟩⟩
  have HB := Lib.hid hcb
  rw [hcb]
  clear hcb
  obtain ⟨n, hn⟩ : ∃ n : Nat, Hid (n = max xa.length xb.length) := ⟨_, Lib.hid rfl⟩
  have E3 : Hid (¬ Co xa xb n → bcO xa xb = (4, [])) := Lib.hid fun h => by unfold bcO; rw [if_neg (by rw [HA.out]; decide), if_neg (by rw [HB.out]; decide), ← hn.out, if_neg h]
  have E4 : Hid (Co xa xb n → (cnt (outL xa xb)).2 ≠ 0 → bcO xa xb = ((cnt (outL xa xb)).2, [])) := Lib.hid fun g h => by unfold bcO; rw [if_neg (by rw [HA.out]; decide), if_neg (by rw [HB.out]; decide), ← hn.out, if_pos g, if_pos h]
  have E5 : Hid (Co xa xb n → (cnt (outL xa xb)).2 = 0 → bcO xa xb = (0, outL xa xb)) := Lib.hid fun g h => by unfold bcO; rw [if_neg (by rw [HA.out]; decide), if_neg (by rw [HB.out]; decide), ← hn.out, if_pos g, if_neg (by rw [h]; decide)]
  have HPxa := Lib.hid (cnt_pos HA.out)
  have HPxb := Lib.hid (cnt_pos HB.out)
  have hl1 := (cnt_good HA.out).2.1
  have hl2 := (cnt_good HB.out).2.1
  have hn6 : n ≤ 6 := by have := hn.out; omega
  have hmx : max (xa.length : Int) (xb.length : Int) = (n : Int) := by have := hn.out; omega
  have hmk := run_make_ints w n (by omega)
  have hrow : Hid (RowAt (w.alloc (.cells (intCells (List.replicate n 0)) 3)) w.heap.size (List.replicate n 0)) := Lib.hid (RowAt.new w _)
  have hbel : Hid (Below w.heap.size w (w.alloc (.cells (intCells (List.replicate n 0)) 3))) := Lib.hid ((Below.refl _ w).alloc (Nat.le_refl _) _)
  clear E1 E2
  go_wp2_with fail
  go_loopw [10] (fun i wr => ∃ k : Nat, k ≤ n ∧ i = .int .i64 (k : Int) ∧ Hid (Co xa xb k) ∧ Hid (∃ xs, RowAt wr w.heap.size xs ∧ RbTo xa xb n k xs) ∧ Hid (Below w.heap.size w wr)) (fun i _ => n - (intOf i).toNat)
  case atStart => exact ⟨0, Nat.zero_le _, rfl, Lib.hid (Co.zero _ _), Lib.hid ⟨_, hrow.out, RbTo.zero _ _ _⟩, hbel⟩
  case round =>
    obtain ⟨k, hk, rfl, hco, hx, hb⟩ := hrel
    obtain ⟨xs, hr, hbc⟩ := hx.out
    by_cases hkl : k < n
    · have hki : (k : Int) < (n : Int) := by omega
      obtain ⟨p, hp⟩ : ∃ p : Nat, p = n - 1 - k := ⟨_, rfl⟩
      have hpi : (n : Int) - 1 - (k : Int) = (p : Int) := by omega
      have hpn : p < n := by omega
      have hpl : (p : Int) < (n : Int) := by omega
      have hst := Lib.hid (hbc.step hn.out hkl hp)
      have hcell := hr.cell (j := p) (by rw [hbc.len]; exact hpn)
      have hfz := hr.frozen p
      have hset := Lib.hid (hr.set p (max (bk xa k) (bk xb k)))
      have hbs : Hid (Below w.heap.size w (wr.setCell ⟨w.heap.size, p, none⟩ (.int .i64 (max (bk xa k) (bk xb k))))) := Lib.hid (hb.out.setCell (p := ⟨w.heap.size, p, none⟩) (Nat.le_refl _) _)
      have HCI := Lib.hid (co1_iff xa xb k)
      have HCN := Lib.hid hco.out.next
      have HCO := Lib.hid (fun (h : ¬ Co1 xa xb k) (g : Co xa xb n) => h (co_at g hkl))
      have HT1 := Lib.hid (at_any (.slice a1 xa.length c1) xa k (Ixa.out.below hb.out) hl1 (by omega))
      have HT2 := Lib.hid (at_any (.slice a2 xb.length c2) xb k (Ixb.out.below hb.out) hl2 (by omega))
      generalize bk xa k = x at *
      generalize bk xb k = y at *
      clear hx hr hbc hp
      go_wp2_with fail
      refine HT1.out.mono ?_
      rintro e _ ⟨rfl, rfl⟩
      go_wp2_with fail
      refine HT2.out.mono ?_
      rintro e _ ⟨rfl, rfl⟩
      by_cases h1 : x = y
      · have hb1 : (x != y) = false := by simp [h1]
        have NX := Lib.hid (HCN.out (HCI.out.2 (Or.inl h1)))
        clear h1
        go_wp2_with fail
        go_roundw
        case rel => exact ⟨k + 1, by omega, by go_num, NX, Lib.hid ⟨_, hset.out, hst.out⟩, hbs⟩
        case measure => simp [intOf]; omega
      · have hb1 : (x != y) = true := by simpa using h1
        by_cases h2 : x = 1
        · have hb2 : (x != 1) = false := by simp [h2]
          have NX := Lib.hid (HCN.out (HCI.out.2 (Or.inr (Or.inl h2))))
          clear h1 h2
          go_wp2_with fail
          go_roundw
          case rel => exact ⟨k + 1, by omega, by go_num, NX, Lib.hid ⟨_, hset.out, hst.out⟩, hbs⟩
          case measure => simp [intOf]; omega
        · have hb2 : (x != 1) = true := by simpa using h2
          by_cases h3 : y = 1
          · have hb3 : (y != 1) = false := by simp [h3]
            have NX := Lib.hid (HCN.out (HCI.out.2 (Or.inr (Or.inr h3))))
            clear h1 h2 h3
            go_wp2_with fail
            go_roundw
            case rel => exact ⟨k + 1, by omega, by go_num, NX, Lib.hid ⟨_, hset.out, hst.out⟩, hbs⟩
            case measure => simp [intOf]; omega
          · have hb3 : (y != 1) = true := by simpa using h3
            have NO := Lib.hid (E3.out (HCO.out (fun h => by rcases HCI.out.1 h with h | h | h; exact h1 h; exact h2 h; exact h3 h)))
            clear h1 h2 h3
            go_wp2_with fail
            go_ret2
            rw [NO.out]
            exact ⟨hb.out, Or.inl ⟨by decide, rfl⟩⟩
    · obtain rfl : k = n := by omega
      have hxe := hbc.all hn.out
      subst hxe
      have hxl := hbc.len
      have hfr2 := Lib.hid (Fresh.row hr (Nat.le_refl _) hxl.symm)
      have io := Lib.hid (hfr2.out.ints (by rw [hxl]; omega) (outL_inI Ixa.out.wf.2 Ixb.out.wf.2))
      have HE4 := Lib.hid (E4.out hco.out)
      have HE5 := Lib.hid (E5.out hco.out)
      clear hx hr hbc hxl hmk hrow hbel
      go_wp2_with fail
      refine (rcount_any io.out).mono ?_
      rintro e _ ⟨rfl, rfl⟩
      by_cases hce : (cnt (outL xa xb)).2 = 0
      · have NX := Lib.hid (HE5.out hce)
        rw [hce]
        clear hce
        go_wp2_with fail
        go_ret2
        rw [NX.out]
        exact ⟨hb.out, Or.inr ⟨rfl, _, rfl, hfr2.out⟩⟩
      · have NX := Lib.hid (HE4.out hce)
        have HNE := Lib.hid hce
        generalize (cnt (outL xa xb)).2 = ce at *
        have hb1 : (ce != 0) = true := by simpa using hce
        clear hce
        go_wp2_with fail
        go_ret2
        rw [NX.out]
        exact ⟨hb.out, Or.inl ⟨HNE.out, rfl⟩⟩

end Go.Proofs.Ytfdafceolkmkoaa
