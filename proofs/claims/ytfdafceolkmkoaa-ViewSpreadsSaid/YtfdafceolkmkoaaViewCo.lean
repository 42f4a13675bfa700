/- The walk of the reference's Coords: of an element that there is. -/
import Derived.Test.YtfdafceolkmkoaaViewMy
set_option linter.unusedVariables false
namespace Go.Proofs.Ytfdafceolkmkoaa
open Go.RowKit Vw

/-- The row after some steps. -/
def crdRow (ds : List Int) (k : Int) (m : Nat) : List Int := List.replicate m 0 ++ crd (ds.drop m) (k % pr (ds.drop m))

theorem crdRow_length {ds : List Int} {k : Int} {m : Nat} (h : m ≤ ds.length) : (crdRow ds k m).length = ds.length := by
  simp [crdRow, crd_length]; omega
theorem crdRow_full (ds : List Int) (k : Int) : crdRow ds k ds.length = List.replicate ds.length 0 := by simp [crdRow, crd]
theorem crdRow_zero {ds : List Int} {k : Int} (h0 : 0 ≤ k) (h1 : k < pr ds) : crdRow ds k 0 = crd ds k := by
  simp [crdRow, Int.emod_eq_of_lt h0 h1]
theorem mod_quo {k d p : Int} (hp : 1 ≤ p) : k % (d * p) / p = k / p % d := by
  rw [Int.emod_def, Int.emod_def (k / p) d, Int.ediv_ediv_of_nonneg (by omega : 0 ≤ p), Int.mul_comm p d]
  generalize k / (d * p) = q
  have e : d * p * q = p * (d * q) := by rw [Int.mul_comm d p, Int.mul_assoc]
  rw [e, Int.sub_eq_add_neg, ← Int.mul_neg, Int.add_mul_ediv_left _ _ (by omega), Int.sub_eq_add_neg]
theorem mod_mod {k d p : Int} : k % (d * p) % p = k % p := Int.emod_emod_of_dvd k (Int.dvd_mul_left d p)
theorem crdRow_step {ds : List Int} {k : Int} {j : Nat} (hp : Pos ds) (h : j < ds.length) : (crdRow ds k (j + 1)).set j (k / pr (ds.drop (j + 1)) % ds.getD j 0) = crdRow ds k j := by
  have hq := pr_drop (zs := ds) (j := j + 1) hp
  unfold crdRow
  rw [drop_next h, List.replicate_succ', List.append_assoc, List.set_append_right _ _ (by simp)]
  simp only [List.length_replicate, Nat.sub_self, List.singleton_append, List.set_cons_zero, crd, pr]
  rw [mod_quo hq.1, mod_mod]
theorem quo_next {ds : List Int} {k : Int} {j : Nat} (hp : Pos ds) (h : j < ds.length) : k / pr (ds.drop (j + 1)) / ds.getD j 0 = k / pr (ds.drop j) := by
  have hq := pr_drop (zs := ds) (j := j + 1) hp
  rw [Int.ediv_ediv_of_nonneg (by omega), pr_next h]

attribute [local irreducible] cnt pr crd crdRow

set_option maxRecDepth 100000 in
set_option maxHeartbeats 1000000 in
theorem coords_good {w : World} (d : Value) (ds : List Int) (k : Int) (hd : IntsIn w d ds) (h0 : 0 ≤ k) (h1 : Hid (k < pr ds)) (he : Hid ((cnt ds).2 = 0)) :
    Calls Try.prog 28 #[d, .int .i64 k] w fun e w' => e = .returned (.tuple #[.slice (some ⟨w.heap.size, 0, none⟩) ds.length ds.length, .int .i64 0]) ∧ RowAt w' w.heap.size (crd ds k) ∧ Below w.heap.size w w' := by
  obtain ⟨a1, c1, rfl⟩ := hd.form
  have HR := Lib.hid hd.rows.2
  have hg := cnt_good he.out
  have hlen := hg.2.1
  have HP : Hid (∀ d ∈ ds, 1 ≤ d ∧ d ≤ 65536) := Lib.hid hg.1
  have HPos : Hid (Pos ds) := Lib.hid fun d hd => (hg.1 d hd).1
  have HC := Lib.hid (rcount_any hd)
  rw [show cnt ds = (pr ds, 0) from Prod.ext hg.2.2.1 he.out] at HC
  have hk1 : k < pr ds := h1.out
  have hN := hg.2.2.2
  have HZ : Hid (crdRow ds k 0 = crd ds k) := Lib.hid (crdRow_zero h0 h1.out)
  generalize hpd : pr ds = pd at *
  have HPD := Lib.hid hpd
  clear hpd hg hd
  have hmk := fun w => run_make_ints w ds.length (by omega)
  have hrow : Hid (RowAt (w.alloc (.cells (intCells (List.replicate ds.length 0)) 3)) w.heap.size (crdRow ds k ds.length)) := Lib.hid (by rw [crdRow_full]; exact RowAt.new w _)
  have hbel : Hid (Below w.heap.size w (w.alloc (.cells (intCells (List.replicate ds.length 0)) 3))) := Lib.hid ((Below.refl _ w).alloc (Nat.le_refl _) _)
  have hpr0 : Hid (k / pr (ds.drop ds.length) = k) := Lib.hid (by rw [List.drop_length]; unfold pr; omega)
  go_enter Try.func28, Try.ntmps28
  go_wp2_with (go_at_call 24; refine HC.out.mono ?_; rintro e w' ⟨rfl, rfl⟩)
  go_loopw [1, 9] (fun n i wr => ∃ m : Nat, m ≤ ds.length ∧ n = .int .i64 (k / pr (ds.drop m)) ∧ i = .int .i64 ((m : Int) - 1) ∧ Hid (RowAt wr w.heap.size (crdRow ds k m)) ∧ Hid (Below w.heap.size w wr)) (fun _ i _ => (intOf i + 1).toNat)
  case atStart => exact ⟨ds.length, Nat.le_refl _, by rw [hpr0.out], by go_num, hrow, hbel⟩
  case round =>
    obtain ⟨m, hm, rfl, rfl, hrw, hbl⟩ := hrel
    rcases (match m with | 0 => Or.inl rfl | i + 1 => Or.inr ⟨i, rfl⟩ : m = 0 ∨ ∃ i, m = i + 1) with e0 | ⟨j, e0⟩
    · subst e0
      go_wp2
      go_ret2
      exact ⟨rfl, by rw [← HZ.out]; exact hrw.out, hbl.out⟩
    · subst e0
      have hj : j < ds.length := by omega
      obtain ⟨b, off, rfl, hb, hr⟩ := HR.out j hj
      have hcx := (hbl.out.cell (p := ⟨b, off + j, none⟩) hb).trans (hr j hj)
      have hfz := hrw.out.frozen j
      have hcell := hrw.out.cell (j := j) (by rw [crdRow_length hm]; omega)
      have hq := pr_drop (zs := ds) (j := j + 1) HPos.out
      have hd := HP.out _ (getD_mem hj)
      have hidx : ((j + 1 : Nat) : Int) - 1 = (j : Int) := by omega
      have hst := crdRow_step (k := k) HPos.out hj
      have hqn := quo_next (k := k) HPos.out hj
      generalize hpj : pr (ds.drop (j + 1)) = pj at *
      have hn0 : 0 ≤ k / pj := Int.ediv_nonneg h0 (by omega)
      have hnk : k / pj ≤ k := Int.ediv_le_self _ h0
      generalize hnn : k / pj = n at *
      generalize hzz : ds.getD j 0 = z at *
      have hset : Hid (RowAt (wr.setCell ⟨w.heap.size, j, none⟩ (.int .i64 (n % z))) w.heap.size (crdRow ds k j)) := Lib.hid (by rw [← hst]; exact hrw.out.set j _)
      have hb3 : Hid (Below w.heap.size w (wr.setCell ⟨w.heap.size, j, none⟩ (.int .i64 (n % z)))) := Lib.hid (hbl.out.setCell (p := ⟨w.heap.size, j, none⟩) (Nat.le_refl _) _)
      have hcx2 := (hb3.out.cell (p := ⟨b, off + j, none⟩) hb).trans (hr j hj)
      rw [hzz] at hcx2
      have HQ := Lib.hid hqn
      clear hst hqn hpj hnn hzz
      rw [hidx]
      go_wp2
      go_roundw
      case rel => exact ⟨j, by omega, by rw [← HQ.out], by go_num, hset, hb3⟩
      case measure => simp [intOf]

end Go.Proofs.Ytfdafceolkmkoaa
