/- The walk of live.rows. -/
import Derived.Test.YtlbhepfbogcipaaDoorLvBp
import Derived.BigRegion
set_option linter.unusedVariables false
set_option linter.unusedSimpArgs false
namespace Go.Proofs.YtlbhepfbogcipaaDoor
open Go.RowKit

attribute [local irreducible] accF orF boolCs

theorem nats_form {w : World} {v : Value} {l : List Nat} (h : IntsIn w v (l.map fun (i : Nat) => (i : Int))) : ∃ a c, v = .slice a l.length c := by
  generalize hz : (l.map fun (i : Nat) => (i : Int)) = zs at h
  have hl : l.length = zs.length := by rw [← hz, List.length_map]
  rw [hl]
  cases h with
  | empty a0 cap => exact ⟨a0, cap, rfl⟩
  | row b off cap => exact ⟨_, _, rfl⟩
theorem nats_atB {w : World} {v : Value} {l : List Nat} (h : IntsIn w v (l.map fun (i : Nat) => (i : Int))) {k i : Nat} (hk : l[k]? = some i) : ∃ b off cap, v = .slice (some ⟨b, off, none⟩) l.length cap ∧ b < w.heap.size ∧ w.cell? ⟨b, off + k, none⟩ = some (.int .i64 (i : Int)) := by
  have hkl := (List.getElem?_eq_some_iff.1 hk).1
  obtain ⟨b, off, cap, hv, hb, hr, _⟩ := h.rows (k := k) (by rw [List.length_map]; exact hkl)
  refine ⟨b, off, cap, by rw [hv, List.length_map], hb, ?_⟩
  have := hr k (by rw [List.length_map]; exact hkl)
  rw [this]
  simp [List.getD, hk]

theorem orF_zero {x : Nat → Bool} {F : Nat → Nat → Bool} {r b : Nat} (h : b ≠ r) : orF x F r 0 b = x b := by
  unfold orF
  simp [show (decide (r = b)) = false from decide_eq_false (fun e => h e.symm)]
theorem orF_one {x : Nat → Bool} {F : Nat → Nat → Bool} {r : Nat} : orF x F r 0 r = true := by unfold orF; simp
theorem orF_other {x : Nat → Bool} {F : Nat → Nat → Bool} {r q b : Nat} (h : b ≠ q) : orF x F r (q + 1) b = orF x F r q b := by
  unfold orF
  have : decide (b < q + 1) = decide (b < q) := by rw [decide_eq_decide]; omega
  rw [this]
theorem orF_at {x : Nat → Bool} {F : Nat → Nat → Bool} {r q : Nat} : orF x F r (q + 1) q = (orF x F r q q || F r q) := by
  unfold orF; simp
theorem orF_end {R : Nat → List Nat} {F : Nat → Nat → Bool} {i p r n : Nat} (h : (R i)[p]? = some r) (b : Nat) (hb : b < n) : orF (accF R F i p) F r n b = accF R F i (p + 1) b := by
  rw [accF_next h]
  unfold orF
  simp [hb]

set_option maxRecDepth 100000 in
set_option maxHeartbeats 4000000 in
theorem rows_any {w : World} {v : Value} {n : Nat} {R : Nat → List Nat} {F : Nat → Nat → Bool} (h : TabN w v n R) (hn : n ≤ 1000) (hlt : ∀ k, k < n → ∀ r ∈ R k, k < r ∧ r < n) (hF : ∀ i b, i < n → F i b = (R i).any fun r => decide (r = b) || F r b) :
    Calls Tryd.prog 12 #[v] w fun e w' => Below w.heap.size w w' ∧ ∃ v', e = .returned v' ∧ TabB w' v' n F := by
  have hms := run_make_nilsB
  have hmb := run_make_bools
  obtain ⟨Br, rfl, hBr, hrow⟩ := h.rows
  have HT := Lib.hid hrow
  have HLt := Lib.hid hlt
  have HF := Lib.hid hF
  clear h hrow hlt hF
  go_enter Tryd.func12, Tryd.ntmps12
  have hmk := hms w n (by omega)
  go_wp2_with fail
  have HR1 : Hid (BoolRows (w.alloc (.cells (nilRows n).toArray 35)) w.heap.size n (nilRows n) F n) := Lib.hid (BoolRows.new _ _ _)
  have HB1 : Hid (Below w.heap.size w (w.alloc (.cells (nilRows n).toArray 35))) := Lib.hid ((Below.refl _ w).alloc (Nat.le_refl _) _)
  generalize w.alloc _ = W1 at HR1 HB1 ⊢
  clear hmk hms
  go_loopw [4] (fun iv wr => ∃ (m : Nat) (rs : List Value), m ≤ n ∧ iv = .int .i64 ((m : Int) - 1) ∧ Hid (BoolRows wr w.heap.size n rs F m) ∧ Hid (Below w.heap.size w wr)) (fun iv _ => (intOf iv + 1).toNat)
  case atStart => exact ⟨n, _, Nat.le_refl _, rfl, HR1, HB1⟩
  case round =>
    clear HR1 HB1
    obtain ⟨m, rs, hm, rfl, hR, hW⟩ := hrel
    rcases Nat.eq_zero_or_pos m with rfl | hpos
    · have HT2 := Lib.hid hR.out.tab
      go_wp2
      go_ret
      exact ⟨hW.out, _, rfl, HT2.out⟩
    · obtain ⟨i, rfl⟩ : ∃ i, m = i + 1 := ⟨m - 1, by omega⟩
      have ei : ((i + 1 : Nat) : Int) - 1 = (i : Int) := by omega
      rw [ei]
      have hii : (i : Int) < (n : Int) := by omega
      have hi0 : ¬ (i : Int) < 0 := by omega
      have hi1 : (0 : Int) ≤ (i : Int) := by omega
      have hmk := hmb wr n (by omega)
      obtain ⟨r0, hr0, hin0⟩ := HT.out i (by omega)
      obtain ⟨ar, cr, rfl⟩ := nats_form hin0
      have HIN := Lib.hid hin0
      have hRl : (R i).length * 8 ≤ 140737488351232 := by have := hin0.wf.1; rwa [List.length_map] at this
      have HB2 : Hid (Below w.heap.size w (wr.alloc (.cells (doneCells n []) 4))) := Lib.hid (hW.out.alloc hW.out.size _)
      have HX2 : Hid (BoxN (wr.alloc (.cells (doneCells n []) 4)) w.heap.size rs.toArray 35) := Lib.hid (hR.out.box.below' ((Below.refl _ _).alloc (Nat.le_refl _) _))
      have HD2 := Lib.hid (RowB.new wr n)
      have hne : wr.heap.size ≠ w.heap.size := by have := hR.out.box.lt; omega
      obtain ⟨u0, hu0⟩ : ∃ u, rs[i]? = some u := ⟨_, List.getElem?_eq_getElem (by rw [hR.out.len]; omega)⟩
      have d0 := HX2.out.cell i (v := u0) (by rw [List.getElem?_toArray]; exact hu0)
      have f0 := HX2.out.frozen i
      have HW3 : Hid (Below w.heap.size w ((wr.alloc (.cells (doneCells n []) 4)).setCell ⟨w.heap.size, i, none⟩ (.slice (some ⟨wr.heap.size, 0, none⟩) n n))) := Lib.hid (HB2.out.setCell (p := ⟨w.heap.size, i, none⟩) (Nat.le_refl _) _)
      have c0 := (HW3.out.cell (p := ⟨Br, i, none⟩) hBr).trans hr0
      have HX3 : Hid (BoxN ((wr.alloc (.cells (doneCells n []) 4)).setCell ⟨w.heap.size, i, none⟩ (.slice (some ⟨wr.heap.size, 0, none⟩) n n)) w.heap.size (rs.set i (.slice (some ⟨wr.heap.size, 0, none⟩) n n)).toArray 35) := Lib.hid (by have := HX2.out.set i (.slice (some ⟨wr.heap.size, 0, none⟩) n n); rwa [List.setIfInBounds_toArray] at this)
      have HD3 : Hid (RowB ((wr.alloc (.cells (doneCells n []) 4)).setCell ⟨w.heap.size, i, none⟩ (.slice (some ⟨wr.heap.size, 0, none⟩) n n)) wr.heap.size n (accF R F i 0)) := Lib.hid ((HD2.out.keep (Below.heap_setCell _ _ _ _ hne)).congr fun j _ => (accF_zero R F i j).symm)
      have HK3 : Hid (∀ g, g < wr.heap.size → g ≠ w.heap.size → ((wr.alloc (.cells (doneCells n []) 4)).setCell ⟨w.heap.size, i, none⟩ (.slice (some ⟨wr.heap.size, 0, none⟩) n n)).heap[g]? = wr.heap[g]?) := Lib.hid fun g h1 h2 => (Below.heap_setCell _ _ _ _ h2).trans (((Below.refl _ wr).alloc (Nat.le_refl _) _).block g h1)
      clear hr0 hin0
      go_wp2_with fail
      generalize hbx : wr.heap.size = b0 at *
      generalize World.setCell _ _ _ = W3 at HW3 HX3 HD3 HK3 c0 ⊢
      have hRR : Hid (∀ r, i + 1 ≤ r → r < n → ∃ br, W3.cell? ⟨w.heap.size, r, none⟩ = some (.slice (some ⟨br, 0, none⟩) n n) ∧ br ≠ b0 ∧ RowB W3 br n (F r)) := Lib.hid fun r h1 h2 => by
        obtain ⟨br, e1, e2, e3⟩ := hR.out.row r h1 h2
        have hlt := e3.lt
        rw [hbx] at hlt
        exact ⟨br, HX3.out.cell r (by rw [List.getElem?_toArray, List.getElem?_set_ne (by omega)]; exact e1), by omega, e3.keep (HK3.out br hlt (by omega))⟩
      have hB0 : Hid (W3.cell? ⟨w.heap.size, i, none⟩ = some (.slice (some ⟨b0, 0, none⟩) n n)) := Lib.hid (HX3.out.cell i (by rw [List.getElem?_toArray, List.getElem?_set_self (by rw [hR.out.len]; omega)]))
      have hsz : Hid (w.heap.size < b0) := Lib.hid (by have := hR.out.box.lt; omega)
      have hneB : Hid (w.heap.size ≠ b0) := Lib.hid (by have := hsz.out; omega)
      clear HB2 HX2 HD2 hmk d0 f0 c0 hu0
      generalize hwo : wr = V at *
      clear hwo
      go_loopw [30] (fun pv wq => ∃ p : Nat, p ≤ (R i).length ∧ pv = .int .i64 (p : Int) ∧ Hid (RowB wq b0 n (accF R F i p)) ∧ Hid (∀ g, g ≠ b0 → wq.heap[g]? = W3.heap[g]?) ∧ Hid (Below w.heap.size w wq)) (fun pv _ => (R i).length - (intOf pv).toNat)
      case atStart => exact ⟨0, Nat.zero_le _, rfl, HD3, Lib.hid (fun _ _ => rfl), HW3⟩
      case round =>
        clear HD3 HW3
        obtain ⟨p, hp, rfl, hD, hK, hQ⟩ := hrel
        by_cases hpl : p < (R i).length
        · have hpi : (p : Int) < ((R i).length : Int) := by omega
          obtain ⟨r, hr⟩ : ∃ r, (R i)[p]? = some r := ⟨_, List.getElem?_eq_getElem hpl⟩
          obtain ⟨hir, hrn⟩ := HLt.out i (by omega) r (List.mem_of_getElem? hr)
          obtain ⟨b2, off2, cap2, hv, hb2, c5⟩ := nats_atB HIN.out hr
          obtain ⟨rfl, _, rfl⟩ := Value.slice.inj hv
          have c5 := (hQ.out.cell (p := ⟨b2, off2 + p, none⟩) hb2).trans c5
          obtain ⟨br, e1, e2, e3⟩ := hRR.out r (by omega) hrn
          have HRp := Lib.hid hr
          clear hv hr
          have hne' : br ≠ b0 := e2
          have e3' := e3.keep (hK.out br e2)
          have HE3 := Lib.hid e3'
          have k0 : wr.cell? ⟨w.heap.size, i, none⟩ = some (.slice (some ⟨b0, 0, none⟩) n n) := (World.cell?_of_block (a := ⟨w.heap.size, i, none⟩) (hK.out _ hneB.out)).trans hB0.out
          have k1 : wr.cell? ⟨w.heap.size, r, none⟩ = some (.slice (some ⟨br, 0, none⟩) n n) := (World.cell?_of_block (a := ⟨w.heap.size, r, none⟩) (hK.out _ hneB.out)).trans e1
          have d0 := hD.out.cell hrn
          have f0 := hD.out.frozen r
          have HD4 : Hid (RowB (wr.setCell ⟨b0, r, none⟩ (.bool true)) b0 n (orF (accF R F i p) F r 0)) := Lib.hid (hD.out.set orF_one (fun k hk => orF_zero hk))
          have HQ4 : Hid (Below w.heap.size w (wr.setCell ⟨b0, r, none⟩ (.bool true))) := Lib.hid (hQ.out.setCell (p := ⟨b0, r, none⟩) (by have := hsz.out; simp; omega) _)
          have HK4 : Hid (∀ g, g ≠ b0 → (wr.setCell ⟨b0, r, none⟩ (.bool true)).heap[g]? = W3.heap[g]?) := Lib.hid fun g hg => (Below.heap_setCell _ _ _ _ hg).trans (hK.out g hg)
          have k1' : (wr.setCell ⟨b0, r, none⟩ (.bool true)).cell? ⟨w.heap.size, r, none⟩ = some (.slice (some ⟨br, 0, none⟩) n n) := (World.cell?_of_block (a := ⟨w.heap.size, r, none⟩) (HK4.out _ hneB.out)).trans e1
          have hr0 : ¬ (r : Int) < 0 := by omega
          have hr1 : (r : Int) < (n : Int) := by omega
          have HE4 := Lib.hid e3
          clear e3 e3'
          go_wp2_with fail
          clear d0 f0 k0 k1 k1' c5
          go_loopw [45] (fun qv wr => ∃ q : Nat, q ≤ n ∧ qv = .int .i64 (q : Int) ∧ Hid (RowB wr b0 n (orF (accF R F i p) F r q)) ∧ Hid (∀ g, g ≠ b0 → wr.heap[g]? = W3.heap[g]?) ∧ Hid (Below w.heap.size w wr)) (fun qv _ => n - (intOf qv).toNat)
          case atStart => exact ⟨0, Nat.zero_le _, rfl, HD4, HK4, HQ4⟩
          case round =>
            clear HD4 HK4 HQ4 HE3 hD hK hQ
            obtain ⟨q, hq, rfl, hD, hK, hQ⟩ := hrel
            by_cases hql : q < n
            · have hqi : (q : Int) < (n : Int) := by omega
              have hq0 : ¬ (q : Int) < 0 := by omega
              have k0 : wr.cell? ⟨w.heap.size, i, none⟩ = some (.slice (some ⟨b0, 0, none⟩) n n) := (World.cell?_of_block (a := ⟨w.heap.size, i, none⟩) (hK.out _ hneB.out)).trans hB0.out
              have d0 := hD.out.cell hql
              have f0 := hD.out.frozen q
              have k2 := (HE4.out.keep (hK.out br e2)).cell hql
              obtain ⟨x0, hx0⟩ : ∃ x0, orF (accF R F i p) F r q q = x0 := ⟨_, rfl⟩
              obtain ⟨y0, hy0⟩ : ∃ y0, F r q = y0 := ⟨_, rfl⟩
              have HZ : Hid (orF (accF R F i p) F r (q + 1) q = (x0 || y0)) := Lib.hid (by rw [orF_at, hx0, hy0])
              rw [hx0] at d0
              rw [hy0] at k2
              clear hx0 hy0
              have HD5 : ∀ z, (x0 || y0) = z → Hid (RowB (wr.setCell ⟨b0, q, none⟩ (.bool z)) b0 n (orF (accF R F i p) F r (q + 1))) := fun z hz => Lib.hid (hD.out.set (HZ.out.trans hz) (fun k hk => orF_other hk))
              have HQ5 : ∀ z, Hid (Below w.heap.size w (wr.setCell ⟨b0, q, none⟩ (.bool z))) := fun z => Lib.hid (hQ.out.setCell (p := ⟨b0, q, none⟩) (by have := hsz.out; simp; omega) _)
              have HK5 : ∀ z, Hid (∀ g, g ≠ b0 → (wr.setCell ⟨b0, q, none⟩ (.bool z)).heap[g]? = W3.heap[g]?) := fun z => Lib.hid fun g hg => (Below.heap_setCell _ _ _ _ hg).trans (hK.out g hg)
              have HD6 := Lib.hid HD5
              have HQ6 := Lib.hid HQ5
              have HK6 := Lib.hid HK5
              clear HD5 HQ5 HK5 HZ
              go_wp2_with fail
              cases x0 <;> cases y0
              all_goals
                go_region
                go_wp2_with fail
                go_roundw
                case rel => exact ⟨q + 1, by omega, by go_num, HD6.out _ rfl, HK6.out _, Lib.hid (HQ6.out _).out.drew⟩
                case measure => simp [intOf]; omega
            · have hqi : ¬ (q : Int) < (n : Int) := by omega
              obtain rfl : q = n := by omega
              have HD7 := Lib.hid (hD.out.congr (g := accF R F i (p + 1)) (fun b hb => orF_end HRp.out b hb))
              go_wp2_with fail
              go_roundw
              case rel => exact ⟨p + 1, by omega, by go_num, HD7, hK, hQ⟩
              case measure => simp [intOf]; omega
        · have hpi : ¬ (p : Int) < ((R i).length : Int) := by omega
          obtain rfl : p = (R i).length := by omega
          have HNext : Hid (BoolRows wr w.heap.size n (rs.set i (.slice (some ⟨b0, 0, none⟩) n n)) F i) := Lib.hid (by
            have := hR.out.next (W := wr) (by omega) (by rw [hbx]; exact (hK.out _ (by have := hsz.out; omega)).trans HX3.out) (fun g h1 h2 => by rw [hbx] at h1; exact (hK.out g (by omega)).trans (HK3.out g h1 h2)) (by rw [hbx]; exact hD.out.congr fun j hj => accF_end (HF.out i j (by omega)))
            rwa [hbx] at this)
          have ei2 : (i : Int) - 1 = (i : Int) - 1 := rfl
          go_wp2_with fail
          go_roundw
          case rel => exact ⟨i, _, by omega, by go_num, HNext, hQ⟩
          case measure => simp [intOf]
end Go.Proofs.YtlbhepfbogcipaaDoor
