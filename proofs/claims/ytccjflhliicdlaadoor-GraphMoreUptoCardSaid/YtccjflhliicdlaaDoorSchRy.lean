/- The walks of the reference's Typed, Check of a tensor, Value. -/
import Derived.Test.YtccjflhliicdlaaDoorSchRg
import Derived.Test.YtccjflhliicdlaaDoorSchRn
import Derived.Test.YtccjflhliicdlaaDoorSchB
import Derived.Test.YtccjflhliicdlaaDoorReg
import Derived.Test.YtccjflhliicdlaaDoorSchCt
set_option linter.unusedVariables false
set_option linter.unusedSimpArgs false
namespace Go.Proofs.YtccjflhliicdlaaDoor
open Go.RowKit

theorem ints_at {w : World} {v : Value} {zs : List Int} (h : IntsIn w v zs) {k : Nat} (hk : k < zs.length) : ∃ b off cap, v = .slice (some ⟨b, off, none⟩) zs.length cap ∧ b < w.heap.size ∧ w.cell? ⟨b, off + k, none⟩ = some (.int .i64 (zs.getD k 0)) := by
  cases h with
  | empty a0 cap => simp at hk
  | row b off cap _ h0 hc hb hr hlen hw => exact ⟨b, off, cap, rfl, hb, hr k hk⟩
theorem ints_len {w : World} {v : Value} {zs : List Int} (h : IntsIn w v zs) : zs.length * 8 ≤ 140737488351232 := by
  cases h with
  | empty a0 cap => decide
  | row b off cap _ h0 hc hb hr hlen hw => exact hlen

theorem rtyped_any (t : Int) (w : World) : Calls Tryd.prog 23 #[.int .i64 t] w fun e w' => e = .returned (.bool (chk t 0)) ∧ w = w' := by
  go_enter Tryd.func23, Tryd.ntmps23
  go_wp2_with (go_at_call 40; refine (Fl.rchk_any t 0 w).mono ?_; rintro e w' ⟨rfl, rfl⟩)
  go_ret
  exact ⟨rfl, rfl⟩

attribute [local irreducible] pbE cnt chk

set_option maxRecDepth 100000 in
set_option maxHeartbeats 4000000 in
theorem rpb_any (t : Int) (dims data : List Int) {w : World} {vd vx : Value} (hd : IntsIn w vd dims) (hx : IntsIn w vx data) :
    Calls Tryd.prog 50 #[.agg #[.int .i64 t, vd, vx]] w fun e w' => e = .returned (.int .i64 (pbE t dims data)) ∧ Below w.heap.size w w' := by
  obtain ⟨ad, cd, rfl⟩ := hd.shape
  obtain ⟨ax, cx, rfl⟩ := hx.shape
  have hxl := ints_len hx
  have HD := Lib.hid hd
  have HX := Lib.hid hx
  clear hd hx
  go_enter Tryd.func50, Tryd.ntmps50
  go_wp2_with fail
  generalize hw1 : w.alloc (Obj.cells #[Value.int IntKind.i64 t, Value.slice ad dims.length cd, Value.slice ax data.length cx] 49) = W1
  have hB1 : Hid (Below w.heap.size w W1) := Lib.hid (by rw [← hw1]; exact (Below.refl _ w).alloc (Nat.le_refl _) _)
  have hX1 : Hid (BoxN W1 w.heap.size #[Value.int IntKind.i64 t, Value.slice ad dims.length cd, Value.slice ax data.length cx] 49) := Lib.hid (by rw [← hw1]; exact BoxN.new w _ _)
  clear hw1
  have k0 : W1.cell? ⟨w.heap.size, 0, none⟩ = some (.int .i64 t) := hX1.out.cell 0 rfl
  have k1 : W1.cell? ⟨w.heap.size, 1, none⟩ = some (.slice ad dims.length cd) := hX1.out.cell 1 rfl
  have k2 : W1.cell? ⟨w.heap.size, 2, none⟩ = some (.slice ax data.length cx) := hX1.out.cell 2 rfl
  have HT := Lib.hid (fun W => rtyped_any t W)
  have HC := Lib.hid (rcount_any (HD.out.below hB1.out))
  refine (HT.out _).mono ?_
  rintro e w2 ⟨rfl, rfl⟩
  cases ht : chk t 0 with
  | false =>
    have e := Lib.hid (pbE_type (dims := dims) (data := data) ht)
    clear ht
    go_wp2_with fail
    go_ret
    exact ⟨ret_val (int_val e.out.symm), hB1.out⟩
  | true =>
    have HTT := Lib.hid ht
    clear ht
    go_wp2_with fail
    refine HC.out.mono ?_
    rintro e w2 ⟨rfl, rfl⟩
    generalize hc : cnt dims = c at HC ⊢
    obtain ⟨c, ce⟩ := c
    have E1 := Lib.hid (show (cnt dims).1 = c by rw [hc])
    have E2 := Lib.hid (show (cnt dims).2 = ce by rw [hc])
    clear hc HC
    by_cases hg : ce = 0
    · subst hg
      by_cases hl : (data.length : Int) = c
      · have HLL := Lib.hid (hl.trans E1.out.symm)
        subst hl
        have HS : Hid (∀ W', Below W1.heap.size W1 W' → W'.cell? ⟨w.heap.size, 0, none⟩ = some (.int .i64 t) ∧ W'.cell? ⟨w.heap.size, 2, none⟩ = some (.slice ax data.length cx)) := Lib.hid fun W' h => ⟨(hX1.out.below' h).cell 0 rfl, (hX1.out.below' h).cell 2 rfl⟩
        go_wp2_with fail
        clear k0 k1 k2
        go_loopw [5] (fun i wr => ∃ k : Nat, k ≤ data.length ∧ i = .int .i64 (k : Int) ∧ Hid ((data.take k).any (fun x => !chk t x) = false) ∧ Hid (Below W1.heap.size W1 wr)) (fun i _ => data.length - (intOf i).toNat)
        case atStart => exact ⟨0, Nat.zero_le _, rfl, Lib.hid (by simp), Lib.hid (Below.refl _ _)⟩
        case round =>
          obtain ⟨k, hk, rfl, hA, hW⟩ := hrel
          by_cases hkl : k < data.length
          · have hki : (k : Int) < (data.length : Int) := by omega
            obtain ⟨b, off, cap, hv, hb, hcell⟩ := ints_at HX.out hkl
            obtain ⟨rfl, hle, rfl⟩ := Value.slice.inj hv
            clear hle hv
            have HDC : Hid (∀ W', Below W1.heap.size W1 W' → W'.cell? ⟨b, off + k, none⟩ = some (.int .i64 (data.getD k 0))) := Lib.hid fun W' h => ((hB1.out.trans (h.mono hB1.out.size)).cell (p := ⟨b, off + k, none⟩) hb).trans hcell
            have HZ : Hid (data[k]? = some (data.getD k 0)) := Lib.hid (by simp [List.getD, List.getElem?_eq_getElem hkl])
            clear hcell
            generalize data.getD k 0 = z at HDC HZ
            have HK := Lib.hid (fun W => Fl.rchk_any t z W)
            go_wp2_with fail
            refine wp_region_plan 8 [0, 1, 2, 3, 4, 5, 6, 7] (fun W' => Below W1.heap.size W1 W') (by kernel_rfl) (by kernel_rfl) (fun _ d _ _ _ h => by cases d <;> exact h) hW.out.drew ?_
            have B0 : Hid (Below W1.heap.size W1 wr.drew) := Lib.hid hW.out.drew
            generalize wr.drew = wD at B0 ⊢
            repeat
              refine plan_read (v := ?_) rfl rfl (Or.inl ⟨by rfl, ?_⟩) ?_
              rotate_left
              · intro w' hSw
                obtain ⟨s0, s2⟩ := HS.out w' hSw
                have s3 := HDC.out w' hSw
                go_simp
                try with_reducible rfl
              try simp only [Act.put, List.getElem_toArray, List.getElem_cons_zero, List.getElem_cons_succ, List.setIfInBounds_toArray, List.set_cons_zero, List.set_cons_succ]
            refine plan_act rfl rfl (fun K' hK => ?_)
            go_simp
            refine (HK.out _).mono ?_
            rintro e w5 ⟨rfl, rfl⟩
            refine hK.out _ _ B0.out ?_
            clear hK K'
            refine plan_tail rfl ?_
            simp only [List.toList_toArray, List.drop_succ_cons, List.drop_zero]
            cases hz : chk t z with
            | false =>
              have e := Lib.hid (pbE_bad HTT.out E2.out HLL.out (List.any_eq_true.2 ⟨z, List.mem_of_getElem? HZ.out, by simp [hz]⟩))
              clear hz
              go_wp2
              go_ret
              exact ⟨ret_val (congrArg (Value.int .i64) e.out).symm, hB1.out.trans (B0.out.mono hB1.out.size)⟩
            | true =>
              have hA' : Hid ((data.take (k + 1)).any (fun x => !chk t x) = false) := Lib.hid (take_any HZ.out hA.out (by simp [hz]))
              clear hz
              go_wp2
              go_roundw
              case rel => exact ⟨k + 1, by omega, by go_num, hA', B0⟩
              case measure => simp [intOf]; omega
          · have hki : ¬ (k : Int) < (data.length : Int) := by omega
            obtain rfl : k = data.length := by omega
            have e := Lib.hid (pbE_good HTT.out E2.out HLL.out (by have := hA.out; rwa [List.take_length] at this))
            go_wp2
            go_ret
            exact ⟨ret_val (congrArg (Value.int .i64) e.out).symm, hB1.out.trans (hW.out.mono hB1.out.size)⟩
      · have e := Lib.hid (pbE_len (data := data) HTT.out E2.out (by rw [E1.out]; exact hl))
        go_wp2_with fail
        go_ret
        exact ⟨ret_val (congrArg (Value.int .i64) e.out).symm, hB1.out⟩
    · have e := Lib.hid ((pbE_dims (data := data) HTT.out (by rw [E2.out]; exact hg)).trans E2.out)
      go_wp2_with fail
      go_ret
      exact ⟨ret_val (congrArg (Value.int .i64) e.out).symm, hB1.out⟩

set_option maxRecDepth 100000 in
set_option maxHeartbeats 4000000 in
theorem rvalue_any {w : World} {v : Value} {n : Nd} (h : NodeV w v n) :
    Calls Tryd.prog 66 #[v] w fun e w' => Below w.heap.size w w' ∧ ∃ vd vx, e = .returned (.agg #[.int .i64 ((findA n.attrs ⟨#[118, 97, 108, 117, 101]⟩ 4).getD At.zero).typ, vd, vx]) ∧ IntsIn w' vd ((findA n.attrs ⟨#[118, 97, 108, 117, 101]⟩ 4).getD At.zero).dims ∧ IntsIn w' vx ((findA n.attrs ⟨#[118, 97, 108, 117, 101]⟩ 4).getD At.zero).data := by
  obtain ⟨vin, vat, rfl, hn⟩ := h
  obtain ⟨a1, c1, rfl⟩ := hn.is.form
  obtain ⟨a2, c2, rfl⟩ := hn.ia.form
  have HN := Lib.hid hn
  clear hn
  unfold Nd.val
  go_enter Tryd.func66, Tryd.ntmps66
  go_wp2_with fail
  generalize hw1 : (w.alloc _).alloc _ = W1
  have hB1 : Hid (Below w.heap.size w W1) := Lib.hid (by rw [← hw1]; exact ((Below.refl _ w).alloc (Nat.le_refl _) _).alloc (by simp) _)
  have hR : Hid (BoxN W1 (w.heap.size + 1) #[Value.int .i64 0, Value.slice none 0 0, Value.slice none 0 0] 49) := Lib.hid (by rw [← hw1]; simpa using BoxN.new (w.alloc (Obj.cells #[Value.string n.op, Value.string n.name, Value.slice a1 n.ins.length c1, Value.string n.out, Value.slice a2 n.attrs.length c2] 41)) #[Value.int .i64 0, Value.slice none 0 0, Value.slice none 0 0] 49)
  clear hw1
  have HC := Lib.hid (rfind_at ⟨_, _, rfl, HN.out⟩ hB1.out ⟨#[118, 97, 108, 117, 101]⟩ 4)
  unfold Nd.val at HC
  generalize (findA n.attrs ⟨#[118, 97, 108, 117, 101]⟩ 4).isSome = ok at HC
  obtain ⟨a, ha⟩ : ∃ a, (findA n.attrs ⟨#[118, 97, 108, 117, 101]⟩ 4).getD At.zero = a := ⟨_, rfl⟩
  rw [ha] at HC
  have HA := Lib.hid ha
  clear ha
  refine HC.out.mono ?_
  rintro e w5 ⟨B5, va, rfl, vd, vx, vi, rfl, hna⟩
  obtain ⟨ad, cd, rfl⟩ := hna.id.shape
  obtain ⟨ax, cx, rfl⟩ := hna.ix.shape
  obtain ⟨ai, ci, rfl⟩ := hna.ii.shape
  have HR5 := Lib.hid (hR.out.below' B5)
  have HB5 := Lib.hid (hB1.out.trans (B5.mono hB1.out.size))
  have HNA := Lib.hid hna
  unfold At.val
  clear hna B5 HC hB1 hR
  have hQ := fun o => HR5.out.below' ((Below.refl _ w5).alloc (Nat.le_refl _) o)
  have r0 := fun o => (hQ o).three.1
  have r1 := fun o => (hQ o).three.2.1
  have r2 := fun o => (hQ o).three.2.2
  have t0 := fun o => (hQ o).thaw3.1
  have t1 := fun o => (hQ o).thaw3.2.1
  have t2 := fun o => (hQ o).thaw3.2.2
  clear hQ
  go_wp2_with fail
  have HB6 := Lib.hid (HB5.out.alloc HB5.out.size (.cells #[.string a.name, .int .i64 a.kind, .int .i64 a.f, .int .i64 a.i, .string a.s, .int .i64 a.typ, .slice ad a.dims.length cd, .slice ax a.data.length cx, .slice ai a.ints.length ci] 76))
  have HP := Lib.hid ((HR5.out.below' ((Below.refl _ w5).alloc (Nat.le_refl _) (.cells #[.string a.name, .int .i64 a.kind, .int .i64 a.f, .int .i64 a.i, .string a.s, .int .i64 a.typ, .slice ad a.dims.length cd, .slice ax a.data.length cx, .slice ai a.ints.length ci] 76))).put3 (.int .i64 a.typ) (.slice ad a.dims.length cd) (.slice ax a.data.length cx))
  have HB7 := Lib.hid (below_put3 (v0 := .int .i64 a.typ) (v1 := .slice ad a.dims.length cd) (v2 := .slice ax a.data.length cx) HB6.out (b := w.heap.size + 1) (by omega))
  obtain ⟨c0, c1, c2⟩ := HP.out.three
  have hq := HB7.out
  unfold put3 at c0 c1 c2 hq
  refine bodyPost_ret (v := .agg #[.int .i64 a.typ, .slice ad a.dims.length cd, .slice ax a.data.length cx]) (by simp [results, Tryd.f66, go_sem, c0, c1, c2]) rfl ?_
  rw [HA.out]
  exact ⟨hq, _, _, rfl, HNA.out.id.below hq, HNA.out.ix.below hq⟩

end Go.Proofs.YtccjflhliicdlaaDoor
