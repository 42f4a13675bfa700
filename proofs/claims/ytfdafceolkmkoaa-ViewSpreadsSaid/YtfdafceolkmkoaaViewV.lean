/- The walks of slices.Values, AppendSeq, Collect, Sorted over a slice's numbers. -/
import Derived.Test.YtfdafceolkmkoaaViewU
set_option linter.unusedVariables false
namespace Go.Proofs.Ytfdafceolkmkoaa
open Go.RowKit Go.Shelf Vw

attribute [local go_sem] Oper.semAt_some

theorem values_any (a : Option Addr) (len cap : Nat) (w : World) :
    Calls Try.prog 35 #[.slice a len cap] w fun e w' => e = .returned (.func (.func 53) #[] #[.pointer (some ⟨w.heap.size, 0, none⟩)]) ∧ w' = w.alloc (.cells #[.slice a len cap] 22) := by
  go_enter Try.func35, Try.ntmps35
  go_wp2
  go_ret
  exact ⟨rfl, rfl⟩

theorem take_next {zs : List Int} {k : Nat} (h : k < zs.length) : zs.take (k + 1) = zs.take k ++ [zs.getD k 0] := by
  rw [List.take_add_one, show zs[k]? = some (zs.getD k 0) by simp [List.getD, List.getElem?_eq_getElem h]]
  rfl

set_option maxRecDepth 100000 in
set_option maxHeartbeats 1000000 in
theorem values_walk (n : Nat) (hn : 1 ≤ n) (l bv n₀ : Nat) (a : Option Addr) (cap : Nat) (zs : List Int) (hlen : zs.length * 8 ≤ 140737488351232) (w0 : World) (hn0 : n₀ = w0.heap.size) (hrows : Hid (RowsAt w0 a zs)) (J Jx : List Int → World → Prop)
    (hY : Hid (∀ pre x W, J pre W → pre.length < zs.length → YieldAt Fence.wide (n - 1) Try.prog l #[.int .i64 x] W fun e W' =>
      (e = .returned (.bool true) ∧ J (pre ++ [x]) W' ∧ Below n₀ W W') ∨ (e = .returned (.bool false) ∧ Jx (pre ++ [x]) W')))
    (W : World) (hW : Below w0.heap.size w0 W) (hbv : W.cell? ⟨bv, 0, none⟩ = some (.slice a zs.length cap)) (h0 : J [] W) :
    CallsIn Fence.wide n Try.prog 53 #[.func (.yield l) #[] #[], .pointer (some ⟨bv, 0, none⟩)] W fun e W' => (∃ v, e = .returned v) ∧
      ((∃ ys, ys = zs ∧ J ys W') ∨ (∃ pre, True ∧ Jx pre W')) := by
  refine callsIn_of_wp Try.func53 rfl trivial ?_ rfl
  simp only [Try.ntmps53, List.size_toArray, List.length_cons, List.length_nil, Nat.reduceAdd, Nat.reduceSub, Array.replicate_succ, Array.replicate_zero, List.push_toArray, List.append_toArray, List.nil_append, List.cons_append]
  gi_wp2
  gi_loopw [7] (fun i wr => ∃ k : Nat, k ≤ zs.length ∧ i = .int .i64 k ∧ Hid (J (zs.take k) wr) ∧ Hid (Below w0.heap.size w0 wr)) (fun i _ => zs.length - (intOf i).toNat)
  case atStart => exact ⟨0, Nat.zero_le _, rfl, Lib.hid (by simpa using h0), Lib.hid hW⟩
  case round =>
    obtain ⟨k, hk, rfl, hJs, hb⟩ := hrel
    by_cases hlt : k < zs.length
    · obtain ⟨b, o, rfl, hbl, hr⟩ := hrows.out k hlt
      have hcx := (hb.out.cell (p := ⟨b, o + k, none⟩) hbl).trans (hr k hlt)
      obtain ⟨fn, tmps, assign, body, hy, hR⟩ := hY.out _ (zs.getD k 0) wr hJs.out (by simp; omega)
      have htk := Lib.hid (take_next hlt)
      generalize zs.getD k 0 = z at *
      gi_wp2
      refine hR.mono ?_
      rintro e W3 (⟨rfl, hJ3, hk3⟩ | ⟨rfl, hJx3⟩)
      · gi_wp2
        go_roundw
        case rel => exact ⟨k + 1, by omega, by simp, Lib.hid (by rw [htk.out]; exact hJ3), Lib.hid (hb.out.trans (hn0 ▸ hk3))⟩
        case measure => simp [intOf]; omega
      · gi_wp2
        refine bodyPost_ret (results_none rfl _ _ _) rfl ?_
        exact ⟨⟨_, rfl⟩, .inr ⟨_, trivial, hJx3⟩⟩
    · obtain rfl : k = zs.length := by omega
      gi_wp2
      go_end0
      exact ⟨⟨_, rfl⟩, .inl ⟨_, rfl, by have := hJs.out; rwa [List.take_length] at this⟩⟩

theorem values_stops (n : Nat) (hn : 1 ≤ n) (bv : Nat) (a : Option Addr) (cap : Nat) (zs : List Int) (hlen : zs.length * 8 ≤ 140737488351232) (w0 w : World) (hb0 : Below w0.heap.size w0 w) (hbv : bv < w.heap.size) (hc : w.cell? ⟨bv, 0, none⟩ = some (.slice a zs.length cap)) (hrows : RowsAt w0 a zs) :
    SeqStopsK Fence.wide n Try.prog 53 #[.pointer (some ⟨bv, 0, none⟩)] (fun x : Int => #[Value.int .i64 x]) (Below w0.heap.size) (fun ys => ys = zs) (fun _ => True) zs.length w := fun l J Jx W hW _ _ hY h0 =>
  values_walk n hn l bv w0.heap.size a cap zs hlen w0 rfl (Lib.hid hrows) J Jx (Lib.hid hY) W (hb0.trans (hW.mono hb0.size)) ((hW.cell (p := ⟨bv, 0, none⟩) hbv).trans hc) h0

set_option maxRecDepth 100000 in
set_option maxHeartbeats 2000000 in
theorem append_seq (n : Nat) (hn : 3 ≤ n) (bv : Nat) (a : Option Addr) (cap : Nat) (zs : List Int) (hlen : zs.length * 8 ≤ 140737488351232) (w : World) (hbv : bv < w.heap.size) (hc : w.cell? ⟨bv, 0, none⟩ = some (.slice a zs.length cap)) (hrows : RowsAt w a zs) :
    CallsIn Fence.wide n Try.prog 58 #[.slice none 0 0, .func (.func 53) #[] #[.pointer (some ⟨bv, 0, none⟩)]] w fun e W' => ∃ v, e = .returned v ∧ W'.ownsRow w.heap.size 3 1 v zs.length (zs.map (Value.int .i64)) ∧ Below w.heap.size w W' := by
  have h1 : 1 ≤ n := by omega
  obtain ⟨i0, hi, hz0, hz1, hz2⟩ := info_parts info_int
  refine callsIn_of_wp_marks Try.func58 rfl trivial ?_ rfl
  simp only [Try.ntmps58, List.size_toArray, List.length_cons, List.length_nil, Nat.reduceAdd, Nat.reduceSub, Array.replicate_succ, Array.replicate_zero, List.push_toArray, List.append_toArray, List.nil_append, List.cons_append]
  gi_wp2
  have bO := Boxed.new w 22 (.slice none 0 0)
  have hB0 : Below w.heap.size w (w.alloc (.cells #[.slice none 0 0] 22)) := (Below.refl _ w).alloc (Nat.le_refl _) _
  refine wpIn_rangeFunc_ownF rfl h1 (gf := 53) (lb := #[.pointer (some ⟨bv, 0, none⟩)]) rfl trivial (enters_of Try.func53 (by kernel_rfl) rfl)
    (values_stops (n - 1) (by omega) bv a cap zs hlen w _ hB0 (by simp; omega) ((hB0.cell (p := ⟨bv, 0, none⟩) hbv).trans hc) hrows) belowK_t (belowK_b (by simp)) (Below.refl _ _) (fun _ => rfl)
    (fun pre W => (∃ v, Boxed W w.heap.size 22 v ∧ W.ownsRow w.heap.size 3 1 v pre.length (pre.map (Value.int .i64)) ∧ True) ∧ Below w.heap.size w W)
    (fun _ _ _ => False)
    (OwnFrom.and (Own.from (holdsRow_own w.heap.size w.heap.size 22 3 1 (fun pre : List Int => pre.length) (fun pre => pre.map (Value.int .i64)) (fun _ _ => True)) _) (ownFrom_below (Nat.le_refl _) (by simp)))
    (fun _ _ _ _ _ hs _ _ => hs)
    ⟨⟨_, bO, World.ownsRow_nil _ _ _ _, trivial⟩, hB0⟩
    (fun x => { tmps := #[.slice none 0 0, .func (.func 53) #[] #[.pointer (some ⟨bv, 0, none⟩)], .pointer (some ⟨w.heap.size, 0, none⟩), undef, .slice none 0 0, .int .i64 x, .func (.func 53) #[] #[.pointer (some ⟨bv, 0, none⟩)], .int .i64 x, undef, undef, undef, undef, undef], defers := [] }) ?assign ?body ?done ?stop
  case assign =>
    intro l x W K hK
    gi_wp2
    exact hK
  case body =>
    rintro l pre x W ⟨⟨v, hv, hrow, _⟩, hB⟩ hlt
    have hcv := hv.cell
    gi_wp2_with (gi_at_builtin; refine wpListIn_append_own _ rfl _ _ 22 rfl w.heap.size 3 i0 (.int .i64 0) 1 8 Try.underlying22 hi hz0 hz1 hz2 rfl (by decide) _ _ _ rfl (hrow.alloc _) ⟨W.heap.size, 0, none⟩ 1 1 [.int .i64 x] rfl rfl (cell_one_new _ _ _) (by simp [Value.oneCell']) (by unfold maxLen; omega) (by omega) (by have := hB.size; simp; omega) ?_; intro v' w1 hown' hgrow _; obtain ⟨g', cap', rfl⟩ := ownsRow_succ hown'; obtain ⟨hv1, hv2, hr2, hk2, hb2⟩ := hv.appended (by decide) hrow hB.size (Nat.le_refl _) hown' hgrow; have hc1 := hv1.cell; have hf1 := hv1.frozen)
    exact ⟨hk2, hb2, ⟨_, hv2, by simpa using hr2, trivial⟩, hB.trans hb2⟩
  case done =>
    rintro D ys W hD rfl ⟨⟨v, hv, hrow, _⟩, hB⟩ hK
    have hcv := hv.cell
    gi_wp2
    refine ⟨by simp, .inl ⟨_, _, rfl, run_takeDeferred hK, ?_⟩⟩
    exact ⟨_, results_tmp rfl _ _ _, v, rfl, ownsRow_putObj hrow _ hK rfl, hB.trans (belowK_b (w := w) (Nat.le_refl _) W D _ _ (by simp at hD; omega) hK rfl rfl)⟩
  case stop =>
    rintro D c pre W _ _ h _
    exact h.elim

end Go.Proofs.Ytfdafceolkmkoaa
