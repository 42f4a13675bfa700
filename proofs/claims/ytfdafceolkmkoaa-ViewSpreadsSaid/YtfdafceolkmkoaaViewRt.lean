/- The walk of the reference's Strides. -/
import Derived.Test.YtfdafceolkmkoaaViewBp
set_option linter.unusedVariables false
namespace Go.Proofs.Ytfdafceolkmkoaa
open Go.RowKit Vw

theorem strd_get : ∀ {zs : List Int} {k : Nat}, k < zs.length → (strd zs).getD k 0 = pr (zs.drop (k + 1))
  | [], _, h => by simp at h
  | z :: zs, 0, _ => by simp [strd]
  | z :: zs, k + 1, h => by
    simp only [strd, List.getD_cons_succ, List.drop_succ_cons]
    exact strd_get (by simpa using h)

/-- Lists that are the same up to a place. -/
def AsFar (xs ys : List Int) (k : Nat) : Prop := xs.length = ys.length ∧ ∀ j, j < k → xs.getD j 0 = ys.getD j 0

theorem AsFar.len {xs ys : List Int} {k : Nat} (h : AsFar xs ys k) : xs.length = ys.length := h.1
theorem AsFar.zero {xs ys : List Int} (h : xs.length = ys.length) : AsFar xs ys 0 := ⟨h, fun j hj => by omega⟩
theorem AsFar.step {xs ys : List Int} {k : Nat} (h : AsFar xs ys k) (hk : k < ys.length) : AsFar (xs.set k (ys.getD k 0)) ys (k + 1) := by
  refine ⟨by rw [List.length_set]; exact h.1, fun j hj => ?_⟩
  by_cases e : j = k
  · subst e; simp [List.getD, h.1, hk]
  · have e3 : (xs.set k (ys.getD k 0)).getD j 0 = xs.getD j 0 := by simp [List.getD, List.getElem?_set_ne (Ne.symm e)]
    rw [e3]
    exact h.2 j (by omega)
theorem AsFar.all {xs ys : List Int} (h : AsFar xs ys ys.length) : xs = ys := by
  refine List.ext_getElem h.1 fun j h1 h2 => ?_
  have := h.2 j h2
  simpa [List.getD, List.getElem?_eq_getElem h1, List.getElem?_eq_getElem h2] using this

theorem cnt_drop {zs : List Int} {k : Nat} (h : (cnt zs).2 = 0) : cnt (zs.drop k) = (pr (zs.drop k), 0) := by
  have hg := cnt_good h
  have hp := cnt_pos h
  have := pr_drop (zs := zs) (j := k) hp
  exact cnt_of (fun d hd => hp d (List.mem_of_mem_drop hd)) (by simp; omega) (by have := hg.2.2.2; omega)

theorem IntsIn.cap {w : World} {a : Option Addr} {n c : Nat} {zs : List Int} (h : IntsIn w (.slice a n c) zs) : zs.length ≤ c := by
  cases h with
  | empty => simp
  | row _ _ _ _ _ hc => exact hc

theorem IntsIn.drop {w : World} {b o c : Nat} {zs : List Int} (h : IntsIn w (.slice (some ⟨b, o, none⟩) zs.length c) zs) (m : Nat) : IntsIn w (.slice (some ⟨b, o + m, none⟩) (zs.length - m) (c - m)) (zs.drop m) := by
  by_cases h0 : zs.length ≤ m
  · rw [List.drop_of_length_le h0, show zs.length - m = 0 by omega]
    exact .empty _ _
  · have hr := h.rows.2 m (by omega)
    obtain ⟨b', o', he, hb, hr⟩ := hr
    simp only [Option.some.injEq, Addr.mk.injEq, and_true] at he
    obtain ⟨rfl, rfl⟩ := he
    have hl := h.wf
    have hc : zs.length ≤ c := h.cap
    have := IntsIn.row (w := w) b (o + m) (c - m) (zs.drop m) (by intro e; have := congrArg List.length e; simp at this; omega) (by simp; omega) hb (fun j hj => by
      have := hr (m + j) (by simp at hj; omega)
      rw [← Nat.add_assoc] at this
      rw [this]
      simp [List.getD, List.getElem?_drop]) (by simp; omega) (fun z hz => hl.2 z (List.mem_of_mem_drop hz))
    rw [List.length_drop] at this
    exact this

theorem IntsIn.gone {w : World} {a : Option Addr} {c m : Nat} {zs : List Int} (h : zs.length ≤ m) : IntsIn w (.slice a (zs.length - m) c) (zs.drop m) := by
  rw [List.drop_of_length_le h, show zs.length - m = 0 by omega]
  exact .empty _ _

attribute [local irreducible] cnt pr strd AsFar

set_option maxRecDepth 100000 in
set_option maxHeartbeats 2000000 in
theorem rstrides_any {w : World} {v : Value} {zs : List Int} (h : IntsIn w v zs) : Calls Try.prog 41 #[v] w (StrOut w zs) := by
  obtain ⟨a1, c1, rfl⟩ := h.form
  have HC := Lib.hid (rcount_any h)
  have H := Lib.hid h
  have HR := Lib.hid h.rows.2
  clear h
  by_cases he : (cnt zs).2 = 0
  rotate_left
  · have HE : Hid (∀ {e : Ending} {w' : World}, e = .returned (.tuple #[.slice none 0 0, .int .i64 (cnt zs).2]) → w = w' → StrOut w zs e w') := Lib.hid (fun h1 h2 => by subst h2; exact ⟨Below.refl _ _, Or.inl ⟨he, h1⟩⟩)
    generalize (cnt zs).2 = ce at *
    have hb : (ce != 0) = true := by simpa using he
    go_enter Try.func41, Try.ntmps41
    go_wp2_with (first | (go_at_call 24; refine HC.out.mono ?_; rintro e w' ⟨rfl, rfl⟩) | fail)
    go_ret2
    exact HE.out rfl rfl
  · have hg := cnt_good he
    have hlen := hg.2.1
    have HE := Lib.hid he
    rw [he] at HC
    have hmk := fun w => run_make_ints w zs.length (by omega)
    have hrow : Hid (RowAt (w.alloc (.cells (intCells (List.replicate zs.length 0)) 3)) w.heap.size (List.replicate zs.length 0)) := Lib.hid (RowAt.new w _)
    have hbel : Hid (Below w.heap.size w (w.alloc (.cells (intCells (List.replicate zs.length 0)) 3))) := Lib.hid ((Below.refl _ w).alloc (Nat.le_refl _) _)
    have hz0 : Hid (AsFar (List.replicate zs.length 0) (strd zs) 0) := Lib.hid (AsFar.zero (by simp [strd_length]))
    clear hg he
    go_enter Try.func41, Try.ntmps41
    go_wp2_with (first | (go_at_call 24; refine HC.out.mono ?_; rintro e w' ⟨rfl, rfl⟩) | fail)
    go_loopw [7] (fun i wr => ∃ k : Nat, k ≤ zs.length ∧ i = .int .i64 (k : Int) ∧ Hid (∃ xs, RowAt wr w.heap.size xs ∧ AsFar xs (strd zs) k) ∧ Hid (Below w.heap.size w wr)) (fun i _ => zs.length - (intOf i).toNat)
    case atStart => exact ⟨0, Nat.zero_le _, rfl, Lib.hid ⟨_, hrow.out, hz0.out⟩, hbel⟩
    case round =>
      obtain ⟨k, hk, rfl, hx, hb⟩ := hrel
      obtain ⟨xs, hr, hf⟩ := hx.out
      by_cases hkl : k < zs.length
      · have hki : (k : Int) < (zs.length : Int) := by omega
        obtain ⟨b, o, rfl, hbb, hrd⟩ := HR.out k hkl
        have hcap := H.out.cap
        have h2 := H.out.below hb.out
        have hcell := hr.cell (j := k) (by rw [hf.len, strd_length]; exact hkl)
        have hfz := hr.frozen k
        have hset : Hid (RowAt (wr.setCell ⟨w.heap.size, k, none⟩ (.int .i64 (pr (zs.drop (k + 1))))) w.heap.size (xs.set k (pr (zs.drop (k + 1))))) := Lib.hid (hr.set k _)
        have hst : Hid (AsFar (xs.set k (pr (zs.drop (k + 1)))) (strd zs) (k + 1)) := Lib.hid (by rw [← strd_get hkl]; exact hf.step (by rw [strd_length]; exact hkl))
        have hbs : Hid (Below w.heap.size w (wr.setCell ⟨w.heap.size, k, none⟩ (.int .i64 (pr (zs.drop (k + 1)))))) := Lib.hid (hb.out.setCell (p := ⟨w.heap.size, k, none⟩) (Nat.le_refl _) _)
        have HD := Lib.hid (rcount_any (h2.drop (k + 1)))
        have HD2 : Hid (zs.length ≤ k + 1 → Calls Try.prog 24 #[.slice (some ⟨b, o, none⟩) (zs.length - (k + 1)) 0] wr fun e w' => e = .returned (.tuple #[.int .i64 (cnt (zs.drop (k + 1))).1, .int .i64 (cnt (zs.drop (k + 1))).2]) ∧ wr = w') := Lib.hid (fun h => rcount_any (IntsIn.gone h))
        rw [cnt_drop HE.out] at HD HD2
        generalize pr (zs.drop (k + 1)) = q at *
        clear hr hf hx h2
        by_cases hcp : c1 = k + 1
        · subst hcp
          have HD3 := Lib.hid (HD2.out hcap)
          clear HD HD2 hcap
          go_wp2_with fail
          refine HD3.out.mono ?_
          rintro e w' ⟨rfl, rfl⟩
          go_wp2_with fail
          go_roundw
          case rel => exact ⟨k + 1, by omega, by go_num, Lib.hid ⟨_, hset.out, hst.out⟩, hbs⟩
          case measure => simp [intOf]; omega
        · clear HD2
          have hcl : k + 1 < c1 := by omega
          go_wp2_with fail
          refine HD.out.mono ?_
          rintro e w' ⟨rfl, rfl⟩
          go_wp2_with fail
          go_roundw
          case rel => exact ⟨k + 1, by omega, by go_num, Lib.hid ⟨_, hset.out, hst.out⟩, hbs⟩
          case measure => simp [intOf]; omega
      · obtain rfl : k = zs.length := by omega
        have hall := hf
        rw [← strd_length] at hall
        have e := hall.all
        subst e
        go_wp2_with fail
        go_ret2
        exact ⟨hb.out, Or.inr ⟨HE.out, _, rfl, Fresh.row hr (Nat.le_refl _) strd_length.symm⟩⟩

end Go.Proofs.Ytfdafceolkmkoaa
