/- The walk of the reference's Then. -/
import Derived.Test.YtijeblfhkkfjgaaDoorSchSc
import Derived.Test.YtijeblfhkkfjgaaDoorSchRg
import Derived.Test.YtijeblfhkkfjgaaDoorSchRf
set_option linter.unusedVariables false
set_option linter.unusedSimpArgs false
namespace Go.Proofs.YtijeblfhkkfjgaaDoor
open Go.RowKit

attribute [local irreducible] thenE splitL findA oneB

set_option maxRecDepth 100000 in
set_option maxHeartbeats 3000000 in
theorem rthen_any {w : World} {v : Value} {n : Nd} (h : NodeV w v n) :
    Calls Tryd.prog 14 #[v] w fun e w' => Below w.heap.size w w' ∧ ∃ v', e = .returned (.tuple #[v', .int .i64 (thenE n.attrs).2]) ∧ StrsIn w' v' (thenE n.attrs).1 := by
  obtain ⟨i0, hi, hz0, hz1, hz2⟩ := info_parts info_string
  obtain ⟨vin, vat, rfl, hn⟩ := h
  obtain ⟨a1, c1, rfl⟩ := hn.is.form
  obtain ⟨a2, c2, rfl⟩ := hn.ia.form
  have HN := Lib.hid hn
  clear hn
  unfold Nd.val
  go_enter Tryd.func14, Tryd.ntmps14
  go_wp2_with fail
  have hB1 : Hid (Below w.heap.size w (w.alloc (Obj.cells #[Value.string n.op, Value.string n.name, Value.slice a1 n.ins.length c1, Value.string n.out, Value.slice a2 n.attrs.length c2] 25))) := Lib.hid ((Below.refl _ w).alloc (Nat.le_refl _) _)
  generalize w.alloc _ = W1 at hB1 ⊢
  have HC := Lib.hid (rfind_any ⟨_, _, rfl, HN.out.below hB1.out⟩ ⟨#[116, 104, 101, 110]⟩ 3)
  unfold Nd.val at HC
  cases hfa : findA n.attrs ⟨#[116, 104, 101, 110]⟩ 3 with
  | none =>
    rw [hfa] at HC
    have HT := Lib.hid (thenE_none hfa)
    clear hfa
    refine HC.out.mono ?_
    rintro e w5 ⟨B5, va, rfl, vd, vx, vi, rfl, hna⟩
    obtain ⟨ad, cd, rfl⟩ := hna.id.shape
    obtain ⟨ax, cx, rfl⟩ := hna.ix.shape
    obtain ⟨ai, ci, rfl⟩ := hna.ii.shape
    have HB5 := Lib.hid (hB1.out.trans (B5.mono hB1.out.size))
    simp only [Option.isSome_none, Option.getD_none]
    unfold At.val
    clear hna B5 HC hB1
    go_wp2_with fail
    go_ret2
    rw [HT.out]
    exact ⟨HB5.out.alloc HB5.out.size _, _, rfl, .empty _ _⟩
  | some a =>
    rw [hfa] at HC
    have HT := Lib.hid hfa
    clear hfa
    refine HC.out.mono ?_
    rintro e w5 ⟨B5, va, rfl, vd, vx, vi, rfl, hna⟩
    simp only [Option.isSome_some, Option.getD_some] at hna ⊢
    obtain ⟨ad, cd, rfl⟩ := hna.id.shape
    obtain ⟨ax, cx, rfl⟩ := hna.ix.shape
    obtain ⟨ai, ci, rfl⟩ := hna.ii.shape
    have hzs := hna.zs
    have HB5 := Lib.hid (hB1.out.trans (B5.mono hB1.out.size))
    unfold At.val
    clear hna B5 HC hB1
    go_wp2_with fail
    have HX := Lib.hid (BoxN.new w5 #[.string a.name, .int .i64 a.kind, .int .i64 a.f, .int .i64 a.i, .string a.s, .int .i64 a.typ, .slice ad a.dims.length cd, .slice ax a.data.length cx, .slice ai a.ints.length ci] 37)
    have HB6 : Hid (Below w.heap.size w (w5.alloc (.cells #[.string a.name, .int .i64 a.kind, .int .i64 a.f, .int .i64 a.i, .string a.s, .int .i64 a.typ, .slice ad a.dims.length cd, .slice ax a.data.length cx, .slice ai a.ints.length ci] 37))) := Lib.hid (HB5.out.alloc HB5.out.size _)
    generalize w5.alloc _ = W6 at HX HB6 ⊢
    clear HB5
    generalize w5.heap.size = B at HX ⊢
    generalize hsz : a.s.size = sz at hzs
    have HSZ := Lib.hid hsz
    clear hsz
    go_loopw [6, 7, 8] (fun ov fv iv wr => ∃ (done : List ByteArray) (F k pl : Nat), iv = .int .i64 (k : Int) ∧ fv = .int .i64 (F : Int) ∧ pl ≤ k ∧ k ≤ sz + 1 ∧ Hid (done.length = pl) ∧ Hid (wr.ownsRow W6.heap.size 9 1 ov pl (done.map Value.string)) ∧ Hid (Below W6.heap.size W6 wr) ∧ F ≤ k ∧ Hid ((k ≤ sz ∧ Scan a.s F k done) ∨ (k = sz + 1 ∧ thenE n.attrs = (done, 0)))) (fun _ _ iv _ => sz + 1 - (intOf iv).toNat)
    case atStart => exact ⟨[], 0, 0, 0, rfl, rfl, Nat.le_refl _, Nat.zero_le _, Lib.hid rfl, Lib.hid (World.ownsRow_nil _ _ _ _), Lib.hid (Below.refl _ _), Nat.le_refl _, Lib.hid (Or.inl ⟨Nat.zero_le _, Scan.start _⟩)⟩
    case round =>
      obtain ⟨done, F, k, pl, rfl, rfl, hpl, hk, hPL, hown, hB, hFk, hSt⟩ := hrel
      have k4 : wr.cell? ⟨B, 4, none⟩ = some (.string a.s) := (HX.out.below' hB.out).cell 4 rfl
      have hsz := HSZ.out
      by_cases hle : k ≤ sz
      · have hS : Scan a.s F k done := by
          rcases hSt.out with ⟨_, h⟩ | ⟨h, _⟩
          · exact h
          · omega
        have HSC := Lib.hid hS
        have hki : (k : Int) ≤ (a.s.size : Int) := by omega
        clear hS hSt
        by_cases hlt : k < sz
        · have hkl : (k : Int) < (a.s.size : Int) := by omega
          have hks : k < a.s.size := by omega
          by_cases hc : a.s.data.toList.getD k 0 = 44
          · have hcb := byte_eq hks hc
            have HCC := Lib.hid hc
            clear hc
            go_wp2_with fail
            refine (rone_any _ _).mono ?_
            rintro e w3 ⟨rfl, B3⟩
            have hB3 := Lib.hid (hB.out.trans (B3.mono hB.out.size))
            have hown3 := Lib.hid (owns_below hown.out B3)
            have k4' : w3.cell? ⟨B, 4, none⟩ = some (.string a.s) := (HX.out.below' hB3.out).cell 4 rfl
            clear B3 hB hown k4
            cases ho : oneB (a.s.extract F k) with
            | false =>
              have HT2 := Lib.hid (HSC.out.bad HT.out (Or.inr ⟨by omega, HCC.out⟩) ho)
              clear ho
              go_wp2
              go_ret2
              rw [HT2.out]
              exact ⟨HB6.out.trans (hB3.out.mono HB6.out.size), _, rfl, .empty _ _⟩
            | true =>
              have HO := Lib.hid ho
              clear ho
              go_wp2_with (at_builtin; refine wpList_append_own _ rfl _ _ 22 rfl W6.heap.size 9 i0 (.string ⟨#[]⟩) 1 16 Tryd.underlying22 hi hz0 hz1 hz2 rfl (by decide) _ _ _ rfl (hown3.out.alloc _) ⟨w3.heap.size, 0, none⟩ 1 1 (#[.string (a.s.extract F k)] : Array Value).toList rfl rfl (World.news_of_block (heap_alloc_new w3 _)) (by simp [Value.oneCell']) ?A3 ?A4 ?A5 ?_)
              case A3 => unfold maxLen; omega
              case A4 => omega
              case A5 => have := hB3.out.size; simp; omega
              intro v' w4 hown' hgrow _
              have hb4 : Hid (Below W6.heap.size W6 w4) := Lib.hid ((hB3.out.alloc hB3.out.size _).grown hgrow (by have := hB3.out.size; simp; omega) fun g hg => (hown3.out.lt g hg).1)
              have ho4 : Hid (w4.ownsRow W6.heap.size 9 1 v' (pl + 1) ((done ++ [a.s.extract F k]).map Value.string)) := Lib.hid (by rw [List.map_append]; exact hown')
              have hl4 : Hid ((done ++ [a.s.extract F k]).length = pl + 1) := Lib.hid (by rw [List.length_append, hPL.out]; rfl)
              have hst4 : Hid ((k + 1 ≤ sz ∧ Scan a.s (k + 1) (k + 1) (done ++ [a.s.extract F k])) ∨ (k + 1 = sz + 1 ∧ thenE n.attrs = (done ++ [a.s.extract F k], 0))) := Lib.hid (Or.inl ⟨by omega, HSC.out.comma (by omega) HCC.out HO.out⟩)
              clear hown' hgrow hown3 hB3
              go_wp2_with fail
              go_roundw
              case rel => exact ⟨_, k + 1, k + 1, pl + 1, by go_num, by go_num, by omega, by omega, hl4, ho4, hb4, Nat.le_refl _, hst4⟩
              case measure => simp [intOf]; omega
          · have hcb := byte_ne hks hc
            have HSN := Lib.hid (HSC.out.next hks hc)
            clear hc
            go_wp2_with fail
            go_roundw
            case rel => exact ⟨done, F, k + 1, pl, by go_num, rfl, by omega, by omega, hPL, hown, hB, by omega, Lib.hid (Or.inl ⟨by omega, HSN.out⟩)⟩
            case measure => simp [intOf]; omega
        · have hkl : ¬ (k : Int) < (a.s.size : Int) := by omega
          go_wp2_with fail
          refine (rone_any _ _).mono ?_
          rintro e w3 ⟨rfl, B3⟩
          have hB3 := Lib.hid (hB.out.trans (B3.mono hB.out.size))
          have hown3 := Lib.hid (owns_below hown.out B3)
          have k4' : w3.cell? ⟨B, 4, none⟩ = some (.string a.s) := (HX.out.below' hB3.out).cell 4 rfl
          clear B3 hB hown k4
          cases ho : oneB (a.s.extract F k) with
          | false =>
            have HT2 := Lib.hid (HSC.out.bad HT.out (Or.inl (by omega)) ho)
            clear ho
            go_wp2
            go_ret2
            rw [HT2.out]
            exact ⟨HB6.out.trans (hB3.out.mono HB6.out.size), _, rfl, .empty _ _⟩
          | true =>
            have HO := Lib.hid ho
            clear ho
            go_wp2_with (at_builtin; refine wpList_append_own _ rfl _ _ 22 rfl W6.heap.size 9 i0 (.string ⟨#[]⟩) 1 16 Tryd.underlying22 hi hz0 hz1 hz2 rfl (by decide) _ _ _ rfl (hown3.out.alloc _) ⟨w3.heap.size, 0, none⟩ 1 1 (#[.string (a.s.extract F k)] : Array Value).toList rfl rfl (World.news_of_block (heap_alloc_new w3 _)) (by simp [Value.oneCell']) ?B3 ?B4 ?B5 ?_)
            case B3 => unfold maxLen; omega
            case B4 => omega
            case B5 => have := hB3.out.size; simp; omega
            intro v' w4 hown' hgrow _
            have hb4 : Hid (Below W6.heap.size W6 w4) := Lib.hid ((hB3.out.alloc hB3.out.size _).grown hgrow (by have := hB3.out.size; simp; omega) fun g hg => (hown3.out.lt g hg).1)
            have ho4 : Hid (w4.ownsRow W6.heap.size 9 1 v' (pl + 1) ((done ++ [a.s.extract F k]).map Value.string)) := Lib.hid (by rw [List.map_append]; exact hown')
            have hl4 : Hid ((done ++ [a.s.extract F k]).length = pl + 1) := Lib.hid (by rw [List.length_append, hPL.out]; rfl)
            have hst4 : Hid ((k + 1 ≤ sz ∧ Scan a.s (k + 1) (k + 1) (done ++ [a.s.extract F k])) ∨ (k + 1 = sz + 1 ∧ thenE n.attrs = (done ++ [a.s.extract F k], 0))) := Lib.hid (Or.inr ⟨by omega, HSC.out.good' HT.out (by omega) HO.out⟩)
            clear hown' hgrow hown3 hB3
            go_wp2_with fail
            go_roundw
            case rel => exact ⟨_, k + 1, k + 1, pl + 1, by go_num, by go_num, by omega, by omega, hl4, ho4, hb4, Nat.le_refl _, hst4⟩
            case measure => simp [intOf]; omega
      · have hki : ¬ (k : Int) ≤ (a.s.size : Int) := by omega
        have hE := hSt.out
        rcases hE with ⟨h, _⟩ | ⟨_, h⟩
        · omega
        · have HT2 := Lib.hid h
          have HS2 : Hid (StrsIn wr u6 done) := Lib.hid (StrsIn.own hown.out hPL.out (by omega))
          clear h hSt
          go_wp2_with fail
          go_ret2
          rw [HT2.out]
          exact ⟨HB6.out.trans (hB.out.mono HB6.out.size), _, rfl, HS2.out⟩

end Go.Proofs.YtijeblfhkkfjgaaDoor
