/- The walk of mandrellaw04.live: it answers true. -/
import Derived.Test.YtfdafceolkmkoaaViewRs
import Derived.Test.YtfdafceolkmkoaaViewSa
import Derived.Test.YtfdafceolkmkoaaViewZ
import Derived.Test.YtfdafceolkmkoaaViewS
set_option linter.unusedVariables false
namespace Go.Proofs.Ytfdafceolkmkoaa
open Go.RowKit Vw

theorem Reads.new (w : World) (cs : Array Value) (t : TypeId) (zs : List Int) (h : cs.toList = zs.map (Value.int .i64)) : Reads (w.alloc (.cells cs t)) w.heap.size 0 zs := by
  intro j hj
  have hl : zs.length = cs.size := by rw [← Array.length_toList, h, List.length_map]
  have e : cs[j]? = some (Value.int .i64 (zs.getD j 0)) := by
    rw [← Array.getElem?_toList, h, List.getElem?_map, List.getElem?_eq_getElem hj]
    simp [List.getD, List.getElem?_eq_getElem hj]
  have e2 := World.alloc_heap_new w (Obj.cells cs t)
  unfold World.cell?
  rw [e2]
  simpa using e

theorem IntsIn.new (w : World) (cs : Array Value) (t : TypeId) (zs : List Int) (cap : Nat) (h : cs.toList = zs.map (Value.int .i64)) (h0 : zs ≠ []) (hc : zs.length ≤ cap) (hlen : zs.length * 8 ≤ 140737488351232) (hw : ∀ z ∈ zs, InI z) :
    IntsIn (w.alloc (.cells cs t)) (.slice (some ⟨w.heap.size, 0, none⟩) zs.length cap) zs :=
  .row _ 0 _ zs h0 hc (by simp) (Reads.new w cs t zs h) hlen hw

theorem IntsIn.of_owns {B : Nat} {t : TypeId} {w' : World} {v : Value} {zs : List Int} (h : w'.ownsRow B t 1 v zs.length (zs.map (Value.int .i64))) (hlen : zs.length * 8 ≤ 140737488351232) (hw : ∀ z ∈ zs, InI z) : IntsIn w' v zs := by
  obtain ⟨h1, h2⟩ := h
  rcases h2 with ⟨rfl, h0⟩ | ⟨g, cap, cur, rfl, hb, hg, hn, hc, hs, ht⟩
  · rw [List.length_eq_zero_iff.1 h0]; exact .empty none 0
  · by_cases h0 : zs = []
    · subst h0; exact .empty _ cap
    · refine .row g 0 cap zs h0 hn (Array.getElem?_eq_some_iff.1 hg).1 (fun j hj => ?_) hlen hw
      have ht' : cur.toList.take zs.length = zs.map (Value.int .i64) := by simpa using ht
      have h2 : (cur.toList.take zs.length)[j]? = (zs.map (Value.int .i64))[j]? := by rw [ht']
      rw [List.getElem?_take_of_lt hj, List.getElem?_map, List.getElem?_eq_getElem hj] at h2
      simp only [Option.map_some, Array.getElem?_toList] at h2
      have h3 : w'.cell? ⟨g, 0 + j, none⟩ = cur[0 + j]? := by simp [World.cell?, hg]
      rw [h3, Nat.zero_add, h2]
      simp [List.getD, List.getElem?_eq_getElem hj]

theorem IntsIn.up {w w' : World} {n : Nat} {v : Value} {zs : List Int} (h : IntsIn w v zs) (hB : Below n w w') (hn : w.heap.size ≤ n) : IntsIn w' v zs := h.below (hB.mono hn)

theorem lv_whole : wholeO [2, 3] = (0, 0, [2, 3], [3, 1]) := by decide +kernel
theorem lv_may : mayV 0 [2, 3] [3, 1] = true := by decide +kernel
theorem lv_may2 : mayV 0 [3, 2] [1, 3] = true := by decide +kernel
theorem lv_sort : sortI [1, 0] = rng 2 := by simp [sortI, rng, List.range_succ, List.mergeSort, List.MergeSort.Internal.splitInTwo]
theorem lv_read : readL 0 [3, 2] [1, 3] [0, 1, 2, 3, 4, 5] = some [0, 3, 1, 4, 2, 5] := by decide +kernel
theorem lv_cnt : cnt [6] = (6, 0) := by decide +kernel
theorem lv_cnt2 : cnt [3, 2] = (6, 0) := by decide +kernel
theorem lv_strd : (strd [3, 2]).getD 0 0 = 2 := by decide +kernel

theorem inI_small {zs : List Int} (h : (zs.all fun z => decide (-100 ≤ z ∧ z ≤ 100)) = true) : ∀ z ∈ zs, InI z := by
  intro z hz
  have := List.all_eq_true.1 h z hz
  have := of_decide_eq_true this
  constructor <;> omega

attribute [local irreducible] mayV sortI rng pd cnt strd readL wholeO

set_option maxRecDepth 100000 in
set_option maxHeartbeats 4000000 in
theorem live_any (w : World) : Calls Try.prog 20 #[] w fun e w' => e = .returned (.bool true) ∧ Below w.heap.size w w' := by
  go_enter Try.func20, Try.ntmps20
  go_wp2_with fail
  obtain ⟨W1, hW1⟩ : ∃ W1, Hid (w.alloc (.cells #[.int .i64 2, .int .i64 3] 3) = W1) := ⟨_, Lib.hid rfl⟩
  have i1 : Hid (IntsIn W1 (.slice (some ⟨w.heap.size, 0, none⟩) 2 2) [2, 3]) := Lib.hid (by rw [← hW1.out]; exact IntsIn.new w _ _ [2, 3] 2 rfl (by simp) (by simp) (by simp) (inI_small rfl))
  have b1 : Hid (Below w.heap.size w W1) := Lib.hid (by rw [← hW1.out]; exact (Below.refl _ w).alloc (Nat.le_refl _) _)
  rw [hW1.out]
  refine (whole_any i1.out).mono ?_
  rintro e w2 ⟨B2, h2⟩
  rw [lv_whole] at h2
  rcases h2 with ⟨hne, _⟩ | ⟨_, d, s, rfl, f1, f2⟩
  · exact absurd rfl hne
  have b2 : Hid (Below w.heap.size w w2) := Lib.hid (b1.out.trans (B2.mono b1.out.size))
  have hd := Lib.hid (f1.ints (by simp) (inI_small rfl))
  have hs := Lib.hid (f2.ints (by simp) (inI_small rfl))
  clear f1 f2 B2 i1 hW1
  obtain ⟨a1, c1, rfl⟩ := hd.out.form
  obtain ⟨a2, c2, rfl⟩ := hs.out.form
  go_wp2_with fail
  obtain ⟨W2, hW2⟩ : ∃ W2, Hid (w2.alloc (.cells #[.int .i64 0, .slice a1 2 c1, .slice a2 2 c2] 24) = W2) := ⟨_, Lib.hid rfl⟩
  have z2 : W2.heap.size = w2.heap.size + 1 := by rw [← hW2.out]; simp
  have b3 : Hid (Below w2.heap.size w2 W2) := Lib.hid (by rw [← hW2.out]; exact (Below.refl _ w2).alloc (Nat.le_refl _) _)
  rw [hW2.out, ← z2]
  obtain ⟨W3, hW3⟩ : ∃ W3, Hid (W2.alloc (.cells #[.int .i64 1, .int .i64 0] 3) = W3) := ⟨_, Lib.hid rfl⟩
  have b4 : Hid (Below W2.heap.size W2 W3) := Lib.hid (by rw [← hW3.out]; exact (Below.refl _ W2).alloc (Nat.le_refl _) _)
  have z3 : W3.heap.size = W2.heap.size + 1 := by rw [← hW3.out]; simp
  have b5 : Hid (Below w2.heap.size w2 W3) := Lib.hid (b3.out.trans (b4.out.mono (by omega)))
  have r1 : Hid (Reads W3 W2.heap.size 0 [1, 0]) := Lib.hid (by rw [← hW3.out]; exact Reads.new W2 _ _ [1, 0] rfl)
  have i2 : Hid (IntsIn W3 (.slice (some ⟨W2.heap.size, 0, none⟩) 2 2) [1, 0]) := Lib.hid (by rw [← hW3.out]; exact IntsIn.new W2 _ _ [1, 0] 2 rfl (by simp) (by simp) (by simp) (inI_small rfl))
  rw [hW3.out]
  refine (transpose_good 0 (.slice a1 2 c1) (.slice a2 2 c2) W2.heap.size 0 2 [2, 3] [3, 1] [1, 0] (Lib.hid (hd.out.below b5.out)) (Lib.hid (hs.out.below b5.out)) r1 (by omega) i2 (Lib.hid lv_may) (by decide) (by decide) (Lib.hid rfl) (Lib.hid rfl) (Lib.hid lv_sort)).mono ?_
  rintro e w4 ⟨d', s', rfl, B6, f1, f2⟩
  have b6 : Hid (Below w.heap.size w w4) := Lib.hid (b2.out.trans ((b5.out.mono b2.out.size).trans (B6.mono (by have := b2.out.size; omega))))
  have hd2 : Hid (IntsIn w4 d' [3, 2]) := Lib.hid (f1.ints (by simp) (inI_small rfl))
  have hs2 : Hid (IntsIn w4 s' [1, 3]) := Lib.hid (f2.ints (by simp) (inI_small rfl))
  clear f1 f2 B6 i2 r1 b5 b4 b3 hd hs hW3 hW2
  obtain ⟨a3, c3, rfl⟩ := hd2.out.form
  obtain ⟨a4, c4, rfl⟩ := hs2.out.form
  go_wp2_with fail
  obtain ⟨W4, hW4⟩ : ∃ W4, Hid (w4.alloc (.cells #[.int .i64 0, .slice a3 2 c3, .slice a4 2 c4] 24) = W4) := ⟨_, Lib.hid rfl⟩
  have z4 : W4.heap.size = w4.heap.size + 1 := by rw [← hW4.out]; simp
  have b3 : Hid (Below w4.heap.size w4 W4) := Lib.hid (by rw [← hW4.out]; exact (Below.refl _ w4).alloc (Nat.le_refl _) _)
  have x1 : Box3 W4 w4.heap.size (.int .i64 0) (.slice a3 2 c3) (.slice a4 2 c4) := by rw [← hW4.out]; exact Box3.new w4 _ _ _
  rw [hW4.out, ← z4]
  obtain ⟨W5, hW5⟩ : ∃ W5, Hid (W4.alloc (.cells #[.int .i64 0, .int .i64 1, .int .i64 2, .int .i64 3, .int .i64 4, .int .i64 5] 2) = W5) := ⟨_, Lib.hid rfl⟩
  have z5 : W5.heap.size = W4.heap.size + 1 := by rw [← hW5.out]; simp
  have b4 : Hid (Below W4.heap.size W4 W5) := Lib.hid (by rw [← hW5.out]; exact (Below.refl _ W4).alloc (Nat.le_refl _) _)
  have b5 : Hid (Below w4.heap.size w4 W5) := Lib.hid (b3.out.trans (b4.out.mono (by omega)))
  have i2 : Hid (IntsIn W5 (.slice (some ⟨W4.heap.size, 0, none⟩) 6 6) [0, 1, 2, 3, 4, 5]) := Lib.hid (by rw [← hW5.out]; exact IntsIn.new W4 _ _ [0, 1, 2, 3, 4, 5] 6 rfl (by simp) (by simp) (by simp) (inI_small rfl))
  rw [hW5.out]
  refine (read_any (hd2.out.below b5.out) (hs2.out.below b5.out) i2.out).mono ?_
  rintro e w6 ⟨B6, h6⟩
  rw [lv_read] at h6
  rcases h6 with ⟨l, lv, he, rfl, hrow⟩ | ⟨hno, _⟩
  rotate_left
  · exact absurd hno (by simp)
  cases he
  have il : Hid (IntsIn w6 lv [0, 3, 1, 4, 2, 5]) := Lib.hid (IntsIn.of_owns hrow (by simp) (inI_small rfl))
  have b7 : Hid (Below w4.heap.size w4 w6) := Lib.hid (b5.out.trans (B6.mono (by omega)))
  have b8 : Hid (Below w.heap.size w w6) := Lib.hid (b6.out.trans (b7.out.mono b6.out.size))
  have x2 := (x1.below b4.out).below B6
  obtain ⟨y0, y1, y2⟩ := box3_cells x2
  have hd3 := Lib.hid (hd2.out.below b7.out)
  have hs3 := Lib.hid (hs2.out.below b7.out)
  clear B6 i2 b5 b4 b3 hW4 hW5 hrow x1 x2 hd2 hs2
  obtain ⟨a5, c5, rfl⟩ := il.out.form
  go_wp2_with fail
  obtain ⟨W6, hW6⟩ : ∃ W6, Hid (w6.alloc (.cells #[.int .i64 6] 3) = W6) := ⟨_, Lib.hid rfl⟩
  have b3 : Hid (Below w6.heap.size w6 W6) := Lib.hid (by rw [← hW6.out]; exact (Below.refl _ w6).alloc (Nat.le_refl _) _)
  have i2 : Hid (IntsIn W6 (.slice (some ⟨w6.heap.size, 0, none⟩) 1 1) [6]) := Lib.hid (by rw [← hW6.out]; exact IntsIn.new w6 _ _ [6] 1 rfl (by simp) (by simp) (by simp) (inI_small rfl))
  rw [hW6.out]
  refine (reshape_turned 0 (.slice a3 2 c3) (.slice a4 2 c4) _ [3, 2] [1, 3] [6] (Lib.hid (hd3.out.below b3.out)) (Lib.hid (hs3.out.below b3.out)) i2 (Lib.hid lv_may2) (Lib.hid (by rw [lv_cnt])) (Lib.hid (by rw [lv_cnt, lv_cnt2])) (Lib.hid (by decide)) (Lib.hid (by decide)) (Lib.hid (by rw [lv_strd]; decide))).mono ?_
  rintro e w7 ⟨rfl, B7⟩
  have b9 : Hid (Below w6.heap.size w6 w7) := Lib.hid (b3.out.trans (B7.mono b3.out.size))
  have b10 : Hid (Below w.heap.size w w7) := Lib.hid (b8.out.trans (b9.out.mono b8.out.size))
  have il2 := Lib.hid (il.out.below b9.out)
  clear B7 i2 b3 hW6 hd3 hs3 il
  go_wp2_with fail
  obtain ⟨W7, hW7⟩ : ∃ W7, Hid (w7.alloc (.cells #[.int .i64 0, .slice none 0 0, .slice none 0 0] 24) = W7) := ⟨_, Lib.hid rfl⟩
  have z7 : W7.heap.size = w7.heap.size + 1 := by rw [← hW7.out]; simp
  have b11 : Hid (Below w7.heap.size w7 W7) := Lib.hid (by rw [← hW7.out]; exact (Below.refl _ w7).alloc (Nat.le_refl _) _)
  rw [hW7.out, ← z7]
  obtain ⟨W8, hW8⟩ : ∃ W8, Hid (W7.alloc (.cells #[.int .i64 0, .int .i64 3, .int .i64 1, .int .i64 4, .int .i64 2, .int .i64 5] 2) = W8) := ⟨_, Lib.hid rfl⟩
  have b12 : Hid (Below W7.heap.size W7 W8) := Lib.hid (by rw [← hW8.out]; exact (Below.refl _ W7).alloc (Nat.le_refl _) _)
  have i8 : Hid (IntsIn W8 (.slice (some ⟨W7.heap.size, 0, none⟩) 6 6) [0, 3, 1, 4, 2, 5]) := Lib.hid (by rw [← hW8.out]; exact IntsIn.new W7 _ _ [0, 3, 1, 4, 2, 5] 6 rfl (by simp) (by simp) (by simp) (inI_small rfl))
  have b13 : Hid (Below w7.heap.size w7 W8) := Lib.hid (b11.out.trans (b12.out.mono b11.out.size))
  rw [hW8.out]
  refine (sameData_any (il2.out.below b13.out) i8.out).mono ?_
  rintro e w9 ⟨rfl, B9⟩
  have b14 : Hid (Below w.heap.size w w9) := Lib.hid (b10.out.trans ((b13.out.mono b10.out.size).trans (B9.mono (by have := b10.out.size; have := b13.out.size; omega))))
  clear B9 i8 b11 b12 b13 hW7 hW8
  go_wp2_with fail
  go_ret
  exact ⟨rfl, b14.out⟩

end Go.Proofs.Ytfdafceolkmkoaa
