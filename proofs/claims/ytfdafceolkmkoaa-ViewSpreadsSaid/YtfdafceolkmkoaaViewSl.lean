/- The walk of view.Slice. -/
import Derived.Test.YtfdafceolkmkoaaViewX
import Derived.Test.YtfdafceolkmkoaaViewY
import Derived.Test.YtfdafceolkmkoaaViewSa
import Derived.BigRegion
import Derived.BigQuiet
import Derived.Deep.QuietTactic
set_option linter.unusedVariables false
namespace Go.Proofs.Ytfdafceolkmkoaa
open Go.RowKit Vw

attribute [local irreducible] mayV cnt strd

theorem mul_inI {a b : Int} (h1 : 0 ≤ a) (h2 : a ≤ 65536) (h3 : 0 ≤ b) (h4 : b ≤ 65536) : 0 ≤ a * b ∧ a * b ≤ 4294967296 :=
  ⟨Int.mul_nonneg h1 h3, Int.le_trans (Int.mul_le_mul h2 h4 h3 (by omega)) (by decide)⟩

set_option maxRecDepth 100000 in
set_option maxHeartbeats 4000000 in
theorem slice_not {w : World} (off ax fr to : Int) (d s : Value) (ds ss : List Int) (hd : Hid (IntsIn w d ds)) (hs : Hid (IntsIn w s ss)) (hm : Hid (mayV off ds ss = false))  :
    Calls Try.prog 26 #[.agg #[.int .i64 off, d, s], .int .i64 ax, .int .i64 fr, .int .i64 to] w fun e w' => e = .returned (.tuple #[.agg #[.int .i64 0, .slice none 0 0, .slice none 0 0], .int .i64 1]) ∧ Below w.heap.size w w' := by
  obtain ⟨a1, c1, rfl⟩ := hd.out.form
  obtain ⟨a2, c2, rfl⟩ := hs.out.form
  obtain ⟨WA, hWA⟩ : ∃ WA, (w.alloc (.cells #[.int .i64 off, .slice a1 ds.length c1, .slice a2 ss.length c2] 24)).alloc (.cells #[.int .i64 0, .slice none 0 0, .slice none 0 0] 24) = WA := ⟨_, rfl⟩
  have bA : Below w.heap.size w WA := by rw [← hWA]; exact ((Below.refl _ w).alloc (Nat.le_refl _) _).alloc (by simp) _
  have zA : WA.heap.size = w.heap.size + 2 := by rw [← hWA]; simp
  have p1 : Box3 WA w.heap.size (.int .i64 off) (.slice a1 ds.length c1) (.slice a2 ss.length c2) := by rw [← hWA]; exact (Below.heap_alloc _ _ _ (by simp)).trans (Box3.new w _ _ _)
  have p2 : Box3 WA (w.heap.size + 1) (.int .i64 0) (.slice none 0 0) (.slice none 0 0) := by
    rw [← hWA]
    have := Box3.new (w.alloc (.cells #[.int .i64 off, .slice a1 ds.length c1, .slice a2 ss.length c2] 24)) (.int .i64 0) (.slice none 0 0) (.slice none 0 0)
    rwa [World.size_alloc] at this
  have q0 := p1.c0
  have q1 := p1.c1
  have q2 := p1.c2
  have HF := Lib.hid (fine_any (off := off) (hd.out.below bA) (hs.out.below bA))
  rw [hm.out] at HF
  have P1 := Lib.hid p1
  have P2 := Lib.hid p2
  have BA := Lib.hid bA
  have ZA := Lib.hid zA
  clear p1 p2 bA zA
  go_enter Try.func26, Try.ntmps26
  go_wp2_with fail
  refine HF.out.mono ?_
  rintro e w1 ⟨rfl, hB1⟩
  have z1 : w.heap.size + 2 ≤ w1.heap.size := by have := ZA.out; have := hB1.size; omega
  have B1 : Hid (Below w.heap.size w w1) := Lib.hid (BA.out.trans (hB1.mono (by have := ZA.out; omega)))
  have P3 := Lib.hid (P1.out.below hB1)
  have P4 := Lib.hid (P2.out.below hB1)
  obtain ⟨r0, r1, r2⟩ := box3_cells P3.out
  have f0 := P4.out.frozen 0
  have f1 := P4.out.frozen 1
  have f2 := P4.out.frozen 2
  have k0 := P4.out.c0
  have k1 := P4.out.c1
  have k2 := P4.out.c2
  clear hB1 q0 q1 q2
  have hend : Hid (Box3 (put3 w1 (w.heap.size + 1) (.int .i64 0) (.slice none 0 0) (.slice none 0 0)) (w.heap.size + 1) (.int .i64 0) (.slice none 0 0) (.slice none 0 0) ∧ Below w.heap.size w (put3 w1 (w.heap.size + 1) (.int .i64 0) (.slice none 0 0) (.slice none 0 0))) := Lib.hid ⟨P4.out.put _ _ _, below_put B1.out (by omega)⟩
  go_wp2
  obtain ⟨h1, h2⟩ := hend.out
  obtain ⟨x0, x1', x2'⟩ := box3_cells h1
  unfold put3 at x0 x1' x2' h2
  exact bodyPost_ret (v := .tuple #[.agg #[.int .i64 0, .slice none 0 0, .slice none 0 0], .int .i64 1]) (by simp [results, Try.f26, go_sem, x0, x1', x2']) rfl ⟨rfl, h2⟩

set_option maxRecDepth 100000 in
set_option maxHeartbeats 4000000 in
theorem slice_lo {w : World} (off ax fr to : Int) (d s : Value) (ds ss : List Int) (hd : Hid (IntsIn w d ds)) (hs : Hid (IntsIn w s ss)) (hm : Hid (mayV off ds ss = true)) (h1 : ax < 0) :
    Calls Try.prog 26 #[.agg #[.int .i64 off, d, s], .int .i64 ax, .int .i64 fr, .int .i64 to] w fun e w' => e = .returned (.tuple #[.agg #[.int .i64 0, .slice none 0 0, .slice none 0 0], .int .i64 4]) ∧ Below w.heap.size w w' := by
  obtain ⟨a1, c1, rfl⟩ := hd.out.form
  obtain ⟨a2, c2, rfl⟩ := hs.out.form
  obtain ⟨WA, hWA⟩ : ∃ WA, (w.alloc (.cells #[.int .i64 off, .slice a1 ds.length c1, .slice a2 ss.length c2] 24)).alloc (.cells #[.int .i64 0, .slice none 0 0, .slice none 0 0] 24) = WA := ⟨_, rfl⟩
  have bA : Below w.heap.size w WA := by rw [← hWA]; exact ((Below.refl _ w).alloc (Nat.le_refl _) _).alloc (by simp) _
  have zA : WA.heap.size = w.heap.size + 2 := by rw [← hWA]; simp
  have p1 : Box3 WA w.heap.size (.int .i64 off) (.slice a1 ds.length c1) (.slice a2 ss.length c2) := by rw [← hWA]; exact (Below.heap_alloc _ _ _ (by simp)).trans (Box3.new w _ _ _)
  have p2 : Box3 WA (w.heap.size + 1) (.int .i64 0) (.slice none 0 0) (.slice none 0 0) := by
    rw [← hWA]
    have := Box3.new (w.alloc (.cells #[.int .i64 off, .slice a1 ds.length c1, .slice a2 ss.length c2] 24)) (.int .i64 0) (.slice none 0 0) (.slice none 0 0)
    rwa [World.size_alloc] at this
  have q0 := p1.c0
  have q1 := p1.c1
  have q2 := p1.c2
  have HF := Lib.hid (fine_any (off := off) (hd.out.below bA) (hs.out.below bA))
  rw [hm.out] at HF
  have P1 := Lib.hid p1
  have P2 := Lib.hid p2
  have BA := Lib.hid bA
  have ZA := Lib.hid zA
  clear p1 p2 bA zA
  go_enter Try.func26, Try.ntmps26
  go_wp2_with fail
  refine HF.out.mono ?_
  rintro e w1 ⟨rfl, hB1⟩
  have z1 : w.heap.size + 2 ≤ w1.heap.size := by have := ZA.out; have := hB1.size; omega
  have B1 : Hid (Below w.heap.size w w1) := Lib.hid (BA.out.trans (hB1.mono (by have := ZA.out; omega)))
  have P3 := Lib.hid (P1.out.below hB1)
  have P4 := Lib.hid (P2.out.below hB1)
  obtain ⟨r0, r1, r2⟩ := box3_cells P3.out
  have f0 := P4.out.frozen 0
  have f1 := P4.out.frozen 1
  have f2 := P4.out.frozen 2
  have k0 := P4.out.c0
  have k1 := P4.out.c1
  have k2 := P4.out.c2
  clear hB1 q0 q1 q2
  have hend : Hid (Box3 (put3 w1 (w.heap.size + 1) (.int .i64 0) (.slice none 0 0) (.slice none 0 0)) (w.heap.size + 1) (.int .i64 0) (.slice none 0 0) (.slice none 0 0) ∧ Below w.heap.size w (put3 w1 (w.heap.size + 1) (.int .i64 0) (.slice none 0 0) (.slice none 0 0))) := Lib.hid ⟨P4.out.put _ _ _, below_put B1.out (by omega)⟩
  go_wp2
  obtain ⟨h1, h2⟩ := hend.out
  obtain ⟨x0, x1', x2'⟩ := box3_cells h1
  unfold put3 at x0 x1' x2' h2
  exact bodyPost_ret (v := .tuple #[.agg #[.int .i64 0, .slice none 0 0, .slice none 0 0], .int .i64 4]) (by simp [results, Try.f26, go_sem, x0, x1', x2']) rfl ⟨rfl, h2⟩

set_option maxRecDepth 100000 in
set_option maxHeartbeats 4000000 in
theorem slice_hi {w : World} (off ax fr to : Int) (d s : Value) (ds ss : List Int) (hd : Hid (IntsIn w d ds)) (hs : Hid (IntsIn w s ss)) (hm : Hid (mayV off ds ss = true)) (h0 : 0 ≤ ax) (h1 : (ds.length : Int) ≤ ax) :
    Calls Try.prog 26 #[.agg #[.int .i64 off, d, s], .int .i64 ax, .int .i64 fr, .int .i64 to] w fun e w' => e = .returned (.tuple #[.agg #[.int .i64 0, .slice none 0 0, .slice none 0 0], .int .i64 4]) ∧ Below w.heap.size w w' := by
  obtain ⟨a1, c1, rfl⟩ := hd.out.form
  obtain ⟨a2, c2, rfl⟩ := hs.out.form
  obtain ⟨WA, hWA⟩ : ∃ WA, (w.alloc (.cells #[.int .i64 off, .slice a1 ds.length c1, .slice a2 ss.length c2] 24)).alloc (.cells #[.int .i64 0, .slice none 0 0, .slice none 0 0] 24) = WA := ⟨_, rfl⟩
  have bA : Below w.heap.size w WA := by rw [← hWA]; exact ((Below.refl _ w).alloc (Nat.le_refl _) _).alloc (by simp) _
  have zA : WA.heap.size = w.heap.size + 2 := by rw [← hWA]; simp
  have p1 : Box3 WA w.heap.size (.int .i64 off) (.slice a1 ds.length c1) (.slice a2 ss.length c2) := by rw [← hWA]; exact (Below.heap_alloc _ _ _ (by simp)).trans (Box3.new w _ _ _)
  have p2 : Box3 WA (w.heap.size + 1) (.int .i64 0) (.slice none 0 0) (.slice none 0 0) := by
    rw [← hWA]
    have := Box3.new (w.alloc (.cells #[.int .i64 off, .slice a1 ds.length c1, .slice a2 ss.length c2] 24)) (.int .i64 0) (.slice none 0 0) (.slice none 0 0)
    rwa [World.size_alloc] at this
  have q0 := p1.c0
  have q1 := p1.c1
  have q2 := p1.c2
  have HF := Lib.hid (fine_any (off := off) (hd.out.below bA) (hs.out.below bA))
  rw [hm.out] at HF
  have P1 := Lib.hid p1
  have P2 := Lib.hid p2
  have BA := Lib.hid bA
  have ZA := Lib.hid zA
  clear p1 p2 bA zA
  go_enter Try.func26, Try.ntmps26
  go_wp2_with fail
  refine HF.out.mono ?_
  rintro e w1 ⟨rfl, hB1⟩
  have z1 : w.heap.size + 2 ≤ w1.heap.size := by have := ZA.out; have := hB1.size; omega
  have B1 : Hid (Below w.heap.size w w1) := Lib.hid (BA.out.trans (hB1.mono (by have := ZA.out; omega)))
  have P3 := Lib.hid (P1.out.below hB1)
  have P4 := Lib.hid (P2.out.below hB1)
  obtain ⟨r0, r1, r2⟩ := box3_cells P3.out
  have f0 := P4.out.frozen 0
  have f1 := P4.out.frozen 1
  have f2 := P4.out.frozen 2
  have k0 := P4.out.c0
  have k1 := P4.out.c1
  have k2 := P4.out.c2
  clear hB1 q0 q1 q2
  have hend : Hid (Box3 (put3 w1 (w.heap.size + 1) (.int .i64 0) (.slice none 0 0) (.slice none 0 0)) (w.heap.size + 1) (.int .i64 0) (.slice none 0 0) (.slice none 0 0) ∧ Below w.heap.size w (put3 w1 (w.heap.size + 1) (.int .i64 0) (.slice none 0 0) (.slice none 0 0))) := Lib.hid ⟨P4.out.put _ _ _, below_put B1.out (by omega)⟩
  go_wp2
  obtain ⟨h1, h2⟩ := hend.out
  obtain ⟨x0, x1', x2'⟩ := box3_cells h1
  unfold put3 at x0 x1' x2' h2
  exact bodyPost_ret (v := .tuple #[.agg #[.int .i64 0, .slice none 0 0, .slice none 0 0], .int .i64 4]) (by simp [results, Try.f26, go_sem, x0, x1', x2']) rfl ⟨rfl, h2⟩

set_option maxRecDepth 100000 in
set_option maxHeartbeats 4000000 in
theorem slice_fr {w : World} (off ax fr to : Int) (d s : Value) (ds ss : List Int) (hd : Hid (IntsIn w d ds)) (hs : Hid (IntsIn w s ss)) (hm : Hid (mayV off ds ss = true)) (h0 : 0 ≤ ax) (h1 : ax < (ds.length : Int)) (h2 : fr < 0) :
    Calls Try.prog 26 #[.agg #[.int .i64 off, d, s], .int .i64 ax, .int .i64 fr, .int .i64 to] w fun e w' => e = .returned (.tuple #[.agg #[.int .i64 0, .slice none 0 0, .slice none 0 0], .int .i64 4]) ∧ Below w.heap.size w w' := by
  obtain ⟨a1, c1, rfl⟩ := hd.out.form
  obtain ⟨a2, c2, rfl⟩ := hs.out.form
  obtain ⟨WA, hWA⟩ : ∃ WA, (w.alloc (.cells #[.int .i64 off, .slice a1 ds.length c1, .slice a2 ss.length c2] 24)).alloc (.cells #[.int .i64 0, .slice none 0 0, .slice none 0 0] 24) = WA := ⟨_, rfl⟩
  have bA : Below w.heap.size w WA := by rw [← hWA]; exact ((Below.refl _ w).alloc (Nat.le_refl _) _).alloc (by simp) _
  have zA : WA.heap.size = w.heap.size + 2 := by rw [← hWA]; simp
  have p1 : Box3 WA w.heap.size (.int .i64 off) (.slice a1 ds.length c1) (.slice a2 ss.length c2) := by rw [← hWA]; exact (Below.heap_alloc _ _ _ (by simp)).trans (Box3.new w _ _ _)
  have p2 : Box3 WA (w.heap.size + 1) (.int .i64 0) (.slice none 0 0) (.slice none 0 0) := by
    rw [← hWA]
    have := Box3.new (w.alloc (.cells #[.int .i64 off, .slice a1 ds.length c1, .slice a2 ss.length c2] 24)) (.int .i64 0) (.slice none 0 0) (.slice none 0 0)
    rwa [World.size_alloc] at this
  have q0 := p1.c0
  have q1 := p1.c1
  have q2 := p1.c2
  have HF := Lib.hid (fine_any (off := off) (hd.out.below bA) (hs.out.below bA))
  rw [hm.out] at HF
  have P1 := Lib.hid p1
  have P2 := Lib.hid p2
  have BA := Lib.hid bA
  have ZA := Lib.hid zA
  clear p1 p2 bA zA
  go_enter Try.func26, Try.ntmps26
  go_wp2_with fail
  refine HF.out.mono ?_
  rintro e w1 ⟨rfl, hB1⟩
  have z1 : w.heap.size + 2 ≤ w1.heap.size := by have := ZA.out; have := hB1.size; omega
  have B1 : Hid (Below w.heap.size w w1) := Lib.hid (BA.out.trans (hB1.mono (by have := ZA.out; omega)))
  have P3 := Lib.hid (P1.out.below hB1)
  have P4 := Lib.hid (P2.out.below hB1)
  obtain ⟨r0, r1, r2⟩ := box3_cells P3.out
  have f0 := P4.out.frozen 0
  have f1 := P4.out.frozen 1
  have f2 := P4.out.frozen 2
  have k0 := P4.out.c0
  have k1 := P4.out.c1
  have k2 := P4.out.c2
  clear hB1 q0 q1 q2
  have hend : Hid (Box3 (put3 w1 (w.heap.size + 1) (.int .i64 0) (.slice none 0 0) (.slice none 0 0)) (w.heap.size + 1) (.int .i64 0) (.slice none 0 0) (.slice none 0 0) ∧ Below w.heap.size w (put3 w1 (w.heap.size + 1) (.int .i64 0) (.slice none 0 0) (.slice none 0 0))) := Lib.hid ⟨P4.out.put _ _ _, below_put B1.out (by omega)⟩
  go_wp2
  obtain ⟨h1, h2⟩ := hend.out
  obtain ⟨x0, x1', x2'⟩ := box3_cells h1
  unfold put3 at x0 x1' x2' h2
  exact bodyPost_ret (v := .tuple #[.agg #[.int .i64 0, .slice none 0 0, .slice none 0 0], .int .i64 4]) (by simp [results, Try.f26, go_sem, x0, x1', x2']) rfl ⟨rfl, h2⟩

set_option maxRecDepth 100000 in
set_option maxHeartbeats 4000000 in
theorem slice_to {w : World} (off ax fr to : Int) (d s : Value) (ds ss : List Int) (hd : Hid (IntsIn w d ds)) (hs : Hid (IntsIn w s ss)) (hm : Hid (mayV off ds ss = true)) (h0 : 0 ≤ ax) (h1 : ax < (ds.length : Int)) (h2 : 0 ≤ fr) (h3 : ds.getD ax.toNat 0 < to) :
    Calls Try.prog 26 #[.agg #[.int .i64 off, d, s], .int .i64 ax, .int .i64 fr, .int .i64 to] w fun e w' => e = .returned (.tuple #[.agg #[.int .i64 0, .slice none 0 0, .slice none 0 0], .int .i64 4]) ∧ Below w.heap.size w w' := by
  obtain ⟨k, rfl⟩ := Int.eq_ofNat_of_zero_le h0
  have hk : k < ds.length := by omega
  obtain ⟨a1, c1, rfl⟩ := hd.out.form
  obtain ⟨a2, c2, rfl⟩ := hs.out.form
  obtain ⟨WA, hWA⟩ : ∃ WA, (w.alloc (.cells #[.int .i64 off, .slice a1 ds.length c1, .slice a2 ss.length c2] 24)).alloc (.cells #[.int .i64 0, .slice none 0 0, .slice none 0 0] 24) = WA := ⟨_, rfl⟩
  have bA : Below w.heap.size w WA := by rw [← hWA]; exact ((Below.refl _ w).alloc (Nat.le_refl _) _).alloc (by simp) _
  have zA : WA.heap.size = w.heap.size + 2 := by rw [← hWA]; simp
  have p1 : Box3 WA w.heap.size (.int .i64 off) (.slice a1 ds.length c1) (.slice a2 ss.length c2) := by rw [← hWA]; exact (Below.heap_alloc _ _ _ (by simp)).trans (Box3.new w _ _ _)
  have p2 : Box3 WA (w.heap.size + 1) (.int .i64 0) (.slice none 0 0) (.slice none 0 0) := by
    rw [← hWA]
    have := Box3.new (w.alloc (.cells #[.int .i64 off, .slice a1 ds.length c1, .slice a2 ss.length c2] 24)) (.int .i64 0) (.slice none 0 0) (.slice none 0 0)
    rwa [World.size_alloc] at this
  have q0 := p1.c0
  have q1 := p1.c1
  have q2 := p1.c2
  have HF := Lib.hid (fine_any (off := off) (hd.out.below bA) (hs.out.below bA))
  rw [hm.out] at HF
  have P1 := Lib.hid p1
  have P2 := Lib.hid p2
  have BA := Lib.hid bA
  have ZA := Lib.hid zA
  clear p1 p2 bA zA
  go_enter Try.func26, Try.ntmps26
  go_wp2_with fail
  refine HF.out.mono ?_
  rintro e w1 ⟨rfl, hB1⟩
  have z1 : w.heap.size + 2 ≤ w1.heap.size := by have := ZA.out; have := hB1.size; omega
  have B1 : Hid (Below w.heap.size w w1) := Lib.hid (BA.out.trans (hB1.mono (by have := ZA.out; omega)))
  have P3 := Lib.hid (P1.out.below hB1)
  have P4 := Lib.hid (P2.out.below hB1)
  obtain ⟨r0, r1, r2⟩ := box3_cells P3.out
  have f0 := P4.out.frozen 0
  have f1 := P4.out.frozen 1
  have f2 := P4.out.frozen 2
  have k0 := P4.out.c0
  have k1 := P4.out.c1
  have k2 := P4.out.c2
  clear hB1 q0 q1 q2
  obtain ⟨bd, od, rfl, hbd, hrd⟩ := hd.out.rows.2 k hk
  have kd := (B1.out.cell (p := ⟨bd, od + k, none⟩) hbd).trans (hrd k hk)
  rw [Int.toNat_natCast] at h3
  generalize ds.getD k 0 = dk at *
  have hend : Hid (Box3 (put3 w1 (w.heap.size + 1) (.int .i64 0) (.slice none 0 0) (.slice none 0 0)) (w.heap.size + 1) (.int .i64 0) (.slice none 0 0) (.slice none 0 0) ∧ Below w.heap.size w (put3 w1 (w.heap.size + 1) (.int .i64 0) (.slice none 0 0) (.slice none 0 0))) := Lib.hid ⟨P4.out.put _ _ _, below_put B1.out (by omega)⟩
  go_wp2
  obtain ⟨h1, h2⟩ := hend.out
  obtain ⟨x0, x1', x2'⟩ := box3_cells h1
  unfold put3 at x0 x1' x2' h2
  exact bodyPost_ret (v := .tuple #[.agg #[.int .i64 0, .slice none 0 0, .slice none 0 0], .int .i64 4]) (by simp [results, Try.f26, go_sem, x0, x1', x2']) rfl ⟨rfl, h2⟩

set_option maxRecDepth 100000 in
set_option maxHeartbeats 4000000 in
theorem slice_ge {w : World} (off ax fr to : Int) (d s : Value) (ds ss : List Int) (hd : Hid (IntsIn w d ds)) (hs : Hid (IntsIn w s ss)) (hm : Hid (mayV off ds ss = true)) (h0 : 0 ≤ ax) (h1 : ax < (ds.length : Int)) (h2 : 0 ≤ fr) (h3 : to ≤ ds.getD ax.toNat 0) (h4 : to ≤ fr) :
    Calls Try.prog 26 #[.agg #[.int .i64 off, d, s], .int .i64 ax, .int .i64 fr, .int .i64 to] w fun e w' => e = .returned (.tuple #[.agg #[.int .i64 0, .slice none 0 0, .slice none 0 0], .int .i64 4]) ∧ Below w.heap.size w w' := by
  obtain ⟨k, rfl⟩ := Int.eq_ofNat_of_zero_le h0
  have hk : k < ds.length := by omega
  obtain ⟨a1, c1, rfl⟩ := hd.out.form
  obtain ⟨a2, c2, rfl⟩ := hs.out.form
  obtain ⟨WA, hWA⟩ : ∃ WA, (w.alloc (.cells #[.int .i64 off, .slice a1 ds.length c1, .slice a2 ss.length c2] 24)).alloc (.cells #[.int .i64 0, .slice none 0 0, .slice none 0 0] 24) = WA := ⟨_, rfl⟩
  have bA : Below w.heap.size w WA := by rw [← hWA]; exact ((Below.refl _ w).alloc (Nat.le_refl _) _).alloc (by simp) _
  have zA : WA.heap.size = w.heap.size + 2 := by rw [← hWA]; simp
  have p1 : Box3 WA w.heap.size (.int .i64 off) (.slice a1 ds.length c1) (.slice a2 ss.length c2) := by rw [← hWA]; exact (Below.heap_alloc _ _ _ (by simp)).trans (Box3.new w _ _ _)
  have p2 : Box3 WA (w.heap.size + 1) (.int .i64 0) (.slice none 0 0) (.slice none 0 0) := by
    rw [← hWA]
    have := Box3.new (w.alloc (.cells #[.int .i64 off, .slice a1 ds.length c1, .slice a2 ss.length c2] 24)) (.int .i64 0) (.slice none 0 0) (.slice none 0 0)
    rwa [World.size_alloc] at this
  have q0 := p1.c0
  have q1 := p1.c1
  have q2 := p1.c2
  have HF := Lib.hid (fine_any (off := off) (hd.out.below bA) (hs.out.below bA))
  rw [hm.out] at HF
  have P1 := Lib.hid p1
  have P2 := Lib.hid p2
  have BA := Lib.hid bA
  have ZA := Lib.hid zA
  clear p1 p2 bA zA
  go_enter Try.func26, Try.ntmps26
  go_wp2_with fail
  refine HF.out.mono ?_
  rintro e w1 ⟨rfl, hB1⟩
  have z1 : w.heap.size + 2 ≤ w1.heap.size := by have := ZA.out; have := hB1.size; omega
  have B1 : Hid (Below w.heap.size w w1) := Lib.hid (BA.out.trans (hB1.mono (by have := ZA.out; omega)))
  have P3 := Lib.hid (P1.out.below hB1)
  have P4 := Lib.hid (P2.out.below hB1)
  obtain ⟨r0, r1, r2⟩ := box3_cells P3.out
  have f0 := P4.out.frozen 0
  have f1 := P4.out.frozen 1
  have f2 := P4.out.frozen 2
  have k0 := P4.out.c0
  have k1 := P4.out.c1
  have k2 := P4.out.c2
  clear hB1 q0 q1 q2
  obtain ⟨bd, od, rfl, hbd, hrd⟩ := hd.out.rows.2 k hk
  have kd := (B1.out.cell (p := ⟨bd, od + k, none⟩) hbd).trans (hrd k hk)
  rw [Int.toNat_natCast] at h3
  generalize ds.getD k 0 = dk at *
  have hend : Hid (Box3 (put3 w1 (w.heap.size + 1) (.int .i64 0) (.slice none 0 0) (.slice none 0 0)) (w.heap.size + 1) (.int .i64 0) (.slice none 0 0) (.slice none 0 0) ∧ Below w.heap.size w (put3 w1 (w.heap.size + 1) (.int .i64 0) (.slice none 0 0) (.slice none 0 0))) := Lib.hid ⟨P4.out.put _ _ _, below_put B1.out (by omega)⟩
  go_wp2
  obtain ⟨h1, h2⟩ := hend.out
  obtain ⟨x0, x1', x2'⟩ := box3_cells h1
  unfold put3 at x0 x1' x2' h2
  exact bodyPost_ret (v := .tuple #[.agg #[.int .i64 0, .slice none 0 0, .slice none 0 0], .int .i64 4]) (by simp [results, Try.f26, go_sem, x0, x1', x2']) rfl ⟨rfl, h2⟩

set_option maxRecDepth 100000 in
set_option maxHeartbeats 4000000 in
theorem slice_far {w : World} (off ax fr to : Int) (d s : Value) (ds ss : List Int) (hd : Hid (IntsIn w d ds)) (hs : Hid (IntsIn w s ss)) (hm : Hid (mayV off ds ss = true)) (h0 : 0 ≤ ax) (h1 : ax < (ds.length : Int)) (h2 : 0 ≤ fr) (h3 : to ≤ ds.getD ax.toNat 0) (h4 : fr < to) (h5 : 65536 ≤ off + fr * ss.getD ax.toNat 0) :
    Calls Try.prog 26 #[.agg #[.int .i64 off, d, s], .int .i64 ax, .int .i64 fr, .int .i64 to] w fun e w' => e = .returned (.tuple #[.agg #[.int .i64 0, .slice none 0 0, .slice none 0 0], .int .i64 6]) ∧ Below w.heap.size w w' := by
  obtain ⟨k, rfl⟩ := Int.eq_ofNat_of_zero_le h0
  have hk : k < ds.length := by omega
  obtain ⟨a1, c1, rfl⟩ := hd.out.form
  obtain ⟨a2, c2, rfl⟩ := hs.out.form
  obtain ⟨WA, hWA⟩ : ∃ WA, (w.alloc (.cells #[.int .i64 off, .slice a1 ds.length c1, .slice a2 ss.length c2] 24)).alloc (.cells #[.int .i64 0, .slice none 0 0, .slice none 0 0] 24) = WA := ⟨_, rfl⟩
  have bA : Below w.heap.size w WA := by rw [← hWA]; exact ((Below.refl _ w).alloc (Nat.le_refl _) _).alloc (by simp) _
  have zA : WA.heap.size = w.heap.size + 2 := by rw [← hWA]; simp
  have p1 : Box3 WA w.heap.size (.int .i64 off) (.slice a1 ds.length c1) (.slice a2 ss.length c2) := by rw [← hWA]; exact (Below.heap_alloc _ _ _ (by simp)).trans (Box3.new w _ _ _)
  have p2 : Box3 WA (w.heap.size + 1) (.int .i64 0) (.slice none 0 0) (.slice none 0 0) := by
    rw [← hWA]
    have := Box3.new (w.alloc (.cells #[.int .i64 off, .slice a1 ds.length c1, .slice a2 ss.length c2] 24)) (.int .i64 0) (.slice none 0 0) (.slice none 0 0)
    rwa [World.size_alloc] at this
  have q0 := p1.c0
  have q1 := p1.c1
  have q2 := p1.c2
  have HF := Lib.hid (fine_any (off := off) (hd.out.below bA) (hs.out.below bA))
  rw [hm.out] at HF
  have P1 := Lib.hid p1
  have P2 := Lib.hid p2
  have BA := Lib.hid bA
  have ZA := Lib.hid zA
  clear p1 p2 bA zA
  go_enter Try.func26, Try.ntmps26
  go_wp2_with fail
  refine HF.out.mono ?_
  rintro e w1 ⟨rfl, hB1⟩
  have z1 : w.heap.size + 2 ≤ w1.heap.size := by have := ZA.out; have := hB1.size; omega
  have B1 : Hid (Below w.heap.size w w1) := Lib.hid (BA.out.trans (hB1.mono (by have := ZA.out; omega)))
  have P3 := Lib.hid (P1.out.below hB1)
  have P4 := Lib.hid (P2.out.below hB1)
  obtain ⟨r0, r1, r2⟩ := box3_cells P3.out
  have f0 := P4.out.frozen 0
  have f1 := P4.out.frozen 1
  have f2 := P4.out.frozen 2
  have k0 := P4.out.c0
  have k1 := P4.out.c1
  have k2 := P4.out.c2
  clear hB1 q0 q1 q2
  obtain ⟨bd, od, rfl, hbd, hrd⟩ := hd.out.rows.2 k hk
  have kd := (B1.out.cell (p := ⟨bd, od + k, none⟩) hbd).trans (hrd k hk)
  have hg := Lib.hid (may_good hm.out)
  obtain ⟨bs, os, rfl, hbs, hrs⟩ := hs.out.rows.2 k (by have := hg.out.2.2.2.2.1; omega)
  have ks := (B1.out.cell (p := ⟨bs, os + k, none⟩) hbs).trans (hrs k (by have := hg.out.2.2.2.2.1; omega))
  have hks : k < ss.length := by have := hg.out.2.2.2.2.1; omega
  have hks2 : (k : Int) < (ss.length : Int) := by omega
  have hgd := hg.out.1 _ (getD_mem hk)
  have hgs := hg.out.2.2.2.2.2.2.2 _ (getD_mem hks)
  have ho : 0 ≤ off ∧ off ≤ 65535 := ⟨hg.out.2.2.2.2.2.1, hg.out.2.2.2.2.2.2.1⟩
  rw [Int.toNat_natCast] at h3 h5
  have hmul := mul_inI h2 (show fr ≤ 65536 by omega) hgs.1 hgs.2
  generalize hdk : ds.getD k 0 = dk at *
  generalize hsk : ss.getD k 0 = sk at *
  generalize hpp : fr * sk = pp at *
  have hend : ∀ q, Hid (Box3 (put3 (w1.drewN q) (w.heap.size + 1) (.int .i64 0) (.slice none 0 0) (.slice none 0 0)) (w.heap.size + 1) (.int .i64 0) (.slice none 0 0) (.slice none 0 0) ∧ Below w.heap.size w (put3 (w1.drewN q) (w.heap.size + 1) (.int .i64 0) (.slice none 0 0) (.slice none 0 0))) := fun q => Lib.hid ⟨Box3.put (W := w1.drewN q) P4.out _ _ _, below_put (below_drewN B1.out q) (by omega)⟩
  go_wp2_with fail
  go_quiet (fail)
  go_wp2_with fail
  have hx := fun q => (hend q).out
  have x0 := fun q => (box3_cells (hx q).1).1
  have x1' := fun q => (box3_cells (hx q).1).2.1
  have x2' := fun q => (box3_cells (hx q).1).2.2
  unfold put3 at x0 x1' x2'
  exact bodyPost_ret (v := .tuple #[.agg #[.int .i64 0, .slice none 0 0, .slice none 0 0], .int .i64 6]) (by simp [results, Try.f26, go_sem, x0, x1', x2']) rfl ⟨rfl, (hx _).2⟩

set_option maxRecDepth 100000 in
set_option maxHeartbeats 4000000 in
theorem slice_good {w : World} (off fr to : Int) (k : Nat) (d s : Value) (ds ss : List Int) (hd : Hid (IntsIn w d ds)) (hs : Hid (IntsIn w s ss)) (hm : Hid (mayV off ds ss = true)) (hk : k < ds.length) (h2 : 0 ≤ fr) (h3 : to ≤ ds.getD k 0) (h4 : fr < to) (h5 : off + fr * ss.getD k 0 < 65536) :
    Calls Try.prog 26 #[.agg #[.int .i64 off, d, s], .int .i64 (k : Int), .int .i64 fr, .int .i64 to] w fun e w' => ∃ d' s', e = .returned (.tuple #[.agg #[.int .i64 (off + fr * ss.getD k 0), d', s'], .int .i64 0]) ∧ Below w.heap.size w w' ∧
      Fresh w.heap.size w' d' (ds.set k (to - fr)) ∧ Fresh w.heap.size w' s' ss := by
  have h1 : (k : Int) < (ds.length : Int) := by omega
  obtain ⟨a1, c1, rfl⟩ := hd.out.form
  obtain ⟨a2, c2, rfl⟩ := hs.out.form
  obtain ⟨WA, hWA⟩ : ∃ WA, (w.alloc (.cells #[.int .i64 off, .slice a1 ds.length c1, .slice a2 ss.length c2] 24)).alloc (.cells #[.int .i64 0, .slice none 0 0, .slice none 0 0] 24) = WA := ⟨_, rfl⟩
  have bA : Below w.heap.size w WA := by rw [← hWA]; exact ((Below.refl _ w).alloc (Nat.le_refl _) _).alloc (by simp) _
  have zA : WA.heap.size = w.heap.size + 2 := by rw [← hWA]; simp
  have p1 : Box3 WA w.heap.size (.int .i64 off) (.slice a1 ds.length c1) (.slice a2 ss.length c2) := by rw [← hWA]; exact (Below.heap_alloc _ _ _ (by simp)).trans (Box3.new w _ _ _)
  have p2 : Box3 WA (w.heap.size + 1) (.int .i64 0) (.slice none 0 0) (.slice none 0 0) := by
    rw [← hWA]
    have := Box3.new (w.alloc (.cells #[.int .i64 off, .slice a1 ds.length c1, .slice a2 ss.length c2] 24)) (.int .i64 0) (.slice none 0 0) (.slice none 0 0)
    rwa [World.size_alloc] at this
  have q0 := p1.c0
  have q1 := p1.c1
  have q2 := p1.c2
  have HF := Lib.hid (fine_any (off := off) (hd.out.below bA) (hs.out.below bA))
  rw [hm.out] at HF
  have P1 := Lib.hid p1
  have P2 := Lib.hid p2
  have BA := Lib.hid bA
  have ZA := Lib.hid zA
  clear p1 p2 bA zA
  go_enter Try.func26, Try.ntmps26
  go_wp2_with fail
  refine HF.out.mono ?_
  rintro e w1 ⟨rfl, hB1⟩
  have z1 : w.heap.size + 2 ≤ w1.heap.size := by have := ZA.out; have := hB1.size; omega
  have B1 : Hid (Below w.heap.size w w1) := Lib.hid (BA.out.trans (hB1.mono (by have := ZA.out; omega)))
  have P3 := Lib.hid (P1.out.below hB1)
  have P4 := Lib.hid (P2.out.below hB1)
  obtain ⟨r0, r1, r2⟩ := box3_cells P3.out
  have f0 := P4.out.frozen 0
  have f1 := P4.out.frozen 1
  have f2 := P4.out.frozen 2
  have k0 := P4.out.c0
  have k1 := P4.out.c1
  have k2 := P4.out.c2
  clear hB1 q0 q1 q2
  obtain ⟨bd, od, rfl, hbd, hrd⟩ := hd.out.rows.2 k hk
  have kd := (B1.out.cell (p := ⟨bd, od + k, none⟩) hbd).trans (hrd k hk)
  have hg := Lib.hid (may_good hm.out)
  obtain ⟨bs, os, rfl, hbs, hrs⟩ := hs.out.rows.2 k (by have := hg.out.2.2.2.2.1; omega)
  have ks := (B1.out.cell (p := ⟨bs, os + k, none⟩) hbs).trans (hrs k (by have := hg.out.2.2.2.2.1; omega))
  have hks : k < ss.length := by have := hg.out.2.2.2.2.1; omega
  have hks2 : (k : Int) < (ss.length : Int) := by omega
  have hgd := hg.out.1 _ (getD_mem hk)
  have hgs := hg.out.2.2.2.2.2.2.2 _ (getD_mem hks)
  have ho : 0 ≤ off ∧ off ≤ 65535 := ⟨hg.out.2.2.2.2.2.1, hg.out.2.2.2.2.2.2.1⟩
  have hmul := mul_inI h2 (show fr ≤ 65536 by omega) hgs.1 hgs.2
  generalize hdk : ds.getD k 0 = dk at kd h3 hgd
  generalize hsk : ss.getD k 0 = sk at ks h5 hgs hmul
  generalize hpp : fr * sk = pp at h5 hmul
  have Hdk := Lib.hid hdk
  have Hsk := Lib.hid hsk
  have Hpp := Lib.hid hpp
  clear hdk hsk
  have HO := fun q => Lib.hid (own_any (off := off) (hd.out.below (below_drewN B1.out q)) (hs.out.below (below_drewN B1.out q)))
  go_wp2_with fail
  go_quiet (fail)
  go_wp2_with fail
  refine (HO _).out.mono ?_
  rintro e w4 ⟨d', s', rfl, hfd, hfs, hap, hB4⟩
  obtain ⟨gd, cd, rfl, hgd, hcd, hrd4⟩ := hfd.rowC (by intro e; rw [e] at hk; simp at hk)
  obtain ⟨gs, cs, rfl, hgs, hcs, hrs4⟩ := hfs.rowC (by intro e; rw [e] at hks; simp at hks)
  have HX := Lib.hid (⟨hap gd gs _ _ _ _ rfl rfl (by omega) (by omega), hgd, hgs, hrd4.lt, hrs4.lt, hcd, hcs⟩ : gd ≠ gs ∧ w1.heap.size ≤ gd ∧ w1.heap.size ≤ gs ∧ gd < w4.heap.size ∧ gs < w4.heap.size ∧ ds.length ≤ cd ∧ ss.length ≤ cs)
  have z4 : w1.heap.size ≤ w4.heap.size := hB4.size
  have b4 : Hid (Below w.heap.size w w4) := Lib.hid ((below_drewN B1.out _).trans (hB4.mono (show w.heap.size ≤ w1.heap.size by omega)))
  have P5 := Lib.hid (Box3.below (W := w1.drewN _) P3.out hB4)
  have P6 := Lib.hid (Box3.below (W := w1.drewN _) P4.out hB4)
  have HRD := Lib.hid hrd4
  have HRS := Lib.hid hrs4
  clear hap hgd hgs hcd hcs hfd hfs hB4 hrd4 hrs4 r0 r1 r2 f0 f1 f2 k0 k1 k2
  go_wp2_with fail
  obtain ⟨W5, hW5⟩ : ∃ W5, Hid (w4.alloc (.cells #[.int .i64 off, .slice (some ⟨gd, 0, none⟩) ds.length cd, .slice (some ⟨gs, 0, none⟩) ss.length cs] 24) = W5) := ⟨_, Lib.hid rfl⟩
  have z5 : W5.heap.size = w4.heap.size + 1 := by rw [← hW5.out]; simp
  have b5 : Hid (Below w4.heap.size w4 W5) := Lib.hid (by rw [← hW5.out]; exact (Below.refl _ w4).alloc (Nat.le_refl _) _)
  have x5 : Hid (Box3 W5 w4.heap.size (.int .i64 off) (.slice (some ⟨gd, 0, none⟩) ds.length cd) (.slice (some ⟨gs, 0, none⟩) ss.length cs)) := Lib.hid (by rw [← hW5.out]; exact Box3.new w4 _ _ _)
  rw [hW5.out]
  have P7 := Lib.hid (P5.out.below b5.out)
  have P8 := Lib.hid (P6.out.below b5.out)
  have b6 : Hid (Below w.heap.size w W5) := Lib.hid (b4.out.trans (b5.out.mono (by omega)))
  have HRD2 := Lib.hid (HRD.out.keep (b5.out.block gd HX.out.2.2.2.1))
  have HRS2 := Lib.hid (HRS.out.keep (b5.out.block gs HX.out.2.2.2.2.1))
  obtain ⟨u0, u1, u2⟩ := box3_cells P7.out
  obtain ⟨t0, t1, t2⟩ := box3_cells x5.out
  have kd5 := (b6.out.cell (p := ⟨bd, od + k, none⟩) hbd).trans (hrd k hk)
  have ks5 := (b6.out.cell (p := ⟨bs, os + k, none⟩) hbs).trans (hrs k hks)
  rw [Hsk.out] at ks5
  rw [Hdk.out] at kd5
  have fr0 := x5.out.frozen 0
  obtain ⟨W6, hW6⟩ : ∃ W6, Hid (W5.setCell ⟨w4.heap.size, 0, none⟩ (.int .i64 (off + pp)) = W6) := ⟨_, Lib.hid rfl⟩
  have x6 : Hid (Box3 W6 w4.heap.size (.int .i64 (off + pp)) (.slice (some ⟨gd, 0, none⟩) ds.length cd) (.slice (some ⟨gs, 0, none⟩) ss.length cs)) := Lib.hid (by rw [← hW6.out]; exact x5.out.set0 _)
  have b7 : Hid (Below w.heap.size w W6) := Lib.hid (by rw [← hW6.out]; exact b6.out.setCell (p := ⟨w4.heap.size, 0, none⟩) (by simp; omega) _)
  have HRD3 : Hid (RowC W6 gd ds) := Lib.hid (by rw [← hW6.out]; exact HRD2.out.keep (Below.heap_setCell _ _ _ gd (by have := HX.out.2.2.2.1; simp; omega)))
  have HRS3 : Hid (RowC W6 gs ss) := Lib.hid (by rw [← hW6.out]; exact HRS2.out.keep (Below.heap_setCell _ _ _ gs (by have := HX.out.2.2.2.2.1; simp; omega)))
  have P9 : Hid (Box3 W6 (w.heap.size + 1) (.int .i64 0) (.slice none 0 0) (.slice none 0 0)) := Lib.hid (by rw [← hW6.out]; exact (Below.heap_setCell _ _ _ _ (by simp; omega)).trans P8.out)
  go_region
  rw [hW6.out]
  obtain ⟨y0, y1, y2⟩ := box3_cells x6.out
  have m1 := HRD3.out.cell (j := k) hk
  have m2 := HRD3.out.frozen k
  obtain ⟨n1, n2, n3, n4, n5, n6, n7⟩ := HX.out
  have x7 : Box3 (W6.setCell ⟨gd, k, none⟩ (.int .i64 (to - fr))) w4.heap.size (.int .i64 (off + pp)) (.slice (some ⟨gd, 0, none⟩) ds.length cd) (.slice (some ⟨gs, 0, none⟩) ss.length cs) := (Below.heap_setCell _ _ _ _ (show w4.heap.size ≠ gd by omega)).trans x6.out
  have P10 : Box3 (W6.setCell ⟨gd, k, none⟩ (.int .i64 (to - fr))) (w.heap.size + 1) (.int .i64 0) (.slice none 0 0) (.slice none 0 0) := (Below.heap_setCell _ _ _ _ (show w.heap.size + 1 ≠ gd by omega)).trans P9.out
  obtain ⟨v0, v1, v2⟩ := box3_cells x7
  obtain ⟨k0, k1, k2⟩ := box3_cells P10
  have f0 := P10.frozen 0
  have f1 := P10.frozen 1
  have f2 := P10.frozen 2
  have R7 : RowC (W6.setCell ⟨gd, k, none⟩ (.int .i64 (to - fr))) gd (ds.set k (to - fr)) := HRD3.out.set k _
  have S7 : RowC (W6.setCell ⟨gd, k, none⟩ (.int .i64 (to - fr))) gs ss := HRS3.out.keep (Below.heap_setCell _ _ _ gs (by simp; omega))
  have hlen : (ds.set k (to - fr)).length = ds.length := List.length_set
  have hend : ∀ x y z, Hid (Box3 (put3 ((W6.setCell ⟨gd, k, none⟩ (.int .i64 (to - fr))).drew) (w.heap.size + 1) x y z) (w.heap.size + 1) x y z ∧ Below w.heap.size w (put3 ((W6.setCell ⟨gd, k, none⟩ (.int .i64 (to - fr))).drew) (w.heap.size + 1) x y z) ∧
      Fresh w.heap.size (put3 ((W6.setCell ⟨gd, k, none⟩ (.int .i64 (to - fr))).drew) (w.heap.size + 1) x y z) (.slice (some ⟨gd, 0, none⟩) ds.length cd) (ds.set k (to - fr)) ∧
      Fresh w.heap.size (put3 ((W6.setCell ⟨gd, k, none⟩ (.int .i64 (to - fr))).drew) (w.heap.size + 1) x y z) (.slice (some ⟨gs, 0, none⟩) ss.length cs) ss) := fun x y z => Lib.hid (by
    refine ⟨P10.drew.put _ _ _, below_put ((b7.out.setCell (p := ⟨gd, k, none⟩) (by simp; omega) _).drew) (by omega), ?_, ?_⟩
    · have := RowC.fresh (B := w.heap.size + 2) (cap := cd) R7 (by omega) (by omega)
      rw [hlen] at this
      exact Fresh.put (B := w.heap.size + 2) (w := (W6.setCell ⟨gd, k, none⟩ (.int .i64 (to - fr))).drew) this (by omega) (by omega)
    · have := RowC.fresh (B := w.heap.size + 2) (cap := cs) S7 (by omega) (by omega)
      exact Fresh.put (B := w.heap.size + 2) (w := (W6.setCell ⟨gd, k, none⟩ (.int .i64 (to - fr))).drew) this (by omega) (by omega))
  have HP10 := Lib.hid P10
  clear R7 S7 x7 P10 n2 n3 n4 n5 n6 n7 n1 hlen
  go_wp2_with fail
  obtain ⟨e1, e2, e3, e4⟩ := (hend (.int .i64 (off + pp)) (.slice (some ⟨gd, 0, none⟩) ds.length cd) (.slice (some ⟨gs, 0, none⟩) ss.length cs)).out
  have x0 := (HP10.out.set0 (.int .i64 (off + pp))).c0
  have x1' := ((HP10.out.set0 (.int .i64 (off + pp))).set1 (.slice (some ⟨gd, 0, none⟩) ds.length cd)).c1
  have x2' := (((HP10.out.set0 (.int .i64 (off + pp))).set1 (.slice (some ⟨gd, 0, none⟩) ds.length cd)).set2 (.slice (some ⟨gs, 0, none⟩) ss.length cs)).c2
  refine bodyPost_ret (v := .tuple #[.agg #[.int .i64 (off + pp), .slice (some ⟨gd, 0, none⟩) ds.length cd, .slice (some ⟨gs, 0, none⟩) ss.length cs], .int .i64 0]) (by simp [results, Try.f26, go_sem, x0, x1', x2']) rfl ⟨_, _, ret2_val ?_ rfl, e2, e3, e4⟩
  rw [Hsk.out, Hpp.out]

end Go.Proofs.Ytfdafceolkmkoaa
