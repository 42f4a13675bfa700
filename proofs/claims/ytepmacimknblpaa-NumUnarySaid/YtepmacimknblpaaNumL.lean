/- The walk of mandrellaw02.live: it answers true. -/
import Derived.Test.YtepmacimknblpaaNumC
namespace Go.Proofs.Ytepmacimknblpaa
open Go.RowKit Ieee Fl

theorem grown_trans {a b c : World} (h : Grown a b) (g : Grown b c) : Grown a c := ⟨World.keptBut_trans h.1 g.1, fun x => (g.2.1 x).trans (h.2.1 x), Nat.le_trans h.2.2 g.2.2⟩

theorem live_add : bin [65, 100, 100] 1 1065353216 1073741824 = (1077936128, 0) := by decide +kernel
theorem live_exp : un [69, 120, 112] 1 1065353216 = (1076754516, 0) := by decide +kernel
theorem live_div : bin [68, 105, 118] 6 1 0 = (0, 7) := by decide +kernel
theorem live_cst : cst 1 6 3223322624 = (-2, 0) := by decide +kernel
theorem live_c1 : chk 1 2143289344 = true := by decide +kernel
theorem live_c2 : chk 1 2143289345 = false := by decide +kernel

attribute [local irreducible] chk bin un cst

set_option maxHeartbeats 1000000 in
theorem live_any (w : World) : Calls Try.prog 18 #[] w fun e w' => e = .returned (.bool true) ∧ Grown w w' := by
  have l1 := live_add
  have l2 := live_exp
  have l3 := live_div
  have l4 := live_cst
  have l5 := live_c1
  have l6 := live_c2
  go_enter Try.func18, Try.ntmps18
  go_wp2_with fail
  refine (binary_any _ _ _ _ (by decide) (by decide) (by decide) (by decide) _).mono ?_
  rintro e w1 ⟨rfl, g1⟩
  go_wp2_with fail
  refine (unary_any _ _ _ (by decide) (by decide) _).mono ?_
  rintro e w2 ⟨rfl, g2⟩
  go_wp2_with fail
  refine (binary_any _ _ _ _ (by decide) (by decide) (by decide) (by decide) _).mono ?_
  rintro e w3 ⟨rfl, g3⟩
  go_wp2_with fail
  refine (cast_any _ _ _ (by decide) (by decide) _).mono ?_
  rintro e w4 ⟨rfl, g4⟩
  go_wp2_with (go_at_call 16; refine (check_any _ _ (by decide) (by decide) _).mono ?_; rintro e w' ⟨rfl, rfl⟩)
  go_ret
  exact ⟨rfl, grown_trans g1 (grown_trans g2 (grown_trans g3 g4))⟩

end Go.Proofs.Ytepmacimknblpaa
