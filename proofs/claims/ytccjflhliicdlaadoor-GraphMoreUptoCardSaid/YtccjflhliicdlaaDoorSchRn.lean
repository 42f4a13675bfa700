/- The reference's Check of an element (mandrelref02). -/
import Derived.Test.YtccjflhliicdlaaDoorSchN
import Derived.Test.YtccjflhliicdlaaDoorFloatA
import Derived.Laws.FloatArith
import Derived.Laws.Externs
import Derived.Laws.BitsAllLaws
import Derived.Laws.BitsLemmas
set_option linter.unusedVariables false
namespace Go.Proofs.YtccjflhliicdlaaDoor
namespace Fl
open Ieee Go.RowKit

theorem okSn : single.binade ≤ single.infRung := by decide
theorem nan_self (a : Nat) : (single.order a a != some .eq) = isNaN single a := by
  cases h : isNaN single a
  · rw [order_eq okSn h h]; simp
  · rw [order_nan_left okSn h]; rfl
theorem nan_refl (a : Nat) : (single.order a a = some .eq) = (isNaN single a = false) := by
  have h := nan_self a
  cases g : isNaN single a <;> rw [g] at h <;> simpa using h
theorem and_infN {x : Nat} : (x &&& 2139095040 = 2139095040) ↔ x / 8388608 % 256 = 255 := by
  have e1 : (x &&& 2139095040) % 2 ^ 23 = 0 := by rw [Nat.and_mod_two_pow]; simp
  have e2 : (x &&& 2139095040) / 2 ^ 23 = x / 2 ^ 23 % 256 := by
    rw [Nat.and_div_two_pow]
    exact Nat.and_two_pow_sub_one_eq_mod _ 8
  have h2 := Nat.div_add_mod (x &&& 2139095040) (2 ^ 23)
  rw [e1, e2] at h2
  constructor
  · intro h; omega
  · intro h; rw [show (8388608 : Nat) = 2 ^ 23 from rfl] at h; rw [h] at h2; omega
theorem nan_bits {x : Nat} : isNaN single x = (decide (x / 8388608 % 256 = 255) && decide (x % 8388608 ≠ 0)) := by
  unfold isNaN
  rw [show single.infRung = 2139095040 by decide, show single.signWeight = 2147483648 by decide, Bool.eq_iff_iff]
  simp only [decide_eq_true_eq, Bool.and_eq_true]
  omega
theorem wraps_i64n (n : Int) (h₀ : 0 ≤ n) (h₁ : n < 2 ^ 63) : IntKind.i64.wrap n = n := by rw [IntKind.wrap_i64]; omega
theorem bits_andN {a b : Nat} (ha : a < 2 ^ 63) (hb : b < 2 ^ 63) : bits .and .i64 (a : Int) (b : Int) = ((a &&& b : Nat) : Int) :=
  (bits_nat .i64 63 (by decide) wraps_i64n a b ha hb).1

/-- What num.Check's test of Float's bits comes to. -/
theorem okW_nan (x : Int) : okW x = (decide (0 ≤ x) && decide (x < 4294967296) && (!isNaN single (x % 4294967296).toNat || x == 2143289344)) := by
  unfold okW
  by_cases h : x / 4294967296 = 0
  · obtain ⟨n, rfl⟩ := Int.eq_ofNat_of_zero_le (show 0 ≤ x by omega)
    have hn : n < 4294967296 := by omega
    have e1 : bits .and .i64 (n : Int) 2139095040 = ((n &&& 2139095040 : Nat) : Int) := bits_andN (b := 2139095040) (by omega) (by decide)
    have e2 : bits .and .i64 (n : Int) 8388607 = ((n &&& 8388607 : Nat) : Int) := bits_andN (b := 8388607) (by omega) (by decide)
    rw [e1, e2, show n &&& 8388607 = n % 8388608 from Nat.and_two_pow_sub_one_eq_mod _ 23]
    have e3 : ((n : Int) % 4294967296).toNat = n := by omega
    rw [e3, nan_bits]
    have h3 := and_infN (x := n)
    have h4 : (((n &&& 2139095040 : Nat) : Int) = 2139095040) ↔ n / 8388608 % 256 = 255 := by rw [← h3]; omega
    have h5 : (((n % 8388608 : Nat) : Int) = 0) ↔ n % 8388608 = 0 := by omega
    have h6 : (0 : Int) ≤ (n : Int) := by omega
    have h7 : (n : Int) < 4294967296 := by omega
    rw [Bool.eq_iff_iff]
    simp only [Bool.and_eq_true, Bool.or_eq_true, Bool.not_eq_true', decide_eq_true_eq, Bool.and_eq_false_iff, decide_eq_false_iff_not, h4, h5, h, h6, h7, beq_iff_eq, Bool.not_eq_false', true_and, and_true, ne_eq]
    constructor
    · intro g; exact g.imp (fun g => g.imp id (fun g => by simpa using g)) id
    · intro g; exact g.imp (fun g => g.imp id (fun g => by simpa using g)) id
  · have h1 : ¬ (0 ≤ x ∧ x < 4294967296) := by omega
    rcases (by omega : ¬ 0 ≤ x ∨ ¬ x < 4294967296) with g | g <;> simp [g, h]

theorem fltval {k : FloatKind} {a b : Nat} (h : a = b) : Value.float k a = Value.float k b := by rw [h]

theorem run_from32 (n : Int) (w : World) : (callFunc 67 #[.int .u32 n]).run Tryd.prog w = .ok (.value (.float .f32 n.toNat)) w := by
  rw [run_callFunc_extern (e := Extern.MathFloatBits.float32frombits) Tryd.func67 (by kernel_rfl) (by kernel_rfl) (by kernel_rfl) (by kernel_rfl)]; rfl
attribute [local go_sem] run_from32

theorem rf_one (x : Int) (w : World) :
    Calls Tryd.prog 52 #[.int .i64 x] w fun e w' => e = .returned (.float .f32 (x % 4294967296).toNat) ∧ w = w' := by
  go_enter Tryd.func52, Tryd.ntmps52
  go_wp2
  go_ret
  go_light
  exact ⟨ret_val (fltval (by simp)), rfl⟩

attribute [local irreducible] isNaN sv mg okW

set_option maxHeartbeats 400000 in
/-- THE REFERENCE's CHECK. -/
theorem rchk_any (t x : Int) (w : World) :
    Calls Tryd.prog 40 #[.int .i64 t, .int .i64 x] w fun e w' => e = .returned (.bool (chk t x)) ∧ w = w' := by
  have HR := Lib.hid (okW_nan x)
  have HN := Lib.hid fun n => show (FloatKind.f32.format.order n n = some .eq) = (isNaN single n = false) from nan_refl n
  go_enter Tryd.func40, Tryd.ntmps40
  go_wp2_with (go_at_call 52; refine (rf_one _ _).mono ?_; rintro e w' ⟨rfl, rfl⟩)
  all_goals (go_ret; go_light; refine ⟨ret_val (bool_val ?_), rfl⟩)
  all_goals (have hr := HR.out; have hn := HN.out; clear HR HN; (try simp only [hn, Bool.beq_eq_decide_eq] at *); unfold chk; grind)

end Fl
end Go.Proofs.YtccjflhliicdlaaDoor
