/- The walks of num's small functions and of Exp, Sigmoid, Tanh: what each call comes to. -/
import Derived.Test.YtepmacimknblpaaChecked
import Derived.WalkKit
import Derived.WalkSpells
import Derived.WalkLawsBesides
import Derived.Deep.Light
import Derived.Deep.LoopGhost
import Derived.Outline
import Derived.RowKit3
import Derived.Lib.Hide
import Derived.Test.YtepmacimknblpaaNumP
namespace Go.Proofs.Ytepmacimknblpaa
open Go.RowKit Ieee Fl

theorem ret_val {a b : Value} (h : a = b) : Ending.returned a = Ending.returned b := by rw [h]
theorem int_val {k : IntKind} {a b : Int} (h : a = b) : Value.int k a = Value.int k b := by rw [h]
theorem bool_val {a b : Bool} (h : a = b) : Value.bool a = Value.bool b := by rw [h]
theorem float_val {k : FloatKind} {a b : Nat} (h : a = b) : Value.float k a = Value.float k b := by rw [h]

theorem run_frombits32 (n : Int) (w : World) : (callFunc 52 #[.int .u32 n]).run Try.prog w = .ok (.value (.float .f32 n.toNat)) w := by
  rw [run_callFunc_extern (e := Extern.MathFloatBits.float32frombits) Try.func52 (by kernel_rfl) (by kernel_rfl) (by kernel_rfl) (by kernel_rfl)]; rfl
theorem run_bits32 (n : Nat) (w : World) : (callFunc 54 #[.float .f32 n]).run Try.prog w = .ok (.value (.int .u32 n)) w := by
  rw [run_callFunc_extern (e := Extern.MathFloatBits.float32bits) Try.func54 (by kernel_rfl) (by kernel_rfl) (by kernel_rfl) (by kernel_rfl)]; rfl
theorem run_frombits64 (n : Int) (w : World) : (callFunc 58 #[.int .u64 n]).run Try.prog w = .ok (.value (.float .f64 n.toNat)) w := by
  rw [run_callFunc_extern (e := Extern.MathFloatBits.float64frombits) Try.func58 (by kernel_rfl) (by kernel_rfl) (by kernel_rfl) (by kernel_rfl)]; rfl
theorem run_sqrt_fn (x : Nat) (w : World) : (callFunc 55 #[.float .f64 x]).run Try.prog w = .ok (.value (.float .f64 (sqrt64 x w))) (sqrt64W x w) := by
  rw [run_callFunc_extern (e := Extern.MathSqrt.sqrt) Try.func55 (by kernel_rfl) (by kernel_rfl) (by kernel_rfl) (by kernel_rfl), run_sqrt_entry]; rfl
theorem run_floor_fn (x : Nat) (w : World) : (callFunc 56 #[.float .f64 x]).run Try.prog w = .ok (.value (.float .f64 (floor64 floorQ x w))) (floor64W x w) := by
  rw [run_callFunc_extern (e := Extern.MathFloor.toIntegral "math.archFloor" .down) Try.func56 (by kernel_rfl) (by kernel_rfl) (by kernel_rfl) (by kernel_rfl), run_floor_entry]; rfl
theorem run_widen_ (b : Nat) (w : World) : (convert 42 52 (.float .f32 b)).run Try.prog w = .ok (.float .f64 (wide b w)) (wideW b w) :=
  run_widen _ _ b Try.underlying42 Try.underlying52 w
theorem run_narrow_ (b : Nat) (w : World) : (convert 52 42 (.float .f64 b)).run Try.prog w = .ok (.float .f32 (narrow b w)) (narrowW b w) :=
  run_narrow _ _ b Try.underlying52 Try.underlying42 w
theorem unary_neg_float (k : FloatKind) (b : Nat) : Op.unary .neg (.float k b) = pure (.float k (Op.negFloat k b)) := rfl
attribute [go_sem] unary_neg_float run_frombits32 run_bits32 run_frombits64 run_sqrt_fn run_floor_fn run_widen_ run_narrow_ run_add run_sub run_mul run_quo

theorem number_any (x : Int) (w : World) :
    Calls Try.prog 40 #[.int .i64 x] w fun e w' => e = .returned (.float .f32 (x % 4294967296).toNat) ∧ w = w' := by
  go_enter Try.func40, Try.ntmps40
  go_wp2
  go_ret
  go_light
  exact ⟨ret_val (float_val (by simp)), rfl⟩

theorem bitsOf_any (b : Nat) (hb : b < 4294967296) (w : World) :
    Calls Try.prog 38 #[.float .f32 b] w fun e w' => e = .returned (.int .i64 (canon b)) ∧ w = w' := by
  have hs := ord_self okS b
  have H := Lib.hid hs
  clear hs
  go_enter Try.func38, Try.ntmps38
  go_wp2
  · rename_i h
    go_ret
    refine ⟨ret_val (int_val ?_), rfl⟩
    have h2 := H.out
    rw [show FloatKind.f32.format = single from rfl, h2] at h
    unfold canon; rw [if_pos h]
  · rename_i h
    go_ret
    refine ⟨ret_val (int_val ?_), rfl⟩
    have h2 := H.out
    rw [show FloatKind.f32.format = single from rfl, h2] at h
    unfold canon; rw [h]; simp

theorem whole_any (t : Int) (w : World) :
    Calls Try.prog 25 #[.int .i64 t] w fun e w' => e = .returned (.bool (wholeT t)) ∧ w = w' := by
  go_enter Try.func25, Try.ntmps25
  go_wp2
  all_goals (go_ret; go_light; refine ⟨ret_val (bool_val ?_), rfl⟩; grind [wholeT])

theorem cut_any (t x : Int) (w : World) :
    Calls Try.prog 26 #[.int .i64 t, .int .i64 x] w fun e w' => e = .returned (.int .i64 (cutT t x)) ∧ w = w' := by
  have hw : wrap64 (wrap32 x) = wrap32 x := by unfold wrap64 wrap32; omega
  go_enter Try.func26, Try.ntmps26
  go_wp2
  all_goals (go_ret; go_light; refine ⟨ret_val (int_val ?_), rfl⟩; unfold cutT; simp_all)

theorem flag_any (b : Bool) (w : World) :
    Calls Try.prog 37 #[.bool b] w fun e w' => e = .returned (.int .i64 (flg b)) ∧ w = w' := by
  cases b <;> (go_enter Try.func37, Try.ntmps37; go_wp2; go_ret; exact ⟨rfl, rfl⟩)

theorem sqrt_any (x : Nat) (w : World) :
    Calls Try.prog 43 #[.float .f64 x] w fun e w' => e = .returned (.float .f64 (sqrt64 x w)) ∧ w' = sqrt64W x w := by
  go_enter Try.func43, Try.ntmps43
  go_wp2
  go_ret
  exact ⟨rfl, rfl⟩

theorem floor_any (x : Nat) (w : World) :
    Calls Try.prog 44 #[.float .f64 x] w fun e w' => e = .returned (.float .f64 (floor64 floorQ x w)) ∧ w' = floor64W x w := by
  go_enter Try.func44, Try.ntmps44
  go_wp2
  go_ret
  exact ⟨rfl, rfl⟩

end Go.Proofs.Ytepmacimknblpaa
