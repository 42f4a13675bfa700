/- The walk of num's Exp: what the call comes to is 'expN'. -/
import Derived.Test.YtepmacimknblpaaNumW
namespace Go.Proofs.Ytepmacimknblpaa
open Go.RowKit Ieee Fl

theorem ar_some {op : BinOp} {k : FloatKind} {x y r : Nat} (h : floatBits op k x y = some r) : (∀ w, ar op k x y w = r) ∧ (∀ w, arW op k x y w = w) :=
  ⟨fun w => by unfold ar; rw [h]; rfl, fun w => by unfold arW; rw [h]; rfl⟩

/-- Which small whole number a float is. -/
def fidx (v : Value) : Nat := match v with | .float _ b => ((List.range 14).find? fun n => fi n == b).getD 0 | _ => 0
theorem fidx_fi : ∀ n, n ≤ 13 → fidx (.float .f64 (fi n)) = n := by
  have h : ∀ n, n < 14 → ((List.range 14).find? fun m => fi m == fi n).getD 0 = n := by decide +kernel
  intro n hn
  exact h n (by omega)
theorem fi13 : fi 13 = 4623507967449235456 := by decide +kernel
theorem fi0 : fi 0 = 0 := by decide +kernel
theorem fi_down : ∀ n, n < 13 → double.sub (fi (n + 1)) 4607182418800017408 = some (fi n) := by decide +kernel
theorem fi_order1 : double.order (fi 1) 4607182418800017408 = some .eq := by decide +kernel
theorem fi_order2 : ∀ n, n < 12 → double.order (fi (n + 2)) 4607182418800017408 = some .gt := by decide +kernel

attribute [local irreducible] fi

theorem conv_exK {v : Nat} (H : Head (exY v) (exT1 v) (exT2 v) (exK v) (exM v) (exR v) (exN v)) : floatToIntVal .f64 (exK v) .i64 = some (exN v) := by
  have hU := U_pos
  have e : (FloatKind.f64.decode (exK v)).toInt .zero = some (exN v) := by
    show (double.read (exK v)).toInt .zero = _
    rw [dtoInt H.fink, H.hK, Int.mul_tdiv_cancel _ (by omega)]
  have k1 := H.least
  have k2 := H.most
  unfold floatToIntVal
  rw [e]
  have h1 : IntKind.i64.min = -9223372036854775808 := by decide
  have h2 : IntKind.i64.max = 9223372036854775807 := by decide
  simp only [h1, h2]
  rw [if_pos (by omega)]

set_option maxHeartbeats 400000 in
theorem exp_nan (v : Nat) (hn : isNaN single v = true) (w : World) :
    Calls Try.prog 45 #[.float .f32 v] w fun e w' => e = .returned (.float .f32 (expN v)) ∧ w = w' := by
  have hs : (FloatKind.f32.format.order v v != some .eq) = true := by rw [show FloatKind.f32.format = single from rfl, ord_self okS, hn]
  rw [expN_nan hn]
  clear hn
  go_enter Try.func45, Try.ntmps45
  go_wp2
  go_ret
  exact ⟨rfl, rfl⟩

set_option maxHeartbeats 400000 in
theorem exp_high (v : Nat) (hn : isNaN single v = false) (h : sv single 1118961664 < sv single v) (w : World) :
    Calls Try.prog 45 #[.float .f32 v] w fun e w' => e = .returned (.float .f32 (expN v)) ∧ w = w' := by
  have hs : (FloatKind.f32.format.order v v != some .eq) = false := by rw [show FloatKind.f32.format = single from rfl, ord_self okS, hn]
  have hg : (FloatKind.f32.format.order v 1118961664 == some .gt) = true := by rw [show FloatKind.f32.format = single from rfl, ord_gt okS hn (by decide)]; simpa using h
  have he : expN v = 2139095040 := by unfold expN; rw [hn, if_neg (by decide), if_pos h]
  rw [he]
  clear he h hn
  go_enter Try.func45, Try.ntmps45
  go_wp2_with (go_at_call 40; refine (number_any _ _).mono ?_; rintro e w' ⟨rfl, rfl⟩)
  go_ret
  exact ⟨rfl, rfl⟩

set_option maxHeartbeats 400000 in
theorem exp_low (v : Nat) (hn : isNaN single v = false) (h1 : ¬ sv single 1118961664 < sv single v) (h : sv single v < sv single 3268542464) (w : World) :
    Calls Try.prog 45 #[.float .f32 v] w fun e w' => e = .returned (.float .f32 (expN v)) ∧ w = w' := by
  have hs : (FloatKind.f32.format.order v v != some .eq) = false := by rw [show FloatKind.f32.format = single from rfl, ord_self okS, hn]
  have hg : (FloatKind.f32.format.order v 1118961664 == some .gt) = false := by rw [show FloatKind.f32.format = single from rfl, ord_gt okS hn (by decide)]; simpa using h1
  have hl : (FloatKind.f32.format.order v 3268542464 == some .lt) = true := by rw [show FloatKind.f32.format = single from rfl, ord_lt okS hn (by decide)]; simpa using h
  have he : expN v = 0 := by unfold expN; rw [hn, if_neg (by decide), if_neg h1, if_pos h]
  rw [he]
  clear he h hn h1
  go_enter Try.func45, Try.ntmps45
  go_wp2
  go_ret
  exact ⟨rfl, rfl⟩

set_option maxHeartbeats 400000 in
theorem exp_mid (v : Nat) (hn : isNaN single v = false) (h1 : ¬ sv single 1118961664 < sv single v) (h2 : ¬ sv single v < sv single 3268542464) (w : World) :
    Calls Try.prog 45 #[.float .f32 v] w fun e w' => e = .returned (.float .f32 (expN v)) ∧ w = w' := by
  have hs : (FloatKind.f32.format.order v v != some .eq) = false := by rw [show FloatKind.f32.format = single from rfl, ord_self okS, hn]
  have hg : (FloatKind.f32.format.order v 1118961664 == some .gt) = false := by rw [show FloatKind.f32.format = single from rfl, ord_gt okS hn (by decide)]; simpa using h1
  have hl : (FloatKind.f32.format.order v 3268542464 == some .lt) = false := by rw [show FloatKind.f32.format = single from rfl, ord_lt okS hn (by decide)]; simpa using h2
  obtain ⟨hf, _, _, H⟩ := head_ex hn h1 h2
  have tl := tail_ex hn h1 h2
  have w1 : ∀ w, wide v w = exY v := fun w => (wide_val w hn).1
  have w2 : ∀ w, wideW v w = w := fun w => (wide_val w hn).2
  obtain ⟨a1, a1'⟩ := ar_some (op := .mul) (k := .f64) (show floatBits .mul .f64 (exY v) 4609176140021203710 = some (exT1 v) from H.h1)
  obtain ⟨a2, a2'⟩ := ar_some (op := .add) (k := .f64) (show floatBits .add .f64 (exT1 v) 4602678819172646912 = some (exT2 v) from H.h2)
  have hT2 := nan_of_fin H.fin2
  have a3 : ∀ w, floor64 floorQ (exT2 v) w = exK v := fun w => (floor_val w hT2).1
  have a3' : ∀ w, floor64W (exT2 v) w = w := fun w => (floor_val w hT2).2
  obtain ⟨a4, a4'⟩ := ar_some (op := .mul) (k := .f64) (show floatBits .mul .f64 (exK v) 4604418534313441775 = some (exM v) from H.h3)
  obtain ⟨a5, a5'⟩ := ar_some (op := .sub) (k := .f64) (show floatBits .sub .f64 (exY v) (exM v) = some (exR v) from H.h4)
  go_enter Try.func45, Try.ntmps45
  go_wp2_with (go_at_call 44; refine (floor_any _ _).mono ?_; rintro e w' ⟨rfl, rfl⟩)
  go_loop [6, 7] (fun p i => ∃ j n : Nat, Hid (j + n = 13) ∧ p = .float .f64 (exP (exR v) j) ∧ i = .float .f64 (fi n)) (fun _ i => fidx i)
  case atStart => exact ⟨0, 13, Lib.hid rfl, rfl, by rw [fi13]⟩
  case round =>
    obtain ⟨j, n, hj, rfl, rfl⟩ := hrel
    cases n with
    | zero =>
      have ej : j = 13 := by have := hj.out; omega
      subst ej
      have ho : FloatKind.f64.format.order (fi 0) 4607182418800017408 = some .lt := by rw [fi0]; decide +kernel
      have k1 := tl.k1
      have k2 := tl.k2
      have hci := fun w => run_convert_float_int (P := Try.prog) w 52 3 .f64 .i64 (exK v) (exN v) (by rw [Try.underlying52]; rfl) Try.underlying3 (conv_exK H)
      have em : ((exN v + 1023) * 4503599627370496).toNat = (exN v + 1023).toNat * 4503599627370496 := by omega
      have hmul : floatBits .mul .f64 (exP (exR v) 13) ((exN v + 1023) * 4503599627370496).toNat = some (exC v) := by rw [em]; exact tl.mul
      obtain ⟨b1, b1'⟩ := ar_some hmul
      clear em hmul
      obtain ⟨fc, _, _⟩ := fin_exC tl
      have nc := nan_of_fin fc
      have hord := order_eq (f := double) okD nc (show isNaN double 5183643170835005440 = false by decide)
      have hend : expN v = if sv double 5183643170835005440 ≤ sv double (exC v) then 2139095040 else single.write (double.read (exC v)) := by
        unfold expN; rw [hn, if_neg (by decide), if_neg (Int.not_lt.2 h1), if_neg (Int.not_lt.2 h2)]
      rcases (by omega : sv double (exC v) < sv double 5183643170835005440 ∨ sv double (exC v) = sv double 5183643170835005440 ∨ sv double 5183643170835005440 < sv double (exC v)) with g | g | g
      · have ho2 : FloatKind.f64.format.order (exC v) 5183643170835005440 = some .lt := by rw [show FloatKind.f64.format = double from rfl, hord, Int.compare_eq_lt.2 g]
        have hbk := back_exC tl (by omega)
        have n1 : ∀ w, narrow (exC v) w = single.write (double.read (exC v)) := fun w => (narrow_val w hbk).1
        have n2 : ∀ w, narrowW (exC v) w = w := fun w => (narrow_val w hbk).2
        rw [if_neg (by omega)] at hend
        have HE := Lib.hid hend
        clear hend hord g hbk fc nc
        go_wp2
        go_ret
        exact ⟨ret_val (float_val HE.out.symm), rfl⟩
      · have ho2 : FloatKind.f64.format.order (exC v) 5183643170835005440 = some .eq := by rw [show FloatKind.f64.format = double from rfl, hord, Int.compare_eq_eq.2 g]
        rw [if_pos (by omega)] at hend
        have HE := Lib.hid hend
        clear hend hord g fc nc
        go_wp2_with (go_at_call 40; refine (number_any _ _).mono ?_; rintro e w' ⟨rfl, rfl⟩)
        go_ret
        exact ⟨ret_val (float_val HE.out.symm), rfl⟩
      · have ho2 : FloatKind.f64.format.order (exC v) 5183643170835005440 = some .gt := by rw [show FloatKind.f64.format = double from rfl, hord, Int.compare_eq_gt.2 g]
        rw [if_pos (by omega)] at hend
        have HE := Lib.hid hend
        clear hend hord g fc nc
        go_wp2_with (go_at_call 40; refine (number_any _ _).mono ?_; rintro e w' ⟨rfl, rfl⟩)
        go_ret
        exact ⟨ret_val (float_val HE.out.symm), rfl⟩
    | succ m =>
      obtain ⟨q, d, st⟩ := steps_of H.small j (by have := hj.out; omega)
      rw [show 13 - j = m + 1 by have := hj.out; omega] at st
      obtain ⟨b1, b1'⟩ := ar_some (op := .mul) (k := .f64) (show floatBits .mul .f64 (exP (exR v) j) (exR v) = some q from st.h1)
      obtain ⟨b2, b2'⟩ := ar_some (op := .quo) (k := .f64) (show floatBits .quo .f64 q (fi (m + 1)) = some d from st.h2)
      obtain ⟨b3, b3'⟩ := ar_some (op := .add) (k := .f64) (show floatBits .add .f64 4607182418800017408 d = some (exP (exR v) (j + 1)) from st.h3)
      obtain ⟨b4, b4'⟩ := ar_some (op := .sub) (k := .f64) (show floatBits .sub .f64 (fi (m + 1)) 4607182418800017408 = some (fi m) from fi_down m (by have := hj.out; omega))
      have F1 := Lib.hid (fidx_fi (m + 1) (by have := hj.out; omega))
      have F2 := Lib.hid (fidx_fi m (by have := hj.out; omega))
      have ho : FloatKind.f64.format.order (fi (m + 1)) 4607182418800017408 = some .eq ∨ FloatKind.f64.format.order (fi (m + 1)) 4607182418800017408 = some .gt := by
        rcases (match m with | 0 => Or.inl rfl | k + 1 => Or.inr ⟨k, rfl⟩ : m = 0 ∨ ∃ k, m = k + 1) with h | ⟨k, h⟩
        · left; rw [h]; exact fi_order1
        · right; rw [h]; exact fi_order2 k (by have := hj.out; omega)
      clear st
      rcases ho with ho | ho
      all_goals
        go_wp2
        go_round
        case rel => exact ⟨j + 1, m, Lib.hid (by have := hj.out; omega), rfl, rfl⟩
        case measure =>
          have f1 := F1.out
          have f2 := F2.out
          simp only [f1, f2]
          omega

/-- EXP: whatever the word. -/
theorem exp_any (v : Nat) (w : World) :
    Calls Try.prog 45 #[.float .f32 v] w fun e w' => e = .returned (.float .f32 (expN v)) ∧ w = w' := by
  cases hn : isNaN single v
  · by_cases h1 : sv single 1118961664 < sv single v
    · exact exp_high v hn h1 w
    · by_cases h2 : sv single v < sv single 3268542464
      · exact exp_low v hn h1 h2 w
      · exact exp_mid v hn h1 h2 w
  · exact exp_nan v hn w

/-! ### Sigmoid -/

def sigA (v : Nat) (w : World) : Nat := ar .add .f32 1065353216 (expN (Op.negFloat .f32 v)) w
def sigAW (v : Nat) (w : World) : World := arW .add .f32 1065353216 (expN (Op.negFloat .f32 v)) w
def sigB (v : Nat) (w : World) : Nat := ar .quo .f32 1065353216 (sigA v w) (sigAW v w)
def sigW (v : Nat) (w : World) : World := arW .quo .f32 1065353216 (sigA v w) (sigAW v w)

theorem canon_sig (v : Nat) (w : World) : canon (sigB v w) = sigS v := by
  unfold sigB sigS
  rw [canon_ar']
  cases h : floatBits .add .f32 1065353216 (expN (Op.negFloat .f32 v)) with
  | none =>
    have h1 : isNaN single (sigA v w) = true := isNaN_ar_none (k := .f32) h
    rw [floatBits_nan (k := .f32) (Or.inr h1)]; rfl
  | some s =>
    have h1 : sigA v w = s := (ar_some h).1 w
    rw [h1]

theorem sigmoid_any (v : Nat) (w : World) :
    Calls Try.prog 46 #[.float .f32 v] w fun e w' => e = .returned (.float .f32 (sigB v w)) ∧ w' = sigW v w := by
  go_enter Try.func46, Try.ntmps46
  go_wp2_with (go_at_call 45; refine (exp_any _ _).mono ?_; rintro e w' ⟨rfl, rfl⟩)
  go_ret
  exact ⟨rfl, rfl⟩

/-! ### Tanh -/

def tanB (v : Nat) : Nat := if isNaN single v then v else tanT (v % 2147483648) + v / 2147483648 * 2147483648

theorem canon_of {b : Nat} (h : isNaN single b = false) : canon b = (b : Int) := by unfold canon; rw [h]; rfl

theorem tanh_nan (v : Nat) (hn : isNaN single v = true) (w : World) :
    Calls Try.prog 47 #[.float .f32 v] w fun e w' => e = .returned (.float .f32 (tanB v)) ∧ w = w' := by
  have hs : (FloatKind.f32.format.order v v != some .eq) = true := by rw [show FloatKind.f32.format = single from rfl, ord_self okS, hn]
  have he : tanB v = v := by unfold tanB; rw [if_pos hn]
  rw [he]
  clear he hn
  go_enter Try.func47, Try.ntmps47
  go_wp2
  go_ret
  exact ⟨rfl, rfl⟩

theorem top_num {q : Nat} (h : q < 2147483648) : (((q + 2147483648 : Nat) : Int) % 4294967296).toNat = q + 2147483648 := by omega
theorem low_num {a : Nat} (h : a < 2147483648) : ((a : Int) % 4294967296).toNat = a := by omega
theorem lt_num {q : Nat} (h : q < 2147483648) : q < 4294967296 := by omega

set_option maxHeartbeats 400000 in
/-- At most 10: the walk, over plain facts. -/
theorem tanh_walk (v a u up dn q : Nat) (s : Bool) (z : Int) (hv : v < 4294967296)
    (hs : (FloatKind.f32.format.order v v != some .eq) = false) (hc : canon v = (v : Int))
    (hA : bits .andNot .i64 (v : Int) 2147483648 = (a : Int)) (hS : bits .and .i64 (v : Int) 2147483648 = if s then 2147483648 else 0) (hm : ((a : Int) % 4294967296).toNat = a)
    (ho : FloatKind.f32.format.order a 1092616192 = some .lt ∨ FloatKind.f32.format.order a 1092616192 = some .eq)
    (h1 : floatBits .add .f32 a a = some u) (h2 : floatBits .sub .f32 (expN u) 1065353216 = some up) (h3 : floatBits .add .f32 (expN u) 1065353216 = some dn) (h4 : floatBits .quo .f32 up dn = some q)
    (qc : canon q = (q : Int)) (ql : q < 4294967296) (qo : bits .or .i64 (q : Int) 2147483648 = z) (qm : (z % 4294967296).toNat = q + 2147483648) (w : World) :
    Calls Try.prog 47 #[.float .f32 v] w fun e w' => e = .returned (.float .f32 (if s then q + 2147483648 else q)) ∧ w = w' := by
  obtain ⟨b1, b1'⟩ := ar_some h1
  obtain ⟨b2, b2'⟩ := ar_some h2
  obtain ⟨b3, b3'⟩ := ar_some h3
  obtain ⟨b4, b4'⟩ := ar_some h4
  clear h1 h2 h3 h4
  cases s <;> simp only [if_true, if_false, Bool.false_eq_true] at hS ⊢ <;> rcases ho with ho | ho
  all_goals
    go_enter Try.func47, Try.ntmps47
    go_wp2_with (first | (go_at_call 38; refine (bitsOf_any _ (by assumption) _).mono ?_; rintro e w' ⟨rfl, rfl⟩) | (go_at_call 40; refine (number_any _ _).mono ?_; rintro e w' ⟨rfl, rfl⟩) | (go_at_call 45; refine (exp_any _ _).mono ?_; rintro e w' ⟨rfl, rfl⟩))
    go_ret
    exact ⟨rfl, rfl⟩

set_option maxHeartbeats 400000 in
/-- Above 10. -/
theorem tanh_walk1 (v a : Nat) (s : Bool) (hv : v < 4294967296)
    (hs : (FloatKind.f32.format.order v v != some .eq) = false) (hc : canon v = (v : Int))
    (hA : bits .andNot .i64 (v : Int) 2147483648 = (a : Int)) (hS : bits .and .i64 (v : Int) 2147483648 = if s then 2147483648 else 0) (hm : ((a : Int) % 4294967296).toNat = a)
    (ho : FloatKind.f32.format.order a 1092616192 = some .gt) (w : World) :
    Calls Try.prog 47 #[.float .f32 v] w fun e w' => e = .returned (.float .f32 (if s then 3212836864 else 1065353216)) ∧ w = w' := by
  have c1 : canon 1065353216 = 1065353216 := by decide
  have q1 : bits .or .i64 1065353216 2147483648 = 3212836864 := by decide
  have l1 : 1065353216 < 4294967296 := by decide
  cases s <;> simp only [if_true, if_false, Bool.false_eq_true] at hS ⊢
  all_goals
    go_enter Try.func47, Try.ntmps47
    go_wp2_with (first | (go_at_call 38; refine (bitsOf_any _ (by first | assumption | decide) _).mono ?_; rintro e w' ⟨rfl, rfl⟩) | (go_at_call 40; refine (number_any _ _).mono ?_; rintro e w' ⟨rfl, rfl⟩))
    go_ret
    exact ⟨rfl, rfl⟩

attribute [local irreducible] sv mg isNaN

theorem isNaN_low {v : Nat} (hn : isNaN single v = false) : isNaN single (v % 2147483648) = false := by
  rw [isNaN_mod] at hn; exact hn

theorem tanh_any (v : Nat) (hv : v < 4294967296) (w : World) :
    Calls Try.prog 47 #[.float .f32 v] w fun e w' => e = .returned (.float .f32 (tanB v)) ∧ w = w' := by
  cases hn : isNaN single v
  · have hs : (FloatKind.f32.format.order v v != some .eq) = false := by rw [show FloatKind.f32.format = single from rfl, ord_self okS, hn]
    have hc : canon v = (v : Int) := canon_of hn
    have ha : v % 2147483648 < 2147483648 := Nat.mod_lt _ (by decide)
    have hA := bits_andNot_top hv
    have hS := bits_and_top hv
    have hT : tanB v = tanT (v % 2147483648) + v / 2147483648 * 2147483648 := by unfold tanB; rw [hn]; rfl
    have na := isNaN_low hn
    have hq : v / 2147483648 = 0 ∨ v / 2147483648 = 1 := div_top hv
    obtain ⟨s, hs1, hs2⟩ : ∃ s : Bool, (((v / 2147483648 * 2147483648 : Nat) : Int) = if s then 2147483648 else 0) ∧ ∀ q, q + v / 2147483648 * 2147483648 = if s then q + 2147483648 else q := by
      rcases hq with h | h
      · exact ⟨false, by rw [h]; rfl, fun q => by rw [h]; simp⟩
      · exact ⟨true, by rw [h]; rfl, fun q => by rw [h]; simp⟩
    rw [hs1] at hS
    rw [hT, hs2]
    clear hT hs1 hs2 hq
    generalize v % 2147483648 = a at *
    have hord := order_eq (f := single) okS na (show isNaN single 1092616192 = false from notNaN_ten)
    by_cases h10 : sv single a ≤ sv single 1092616192
    · have tn := tan_of ha h10
      have eT : tanT a = tanQ a := if_pos h10
      have ho : FloatKind.f32.format.order a 1092616192 = some .lt ∨ FloatKind.f32.format.order a 1092616192 = some .eq := by
        rcases Int.lt_or_eq_of_le h10 with h | h
        · left; rw [show FloatKind.f32.format = single from rfl, hord, Int.compare_eq_lt.2 h]
        · right; rw [show FloatKind.f32.format = single from rfl, hord, Int.compare_eq_eq.2 h]
      rw [eT]
      exact tanh_walk v a _ _ _ (tanQ a) s _ hv hs hc hA hS (low_num ha) ho tn.h1 tn.h2 tn.h3 tn.h4 (canon_of tn.qn) (lt_num tn.ql) (bits_or_top tn.ql) (top_num tn.ql) w
    · have eT : tanT a = 1065353216 := if_neg h10
      have ho : FloatKind.f32.format.order a 1092616192 = some .gt := by
        rw [show FloatKind.f32.format = single from rfl, hord, Int.compare_eq_gt.2 (Int.not_le.1 h10)]
      rw [eT]
      exact tanh_walk1 v a s hv hs hc hA hS (low_num ha) ho w
  · exact tanh_nan v hn w

end Go.Proofs.Ytepmacimknblpaa
