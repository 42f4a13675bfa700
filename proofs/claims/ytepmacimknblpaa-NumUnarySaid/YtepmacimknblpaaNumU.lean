/- The walks of num.Check, Unary, Binary, Cast: each comes to its plain function. -/
import Derived.Test.YtepmacimknblpaaNumE
namespace Go.Proofs.Ytepmacimknblpaa
open Go.RowKit Ieee Fl

theorem okF_raw (x : Int) : okF x = (decide (x / 4294967296 = 0) && (!(decide (bits .and .i64 x 2139095040 = 2139095040) && !decide (bits .and .i64 x 8388607 = 0)) || decide (x = 2143289344))) := by
  by_cases h : x / 4294967296 = 0
  · obtain ⟨n, rfl⟩ := Int.eq_ofNat_of_zero_le (show 0 ≤ x by omega)
    have hn : n < 4294967296 := by omega
    have e1 : bits .and .i64 (n : Int) 2139095040 = ((n &&& 2139095040 : Nat) : Int) := bits_and_nat (b := 2139095040) (by omega) (by decide)
    have e2 : bits .and .i64 (n : Int) 8388607 = ((n &&& 8388607 : Nat) : Int) := bits_and_nat (b := 8388607) (by omega) (by decide)
    rw [e1, e2, and_frac]
    unfold okF isN
    rw [Int.toNat_natCast, isNaN_bits]
    have h3 := and_inf (x := n)
    have h4 : (((n &&& 2139095040 : Nat) : Int) = 2139095040) ↔ n / 8388608 % 256 = 255 := by rw [← h3]; omega
    have h5 : (((n % 8388608 : Nat) : Int) = 0) ↔ n % 8388608 = 0 := by omega
    rw [Bool.eq_iff_iff]
    simp only [Bool.and_eq_true, Bool.or_eq_true, Bool.not_eq_true', decide_eq_true_eq, Bool.and_eq_false_iff, decide_eq_false_iff_not, h4, h5, h, beq_iff_eq, Bool.not_eq_false', true_and, ne_eq]
    constructor
    · rintro ⟨_, g⟩; exact g.imp (fun g => g.imp id (fun g => by simpa using g)) id
    · intro g
      refine ⟨⟨by omega, by omega⟩, g.imp (fun g => g.imp id (fun g => by simpa using g)) id⟩
  · have h1 : ¬ (0 ≤ x ∧ x < 4294967296) := by omega
    unfold okF
    simp [h, h1]

set_option maxHeartbeats 400000 in
theorem check_any (t x : Int) (h0 : -9223372036854775808 ≤ x) (h1 : x ≤ 9223372036854775807) (w : World) :
    Calls Try.prog 16 #[.int .i64 t, .int .i64 x] w fun e w' => e = .returned (.bool (chk t x)) ∧ w = w' := by
  have hr := okF_raw x
  have HR := Lib.hid hr
  clear hr
  go_enter Try.func16, Try.ntmps16
  go_wp2
  all_goals (go_ret; go_light; refine ⟨ret_val (bool_val ?_), rfl⟩)
  all_goals (have hr := HR.out; clear HR; grind [chk, wrap64, wrap32])

theorem ret2_val {a b c d : Value} (h : a = c) (g : b = d) : Ending.returned (.tuple #[a, b]) = Ending.returned (.tuple #[c, d]) := by rw [h, g]

theorem grown_orDrew {w w' : World} (h : Grown w w') (o : Option Nat) : Grown w (orDrew o w') := by
  unfold orDrew; cases o
  · exact h.drew
  · exact h
theorem grown_arW {w w' : World} (h : Grown w w') (op : BinOp) (k : FloatKind) (x y : Nat) : Grown w (arW op k x y w') := grown_orDrew h _
theorem grown_wideW {w w' : World} (h : Grown w w') (x : Nat) : Grown w (wideW x w') := grown_orDrew h _
theorem grown_sqrtW {w w' : World} (h : Grown w w') (x : Nat) : Grown w (sqrt64W x w') := grown_orDrew h _
theorem grown_narrowW {w w' : World} (h : Grown w w') (x : Nat) : Grown w (narrowW x w') := by
  unfold narrowW; split
  · exact h.drew
  · exact h
theorem grown_floorW {w w' : World} (h : Grown w w') (x : Nat) : Grown w (floor64W x w') := by
  unfold floor64W; split
  · split
    · exact h
    · exact h.drew
  · exact h
theorem grown_sigW {w w' : World} (h : Grown w w') (x : Nat) : Grown w (sigW x w') := grown_arW (grown_arW h _ _ _ _) _ _ _ _

theorem sigB_lt (v : Nat) (w : World) : sigB v w < 4294967296 := ar_lt _ _ _ _
theorem tanT_lt {a : Nat} (h : a < 2147483648) : tanT a < 2147483648 := by
  unfold tanT; split
  · rename_i h1; exact (tan_of h h1).ql
  · decide
theorem tanB_lt {v : Nat} (h : v < 4294967296) : tanB v < 4294967296 := by
  unfold tanB; split
  · exact h
  · have := tanT_lt (a := v % 2147483648) (Nat.mod_lt _ (by decide)); omega

theorem tanT_notNaN {a : Nat} (h : a < 2147483648) : isNaN single (tanT a) = false := by
  unfold tanT; split
  · rename_i h1; exact (tan_of h h1).qn
  · decide

theorem canon_tan (v : Nat) : canon (tanB v) = tanhS v := by
  unfold tanB tanhS
  cases hn : isNaN single v
  · have h1 := tanT_notNaN (a := v % 2147483648) (Nat.mod_lt _ (by decide))
    have h2 := tanT_lt (a := v % 2147483648) (Nat.mod_lt _ (by decide))
    have h3 : (tanT (v % 2147483648) + v / 2147483648 * 2147483648) % 2147483648 = tanT (v % 2147483648) := by omega
    have h4 : isNaN single (tanT (v % 2147483648) + v / 2147483648 * 2147483648) = false := by rw [isNaN_mod, h3]; exact h1
    simp [canon_of h4]
  · simp [canon, hn]

/-- An element of Float: its word. -/
theorem okF_word {x : Int} (h : okF x = true) : ∃ n : Nat, x = (n : Int) ∧ n < 4294967296 ∧ (isNaN single n = true → n = 2143289344) := by
  unfold okF isN at h
  simp only [Bool.and_eq_true, decide_eq_true_eq, Bool.or_eq_true, Bool.not_eq_true', beq_iff_eq] at h
  obtain ⟨⟨h1, h2⟩, h3⟩ := h
  obtain ⟨n, rfl⟩ := Int.eq_ofNat_of_zero_le h1
  refine ⟨n, rfl, by omega, fun h4 => ?_⟩
  rw [Int.toNat_natCast, h4] at h3
  rcases h3 with h3 | h3
  · cases h3
  · omega

/-- What an optional element comes to as two results. -/
def opt0 (o : Option Int) : Int := o.getD 0
def optS (o : Option Int) : Bool := o.isSome

/-- The two tests against zero. -/
theorem ord_zero_lt (n : Nat) : (FloatKind.f32.format.order n 0 == some .lt) = (!isNaN single n && decide (sv single n < 0)) := by
  cases h : isNaN single n
  · rw [show FloatKind.f32.format = single from rfl, ord_lt okS h (by decide), show sv single 0 = 0 from rfl]; simp
  · rw [show FloatKind.f32.format = single from rfl, ord_nan okS (Or.inl h)]; rfl
theorem ord_zero_eq (n : Nat) : (FloatKind.f32.format.order n 0 == some .eq) = (!isNaN single n && decide (sv single n = 0)) := by
  cases h : isNaN single n
  · rw [show FloatKind.f32.format = single from rfl, ord_eq okS h (by decide), show sv single 0 = 0 from rfl]; simp
  · rw [show FloatKind.f32.format = single from rfl, ord_nan okS (Or.inl h)]; rfl
theorem ord_refl (n : Nat) : (FloatKind.f32.format.order n n != some .eq) = isNaN single n := ord_self okS n

set_option maxHeartbeats 1000000 in
theorem ofFloat_any (op : ByteArray) (n : Nat) (hn : n < 4294967296) (w : World) :
    Calls Try.prog 27 #[.string op, .int .i64 (n : Int)] w fun e w' => e = .returned (.tuple #[.int .i64 (opt0 (unF op.toList n)), .bool (optS (unF op.toList n))]) ∧ Grown w w' := by
  have hm : ((n : Int) % 4294967296).toNat = n := by omega
  have hx := bits_xor_top hn
  have ha := bits_andNot_top hn
  have HX := Lib.hid hx
  have HA := Lib.hid ha
  clear hx ha
  go_enter Try.func27, Try.ntmps27
  go_wp2_with (first | (go_at_call 40; refine (number_any _ _).mono ?_; rintro e w' ⟨rfl, rfl⟩) | (go_at_call 38; refine (bitsOf_any _ (by first | exact narrow_lt _ _ | exact sigB_lt _ _ | exact tanB_lt (by assumption) | exact expN_lt (by assumption)) _).mono ?_; rintro e w' ⟨rfl, rfl⟩) | (go_at_call 43; refine (sqrt_any _ _).mono ?_; rintro e w' ⟨rfl, rfl⟩) | (go_at_call 44; refine (floor_any _ _).mono ?_; rintro e w' ⟨rfl, rfl⟩) | (go_at_call 45; refine (exp_any _ _).mono ?_; rintro e w' ⟨rfl, rfl⟩) | (go_at_call 46; refine (sigmoid_any _ _).mono ?_; rintro e w' ⟨rfl, rfl⟩) | (go_at_call 47; refine (tanh_any _ (by assumption) _).mono ?_; rintro e w' ⟨rfl, rfl⟩))
  all_goals go_ret2
  all_goals go_light
  all_goals
    have hx := HX.out
    have ha := HA.out
    clear HX HA
    generalize op.toList = L at *
    simp only [ord_refl, ord_zero_lt, ord_zero_eq] at *
    refine ⟨ret2_val (int_val ?_) (bool_val ?_), ?_⟩
    · try simp only [canon_sqrt, canon_floor, canon_sig, canon_tan]
      clear hm
      grind [unF, opt0, isN]
    · clear hx ha hm
      grind [unF, optS]
    · repeat (with_reducible first | exact Grown.refl _ | apply grown_narrowW | apply grown_sqrtW | apply grown_floorW | apply grown_wideW | apply grown_sigW)

theorem lo_of {n : Nat} : -9223372036854775808 ≤ (n : Int) := by omega
theorem hi_of {n : Nat} (h : n < 4294967296) : (n : Int) ≤ 9223372036854775807 := by omega
theorem not_bool (x : Int) (h : x = 0 ∨ x = 1) : bits .xor .i64 x 1 = 1 - x := by rcases h with rfl | rfl <;> decide
attribute [local irreducible] chk okF isN unF optS opt0 isNaN sv mg wholeT cutT

set_option maxHeartbeats 1000000 in
theorem unary_float (op : ByteArray) (t : Int) (ht : (t == 1) = true) (h9 : (t == 9) = false) (hw : wholeT t = false) (n : Nat) (hn : n < 4294967296) (hc : chk t n = true) (w : World) :
    Calls Try.prog 14 #[.string op, .int .i64 t, .int .i64 (n : Int)] w fun e w' => e = .returned (.tuple #[.int .i64 (un op.toList t n).1, .int .i64 (un op.toList t n).2]) ∧ Grown w w' := by
  unfold un
  rw [hc, hw]
  have hof := ofFloat_any op n hn
  generalize unF op.toList n = o at *
  have HOF := Lib.hid hof
  clear hof
  generalize cutT t (wrap64 (-(n : Int))) = y
  cases o
  all_goals
    go_enter Try.func14, Try.ntmps14
    go_wp2_with (first | (go_at_call 16; refine (check_any _ _ lo_of (hi_of hn) _).mono ?_; rintro e w' ⟨rfl, rfl⟩) | (go_at_call 25; refine (whole_any _ _).mono ?_; rintro e w' ⟨rfl, rfl⟩) | (go_at_call 27; refine (HOF.out _).mono ?_; simp only [opt0, optS, Option.getD_some, Option.getD_none, Option.isSome_some, Option.isSome_none]; rintro e w1 ⟨rfl, hg⟩))
    all_goals go_ret2
    all_goals go_light
    all_goals
      refine ⟨ret2_val (int_val ?_) (int_val ?_), by first | assumption | exact Grown.refl _⟩
      all_goals
        clear HOF
        grind [unR]

theorem unary_bad (op : ByteArray) (t x : Int) (h0 : -9223372036854775808 ≤ x) (h1 : x ≤ 9223372036854775807) (hc : chk t x = false) (w : World) :
    Calls Try.prog 14 #[.string op, .int .i64 t, .int .i64 x] w fun e w' => e = .returned (.tuple #[.int .i64 (un op.toList t x).1, .int .i64 (un op.toList t x).2]) ∧ Grown w w' := by
  have e : un op.toList t x = (0, 1) := by unfold un; rw [hc]; rfl
  rw [e]
  clear e
  go_enter Try.func14, Try.ntmps14
  go_wp2_with (first | (go_at_call 16; refine (check_any _ _ h0 h1 _).mono ?_; rintro e w' ⟨rfl, rfl⟩))
  go_ret2
  exact ⟨rfl, Grown.refl _⟩

set_option maxHeartbeats 1000000 in
theorem unary_rest (op : ByteArray) (t x : Int) (h0 : -9223372036854775808 ≤ x) (h1 : x ≤ 9223372036854775807) (ht : (t == 1) = false) (hx : (t == 9) = true → bits .xor .i64 x 1 = 1 - x) (hc : chk t x = true) (w : World) :
    Calls Try.prog 14 #[.string op, .int .i64 t, .int .i64 x] w fun e w' => e = .returned (.tuple #[.int .i64 (un op.toList t x).1, .int .i64 (un op.toList t x).2]) ∧ Grown w w' := by
  unfold un
  rw [hc]
  have HX := Lib.hid hx
  clear hx
  generalize unF op.toList x = o at *
  have hct := cut_any t (wrap64 (-x))
  generalize hy : cutT t (wrap64 (-x)) = y at *
  clear hy
  have HCT := Lib.hid hct
  clear hct
  cases hw : wholeT t
  all_goals
    go_enter Try.func14, Try.ntmps14
    go_wp2_with (first | (go_at_call 16; refine (check_any _ _ h0 h1 _).mono ?_; rintro e w' ⟨rfl, rfl⟩) | (go_at_call 25; refine (whole_any _ _).mono ?_; rintro e w' ⟨rfl, rfl⟩) | (go_at_call 26; refine (HCT.out _).mono ?_; rintro e w' ⟨rfl, rfl⟩))
    all_goals go_ret2
    all_goals go_light
    all_goals
      refine ⟨ret2_val (int_val ?_) (int_val ?_), Grown.refl _⟩
      all_goals
        have hx := HX.out
        clear HX HCT
        unfold unR
        grind

theorem okF_of_chk {t x : Int} (ht : (t == 1) = true) (h : chk t x = true) : okF x = true := by
  unfold chk at h
  rw [if_pos (by simpa using ht)] at h
  exact h

theorem bool_of_chk {t x : Int} (ht : (t == 9) = true) (h : chk t x = true) : x = 0 ∨ x = 1 := by
  have : t = 9 := by simpa using ht
  subst this
  unfold chk at h
  rw [if_neg (by decide), if_neg (by decide), if_pos rfl] at h
  simpa using h

theorem whole_one {t : Int} (ht : (t == 1) = true) : wholeT t = false := by
  have : t = 1 := by simpa using ht
  subst this
  unfold wholeT; decide
theorem nine_one {t : Int} (ht : (t == 1) = true) : (t == 9) = false := by
  have : t = 1 := by simpa using ht
  subst this
  decide

/-- UNARY: whatever it is given. -/
theorem unary_any (op : ByteArray) (t x : Int) (h0 : -9223372036854775808 ≤ x) (h1 : x ≤ 9223372036854775807) (w : World) :
    Calls Try.prog 14 #[.string op, .int .i64 t, .int .i64 x] w fun e w' => e = .returned (.tuple #[.int .i64 (un op.toList t x).1, .int .i64 (un op.toList t x).2]) ∧ Grown w w' := by
  cases hc : chk t x
  · exact unary_bad op t x h0 h1 hc w
  · cases ht : (t == 1)
    · exact unary_rest op t x h0 h1 ht (fun h9 => not_bool x (bool_of_chk h9 hc)) hc w
    · obtain ⟨n, rfl, hn, _⟩ := okF_word (okF_of_chk ht hc)
      exact unary_float op t ht (nine_one ht) (whole_one ht) n hn hc w

end Go.Proofs.Ytepmacimknblpaa
