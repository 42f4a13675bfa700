/- The walks of the reference's operators of one (mandrelref02): float1, Unary. -/
import Derived.Test.YtepmacimknblpaaRefT
namespace Go.Proofs.Ytepmacimknblpaa
open Go.RowKit Ieee Fl

/-- The sign turned, of an element. -/
def negW (n : Nat) : Nat := if isNaN single n then n else (n + 2147483648) % 4294967296
theorem negW_lt {n : Nat} (h : n < 4294967296) : negW n < 4294967296 := by unfold negW; split <;> omega

theorem nan_eq {n : Nat} (cn : isNaN single n = true → n = 2143289344) : ((n : Int) == 2143289344) = isNaN single n := by
  cases hv : isNaN single n
  · by_cases e : n = 2143289344
    · subst e; exact absurd hv (by decide +kernel)
    · simp; omega
  · rw [cn hv]; rfl

set_option maxHeartbeats 400000 in
theorem rneg_any (n : Nat) (hn : n < 4294967296) (cn : isNaN single n = true → n = 2143289344) (w : World) :
    Calls Try.prog 30 #[.string ⟨#[78, 101, 103]⟩, .int .i64 (n : Int)] w fun e w' => e = .returned (.tuple #[.int .i64 (negW n : Int), .bool true]) ∧ w = w' := by
  have hx := nan_eq cn
  unfold negW
  have hm : ((n : Int) % 4294967296).toNat = n := by omega
  cases hv : isNaN single n
  all_goals
    rw [hv] at hx
    clear cn hv
    go_enter Try.func30, Try.ntmps30
    go_wp2_with (go_at_call 31; refine (rf_any _ _).mono ?_; rintro e w' ⟨rfl, rfl⟩)
    go_ret2
    go_light
    refine ⟨ret2_val (int_val ?_) rfl, rfl⟩
    simp

theorem nan1 : isNaN single 2143289344 = true := by decide
theorem neg32 {n : Nat} (hn : n < 4294967296) : Op.negFloat .f32 n = (n + 2147483648) % 4294967296 := by
  rw [← xor_top hn]; rfl
theorem fnan {op : BinOp} {a : Nat} : floatBits op .f32 a 2143289344 = none := floatBits_nan (k := .f32) (Or.inr nan1)
theorem ord_zero_gt' (n : Nat) : (FloatKind.f32.format.order n 0 == some .gt) = (!isNaN single n && decide (0 < sv single n)) := by
  cases h : isNaN single n
  · rw [show FloatKind.f32.format = single from rfl, ord_gt okS h (by decide), show sv single 0 = 0 from rfl]; simp
  · rw [show FloatKind.f32.format = single from rfl, ord_nan okS (Or.inl h)]; rfl
theorem ord_zero_gt (n : Nat) : FloatKind.f32.format.order n 0 = some .gt ↔ isNaN single n = false ∧ 0 < sv single n := by
  cases h : isNaN single n
  · have := ord_gt (f := single) (a := n) (b := 0) okS h (by decide)
    rw [show sv single 0 = 0 from rfl] at this
    rw [show FloatKind.f32.format = single from rfl]
    by_cases g : 0 < sv single n
    · simp [g] at this; simp [this, g]
    · simp [g] at this; simp [this, g]
  · rw [show FloatKind.f32.format = single from rfl, ord_nan okS (Or.inl h)]; simp

attribute [local irreducible] floatOfInt isNaN sv mg exP expN floatBits Op.negFloat

/-- What Sigmoid comes to by the calls of the reference. -/
theorem sig_calls (n : Nat) (hn : n < 4294967296) : ∃ E A : Nat, E < 4294967296 ∧ A < 4294967296 ∧ canon (expN (negW n)) = (E : Int) ∧ cnO (floatBits .add .f32 1065353216 E) = (A : Int) ∧ cnO (floatBits .quo .f32 1065353216 A) = sigS n := by
  have cl : ∀ o : Option Nat, (∃ op a b, o = floatBits op .f32 a b) → ∃ A : Nat, A < 4294967296 ∧ cnO o = (A : Int) ∧ (o = none → A = 2143289344) ∧ (∀ s, o = some s → A = s) := by
    rintro o ⟨op, a, b, rfl⟩
    cases h : floatBits op .f32 a b with
    | none => exact ⟨2143289344, by decide, rfl, fun _ => rfl, fun s hs => (by cases hs)⟩
    | some s =>
      have hl : s < 4294967296 := (floatBits_notNaN h).2
      exact ⟨s, hl, rfl, fun hs => (by cases hs), fun t ht => (by cases ht; rfl)⟩
  have e1 : isNaN single (Op.negFloat .f32 n) = isNaN single n := by
    rw [neg32 hn, isNaN_mod, show (n + 2147483648) % 4294967296 % 2147483648 = n % 2147483648 by omega, ← isNaN_mod]
  cases hv : isNaN single n
  · rw [hv] at e1
    have hneg : negW n = Op.negFloat .f32 n := by unfold negW; rw [hv, neg32 hn, if_neg (by decide)]
    have hl : Op.negFloat .f32 n < 4294967296 := by rw [neg32 hn]; omega
    rw [hneg]
    obtain ⟨A, a1, a2, a3, a4⟩ := cl (floatBits .add .f32 1065353216 (expN (Op.negFloat .f32 n))) ⟨_, _, _, rfl⟩
    refine ⟨expN (Op.negFloat .f32 n), A, expN_lt hl, a1, cn_num (expN_notNaN e1), a2, ?_⟩
    unfold sigS
    generalize expN (Op.negFloat .f32 n) = E at *
    cases h : floatBits .add .f32 1065353216 E with
    | none => rw [a3 h, fnan]; rfl
    | some s => rw [a4 s h]
  · rw [hv] at e1
    have e : negW n = n := by unfold negW; rw [hv, if_pos rfl]
    have hx : expN (Op.negFloat .f32 n) = Op.negFloat .f32 n := expN_nan e1
    refine ⟨2143289344, 2143289344, by decide, by decide, ?_, ?_, ?_⟩
    · rw [e, expN_nan hv]; unfold canon; rw [hv]; rfl
    · rw [fnan]; rfl
    · rw [fnan]
      unfold sigS
      rw [hx, floatBits_nan (k := .f32) (Or.inr e1)]; rfl


set_option maxHeartbeats 2000000 in
theorem rfloat1_any (op : ByteArray) (n : Nat) (hn : n < 4294967296) (cn : isNaN single n = true → n = 2143289344) (w : World) :
    Calls Try.prog 30 #[.string op, .int .i64 (n : Int)] w fun e w' => e = .returned (.tuple #[.int .i64 (opt0 (unF op.toList n)), .bool (optS (unF op.toList n))]) ∧ Grown w w' := by
  have hx := nan_eq cn
  have hm : ((n : Int) % 4294967296).toNat = n := by omega
  obtain ⟨E, A, lE, lA, hE, hA, hS⟩ := sig_calls n hn
  have HN := Lib.hid (fun w => rneg_any n hn cn w)
  have HE := Lib.hid (fun w => rexp_any n hn w)
  have HE2 := Lib.hid (fun w => rexp_any (negW n) (negW_lt hn) w)
  rw [hE] at HE2
  have HA : Hid (∀ w, Calls Try.prog 50 #[.int .i64 1065353216, .int .i64 E] w fun e w' => e = .returned (.int .i64 (cnO (floatBits .add .f32 1065353216 E))) ∧ Grown w w') := Lib.hid (fun w => radd_any 1065353216 E (by decide) lE w)
  rw [hA] at HA
  have HD : Hid (∀ w, Calls Try.prog 49 #[.int .i64 1065353216, .int .i64 A] w fun e w' => e = .returned (.int .i64 (cnO (floatBits .quo .f32 1065353216 A))) ∧ Grown w w') := Lib.hid (fun w => rdiv_any 1065353216 A (by decide) lA w)
  rw [hS] at HD
  have HT := Lib.hid (fun w => rtanh_any n hn cn w)
  have HX := Lib.hid hx
  clear hE hA hS hx lE lA
  generalize negW n = m at *
  go_enter Try.func30, Try.ntmps30
  go_wp2_with (first | (go_at_call 31; refine (rf_any _ _).mono ?_; rintro e w' ⟨rfl, rfl⟩) | (go_at_call 41; refine (rbits_any _ (narrow_lt _ _) _).mono ?_; rintro e w' ⟨rfl, rfl⟩) | (go_at_call 43; refine (sqrt_any _ _).mono ?_; rintro e w' ⟨rfl, rfl⟩) | (go_at_call 44; refine (floor_any _ _).mono ?_; rintro e w' ⟨rfl, rfl⟩) | (go_at_call 48; with_reducible refine (HE.out _).mono ?_; rintro e w' ⟨rfl, rfl⟩) | (go_at_call 48; with_reducible refine (HE2.out _).mono ?_; rintro e w' ⟨rfl, rfl⟩) | (go_at_call 30; with_reducible refine (HN.out _).mono ?_; rintro e w' ⟨rfl, rfl⟩) | (go_at_call 50; with_reducible refine (HA.out _).mono ?_; rintro e w3 ⟨rfl, g3⟩) | (go_at_call 49; with_reducible refine (HD.out _).mono ?_; rintro e w5 ⟨rfl, g5⟩) | (go_at_call 51; with_reducible refine (HT.out _).mono ?_; rintro e w4 ⟨rfl, g4⟩))
  all_goals go_ret2
  all_goals go_light
  all_goals
    have hx := HX.out
    clear HX HN HE HE2 HA HD HT
    generalize op.toList = L at *
    simp only [ord_zero_gt', ord_zero_gt] at *
    refine ⟨ret2_val (int_val ?_) (bool_val ?_), ?_⟩
    · try simp only [canon_sqrt, canon_floor]
      clear hm
      grind [unF, opt0, isN]
    · clear hx hm
      grind [unF, optS]
    · first
        | assumption
        | exact grown_trans (by assumption) (by assumption)
        | repeat (with_reducible first | exact Grown.refl _ | apply grown_narrowW | apply grown_sqrtW | apply grown_floorW | apply grown_wideW)

attribute [local irreducible] chk okF isN unF optS opt0 wholeT cutT

theorem runary_bad (op : ByteArray) (t x : Int) (hc : chk t x = false) (w : World) :
    Calls Try.prog 15 #[.string op, .int .i64 t, .int .i64 x] w fun e w' => e = .returned (.tuple #[.int .i64 (un op.toList t x).1, .int .i64 (un op.toList t x).2]) ∧ Grown w w' := by
  have e : un op.toList t x = (0, 1) := by unfold un; rw [hc]; rfl
  rw [e]
  clear e
  go_enter Try.func15, Try.ntmps15
  go_wp2_with (go_at_call 17; refine (rcheck_any _ _ _).mono ?_; rintro e w' ⟨rfl, rfl⟩)
  go_ret2
  exact ⟨rfl, Grown.refl _⟩

set_option maxHeartbeats 1000000 in
theorem runary_float (op : ByteArray) (t : Int) (ht : (t == 1) = true) (h9 : (t == 9) = false) (hw : wholeT t = false) (n : Nat) (hn : n < 4294967296) (cn : isNaN single n = true → n = 2143289344) (hc : chk t n = true) (w : World) :
    Calls Try.prog 15 #[.string op, .int .i64 t, .int .i64 (n : Int)] w fun e w' => e = .returned (.tuple #[.int .i64 (un op.toList t n).1, .int .i64 (un op.toList t n).2]) ∧ Grown w w' := by
  unfold un
  rw [hc, hw]
  have hof := rfloat1_any op n hn cn
  clear cn
  generalize unF op.toList n = o at *
  have HOF := Lib.hid hof
  clear hof
  generalize cutT t (wrap64 (-(n : Int))) = y
  cases o
  all_goals
    go_enter Try.func15, Try.ntmps15
    go_wp2_with (first | (go_at_call 17; refine (rcheck_any _ _ _).mono ?_; rintro e w' ⟨rfl, rfl⟩) | (go_at_call 28; refine (rints_any _ _).mono ?_; rintro e w' ⟨rfl, rfl⟩) | (go_at_call 30; refine (HOF.out _).mono ?_; simp only [opt0, optS, Option.getD_some, Option.getD_none, Option.isSome_some, Option.isSome_none]; rintro e w1 ⟨rfl, hg⟩))
    all_goals go_ret2
    all_goals go_light
    all_goals
      refine ⟨ret2_val (int_val ?_) (int_val ?_), by first | assumption | exact Grown.refl _⟩
      all_goals
        clear HOF
        grind [unR]

theorem wrap_bool (x : Int) (h : x = 0 ∨ x = 1) : wrap64 (1 - x) = 1 - x := by rcases h with rfl | rfl <;> (unfold wrap64; decide)

set_option maxHeartbeats 1000000 in
theorem runary_rest (op : ByteArray) (t x : Int) (ht : (t == 1) = false) (hx : (t == 9) = true → wrap64 (1 - x) = 1 - x) (hc : chk t x = true) (w : World) :
    Calls Try.prog 15 #[.string op, .int .i64 t, .int .i64 x] w fun e w' => e = .returned (.tuple #[.int .i64 (un op.toList t x).1, .int .i64 (un op.toList t x).2]) ∧ Grown w w' := by
  unfold un
  rw [hc]
  have HX := Lib.hid hx
  clear hx
  generalize unF op.toList x = o at *
  have hct := rwrap_any t (wrap64 (-x))
  generalize hy : cutT t (wrap64 (-x)) = y at *
  clear hy
  have HCT := Lib.hid hct
  clear hct
  cases hw : wholeT t
  all_goals
    go_enter Try.func15, Try.ntmps15
    go_wp2_with (first | (go_at_call 17; refine (rcheck_any _ _ _).mono ?_; rintro e w' ⟨rfl, rfl⟩) | (go_at_call 28; refine (rints_any _ _).mono ?_; rintro e w' ⟨rfl, rfl⟩) | (go_at_call 29; refine (HCT.out _).mono ?_; rintro e w' ⟨rfl, rfl⟩))
    all_goals go_ret2
    all_goals go_light
    all_goals
      refine ⟨ret2_val (int_val ?_) (int_val ?_), Grown.refl _⟩
      all_goals
        have hx := HX.out
        clear HX HCT
        unfold unR
        grind

/-- THE REFERENCE's UNARY: whatever it is given. -/
theorem runary_any (op : ByteArray) (t x : Int) (w : World) :
    Calls Try.prog 15 #[.string op, .int .i64 t, .int .i64 x] w fun e w' => e = .returned (.tuple #[.int .i64 (un op.toList t x).1, .int .i64 (un op.toList t x).2]) ∧ Grown w w' := by
  cases hc : chk t x
  · exact runary_bad op t x hc w
  · cases ht : (t == 1)
    · exact runary_rest op t x ht (fun h9 => wrap_bool x (bool_of_chk h9 hc)) hc w
    · obtain ⟨n, rfl, hn, cn⟩ := okF_word (okF_of_chk ht hc)
      exact runary_float op t ht (nine_one ht) (whole_one ht) n hn cn hc w

end Go.Proofs.Ytepmacimknblpaa
