/- The walks of num.Binary and num.Cast: each comes to its plain function. -/
import Derived.Test.YtepmacimknblpaaNumU
namespace Go.Proofs.Ytepmacimknblpaa
open Go.RowKit Ieee Fl

theorem ord_E (n m : Nat) : (FloatKind.f32.format.order n m == some .eq) = (!isNaN single n && !isNaN single m && decide (sv single n = sv single m)) := by
  cases h : isNaN single n
  · cases g : isNaN single m
    · rw [show FloatKind.f32.format = single from rfl, ord_eq okS h g]; simp
    · rw [show FloatKind.f32.format = single from rfl, ord_nan okS (Or.inr g)]; rfl
  · rw [show FloatKind.f32.format = single from rfl, ord_nan okS (Or.inl h)]; rfl
theorem ord_L (n m : Nat) : (FloatKind.f32.format.order n m == some .lt) = (!isNaN single n && !isNaN single m && decide (sv single n < sv single m)) := by
  cases h : isNaN single n
  · cases g : isNaN single m
    · rw [show FloatKind.f32.format = single from rfl, ord_lt okS h g]; simp
    · rw [show FloatKind.f32.format = single from rfl, ord_nan okS (Or.inr g)]; rfl
  · rw [show FloatKind.f32.format = single from rfl, ord_nan okS (Or.inl h)]; rfl
theorem ord_G (n m : Nat) : (FloatKind.f32.format.order n m == some .gt) = (!isNaN single n && !isNaN single m && decide (sv single m < sv single n)) := by
  cases h : isNaN single n
  · cases g : isNaN single m
    · rw [show FloatKind.f32.format = single from rfl, ord_gt okS h g]; simp
    · rw [show FloatKind.f32.format = single from rfl, ord_nan okS (Or.inr g)]; rfl
  · rw [show FloatKind.f32.format = single from rfl, ord_nan okS (Or.inl h)]; rfl

theorem ord_refl_iff (n : Nat) : (FloatKind.f32.format.order n n = some .eq) = (isNaN single n = false) := by
  have h := ord_refl n
  cases g : isNaN single n <;> rw [g] at h <;> simpa using h

theorem and_same {n m : Nat} (hn : n < 4294967296) (hm : m < 4294967296) (h : sv single n = sv single m) : bits .and .i64 (n : Int) (m : Int) = min (n : Int) (m : Int) ∧ bits .or .i64 (n : Int) (m : Int) = max (n : Int) (m : Int) := by
  rw [bits_and_nat (by omega) (by omega), bits_or_nat (by omega) (by omega)]
  rcases same_sv hn hm h with rfl | ⟨h1, h2⟩
  · rw [Nat.and_self, Nat.or_self]; omega
  · have a1 : n = 0 ∨ n = 2147483648 := by omega
    have a2 : m = 0 ∨ m = 2147483648 := by omega
    rcases a1 with rfl | rfl <;> rcases a2 with rfl | rfl <;> decide

attribute [local irreducible] chk okF optS opt0 isNaN sv mg wholeT cutT

set_option maxHeartbeats 2000000 in
theorem floats_any (op : ByteArray) (n m : Nat) (hn : n < 4294967296) (hm : m < 4294967296) (w : World) :
    Calls Try.prog 33 #[.string op, .int .i64 (n : Int), .int .i64 (m : Int)] w fun e w' => e = .returned (.tuple #[.int .i64 (opt0 (binF op.toList n m)), .bool (optS (binF op.toList n m))]) ∧ Grown w w' := by
  have hm1 : ((n : Int) % 4294967296).toNat = n := by omega
  have hm2 : ((m : Int) % 4294967296).toNat = m := by omega
  have hs := and_same hn hm
  have HS := Lib.hid hs
  clear hs
  go_enter Try.func33, Try.ntmps33
  go_wp2_with (first | (go_at_call 40; refine (number_any _ _).mono ?_; rintro e w' ⟨rfl, rfl⟩) | (go_at_call 38; refine (bitsOf_any _ (ar_lt _ _ _ _) _).mono ?_; rintro e w' ⟨rfl, rfl⟩) | (go_at_call 37; refine (flag_any _ _).mono ?_; rintro e w' ⟨rfl, rfl⟩))
  all_goals go_ret2
  all_goals go_light
  all_goals
    have hs := HS.out
    clear HS hm1 hm2
    generalize op.toList = L at *
    try simp only [ord_refl, ord_refl_iff, ord_E, ord_L, ord_G] at *
    refine ⟨ret2_val (int_val ?_) (bool_val ?_), ?_⟩
    · try simp only [canon_ar']
      unfold binF isN opt0
      simp only [Int.toNat_natCast]
      grind
    · unfold binF optS
      clear hs
      grind
    · repeat (with_reducible first | exact Grown.refl _ | apply grown_arW)

theorem quo_in {x y : Int} (h0 : -9223372036854775808 ≤ x) (h1 : x ≤ 9223372036854775807) (h2 : y ≠ -1) : wrap64 (x.tdiv y) = x.tdiv y := by
  have h3 : (x.tdiv y).natAbs = x.natAbs / y.natAbs := Int.natAbs_tdiv _ _
  have h4 : x.natAbs / y.natAbs ≤ x.natAbs := Nat.div_le_self _ _
  have h5 : x.tdiv y ≠ 9223372036854775808 := by
    intro h
    rw [h] at h3
    have h6 : y.natAbs ≠ 1 ∨ y = 1 := by omega
    rcases h6 with h6 | rfl
    · have h7 : x.natAbs / y.natAbs < 9223372036854775808 := by
        rcases (by omega : y.natAbs = 0 ∨ 2 ≤ y.natAbs) with h8 | h8
        · rw [h8, Nat.div_zero]; decide
        · have : x.natAbs / y.natAbs ≤ x.natAbs / 2 := Nat.div_le_div_left h8 (by decide)
          omega
      have : (9223372036854775808 : Int).natAbs = 9223372036854775808 := rfl
      omega
    · rw [Int.tdiv_one] at h; omega
  unfold wrap64
  omega

attribute [local irreducible] binI flg

set_option maxHeartbeats 2000000 in
theorem wholes_any (op : ByteArray) (t x y : Int) (h0 : -9223372036854775808 ≤ x) (h1 : x ≤ 9223372036854775807) (w : World) :
    Calls Try.prog 32 #[.string op, .int .i64 t, .int .i64 x, .int .i64 y] w fun e w' => e = .returned (.tuple #[.int .i64 (binI op.toList t x y).1, .int .i64 (binI op.toList t x y).2]) ∧ w = w' := by
  have hq := quo_in (y := y) h0 h1
  have HQ := Lib.hid hq
  clear hq
  cases hy : (y == 0)
  · have hy2 : ¬ y = 0 := by simpa using hy
    go_enter Try.func32, Try.ntmps32
    go_wp2_with (first | (go_at_call 37; refine (flag_any _ _).mono ?_; rintro e w' ⟨rfl, rfl⟩) | (go_at_call 26; refine (cut_any _ _ _).mono ?_; rintro e w' ⟨rfl, rfl⟩))
    all_goals go_ret2
    all_goals go_light
    all_goals
      have hq := HQ.out
      clear HQ
      generalize op.toList = L at *
      refine ⟨ret2_val (int_val ?_) (int_val ?_), rfl⟩
      all_goals
        unfold binI
        grind
  · go_enter Try.func32, Try.ntmps32
    go_wp2_with (first | (go_at_call 37; refine (flag_any _ _).mono ?_; rintro e w' ⟨rfl, rfl⟩) | (go_at_call 26; refine (cut_any _ _ _).mono ?_; rintro e w' ⟨rfl, rfl⟩))
    all_goals go_ret2
    all_goals go_light
    all_goals
      have hq := HQ.out
      clear HQ
      generalize op.toList = L at *
      refine ⟨ret2_val (int_val ?_) (int_val ?_), rfl⟩
      all_goals
        unfold binI
        grind

theorem binary_bad (op : ByteArray) (t x y : Int) (h0 : -9223372036854775808 ≤ x) (h1 : x ≤ 9223372036854775807) (g0 : -9223372036854775808 ≤ y) (g1 : y ≤ 9223372036854775807) (hc : chk t x = false ∨ (chk t x = true ∧ chk t y = false)) (w : World) :
    Calls Try.prog 19 #[.string op, .int .i64 t, .int .i64 x, .int .i64 y] w fun e w' => e = .returned (.tuple #[.int .i64 (bin op.toList t x y).1, .int .i64 (bin op.toList t x y).2]) ∧ Grown w w' := by
  have e : bin op.toList t x y = (0, 1) := by unfold bin binR; rw [if_pos (by rcases hc with h | h; exact Or.inl h; exact Or.inr h.2)]
  rw [e]
  clear e
  rcases hc with hc | ⟨hc, hd⟩
  all_goals
    go_enter Try.func19, Try.ntmps19
    go_wp2_with (go_at_call 16; refine (check_any _ _ (by assumption) (by assumption) _).mono ?_; rintro e w' ⟨rfl, rfl⟩)
    go_ret2
    exact ⟨rfl, Grown.refl _⟩

set_option maxHeartbeats 1000000 in
theorem binary_whole (op : ByteArray) (t x y : Int) (h0 : -9223372036854775808 ≤ x) (h1 : x ≤ 9223372036854775807) (g0 : -9223372036854775808 ≤ y) (g1 : y ≤ 9223372036854775807) (hc : chk t x = true) (hd : chk t y = true) (hw : wholeT t = true) (w : World) :
    Calls Try.prog 19 #[.string op, .int .i64 t, .int .i64 x, .int .i64 y] w fun e w' => e = .returned (.tuple #[.int .i64 (bin op.toList t x y).1, .int .i64 (bin op.toList t x y).2]) ∧ Grown w w' := by
  have e : bin op.toList t x y = binI op.toList t x y := by unfold bin binR; rw [if_neg (by rw [hc, hd]; decide), if_pos hw]
  rw [e]
  clear e
  go_enter Try.func19, Try.ntmps19
  go_wp2_with (first | (go_at_call 16; refine (check_any _ _ (by assumption) (by assumption) _).mono ?_; rintro e w' ⟨rfl, rfl⟩) | (go_at_call 25; refine (whole_any _ _).mono ?_; rintro e w' ⟨rfl, rfl⟩) | (go_at_call 32; refine (wholes_any _ _ _ _ h0 h1 _).mono ?_; rintro e w' ⟨rfl, rfl⟩))
  go_ret2
  exact ⟨rfl, Grown.refl _⟩

set_option maxHeartbeats 1000000 in
theorem binary_float (op : ByteArray) (t : Int) (n m : Nat) (hn : n < 4294967296) (hm : m < 4294967296) (ht : (t == 1) = true) (hc : chk t n = true) (hd : chk t m = true) (hw : wholeT t = false) (w : World) :
    Calls Try.prog 19 #[.string op, .int .i64 t, .int .i64 (n : Int), .int .i64 (m : Int)] w fun e w' => e = .returned (.tuple #[.int .i64 (bin op.toList t n m).1, .int .i64 (bin op.toList t n m).2]) ∧ Grown w w' := by
  unfold bin
  rw [hc, hd, hw]
  have hof := floats_any op n m hn hm
  generalize binF op.toList n m = o at *
  have HOF := Lib.hid hof
  clear hof
  have HT1 := Lib.hid (show t = 1 by simpa using ht)
  generalize binI op.toList t n m = i
  cases o
  all_goals
    go_enter Try.func19, Try.ntmps19
    go_wp2_with (first | (go_at_call 16; refine (check_any _ _ lo_of (hi_of (by assumption)) _).mono ?_; rintro e w' ⟨rfl, rfl⟩) | (go_at_call 25; refine (whole_any _ _).mono ?_; rintro e w' ⟨rfl, rfl⟩) | (go_at_call 33; refine (HOF.out _).mono ?_; simp only [opt0, optS, Option.getD_some, Option.getD_none, Option.isSome_some, Option.isSome_none]; rintro e w1 ⟨rfl, hg⟩))
    go_ret2
    go_light
    refine ⟨ret2_val (int_val ?_) (int_val ?_), by assumption⟩
    all_goals
      have ht1 := HT1.out
      clear HOF HT1
      unfold binR
      simp [ht1]

theorem bool_bits {x y : Int} (hx : x = 0 ∨ x = 1) (hy : y = 0 ∨ y = 1) : bits .and .i64 x y = x * y ∧ bits .or .i64 x y = max x y ∧ bits .xor .i64 x y = flg (decide (x ≠ y)) ∧ bits .xor .i64 (bits .xor .i64 x y) 1 = flg (decide (x = y)) := by
  rcases hx with rfl | rfl <;> rcases hy with rfl | rfl <;> (unfold flg; decide)

set_option maxHeartbeats 1000000 in
theorem binary_rest (op : ByteArray) (t x y : Int) (h0 : -9223372036854775808 ≤ x) (h1 : x ≤ 9223372036854775807) (g0 : -9223372036854775808 ≤ y) (g1 : y ≤ 9223372036854775807) (ht : (t == 1) = false) (hc : chk t x = true) (hd : chk t y = true) (hw : wholeT t = false)
    (hb : bits .and .i64 x y = x * y ∧ bits .or .i64 x y = max x y ∧ bits .xor .i64 x y = flg (decide (x ≠ y)) ∧ bits .xor .i64 (bits .xor .i64 x y) 1 = flg (decide (x = y))) (w : World) :
    Calls Try.prog 19 #[.string op, .int .i64 t, .int .i64 x, .int .i64 y] w fun e w' => e = .returned (.tuple #[.int .i64 (bin op.toList t x y).1, .int .i64 (bin op.toList t x y).2]) ∧ Grown w w' := by
  unfold bin
  rw [hc, hd, hw]
  have HB := Lib.hid hb
  clear hb
  generalize binF op.toList x y = o
  generalize binI op.toList t x y = i
  go_enter Try.func19, Try.ntmps19
  go_wp2_with (first | (go_at_call 16; refine (check_any _ _ (by assumption) (by assumption) _).mono ?_; rintro e w' ⟨rfl, rfl⟩) | (go_at_call 25; refine (whole_any _ _).mono ?_; rintro e w' ⟨rfl, rfl⟩))
  all_goals go_ret2
  all_goals go_light
  all_goals
    refine ⟨ret2_val (int_val ?_) (int_val ?_), Grown.refl _⟩
    all_goals
      obtain ⟨b1, b2, b3, b4⟩ := HB.out
      clear HB
      unfold binR
      grind

theorem chk_cases {t x : Int} (h : chk t x = true) (h1 : (t == 1) = false) (hw : wholeT t = false) : x = 0 ∨ x = 1 := by
  have e1 : ¬ t = 1 := by simpa using h1
  unfold wholeT at hw
  have e2 : ¬ (t = 6 ∨ t = 7) := by simpa using hw
  unfold chk at h
  rw [if_neg e1, if_neg (by omega)] at h
  by_cases e3 : t = 9
  · rw [if_pos e3] at h; simpa using h
  · rw [if_neg e3] at h; simp at h; omega

/-- BINARY: whatever it is given. -/
theorem binary_any (op : ByteArray) (t x y : Int) (h0 : -9223372036854775808 ≤ x) (h1 : x ≤ 9223372036854775807) (g0 : -9223372036854775808 ≤ y) (g1 : y ≤ 9223372036854775807) (w : World) :
    Calls Try.prog 19 #[.string op, .int .i64 t, .int .i64 x, .int .i64 y] w fun e w' => e = .returned (.tuple #[.int .i64 (bin op.toList t x y).1, .int .i64 (bin op.toList t x y).2]) ∧ Grown w w' := by
  cases hc : chk t x
  · exact binary_bad op t x y h0 h1 g0 g1 (Or.inl hc) w
  · cases hd : chk t y
    · exact binary_bad op t x y h0 h1 g0 g1 (Or.inr ⟨hc, hd⟩) w
    · cases hw : wholeT t
      · cases ht : (t == 1)
        · exact binary_rest op t x y h0 h1 g0 g1 ht hc hd hw (bool_bits (chk_cases hc ht hw) (chk_cases hd ht hw)) w
        · obtain ⟨n, rfl, hn, _⟩ := okF_word (okF_of_chk ht hc)
          obtain ⟨m, rfl, hm, _⟩ := okF_word (okF_of_chk ht hd)
          exact binary_float op t n m hn hm ht hc hd hw w
      · exact binary_whole op t x y h0 h1 g0 g1 hc hd hw w

end Go.Proofs.Ytepmacimknblpaa
