/- The walks of the reference's operators of two (mandrelref02): float2, int2, Binary. -/
import Derived.Test.YtepmacimknblpaaRefW
import Derived.Test.YtepmacimknblpaaNumV
import Derived.OwnWalk
namespace Go.Proofs.Ytepmacimknblpaa
open Go.RowKit Ieee Fl

theorem same_zero {n m : Nat} (hn : n < 4294967296) (hm : m < 4294967296) (h : sv single n = sv single m) : n = m ∨ (sv single n = 0 ∧ sv single m = 0) := by
  rcases same_sv hn hm h with rfl | ⟨h1, h2⟩
  · exact Or.inl rfl
  · have a1 : n = 0 ∨ n = 2147483648 := by omega
    have a2 : m = 0 ∨ m = 2147483648 := by omega
    right
    rcases a1 with rfl | rfl <;> rcases a2 with rfl | rfl <;> exact ⟨by decide, by decide⟩

theorem rord_zero (n : Nat) : (FloatKind.f32.format.order n 0 = some .eq) = (isNaN single n = false ∧ sv single n = 0) := by
  have h := ord_zero_eq n
  rw [Bool.eq_iff_iff] at h
  simpa using h

theorem nan_iff {n : Nat} (h : isNaN single n = true → n = 2143289344) : isNaN single n = decide ((n : Int) = 2143289344) := by
  cases g : isNaN single n
  · by_cases e : n = 2143289344
    · subst e; exact absurd g (by decide)
    · symm; simp; omega
  · have := h g; subst this; rfl

attribute [local irreducible] chk okF optS opt0 isNaN sv mg wholeT cutT

set_option maxHeartbeats 2000000 in
theorem rfloat2_any (op : ByteArray) (n m : Nat) (hn : n < 4294967296) (hm : m < 4294967296) (cn : isNaN single n = true → n = 2143289344) (cm : isNaN single m = true → m = 2143289344) (w : World) :
    Calls Try.prog 34 #[.string op, .int .i64 (n : Int), .int .i64 (m : Int)] w fun e w' => e = .returned (.tuple #[.int .i64 (opt0 (binF op.toList n m)), .bool (optS (binF op.toList n m))]) ∧ Grown w w' := by
  have hm1 : ((n : Int) % 4294967296).toNat = n := by omega
  have hm2 : ((m : Int) % 4294967296).toNat = m := by omega
  have HS := Lib.hid (same_zero hn hm)
  have HN := Lib.hid (nan_iff cn)
  have HM := Lib.hid (nan_iff cm)
  clear cn cm
  go_enter Try.func34, Try.ntmps34
  go_wp2_with (first | (go_at_call 31; refine (rf_any _ _).mono ?_; rintro e w' ⟨rfl, rfl⟩) | (go_at_call 41; refine (rbits_any _ (ar_lt _ _ _ _) _).mono ?_; rintro e w' ⟨rfl, rfl⟩) | (go_at_call 36; refine (rtruth_any _ _).mono ?_; rintro e w' ⟨rfl, rfl⟩) | (go_at_call 50; refine (radd_any _ _ hn hm _).mono ?_; rintro e w' ⟨rfl, hg⟩) | (go_at_call 53; refine (rsub_any _ _ hn hm _).mono ?_; rintro e w' ⟨rfl, hg⟩) | (go_at_call 49; refine (rdiv_any _ _ hn hm _).mono ?_; rintro e w' ⟨rfl, hg⟩))
  all_goals go_ret2
  all_goals go_light
  all_goals
    have hs := HS.out
    have hn1 := HN.out
    have hm3 := HM.out
    clear HS HN HM hm1 hm2
    generalize op.toList = L at *
    try simp only [rord_zero, ord_zero_eq] at *
    try simp only [ord_E, ord_L, ord_G] at *
    refine ⟨ret2_val (int_val ?_) (bool_val ?_), ?_⟩
    · try simp only [canon_ar']
      unfold binF isN opt0
      simp only [Int.toNat_natCast]
      grind
    · unfold binF optS
      clear hs
      grind
    · repeat (with_reducible first | assumption | exact Grown.refl _ | apply grown_arW)

attribute [local irreducible] binI flg

theorem wrap64_id {x : Int} (h0 : -9223372036854775808 ≤ x) (h1 : x ≤ 9223372036854775807) : wrap64 x = x := by unfold wrap64; omega

def okI (op : List UInt8) : Bool := decide (op = [65, 100, 100] ∨ op = [83, 117, 98] ∨ op = [77, 117, 108] ∨ op = [68, 105, 118] ∨ op = [77, 97, 120] ∨ op = [77, 105, 110] ∨ op = [69, 113, 117, 97, 108] ∨ op = [76, 101, 115, 115] ∨ op = [71, 114, 101, 97, 116, 101, 114])
theorem binI_none {op : List UInt8} (t x y : Int) (h : okI op = false) : binI op t x y = (0, 1) := by
  unfold okI at h
  unfold binI
  grind

def intI (op : List UInt8) (t x y : Int) : Int × Int := if okI op = true then binI op t x y else (0, 0)
attribute [local irreducible] okI intI
theorem ret3_val {a b c d f g : Value} (h : a = d) (i : b = f) (j : c = g) : Ending.returned (.tuple #[a, b, c]) = Ending.returned (.tuple #[d, f, g]) := by rw [h, i, j]

set_option maxHeartbeats 2000000 in
theorem rint2_any (op : ByteArray) (t x y : Int) (h0 : -9223372036854775808 ≤ x) (h1 : x ≤ 9223372036854775807) (w : World) :
    Calls Try.prog 35 #[.string op, .int .i64 t, .int .i64 x, .int .i64 y] w fun e w' => e = .returned (.tuple #[.int .i64 (intI op.toList t x y).1, .int .i64 (intI op.toList t x y).2, .bool (okI op.toList)]) ∧ w = w' := by
  have hq := quo_in (y := y) h0 h1
  have HQ := Lib.hid hq
  clear hq
  cases hy : (y == 0)
  · have hy2 : ¬ y = 0 := by simpa using hy
    go_enter Try.func35, Try.ntmps35
    go_wp2_with (first | (go_at_call 36; refine (rtruth_any _ _).mono ?_; rintro e w' ⟨rfl, rfl⟩) | (go_at_call 29; refine (rwrap_any _ _ _).mono ?_; rintro e w' ⟨rfl, rfl⟩))
    all_goals go_ret3
    all_goals go_light
    all_goals
      have hq := HQ.out
      clear HQ
      generalize op.toList = L at *
      refine ⟨ret3_val (int_val ?_) (int_val ?_) (bool_val ?_), rfl⟩
      all_goals
        first
          | (unfold intI okI binI; grind)
          | (unfold intI okI; grind)
          | (unfold okI; grind)
  · go_enter Try.func35, Try.ntmps35
    go_wp2_with (first | (go_at_call 36; refine (rtruth_any _ _).mono ?_; rintro e w' ⟨rfl, rfl⟩) | (go_at_call 29; refine (rwrap_any _ _ _).mono ?_; rintro e w' ⟨rfl, rfl⟩))
    all_goals go_ret3
    all_goals go_light
    all_goals
      have hq := HQ.out
      clear HQ
      generalize op.toList = L at *
      refine ⟨ret3_val (int_val ?_) (int_val ?_) (bool_val ?_), rfl⟩
      all_goals
        first
          | (unfold intI okI binI; grind)
          | (unfold intI okI; grind)
          | (unfold okI; grind)


theorem rbinary_bad (op : ByteArray) (t x y : Int) (hc : chk t x = false ∨ (chk t x = true ∧ chk t y = false)) (w : World) :
    Calls Try.prog 20 #[.string op, .int .i64 t, .int .i64 x, .int .i64 y] w fun e w' => e = .returned (.tuple #[.int .i64 (bin op.toList t x y).1, .int .i64 (bin op.toList t x y).2]) ∧ Grown w w' := by
  have e : bin op.toList t x y = (0, 1) := by unfold bin binR; rw [if_pos (by rcases hc with h | h; exact Or.inl h; exact Or.inr h.2)]
  rw [e]
  clear e
  rcases hc with hc | ⟨hc, hd⟩
  all_goals
    go_enter Try.func20, Try.ntmps20
    go_wp2_with (go_at_call 17; refine (rcheck_any _ _ _).mono ?_; rintro e w' ⟨rfl, rfl⟩)
    go_ret2
    exact ⟨rfl, Grown.refl _⟩

theorem one_whole {t : Int} (hw : wholeT t = true) : (t == 1) = false := by
  unfold wholeT at hw
  have e2 : t = 6 ∨ t = 7 := by simpa using hw
  rcases e2 with rfl | rfl <;> decide

set_option maxHeartbeats 1000000 in
theorem rbinary_whole (op : ByteArray) (t x y : Int) (h0 : -9223372036854775808 ≤ x) (h1 : x ≤ 9223372036854775807) (hc : chk t x = true) (hd : chk t y = true) (hw : wholeT t = true) (ht : (t == 1) = false) (w : World) :
    Calls Try.prog 20 #[.string op, .int .i64 t, .int .i64 x, .int .i64 y] w fun e w' => e = .returned (.tuple #[.int .i64 (bin op.toList t x y).1, .int .i64 (bin op.toList t x y).2]) ∧ Grown w w' := by
  have e : bin op.toList t x y = binI op.toList t x y := by unfold bin binR; rw [if_neg (by rw [hc, hd]; decide), if_pos hw]
  rw [e]
  clear e
  have hi := rint2_any op t x y h0 h1
  cases hk : okI op.toList
  · rw [binI_none t x y hk]
    unfold intI at hi
    rw [hk] at hi
    simp only [Bool.false_eq_true, if_false] at hi
    have HI := Lib.hid hi
    clear hi hk
    go_enter Try.func20, Try.ntmps20
    go_wp2_with (first | (go_at_call 17; refine (rcheck_any _ _ _).mono ?_; rintro e w' ⟨rfl, rfl⟩) | (go_at_call 28; refine (rints_any _ _).mono ?_; rintro e w' ⟨rfl, rfl⟩) | (go_at_call 35; refine (HI.out _).mono ?_; rintro e w' ⟨rfl, rfl⟩))
    go_ret2
    exact ⟨rfl, Grown.refl _⟩
  · unfold intI at hi
    rw [hk] at hi
    simp only [if_true] at hi
    generalize binI op.toList t x y = p at *
    obtain ⟨a, e⟩ := p
    have HI := Lib.hid hi
    clear hi hk
    go_enter Try.func20, Try.ntmps20
    go_wp2_with (first | (go_at_call 17; refine (rcheck_any _ _ _).mono ?_; rintro e w' ⟨rfl, rfl⟩) | (go_at_call 28; refine (rints_any _ _).mono ?_; rintro e w' ⟨rfl, rfl⟩) | (go_at_call 35; refine (HI.out _).mono ?_; rintro e w' ⟨rfl, rfl⟩))
    go_ret2
    exact ⟨rfl, Grown.refl _⟩

set_option maxHeartbeats 1000000 in
theorem rbinary_float (op : ByteArray) (t : Int) (n m : Nat) (hn : n < 4294967296) (hm : m < 4294967296) (cn : isNaN single n = true → n = 2143289344) (cm : isNaN single m = true → m = 2143289344) (ht : (t == 1) = true) (hc : chk t n = true) (hd : chk t m = true) (hw : wholeT t = false) (w : World) :
    Calls Try.prog 20 #[.string op, .int .i64 t, .int .i64 (n : Int), .int .i64 (m : Int)] w fun e w' => e = .returned (.tuple #[.int .i64 (bin op.toList t n m).1, .int .i64 (bin op.toList t n m).2]) ∧ Grown w w' := by
  unfold bin
  rw [hc, hd, hw]
  have hof := rfloat2_any op n m hn hm cn cm
  clear cn cm
  generalize binF op.toList n m = o at *
  have HOF := Lib.hid hof
  clear hof
  have HT1 := Lib.hid (show t = 1 by simpa using ht)
  generalize binI op.toList t n m = i
  cases o
  all_goals
    go_enter Try.func20, Try.ntmps20
    go_wp2_with (first | (go_at_call 17; refine (rcheck_any _ _ _).mono ?_; rintro e w' ⟨rfl, rfl⟩) | (go_at_call 34; refine (HOF.out _).mono ?_; simp only [opt0, optS, Option.getD_some, Option.getD_none, Option.isSome_some, Option.isSome_none]; rintro e w1 ⟨rfl, hg⟩))
    go_ret2
    go_light
    refine ⟨ret2_val (int_val ?_) (int_val ?_), by assumption⟩
    all_goals
      have ht1 := HT1.out
      clear HOF HT1
      unfold binR
      simp [ht1]

theorem bool_mul {x y : Int} (hx : x = 0 ∨ x = 1) (hy : y = 0 ∨ y = 1) : wrap64 (x * y) = x * y := by
  rcases hx with rfl | rfl <;> rcases hy with rfl | rfl <;> (unfold wrap64; decide)

set_option maxHeartbeats 1000000 in
theorem rbinary_rest (op : ByteArray) (t x y : Int) (ht : (t == 1) = false) (hc : chk t x = true) (hd : chk t y = true) (hw : wholeT t = false) (hb : wrap64 (x * y) = x * y) (w : World) :
    Calls Try.prog 20 #[.string op, .int .i64 t, .int .i64 x, .int .i64 y] w fun e w' => e = .returned (.tuple #[.int .i64 (bin op.toList t x y).1, .int .i64 (bin op.toList t x y).2]) ∧ Grown w w' := by
  unfold bin
  rw [hc, hd, hw]
  have HB := Lib.hid hb
  clear hb
  generalize binF op.toList x y = o
  generalize binI op.toList t x y = i
  go_enter Try.func20, Try.ntmps20
  go_wp2_with (first | (go_at_call 17; refine (rcheck_any _ _ _).mono ?_; rintro e w' ⟨rfl, rfl⟩) | (go_at_call 28; refine (rints_any _ _).mono ?_; rintro e w' ⟨rfl, rfl⟩) | (go_at_call 36; refine (rtruth_any _ _).mono ?_; rintro e w' ⟨rfl, rfl⟩))
  all_goals go_ret2
  all_goals go_light
  all_goals
    refine ⟨ret2_val (int_val ?_) (int_val ?_), Grown.refl _⟩
    all_goals
      have hb := HB.out
      clear HB
      unfold binR
      grind

/-- THE REFERENCE's BINARY: whatever it is given. -/
theorem rbinary_any (op : ByteArray) (t x y : Int) (h0 : -9223372036854775808 ≤ x) (h1 : x ≤ 9223372036854775807) (w : World) :
    Calls Try.prog 20 #[.string op, .int .i64 t, .int .i64 x, .int .i64 y] w fun e w' => e = .returned (.tuple #[.int .i64 (bin op.toList t x y).1, .int .i64 (bin op.toList t x y).2]) ∧ Grown w w' := by
  cases hc : chk t x
  · exact rbinary_bad op t x y (Or.inl hc) w
  · cases hd : chk t y
    · exact rbinary_bad op t x y (Or.inr ⟨hc, hd⟩) w
    · cases hw : wholeT t
      · cases ht : (t == 1)
        · exact rbinary_rest op t x y ht hc hd hw (bool_mul (chk_cases hc ht hw) (chk_cases hd ht hw)) w
        · obtain ⟨n, rfl, hn, cn⟩ := okF_word (okF_of_chk ht hc)
          obtain ⟨m, rfl, hm, cm⟩ := okF_word (okF_of_chk ht hd)
          exact rbinary_float op t n m hn hm cn cm ht hc hd hw w
      · exact rbinary_whole op t x y h0 h1 hc hd hw (one_whole hw) w

end Go.Proofs.Ytepmacimknblpaa
