/- The walks of the reference's small functions (mandrelref02): f, bits, ints, wrap, truth, add, sub, div, Check. -/
import Derived.Test.YtagiipecfdmceaaGreatDoorNmMs
import Derived.Test.YtagiipecfdmceaaGreatDoorNuMs
import Derived.OwnWalk
namespace Go.Proofs.YtagiipecfdmceaaGreatDoor.Nm
open Go.RowKit Ieee Fl

theorem rf_any (x : Int) (w : World) :
    Calls Tryz.prog 89 #[.int .i64 x] w fun e w' => e = .returned (.float .f32 (x % 4294967296).toNat) ∧ w = w' := by
  go_enter Tryz.func89, Tryz.ntmps89
  go_wp2
  go_ret
  go_light
  exact ⟨ret_val (float_val (by simp)), rfl⟩

theorem rbits_any (b : Nat) (hb : b < 4294967296) (w : World) :
    Calls Tryz.prog 92 #[.float .f32 b] w fun e w' => e = .returned (.int .i64 (canon b)) ∧ w = w' := by
  have hs := ord_self okS b
  have H := Lib.hid hs
  clear hs
  go_enter Tryz.func92, Tryz.ntmps92
  go_wp2
  · rename_i h
    go_ret
    refine ⟨ret_val (int_val ?_), rfl⟩
    have h2 := H.out
    rw [show FloatKind.f32.format = single from rfl, h2] at h
    unfold canon; rw [if_pos h]
  · rename_i h
    go_ret
    refine ⟨ret_val (int_val ?_), rfl⟩
    have h2 := H.out
    rw [show FloatKind.f32.format = single from rfl, h2] at h
    unfold canon; rw [h]; simp

theorem rwhole_any (t : Int) (w : World) :
    Calls Tryz.prog 48 #[.int .i64 t] w fun e w' => e = .returned (.bool (wholeT t)) ∧ w = w' := by
  go_enter Tryz.func48, Tryz.ntmps48
  go_wp2
  all_goals (go_ret; go_light; refine ⟨ret_val (bool_val ?_), rfl⟩; grind [wholeT])

theorem rwrap_any (t x : Int) (w : World) :
    Calls Tryz.prog 94 #[.int .i64 t, .int .i64 x] w fun e w' => e = .returned (.int .i64 (cutT t x)) ∧ w = w' := by
  have hw : wrap64 (wrap32 x) = wrap32 x := by unfold wrap64 wrap32; omega
  go_enter Tryz.func94, Tryz.ntmps94
  go_wp2
  all_goals (go_ret; go_light; refine ⟨ret_val (int_val ?_), rfl⟩; unfold cutT; simp_all)

theorem rtruth_any (b : Bool) (w : World) :
    Calls Tryz.prog 50 #[.bool b] w fun e w' => e = .returned (.int .i64 (flg b)) ∧ w = w' := by
  cases b <;> (go_enter Tryz.func50, Tryz.ntmps50; go_wp2; go_ret; exact ⟨rfl, rfl⟩)

theorem radd_any (n m : Nat) (hn : n < 4294967296) (hm : m < 4294967296) (w : World) :
    Calls Tryz.prog 90 #[.int .i64 n, .int .i64 m] w fun e w' => e = .returned (.int .i64 (cnO (floatBits .add .f32 n m))) ∧ Grw w w' := by
  have hm1 : ((n : Int) % 4294967296).toNat = n := by omega
  have hm2 : ((m : Int) % 4294967296).toNat = m := by omega
  go_enter Tryz.func90, Tryz.ntmps90
  go_wp2_with (first | (go_at_call 89; refine (rf_any _ _).mono ?_; rintro e w' ⟨rfl, rfl⟩) | (go_at_call 92; refine (rbits_any _ (ar_lt _ _ _ _) _).mono ?_; rintro e w' ⟨rfl, rfl⟩))
  go_ret
  exact ⟨ret_val (int_val (canon_ar' _ _ _ _)), grown_arW (Grw.refl _) _ _ _ _⟩
theorem rsub_any (n m : Nat) (hn : n < 4294967296) (hm : m < 4294967296) (w : World) :
    Calls Tryz.prog 91 #[.int .i64 n, .int .i64 m] w fun e w' => e = .returned (.int .i64 (cnO (floatBits .sub .f32 n m))) ∧ Grw w w' := by
  have hm1 : ((n : Int) % 4294967296).toNat = n := by omega
  have hm2 : ((m : Int) % 4294967296).toNat = m := by omega
  go_enter Tryz.func91, Tryz.ntmps91
  go_wp2_with (first | (go_at_call 89; refine (rf_any _ _).mono ?_; rintro e w' ⟨rfl, rfl⟩) | (go_at_call 92; refine (rbits_any _ (ar_lt _ _ _ _) _).mono ?_; rintro e w' ⟨rfl, rfl⟩))
  go_ret
  exact ⟨ret_val (int_val (canon_ar' _ _ _ _)), grown_arW (Grw.refl _) _ _ _ _⟩
theorem rdiv_any (n m : Nat) (hn : n < 4294967296) (hm : m < 4294967296) (w : World) :
    Calls Tryz.prog 93 #[.int .i64 n, .int .i64 m] w fun e w' => e = .returned (.int .i64 (cnO (floatBits .quo .f32 n m))) ∧ Grw w w' := by
  have hm1 : ((n : Int) % 4294967296).toNat = n := by omega
  have hm2 : ((m : Int) % 4294967296).toNat = m := by omega
  go_enter Tryz.func93, Tryz.ntmps93
  go_wp2_with (first | (go_at_call 89; refine (rf_any _ _).mono ?_; rintro e w' ⟨rfl, rfl⟩) | (go_at_call 92; refine (rbits_any _ (ar_lt _ _ _ _) _).mono ?_; rintro e w' ⟨rfl, rfl⟩))
  go_ret
  exact ⟨ret_val (int_val (canon_ar' _ _ _ _)), grown_arW (Grw.refl _) _ _ _ _⟩

theorem okF_ref (x : Int) : okF x = (decide (0 ≤ x) && decide (x < 4294967296) && (!isNaN single (x % 4294967296).toNat || x == 2143289344)) := by
  unfold okF isN
  by_cases h : 0 ≤ x ∧ x < 4294967296
  · have e : (x % 4294967296).toNat = x.toNat := by omega
    rw [e]; simp [h.1, h.2]
  · rw [show decide (0 ≤ x ∧ x < 4294967296) = false by simpa using h]
    rcases (by omega : ¬ 0 ≤ x ∨ ¬ x < 4294967296) with g | g <;> simp [g]

attribute [local irreducible] isNaN sv mg

set_option maxHeartbeats 400000 in
theorem rcheck_any (t x : Int) (w : World) :
    Calls Tryz.prog 46 #[.int .i64 t, .int .i64 x] w fun e w' => e = .returned (.bool (chk t x)) ∧ w = w' := by
  have hr := okF_ref x
  have HR := Lib.hid hr
  clear hr
  go_enter Tryz.func46, Tryz.ntmps46
  go_wp2_with (go_at_call 89; refine (rf_any _ _).mono ?_; rintro e w' ⟨rfl, rfl⟩)
  all_goals (go_ret; go_light; refine ⟨ret_val (bool_val ?_), rfl⟩)
  all_goals (have hr := HR.out; clear HR; (try simp only [ord_refl_iff, Bool.beq_eq_decide_eq] at *); unfold chk; grind)

end Go.Proofs.YtagiipecfdmceaaGreatDoor.Nm

namespace Go.Proofs.YtagiipecfdmceaaGreatDoor.Nm
open Go.RowKit Ieee Fl

theorem same_zero {n m : Nat} (hn : n < 4294967296) (hm : m < 4294967296) (h : sv single n = sv single m) : n = m ∨ (sv single n = 0 ∧ sv single m = 0) := by
  rcases same_sv hn hm h with rfl | ⟨h1, h2⟩
  · exact Or.inl rfl
  · have a1 : n = 0 ∨ n = 2147483648 := by omega
    have a2 : m = 0 ∨ m = 2147483648 := by omega
    right
    rcases a1 with rfl | rfl <;> rcases a2 with rfl | rfl <;> exact ⟨by decide, by decide⟩

theorem rord_zero (n : Nat) : (FloatKind.f32.format.order n 0 = some .eq) = (isNaN single n = false ∧ sv single n = 0) := by
  have h := ord_zero_eq n
  rw [Bool.eq_iff_iff] at h
  simpa using h

theorem nan_iff {n : Nat} (h : isNaN single n = true → n = 2143289344) : isNaN single n = decide ((n : Int) = 2143289344) := by
  cases g : isNaN single n
  · by_cases e : n = 2143289344
    · subst e; exact absurd g (by decide)
    · symm; simp; omega
  · have := h g; subst this; rfl

attribute [local irreducible] chk okF optS opt0 isNaN sv mg wholeT cutT

set_option maxHeartbeats 2000000 in
theorem rfloat2_any (op : ByteArray) (n m : Nat) (hn : n < 4294967296) (hm : m < 4294967296) (cn : isNaN single n = true → n = 2143289344) (cm : isNaN single m = true → m = 2143289344) (w : World) :
    Calls Tryz.prog 47 #[.string op, .int .i64 (n : Int), .int .i64 (m : Int)] w fun e w' => e = .returned (.tuple #[.int .i64 (opt0 (binF op.toList n m)), .bool (optS (binF op.toList n m))]) ∧ Grw w w' := by
  have hm1 : ((n : Int) % 4294967296).toNat = n := by omega
  have hm2 : ((m : Int) % 4294967296).toNat = m := by omega
  have HS := Lib.hid (same_zero hn hm)
  have HN := Lib.hid (nan_iff cn)
  have HM := Lib.hid (nan_iff cm)
  clear cn cm
  go_enter Tryz.func47, Tryz.ntmps47
  go_wp2_with (first | (go_at_call 89; refine (rf_any _ _).mono ?_; rintro e w' ⟨rfl, rfl⟩) | (go_at_call 92; refine (rbits_any _ (ar_lt _ _ _ _) _).mono ?_; rintro e w' ⟨rfl, rfl⟩) | (go_at_call 50; refine (rtruth_any _ _).mono ?_; rintro e w' ⟨rfl, rfl⟩) | (go_at_call 90; refine (radd_any _ _ hn hm _).mono ?_; rintro e w' ⟨rfl, hg⟩) | (go_at_call 91; refine (rsub_any _ _ hn hm _).mono ?_; rintro e w' ⟨rfl, hg⟩) | (go_at_call 93; refine (rdiv_any _ _ hn hm _).mono ?_; rintro e w' ⟨rfl, hg⟩))
  all_goals go_ret2
  all_goals go_light
  all_goals
    have hs := HS.out
    have hn1 := HN.out
    have hm3 := HM.out
    clear HS HN HM hm1 hm2
    generalize op.toList = L at *
    try simp only [rord_zero, ord_zero_eq] at *
    try simp only [ord_E, ord_L, ord_G] at *
    refine ⟨ret2_val (int_val ?_) (bool_val ?_), ?_⟩
    · try simp only [canon_ar']
      unfold binF isN opt0
      simp only [Int.toNat_natCast]
      grind
    · unfold binF optS
      clear hs
      grind
    · repeat (with_reducible first | assumption | exact Grw.refl _ | apply grown_arW)

attribute [local irreducible] binI flg

def okI (op : List UInt8) : Bool := decide (op = [65, 100, 100] ∨ op = [83, 117, 98] ∨ op = [77, 117, 108] ∨ op = [68, 105, 118] ∨ op = [77, 97, 120] ∨ op = [77, 105, 110] ∨ op = [69, 113, 117, 97, 108] ∨ op = [76, 101, 115, 115] ∨ op = [71, 114, 101, 97, 116, 101, 114])
theorem binI_none {op : List UInt8} (t x y : Int) (h : okI op = false) : binI op t x y = (0, 1) := by
  unfold okI at h
  unfold binI
  grind

def intI (op : List UInt8) (t x y : Int) : Int × Int := if okI op = true then binI op t x y else (0, 0)
attribute [local irreducible] okI intI
theorem ret3_val {a b c d f g : Value} (h : a = d) (i : b = f) (j : c = g) : Ending.returned (.tuple #[a, b, c]) = Ending.returned (.tuple #[d, f, g]) := by rw [h, i, j]

set_option maxHeartbeats 2000000 in
theorem rint2_any (op : ByteArray) (t x y : Int) (h0 : -9223372036854775808 ≤ x) (h1 : x ≤ 9223372036854775807) (w : World) :
    Calls Tryz.prog 49 #[.string op, .int .i64 t, .int .i64 x, .int .i64 y] w fun e w' => e = .returned (.tuple #[.int .i64 (intI op.toList t x y).1, .int .i64 (intI op.toList t x y).2, .bool (okI op.toList)]) ∧ w = w' := by
  have hq := quo_in (y := y) h0 h1
  have HQ := Lib.hid hq
  clear hq
  cases hy : (y == 0)
  · have hy2 : ¬ y = 0 := by simpa using hy
    go_enter Tryz.func49, Tryz.ntmps49
    go_wp2_with (first | (go_at_call 50; refine (rtruth_any _ _).mono ?_; rintro e w' ⟨rfl, rfl⟩) | (go_at_call 94; refine (rwrap_any _ _ _).mono ?_; rintro e w' ⟨rfl, rfl⟩))
    all_goals go_ret3
    all_goals go_light
    all_goals
      have hq := HQ.out
      clear HQ
      generalize op.toList = L at *
      refine ⟨ret3_val (int_val ?_) (int_val ?_) (bool_val ?_), rfl⟩
      all_goals
        first
          | (unfold intI okI binI; grind)
          | (unfold intI okI; grind)
          | (unfold okI; grind)
  · go_enter Tryz.func49, Tryz.ntmps49
    go_wp2_with (first | (go_at_call 50; refine (rtruth_any _ _).mono ?_; rintro e w' ⟨rfl, rfl⟩) | (go_at_call 94; refine (rwrap_any _ _ _).mono ?_; rintro e w' ⟨rfl, rfl⟩))
    all_goals go_ret3
    all_goals go_light
    all_goals
      have hq := HQ.out
      clear HQ
      generalize op.toList = L at *
      refine ⟨ret3_val (int_val ?_) (int_val ?_) (bool_val ?_), rfl⟩
      all_goals
        first
          | (unfold intI okI binI; grind)
          | (unfold intI okI; grind)
          | (unfold okI; grind)


theorem rbinary_bad (op : ByteArray) (t x y : Int) (hc : chk t x = false ∨ (chk t x = true ∧ chk t y = false)) (w : World) :
    Calls Tryz.prog 21 #[.string op, .int .i64 t, .int .i64 x, .int .i64 y] w fun e w' => e = .returned (.tuple #[.int .i64 (bin op.toList t x y).1, .int .i64 (bin op.toList t x y).2]) ∧ Grw w w' := by
  have e : bin op.toList t x y = (0, 1) := by unfold bin binR; rw [if_pos (by rcases hc with h | h; exact Or.inl h; exact Or.inr h.2)]
  rw [e]
  clear e
  rcases hc with hc | ⟨hc, hd⟩
  all_goals
    go_enter Tryz.func21, Tryz.ntmps21
    go_wp2_with (go_at_call 46; refine (rcheck_any _ _ _).mono ?_; rintro e w' ⟨rfl, rfl⟩)
    go_ret2
    exact ⟨rfl, Grw.refl _⟩

theorem one_whole {t : Int} (hw : wholeT t = true) : (t == 1) = false := by
  unfold wholeT at hw
  have e2 : t = 6 ∨ t = 7 := by simpa using hw
  rcases e2 with rfl | rfl <;> decide

set_option maxHeartbeats 1000000 in
theorem rbinary_whole (op : ByteArray) (t x y : Int) (h0 : -9223372036854775808 ≤ x) (h1 : x ≤ 9223372036854775807) (hc : chk t x = true) (hd : chk t y = true) (hw : wholeT t = true) (ht : (t == 1) = false) (w : World) :
    Calls Tryz.prog 21 #[.string op, .int .i64 t, .int .i64 x, .int .i64 y] w fun e w' => e = .returned (.tuple #[.int .i64 (bin op.toList t x y).1, .int .i64 (bin op.toList t x y).2]) ∧ Grw w w' := by
  have e : bin op.toList t x y = binI op.toList t x y := by unfold bin binR; rw [if_neg (by rw [hc, hd]; decide), if_pos hw]
  rw [e]
  clear e
  have hi := rint2_any op t x y h0 h1
  cases hk : okI op.toList
  · rw [binI_none t x y hk]
    unfold intI at hi
    rw [hk] at hi
    simp only [Bool.false_eq_true, if_false] at hi
    have HI := Lib.hid hi
    clear hi hk
    go_enter Tryz.func21, Tryz.ntmps21
    go_wp2_with (first | (go_at_call 46; refine (rcheck_any _ _ _).mono ?_; rintro e w' ⟨rfl, rfl⟩) | (go_at_call 48; refine (rwhole_any _ _).mono ?_; rintro e w' ⟨rfl, rfl⟩) | (go_at_call 49; refine (HI.out _).mono ?_; rintro e w' ⟨rfl, rfl⟩))
    go_ret2
    exact ⟨rfl, Grw.refl _⟩
  · unfold intI at hi
    rw [hk] at hi
    simp only [if_true] at hi
    generalize binI op.toList t x y = p at *
    obtain ⟨a, e⟩ := p
    have HI := Lib.hid hi
    clear hi hk
    go_enter Tryz.func21, Tryz.ntmps21
    go_wp2_with (first | (go_at_call 46; refine (rcheck_any _ _ _).mono ?_; rintro e w' ⟨rfl, rfl⟩) | (go_at_call 48; refine (rwhole_any _ _).mono ?_; rintro e w' ⟨rfl, rfl⟩) | (go_at_call 49; refine (HI.out _).mono ?_; rintro e w' ⟨rfl, rfl⟩))
    go_ret2
    exact ⟨rfl, Grw.refl _⟩

set_option maxHeartbeats 1000000 in
theorem rbinary_float (op : ByteArray) (t : Int) (n m : Nat) (hn : n < 4294967296) (hm : m < 4294967296) (cn : isNaN single n = true → n = 2143289344) (cm : isNaN single m = true → m = 2143289344) (ht : (t == 1) = true) (hc : chk t n = true) (hd : chk t m = true) (hw : wholeT t = false) (w : World) :
    Calls Tryz.prog 21 #[.string op, .int .i64 t, .int .i64 (n : Int), .int .i64 (m : Int)] w fun e w' => e = .returned (.tuple #[.int .i64 (bin op.toList t n m).1, .int .i64 (bin op.toList t n m).2]) ∧ Grw w w' := by
  unfold bin
  rw [hc, hd, hw]
  have hof := rfloat2_any op n m hn hm cn cm
  clear cn cm
  generalize binF op.toList n m = o at *
  have HOF := Lib.hid hof
  clear hof
  have HT1 := Lib.hid (show t = 1 by simpa using ht)
  generalize binI op.toList t n m = i
  cases o
  all_goals
    go_enter Tryz.func21, Tryz.ntmps21
    go_wp2_with (first | (go_at_call 46; refine (rcheck_any _ _ _).mono ?_; rintro e w' ⟨rfl, rfl⟩) | (go_at_call 47; refine (HOF.out _).mono ?_; simp only [opt0, optS, Option.getD_some, Option.getD_none, Option.isSome_some, Option.isSome_none]; rintro e w1 ⟨rfl, hg⟩))
    go_ret2
    go_light
    refine ⟨ret2_val (int_val ?_) (int_val ?_), by assumption⟩
    all_goals
      have ht1 := HT1.out
      clear HOF HT1
      unfold binR
      simp [ht1]

theorem bool_mul {x y : Int} (hx : x = 0 ∨ x = 1) (hy : y = 0 ∨ y = 1) : wrap64 (x * y) = x * y := by
  rcases hx with rfl | rfl <;> rcases hy with rfl | rfl <;> (unfold wrap64; decide)

set_option maxHeartbeats 1000000 in
theorem rbinary_rest (op : ByteArray) (t x y : Int) (ht : (t == 1) = false) (hc : chk t x = true) (hd : chk t y = true) (hw : wholeT t = false) (hb : wrap64 (x * y) = x * y) (w : World) :
    Calls Tryz.prog 21 #[.string op, .int .i64 t, .int .i64 x, .int .i64 y] w fun e w' => e = .returned (.tuple #[.int .i64 (bin op.toList t x y).1, .int .i64 (bin op.toList t x y).2]) ∧ Grw w w' := by
  unfold bin
  rw [hc, hd, hw]
  have HB := Lib.hid hb
  clear hb
  generalize binF op.toList x y = o
  generalize binI op.toList t x y = i
  go_enter Tryz.func21, Tryz.ntmps21
  go_wp2_with (first | (go_at_call 46; refine (rcheck_any _ _ _).mono ?_; rintro e w' ⟨rfl, rfl⟩) | (go_at_call 48; refine (rwhole_any _ _).mono ?_; rintro e w' ⟨rfl, rfl⟩) | (go_at_call 50; refine (rtruth_any _ _).mono ?_; rintro e w' ⟨rfl, rfl⟩))
  all_goals go_ret2
  all_goals go_light
  all_goals
    refine ⟨ret2_val (int_val ?_) (int_val ?_), Grw.refl _⟩
    all_goals
      have hb := HB.out
      clear HB
      unfold binR
      grind

/-- THE REFERENCE's BINARY: whatever it is given. -/
theorem rbinary_any (op : ByteArray) (t x y : Int) (h0 : -9223372036854775808 ≤ x) (h1 : x ≤ 9223372036854775807) (w : World) :
    Calls Tryz.prog 21 #[.string op, .int .i64 t, .int .i64 x, .int .i64 y] w fun e w' => e = .returned (.tuple #[.int .i64 (bin op.toList t x y).1, .int .i64 (bin op.toList t x y).2]) ∧ Grw w w' := by
  cases hc : chk t x
  · exact rbinary_bad op t x y (Or.inl hc) w
  · cases hd : chk t y
    · exact rbinary_bad op t x y (Or.inr ⟨hc, hd⟩) w
    · cases hw : wholeT t
      · cases ht : (t == 1)
        · exact rbinary_rest op t x y ht hc hd hw (bool_mul (chk_cases hc ht hw) (chk_cases hd ht hw)) w
        · obtain ⟨n, rfl, hn, cn⟩ := okF_word (okF_of_chk ht hc)
          obtain ⟨m, rfl, hm, cm⟩ := okF_word (okF_of_chk ht hd)
          exact rbinary_float op t n m hn hm cn cm ht hc hd hw w
      · exact rbinary_whole op t x y h0 h1 hc hd hw (one_whole hw) w

end Go.Proofs.YtagiipecfdmceaaGreatDoor.Nm
