/- Plain facts on floats, last part: what comes back into a single without overflow; roots and whole numbers below; comparisons as order of numbers; Exp as a whole; the one NaN. No program in sight. -/
import Derived.Test.YtepmacimknblpaaFloatF
namespace Go.Proofs.Ytepmacimknblpaa
namespace Fl
open Ieee
attribute [local irreducible] pw U T P925 V1

theorem infS : single.infRung = 2139095040 := by decide
theorem swS : single.signWeight = 2147483648 := by decide
theorem binS : single.binade = 8388608 := by decide

/-- Half a step above a rung still rounds to it. -/
theorem near_le_half {f : Format} {mag : Nat} {place : Int} {c : Nat} (hm : mag ≠ 0)
    (h : 2 * (mag * 2 ^ (place - f.leastPlace).toNat) < (mg f c + mg f (c + 1)) * 2 ^ (f.leastPlace - place).toNat) : rnd f mag place ≤ c := by
  have hB := binade_pos f
  by_cases hle : mag * 2 ^ (place - f.leastPlace).toNat ≤ mg f c * 2 ^ (f.leastPlace - place).toNat
  · exact rnd_le hle
  have h1 : 2 ^ mag.log2 ≤ mag := Nat.log2_self_le hm
  have h2 : mag < 2 ^ (mag.log2 + 1) := Nat.lt_log2_self
  unfold rnd
  rw [if_neg hm]
  generalize mag.log2 = lg at *
  let last := max (place + lg - f.fractionBits) f.leastPlace
  have hlast : last = max (place + lg - f.fractionBits) f.leastPlace := rfl
  show min ((last - f.leastPlace).toNat * f.binade + Toward.even.cut false (mag <<< (place - last).toNat) (last - place).toNat) f.infRung ≤ c
  generalize hE : (last - f.leastPlace).toNat = E
  generalize hu : (place - last).toNat = u
  generalize hd : (last - place).toNat = dn
  generalize ha : (place - f.leastPlace).toNat = a at *
  generalize hq : (f.leastPlace - place).toNat = d at *
  have hbin : f.binade = 2 ^ f.fractionBits := rfl
  generalize hfb : f.fractionBits = fb at *
  have hpw : 2 ^ u * (2 ^ E * 2 ^ d) = 2 ^ dn * 2 ^ a := by
    rw [← Nat.pow_add, ← Nat.pow_add, ← Nat.pow_add]
    congr 1
    omega
  have hpE : 0 < 2 ^ E * 2 ^ d := Nat.mul_pos (Nat.two_pow_pos _) (Nat.two_pow_pos _)
  have hlt : mag * 2 ^ a < 2 * f.binade * (2 ^ E * 2 ^ d) := by
    rw [hbin]
    have h3 : mag * 2 ^ a < 2 ^ (lg + 1) * 2 ^ a := Nat.mul_lt_mul_of_pos_right h2 (Nat.two_pow_pos _)
    refine Nat.lt_of_lt_of_le h3 ?_
    rw [show 2 * 2 ^ fb * (2 ^ E * 2 ^ d) = 2 ^ (fb + 1 + (E + d)) from by
      rw [Nat.pow_add, Nat.pow_add 2 E d, Nat.pow_succ]; ac_rfl, ← Nat.pow_add]
    exact Nat.pow_le_pow_right (by decide) (by omega)
  have hge : E = 0 ∨ f.binade * (2 ^ E * 2 ^ d) ≤ mag * 2 ^ a := by
    by_cases h0 : E = 0
    · exact Or.inl h0
    · right
      rw [hbin]
      have h3 : 2 ^ lg * 2 ^ a ≤ mag * 2 ^ a := Nat.mul_le_mul_right _ h1
      refine Nat.le_trans ?_ h3
      rw [← Nat.pow_add, ← Nat.pow_add, ← Nat.pow_add]
      exact Nat.pow_le_pow_right (by decide) (by omega)
  have half : ∀ N, 2 * (mag * 2 ^ a) < (2 * N + 1) * (2 ^ E * 2 ^ d) → Toward.even.cut false (mag <<< u) dn ≤ N := by
    intro N hN
    refine cut_le_half ?_
    rw [Nat.shiftLeft_eq]
    refine Nat.lt_of_mul_lt_mul_right (a := 2 ^ E * 2 ^ d) ?_
    calc 2 * (mag * 2 ^ u) * (2 ^ E * 2 ^ d) = 2 ^ dn * (2 * (mag * 2 ^ a)) := by
          rw [show 2 * (mag * 2 ^ u) * (2 ^ E * 2 ^ d) = 2 * mag * (2 ^ u * (2 ^ E * 2 ^ d)) by ac_rfl, hpw]; ac_rfl
      _ < 2 ^ dn * ((2 * N + 1) * (2 ^ E * 2 ^ d)) := Nat.mul_lt_mul_of_pos_left hN (Nat.two_pow_pos _)
      _ = (2 * N + 1) * 2 ^ dn * (2 ^ E * 2 ^ d) := by ac_rfl
  have hk2 : Toward.even.cut false (mag <<< u) dn ≤ 2 * f.binade := half _ (by
    have : (2 * (2 * f.binade) + 1) * (2 ^ E * 2 ^ d) = 2 * (2 * f.binade * (2 ^ E * 2 ^ d)) + 2 ^ E * 2 ^ d := by rw [Nat.add_mul, Nat.mul_assoc]; simp
    omega)
  refine Nat.le_trans (Nat.min_le_left _ _) ?_
  have hDp : 0 < 2 ^ d := Nat.two_pow_pos _
  by_cases hlow : c < f.binade
  · have hc1 : mg f (c + 1) = c + 1 := by
      by_cases h9 : c + 1 < f.binade
      · exact mg_low h9
      · have h8 : c + 1 = f.binade := by omega
        rw [mg_high (by omega), h8, Nat.div_self hB, Nat.mod_self]; simp
    rw [mg_low hlow, hc1] at h
    rcases hge with h0 | h0
    · subst h0
      have := half c (by rw [Nat.pow_zero, Nat.one_mul]; rw [show c + (c + 1) = 2 * c + 1 by omega] at h; exact h)
      omega
    · exfalso
      have h3 : f.binade * 2 ^ d ≤ f.binade * (2 ^ E * 2 ^ d) := Nat.mul_le_mul_left _ (Nat.le_mul_of_pos_left _ (Nat.two_pow_pos _))
      have h4 : (c + (c + 1)) * 2 ^ d ≤ 2 * (f.binade * 2 ^ d) := by
        rw [← Nat.mul_assoc]; exact Nat.mul_le_mul_right _ (by omega)
      omega
  · have hcb : f.binade ≤ c := by omega
    have hdm := Nat.div_add_mod c f.binade
    have hmod := Nat.mod_lt c hB
    have hq1 : 1 ≤ c / f.binade := (Nat.le_div_iff_mul_le hB).2 (by omega)
    have hc1 : mg f (c + 1) = (f.binade + c % f.binade + 1) * 2 ^ (c / f.binade - 1) := by
      by_cases h9 : c % f.binade + 1 < f.binade
      · have e1 : (c + 1) / f.binade = c / f.binade := by
          refine Nat.div_eq_of_lt_le ?_ ?_
          · rw [Nat.mul_comm]; omega
          · rw [Nat.succ_mul, Nat.mul_comm (c / f.binade)]; omega
        have e2 : (c + 1) % f.binade = c % f.binade + 1 := by
          have := Nat.div_add_mod (c + 1) f.binade
          rw [e1] at this; omega
        rw [mg_high (by omega), e1, e2]; rfl
      · have h8 : c + 1 = f.binade * (c / f.binade + 1) := by rw [Nat.mul_add]; omega
        have e1 : (c + 1) / f.binade = c / f.binade + 1 := by rw [h8]; exact Nat.mul_div_cancel_left _ hB
        have e2 : (c + 1) % f.binade = 0 := by rw [h8]; exact Nat.mul_mod_right _ _
        rw [mg_high (by omega), e1, e2, show c / f.binade + 1 - 1 = (c / f.binade - 1) + 1 by omega, Nat.pow_succ, show f.binade + c % f.binade + 1 = 2 * f.binade by omega]
        simp; ac_rfl
    rw [mg_high hcb, hc1] at h
    generalize c / f.binade = q at *
    generalize c % f.binade = t at *
    rcases Nat.lt_trichotomy E (q - 1) with hlt' | heq | hgt
    · have : (E + 2) * f.binade ≤ q * f.binade := Nat.mul_le_mul_right _ (by omega)
      have e1 : (E + 2) * f.binade = E * f.binade + 2 * f.binade := Nat.add_mul _ _ _
      have e2 : q * f.binade = f.binade * q := Nat.mul_comm _ _
      omega
    · subst heq
      have := half (f.binade + t) (by
        refine Nat.lt_of_lt_of_eq h ?_
        rw [← Nat.add_mul, Nat.mul_assoc]; congr 1; omega)
      have e1 : f.binade * q = (q - 1) * f.binade + f.binade := by
        rw [Nat.mul_comm, ← Nat.succ_mul]; congr 1; omega
      omega
    · rcases hge with h0 | h0
      · omega
      · exfalso
        have h3 : 2 ^ (q - 1 + 1) ≤ 2 ^ E := Nat.pow_le_pow_right (by decide) (by omega)
        have h4 : f.binade * (2 ^ (q - 1 + 1) * 2 ^ d) ≤ f.binade * (2 ^ E * 2 ^ d) := Nat.mul_le_mul_left _ (Nat.mul_le_mul_right _ h3)
        have h5 : ((f.binade + t) * 2 ^ (q - 1) + (f.binade + t + 1) * 2 ^ (q - 1)) * 2 ^ d ≤ 2 * (f.binade * (2 ^ (q - 1 + 1) * 2 ^ d)) := by
          rw [← Nat.add_mul, Nat.pow_succ]
          calc (f.binade + t + (f.binade + t + 1)) * 2 ^ (q - 1) * 2 ^ d ≤ 4 * f.binade * 2 ^ (q - 1) * 2 ^ d := Nat.mul_le_mul_right _ (Nat.mul_le_mul_right _ (by omega))
            _ = 2 * (f.binade * (2 ^ (q - 1) * 2 * 2 ^ d)) := by
                rw [show 4 = 2 * 2 from rfl]; ac_rfl
        omega

theorem isNaN_write {f : Format} {d : Datum} (h : d.isNaN = false) : isNaN f (f.write d) = false ∧ f.write d < 2 ^ f.width := by
  refine ⟨?_, f.write_lt d⟩
  cases d with
  | number s m p => simp only [Format.write, nearest_eq]; exact isNaN_word (rnd_le_inf _ _ _)
  | infinity s => exact isNaN_word (Nat.le_refl _)
  | nan s t => cases h

theorem read_notNaN {f : Format} (hf : f.binade ≤ f.infRung) {w : Nat} (h : isNaN f w = false) : (f.read w).isNaN = false := by
  rcases Nat.lt_or_eq_of_le (le_inf_of h) with h1 | h1
  · obtain ⟨m, p, e, _, _⟩ := read_fin h1
    rw [e]; rfl
  · rw [read_inf hf h1]; rfl

theorem inf_of {f : Format} {w : Nat} (hn : isNaN f w = false) (hf : fin f w = false) : rung f w = f.infRung := by
  have h1 := le_inf_of hn
  have h2 : ¬ rung f w < f.infRung := by simpa [fin] using hf
  omega

/-! ### the one NaN -/

/-- A word as an element: of any NaN the one. -/
def canon (b : Nat) : Int := if isNaN single b then 2143289344 else (b : Int)
/-- A result, or the NaN. -/
def cnO (o : Option Nat) : Int := match o with | some r => (r : Int) | none => 2143289344

theorem canon_ar (op : BinOp) (x y : Nat) (w : World) (h : ∀ r, floatBits op .f32 x y = some r → isNaN single r = false) : canon (ar op .f32 x y w) = cnO (floatBits op .f32 x y) := by
  unfold ar
  cases e : floatBits op .f32 x y with
  | some r => simp [orNan, canon, h r e, cnO]
  | none =>
    have := nanBy_bits w .f32 x y
    have h2 : isNaN single (nanBy w (.nanBits .f32 x y)) = true := this
    simp [orNan, canon, h2, cnO]

theorem map_write_notNaN {f : Format} {o : Option Datum} (h : ∀ d, o = some d → d.isNaN = false) {r : Nat} (e : o.map f.write = some r) : isNaN f r = false ∧ r < 2 ^ f.width := by
  cases o with
  | none => cases e
  | some d => simp only [Option.map_some, Option.some.injEq] at e; subst e; exact isNaN_write (h d rfl)

theorem sum_notNaN (a b : Datum) : ∀ d, a.sum b = some d → d.isNaN = false := by
  intro d h
  cases a <;> cases b <;> simp only [Datum.sum, reduceCtorEq] at h
  all_goals first
    | (cases h; rfl)
    | (split at h <;> cases h; rfl)

theorem product_notNaN (a b : Datum) : ∀ d, a.product b = some d → d.isNaN = false := by
  intro d h
  cases a <;> cases b <;> simp only [Datum.product, reduceCtorEq] at h
  all_goals first
    | (cases h; rfl)
    | (split at h <;> cases h; rfl)

theorem quotient_notNaN (n : Nat) (a b : Datum) : ∀ d, a.quotient n b = some d → d.isNaN = false := by
  intro d h
  cases a <;> cases b <;> simp only [Datum.quotient, reduceCtorEq] at h
  all_goals first
    | (cases h; rfl)
    | (split at h
       · split at h <;> cases h; rfl
       · cases h; rfl)

theorem root_notNaN (n : Nat) (a : Datum) : ∀ d, a.root n = some d → d.isNaN = false := by
  intro d h
  cases a <;> simp only [Datum.root, reduceCtorEq] at h
  · split at h
    · cases h; rfl
    · split at h <;> cases h; rfl
  · split at h <;> cases h; rfl

theorem floatBits_notNaN {op : BinOp} {k : FloatKind} {x y r : Nat} (h : floatBits op k x y = some r) : isNaN k.format r = false ∧ r < 2 ^ k.format.width := by
  unfold floatBits at h
  split at h
  · exact map_write_notNaN (sum_notNaN _ _) h
  · exact map_write_notNaN (sum_notNaN _ _) h
  · exact map_write_notNaN (product_notNaN _ _) h
  · exact map_write_notNaN (quotient_notNaN _ _ _) h
  · cases h

theorem canon_ar' (op : BinOp) (x y : Nat) (w : World) : canon (ar op .f32 x y w) = cnO (floatBits op .f32 x y) :=
  canon_ar op x y w fun _ h => (floatBits_notNaN h).1

theorem ar_lt (op : BinOp) (x y : Nat) (w : World) : ar op .f32 x y w < 4294967296 := by
  unfold ar
  cases e : floatBits op .f32 x y with
  | some r => exact (floatBits_notNaN (k := .f32) e).2
  | none =>
    show nanBy w (.nanBits .f32 x y) < _
    have h : (nanBy w (.nanBits .f32 x y)) = (w.tape w.drawn (.nanBits .f32 x y) % 2) * 2 ^ 31 + 0x7f800000 + 1 + (w.tape w.drawn (.nanBits .f32 x y) / 2) % (2 ^ 23 - 1) := rfl
    rw [h]
    generalize w.tape w.drawn (.nanBits .f32 x y) = t
    have h1 : t % 2 = 0 ∨ t % 2 = 1 := by omega
    have h2 := Nat.mod_lt (t / 2) (show 2 ^ 23 - 1 > 0 by decide)
    generalize t / 2 % (2 ^ 23 - 1) = u at *
    rcases h1 with h | h <;> rw [h] <;> omega

theorem floatBits_nan {op : BinOp} {k : FloatKind} {x y : Nat} (h : isNaN k.format x = true ∨ isNaN k.format y = true) : floatBits op k x y = none := by
  have hf := okK k
  unfold floatBits
  rcases h with h | h
  · split <;> try rfl
    all_goals simp only [Format.add, Format.sub, Format.mul, Format.div, read_nan hf h]
    all_goals (cases k.format.read y <;> rfl)
  · split <;> try rfl
    all_goals simp only [Format.add, Format.sub, Format.mul, Format.div, read_nan hf h]
    all_goals (cases k.format.read x <;> rfl)

/-- Of a NaN, or of two words that have no sum (..), the tape's NaN. -/
theorem isNaN_ar_none {op : BinOp} {k : FloatKind} {x y : Nat} {w : World} (h : floatBits op k x y = none) : isNaN k.format (ar op k x y w) = true := by
  unfold ar; rw [h]; exact nanBy_bits w k x y

/-! ### comparisons -/

theorem ord_nan {f : Format} (hf : f.binade ≤ f.infRung) {a b : Nat} (h : isNaN f a = true ∨ isNaN f b = true) : f.order a b = none := by
  rcases h with h | h
  · exact order_nan_left hf h
  · exact order_nan_right hf h

theorem ord_lt {f : Format} (hf : f.binade ≤ f.infRung) {a b : Nat} (ha : isNaN f a = false) (hb : isNaN f b = false) : (f.order a b == some .lt) = decide (sv f a < sv f b) := by
  rw [order_eq hf ha hb]
  rcases Int.lt_trichotomy (sv f a) (sv f b) with h | h | h
  · rw [Int.compare_eq_lt.2 h]; simp [h]
  · rw [h]; simp
  · rw [Int.compare_eq_gt.2 h]; simp; omega

theorem ord_gt {f : Format} (hf : f.binade ≤ f.infRung) {a b : Nat} (ha : isNaN f a = false) (hb : isNaN f b = false) : (f.order a b == some .gt) = decide (sv f b < sv f a) := by
  rw [order_eq hf ha hb]
  rcases Int.lt_trichotomy (sv f a) (sv f b) with h | h | h
  · rw [Int.compare_eq_lt.2 h]; simp; omega
  · rw [h]; simp
  · rw [Int.compare_eq_gt.2 h]; simp [h]

theorem ord_eq {f : Format} (hf : f.binade ≤ f.infRung) {a b : Nat} (ha : isNaN f a = false) (hb : isNaN f b = false) : (f.order a b == some .eq) = decide (sv f a = sv f b) := by
  rw [order_eq hf ha hb]
  rcases Int.lt_trichotomy (sv f a) (sv f b) with h | h | h
  · rw [Int.compare_eq_lt.2 h]; simp; omega
  · rw [h]; simp
  · rw [Int.compare_eq_gt.2 h]; simp; omega

/-- A word is a NaN where it is not itself. -/
theorem ord_self {f : Format} (hf : f.binade ≤ f.infRung) (a : Nat) : (f.order a a != some .eq) = isNaN f a := by
  cases h : isNaN f a
  · rw [order_eq hf h h]; simp
  · rw [order_nan_left hf h]; rfl

end Fl
end Go.Proofs.Ytepmacimknblpaa
