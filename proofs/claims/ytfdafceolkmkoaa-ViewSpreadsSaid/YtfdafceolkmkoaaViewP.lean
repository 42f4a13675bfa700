/- Coordinates row by row, as plain lists: no program in sight. -/
import Derived.Test.YtfdafceolkmkoaaViewC
set_option linter.unusedVariables false
namespace Go.Proofs.Ytfdafceolkmkoaa
namespace Vw

/-- The product of dimensions. -/
def pr : List Int → Int
  | [] => 1
  | d :: ds => d * pr ds

/-- The coordinates of element k. -/
def crd : List Int → Int → List Int
  | [], _ => []
  | _ :: ds, k => k / pr ds :: crd ds (k % pr ds)

/-- Where coordinates come to. -/
def plc : List Int → List Int → Int
  | s :: ss, c :: cs => c * s + plc ss cs
  | _, _ => 0

def zeros : List Int → List Int
  | [] => []
  | _ :: ds => 0 :: zeros ds

/-- The next coordinates. -/
def nxt : List Int → List Int → Option (List Int)
  | d :: ds, c :: cs => match nxt ds cs with
    | some t => some (c :: t)
    | none => if c + 1 < d then some ((c + 1) :: zeros ds) else none
  | _, _ => none

def Pos (ds : List Int) : Prop := ∀ d ∈ ds, 1 ≤ d

theorem Pos.head {d : Int} {ds : List Int} (h : Pos (d :: ds)) : 1 ≤ d := h d (by simp)
theorem Pos.tail {d : Int} {ds : List Int} (h : Pos (d :: ds)) : Pos ds := fun x hx => h x (by simp [hx])

theorem pr_pos : ∀ {ds : List Int}, Pos ds → 1 ≤ pr ds
  | [], _ => by decide
  | d :: ds, h => mul_pos' h.head (pr_pos h.tail)

theorem crd_zero : ∀ {ds : List Int}, crd ds 0 = zeros ds
  | [] => rfl
  | d :: ds => by simp [crd, zeros, crd_zero]

theorem crd_length : ∀ {ds : List Int} {k : Int}, (crd ds k).length = ds.length
  | [], _ => rfl
  | d :: ds, k => by simp [crd, crd_length]

theorem zeros_length : ∀ {ds : List Int}, (zeros ds).length = ds.length
  | [] => rfl
  | d :: ds => by simp [zeros, zeros_length]

theorem nxt_crd : ∀ {ds : List Int} {k : Int}, Pos ds → 0 ≤ k → k < pr ds → nxt ds (crd ds k) = if k + 1 < pr ds then some (crd ds (k + 1)) else none
  | [], k, _, h0, h1 => by
    have : k = 0 := by simp [pr] at h1; omega
    subst this
    simp [nxt, pr]
  | d :: ds, k, h, h0, h1 => by
    have hP := pr_pos h.tail
    have hd := h.head
    have hm0 := Int.emod_nonneg k (show pr ds ≠ 0 by omega)
    have hm1 := Int.emod_lt_of_pos k (show 0 < pr ds by omega)
    have ih := nxt_crd (ds := ds) (k := k % pr ds) h.tail hm0 hm1
    have hdm := Int.mul_ediv_add_emod k (pr ds)
    have hq0 : 0 ≤ k / pr ds := Int.ediv_nonneg h0 (by omega)
    have hqd : k / pr ds < d := Int.ediv_lt_of_lt_mul (by omega) h1
    show (match nxt ds (crd ds (k % pr ds)) with | some t => some (k / pr ds :: t) | none => if k / pr ds + 1 < d then some ((k / pr ds + 1) :: zeros ds) else none) = if k + 1 < d * pr ds then some ((k + 1) / pr ds :: crd ds ((k + 1) % pr ds)) else none
    rw [ih]
    generalize pr ds = P at *
    generalize hq : k / P = q at *
    generalize hr : k % P = r at *
    by_cases g : r + 1 < P
    · rw [if_pos g]
      have e1 : (k + 1) / P = q := by
        rw [← hdm, show P * q + r + 1 = (r + 1) + P * q by omega, Int.add_mul_ediv_left _ _ (by omega), Int.ediv_eq_zero_of_lt (by omega) g]; omega
      have e2 : (k + 1) % P = r + 1 := by
        rw [← hdm, show P * q + r + 1 = (r + 1) + P * q by omega, Int.add_mul_emod_self_left, Int.emod_eq_of_lt (by omega) g]
      have e3 : k + 1 < d * P := by
        have : (q + 1) * P ≤ d * P := Int.mul_le_mul_of_nonneg_right (by omega) (by omega)
        have e4 : (q + 1) * P = P * q + P := by rw [Int.add_mul, Int.mul_comm]; omega
        omega
      rw [if_pos e3, e1, e2]
    · rw [if_neg g]
      have hr1 : r + 1 = P := by omega
      have e0 : k + 1 = P * (q + 1) := by rw [← hdm, Int.mul_add]; omega
      have e1 : (k + 1) / P = q + 1 := by rw [e0, Int.mul_ediv_cancel_left _ (by omega)]
      have e2 : (k + 1) % P = 0 := by rw [e0, Int.mul_emod_right]
      by_cases g2 : q + 1 < d
      · have e3 : k + 1 < d * P := by
          rw [e0, Int.mul_comm]; exact Int.mul_lt_mul_of_pos_right g2 (by omega)
        simp only [if_pos g2, if_pos e3, e1, e2, crd_zero]
      · have e3 : ¬ k + 1 < d * P := by
          have : d * P ≤ (q + 1) * P := Int.mul_le_mul_of_nonneg_right (by omega) (by omega)
          rw [e0, Int.mul_comm P]; omega
        simp only [if_neg g2, if_neg e3]

theorem crd_range : ∀ {ds : List Int} {k : Int}, Pos ds → 0 ≤ k → k < pr ds → ∀ j, j < ds.length → 0 ≤ (crd ds k).getD j 0 ∧ (crd ds k).getD j 0 < ds.getD j 0
  | [], k, _, _, _, j, hj => by simp at hj
  | d :: ds, k, h, h0, h1, j, hj => by
    have hP := pr_pos h.tail
    cases j with
    | zero =>
      show 0 ≤ k / pr ds ∧ k / pr ds < d
      exact ⟨Int.ediv_nonneg h0 (by omega), Int.ediv_lt_of_lt_mul (by omega) h1⟩
    | succ j =>
      have := crd_range (ds := ds) (k := k % pr ds) h.tail (Int.emod_nonneg k (by omega)) (Int.emod_lt_of_pos k (by omega)) j (by simpa using hj)
      simpa [crd] using this

/-- The next coordinates, from a place on. -/
theorem nxt_at : ∀ {ds cs : List Int} {i : Nat} {t : List Int}, cs.length = ds.length → i ≤ ds.length → nxt (ds.drop i) (cs.drop i) = some t → nxt ds cs = some (cs.take i ++ t)
  | ds, cs, 0, t, _, _, h => by simpa using h
  | [], cs, i + 1, t, _, hi, _ => by simp at hi
  | d :: ds, [], i + 1, t, hl, _, _ => by simp at hl
  | d :: ds, c :: cs, i + 1, t, hl, hi, h => by
    have := nxt_at (ds := ds) (cs := cs) (i := i) (t := t) (by simpa using hl) (by simpa using hi) (by simpa using h)
    simp [nxt, this]

theorem nxt_here {ds cs : List Int} {i : Nat} (hl : cs.length = ds.length) (hi : i < ds.length) (h : nxt (ds.drop (i + 1)) (cs.drop (i + 1)) = none) :
    nxt (ds.drop i) (cs.drop i) = if cs.getD i 0 + 1 < ds.getD i 0 then some ((cs.getD i 0 + 1) :: zeros (ds.drop (i + 1))) else none := by
  rw [drop_next hi, drop_next (zs := cs) (by omega)]
  simp only [nxt, h]

/-- Where they come to, in two parts. -/
theorem plc_split : ∀ {ss cs : List Int} {i : Nat}, i ≤ ss.length → i ≤ cs.length → plc ss cs = plc (ss.take i) (cs.take i) + plc (ss.drop i) (cs.drop i)
  | ss, cs, 0, _, _ => by simp [plc]
  | [], _, i + 1, h, _ => by simp at h
  | _ :: _, [], i + 1, _, h => by simp at h
  | s :: ss, c :: cs, i + 1, h, g => by
    have := plc_split (ss := ss) (cs := cs) (i := i) (by simpa using h) (by simpa using g)
    simp only [plc, List.take_succ_cons, List.drop_succ_cons]
    omega

theorem plc_zeros : ∀ {ss ds : List Int}, plc ss (zeros ds) = 0
  | [], _ => by simp [plc]
  | s :: ss, [] => by simp [plc, zeros]
  | s :: ss, d :: ds => by simp [plc, zeros, plc_zeros]

end Vw
end Go.Proofs.Ytfdafceolkmkoaa
