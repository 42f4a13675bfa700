/- Where the greatest stands and the greatest, plain. -/
import Derived.Test.YtagiipecfdmceaaGreatDoorRdM4s
import Derived.Test.YtagiipecfdmceaaGreatDoorNrMs
set_option linter.unusedVariables false
set_option linter.unusedSimpArgs false
namespace Go.Proofs.YtagiipecfdmceaaGreatDoor
open Go.RowKit

set_option maxRecDepth 100000

namespace Vx
open Vw
theorem pr_snoc : ∀ (ds : List Int) (m : Int), pr (ds ++ [m]) = pr ds * m
  | [], m => by simp [pr]
  | x :: ds, m => by rw [List.cons_append, pr, pr, pr_snoc ds m, Int.mul_assoc]
theorem left_last (ds : List Int) (m : Int) : leftL (ds ++ [m]) [(ds.length : Int)] = ds ++ [1] := by
  show (ds ++ [m]).set ((ds.length : Int)).toNat 1 = _
  rw [Int.toNat_natCast, List.set_append_right _ _ (Nat.le_refl _), Nat.sub_self]
  rfl
theorem plc_last : ∀ {ds : List Int} {m k : Int}, Pos (ds ++ [m]) → 0 ≤ k → k < pr (ds ++ [m]) → plc (strd (ds ++ [1])) (ownc (ds ++ [1]) (crd (ds ++ [m]) k)) = k / m
  | [], m, k, hp, h0, h1 => by
    have h1' : k < m := by simpa [pr] using h1
    show plc [1] [0] = k / m
    rw [Int.ediv_eq_zero_of_lt h0 h1']
    rfl
  | x :: ds, m, k, hp, h0, h1 => by
    have hpt : Pos (ds ++ [m]) := hp.tail
    have hpd : 1 ≤ pr (ds ++ [m]) := pr_pos hpt
    have hm : 1 ≤ m := hpt m (by simp)
    have hx : 1 ≤ x := hp.head
    have h1' : k < x * pr (ds ++ [m]) := h1
    have hr0 : 0 ≤ k % pr (ds ++ [m]) := Int.emod_nonneg _ (by omega)
    have hr1 : k % pr (ds ++ [m]) < pr (ds ++ [m]) := Int.emod_lt_of_pos _ (by omega)
    have ih := plc_last (ds := ds) (m := m) (k := k % pr (ds ++ [m])) hpt hr0 hr1
    have hq : (if x = 1 then (0 : Int) else k / pr (ds ++ [m])) = k / pr (ds ++ [m]) := by
      by_cases e : x = 1
      · rw [if_pos e]
        subst e
        rw [Int.ediv_eq_zero_of_lt h0 (by omega)]
      · rw [if_neg e]
    show (if x = 1 then (0 : Int) else k / pr (ds ++ [m])) * pr (ds ++ [1]) + plc (strd (ds ++ [1])) (ownc (ds ++ [1]) (crd (ds ++ [m]) (k % pr (ds ++ [m])))) = k / m
    rw [hq, ih, pr_snoc ds 1, Int.mul_one]
    have hk : k = k % pr (ds ++ [m]) + (k / pr (ds ++ [m])) * pr ds * m := by
      have := Int.emod_add_mul_ediv k (pr (ds ++ [m]))
      rw [pr_snoc ds m] at this ⊢
      rw [Int.mul_assoc, Int.mul_comm (k / (pr ds * m))]
      omega
    have h2 : k / m = (k % pr (ds ++ [m]) + (k / pr (ds ++ [m])) * pr ds * m) / m := congrArg (· / m) hk
    rw [h2, Int.add_mul_ediv_right _ _ (by omega : m ≠ 0), Int.add_comm]
theorem grp_last {ds : List Int} {m : Nat} (hp : Pos (ds ++ [(m : Int)])) {k : Nat} (hk : (k : Int) < pr (ds ++ [(m : Int)])) : grp (ds ++ [(m : Int)]) (ds ++ [1]) k = k / m := by
  unfold grp
  rw [plc_last hp (by omega) hk, show (k : Int) / (m : Int) = ((k / m : Nat) : Int) from rfl, Int.toNat_natCast]
theorem rowOf_div {G : Nat → Nat} {data : List Int} {m j : Nat} (hm : 1 ≤ m) : ∀ {N : Nat}, (∀ k < N, G k = k / m) → rowOf G data N j = (List.range (min m (N - j * m))).map fun c => data.getD (j * m + c) 0
  | 0, _ => by rw [rowOf_zero]; simp
  | N + 1, h => by
    rw [rowOf_next, rowOf_div hm (N := N) (fun k hk => h k (by omega)), h N (by omega)]
    have e1 : j ≤ N / m ↔ j * m ≤ N := Nat.le_div_iff_mul_le (by omega)
    have e2 : N / m < j + 1 ↔ N < (j + 1) * m := Nat.div_lt_iff_lt_mul (by omega)
    rw [Nat.add_mul, Nat.one_mul] at e2
    by_cases c : N / m = j
    · have g1 : j * m ≤ N := e1.1 (by omega)
      have g2 : N < j * m + m := e2.1 (by omega)
      rw [if_pos c, show min m (N + 1 - j * m) = (N - j * m) + 1 by omega, show min m (N - j * m) = N - j * m by omega, List.range_succ, List.map_append]
      simp only [List.map_cons, List.map_nil]
      rw [show j * m + (N - j * m) = N by omega]
    · rw [if_neg c]
      have : min m (N + 1 - j * m) = min m (N - j * m) := by
        by_cases g1 : j * m ≤ N
        · have : ¬ N < j * m + m := fun g2 => c (by have := e1.2 g1; have := e2.2 g2; omega)
          omega
        · omega
      rw [this]
end Vx

/-! ### what an element is worth -/

def lEqual : List UInt8 := [69, 113, 117, 97, 108]
def wth (t z : Int) : Int := if t = 1 then Fl.sv Ieee.single z.toNat else z
def VN (t z : Int) : Prop := Fl.chk t z = true ∧ (t = 1 → Fl.isN z = false)
theorem flg_one (b : Bool) : Fl.flg b = 1 ↔ b = true := by cases b <;> simp [Fl.flg]
theorem two_float {op : List UInt8} {x y z : Int} (hx : Fl.chk 1 x = true) (hy : Fl.chk 1 y = true) (h : Fl.binF op x y = some z) : twoP op 1 x y = z := by
  unfold twoP Fl.bin Fl.binR
  rw [hx, hy, if_neg (by simp), if_neg (by decide), if_pos rfl, h]
theorem wth_greater {t x y : Int} (ht : t = 6 ∨ t = 7 ∨ t = 1) (hx : VN t x) (hy : VN t y) : twoP lGreater t x y = 1 ↔ wth t y < wth t x := by
  by_cases h1 : t = 1
  · subst h1
    have e : Fl.binF lGreater x y = some (Fl.flg (!Fl.isN x && !Fl.isN y && decide (Fl.sv Ieee.single y.toNat < Fl.sv Ieee.single x.toNat))) := by
      unfold Fl.binF
      rw [if_neg (by decide), if_neg (by decide), if_neg (by decide), if_neg (by decide), if_neg (by decide), if_neg (by decide), if_pos (show lGreater = [71, 114, 101, 97, 116, 101, 114] from rfl)]
    rw [two_float hx.1 hy.1 e, flg_one, hx.2 rfl, hy.2 rfl]
    unfold wth
    simp
  · have ht' : t = 6 ∨ t = 7 := by rcases ht with h | h | h; exact Or.inl h; exact Or.inr h; exact absurd h h1
    rw [two_whole ht' hx.1 hy.1]
    have e : (Fl.binI lGreater t x y).1 = Fl.flg (decide (y < x)) := by
      unfold Fl.binI
      rw [if_neg (by decide), if_neg (by decide), if_neg (by decide), if_neg (by decide), if_neg (by decide), if_neg (by decide), if_neg (by decide), if_neg (by decide), if_pos (show lGreater = [71, 114, 101, 97, 116, 101, 114] from rfl)]
    rw [e, flg_one]
    unfold wth
    rw [if_neg h1, if_neg h1, decide_eq_true_eq]
theorem wth_equal {t x y : Int} (ht : t = 6 ∨ t = 7 ∨ t = 1) (hx : VN t x) (hy : VN t y) (h : wth t x = wth t y) : twoP lEqual t x y = 1 := by
  by_cases h1 : t = 1
  · subst h1
    have e : Fl.binF lEqual x y = some (Fl.flg (!Fl.isN x && !Fl.isN y && decide (Fl.sv Ieee.single x.toNat = Fl.sv Ieee.single y.toNat))) := by
      unfold Fl.binF
      rw [if_neg (by decide), if_neg (by decide), if_neg (by decide), if_neg (by decide), if_pos (show lEqual = [69, 113, 117, 97, 108] from rfl)]
    rw [two_float hx.1 hy.1 e, flg_one, hx.2 rfl, hy.2 rfl]
    unfold wth at h
    simpa using h
  · have ht' : t = 6 ∨ t = 7 := by rcases ht with h | h | h; exact Or.inl h; exact Or.inr h; exact absurd h h1
    rw [two_whole ht' hx.1 hy.1]
    have e : (Fl.binI lEqual t x y).1 = Fl.flg (decide (x = y)) := by
      unfold Fl.binI
      rw [if_neg (by decide), if_neg (by decide), if_neg (by decide), if_neg (by decide), if_neg (by decide), if_neg (by decide), if_pos (show lEqual = [69, 113, 117, 97, 108] from rfl)]
    rw [e, flg_one, decide_eq_true_eq]
    unfold wth at h
    rw [if_neg h1, if_neg h1] at h
    exact h
theorem wth_max {t x y : Int} (ht : t = 6 ∨ t = 7 ∨ t = 1) (hx : VN t x) (hy : VN t y) : (twoP lMax t x y = x ∨ twoP lMax t x y = y) ∧ wth t x ≤ wth t (twoP lMax t x y) ∧ wth t y ≤ wth t (twoP lMax t x y) := by
  by_cases h1 : t = 1
  · subst h1
    rw [max_float hx.1 hy.1, mxF_eq (hx.2 rfl) (hy.2 rfl)]
    have e : ∀ z, wth 1 z = Fl.sv Ieee.single z.toNat := fun z => if_pos rfl
    refine ⟨mxL_or _ _ _, ?_⟩
    rw [e, e, e]
    unfold mxL
    split
    · rename_i c
      dsimp only at c
      exact ⟨by rcases c with c | c <;> omega, Int.le_refl _⟩
    · rename_i c
      dsimp only at c
      exact ⟨Int.le_refl _, by omega⟩
  · have ht' : t = 6 ∨ t = 7 := by rcases ht with h | h | h; exact Or.inl h; exact Or.inr h; exact absurd h h1
    rw [max_whole ht' hx.1 hy.1]
    unfold wth
    rw [if_neg h1, if_neg h1, if_neg h1]
    omega

theorem max_fold {t : Int} (ht : t = 6 ∨ t = 7 ∨ t = 1) : ∀ {l : List Int} {a : Int}, VN t a → (∀ z ∈ l, VN t z) → (l.foldl (twoP lMax t) a = a ∨ l.foldl (twoP lMax t) a ∈ l) ∧ wth t a ≤ wth t (l.foldl (twoP lMax t) a) ∧ ∀ z ∈ l, wth t z ≤ wth t (l.foldl (twoP lMax t) a)
  | [], a, _, _ => ⟨Or.inl rfl, Int.le_refl _, fun z hz => by cases hz⟩
  | x :: l, a, ha, hl => by
    have hx := hl x (List.mem_cons_self ..)
    obtain ⟨h1, h2, h3⟩ := wth_max ht ha hx
    have hm : VN t (twoP lMax t a x) := by rcases h1 with e | e <;> rw [e] <;> assumption
    obtain ⟨g1, g2, g3⟩ := max_fold ht (l := l) hm fun z hz => hl z (List.mem_cons_of_mem _ hz)
    simp only [List.foldl_cons]
    refine ⟨?_, by omega, fun z hz => ?_⟩
    · rcases g1 with e | e
      · rw [e]
        rcases h1 with e1 | e1
        · rw [e1]; exact Or.inl rfl
        · rw [e1]; exact Or.inr (List.mem_cons_self ..)
      · exact Or.inr (List.mem_cons_of_mem _ e)
    · rcases List.mem_cons.1 hz with rfl | hz
      · omega
      · exact g3 z hz
theorem arg_most {t : Int} (ht : t = 6 ∨ t = 7 ∨ t = 1) {l : List Int} (hn : l ≠ []) (hl : ∀ z ∈ l, VN t z) : ∀ {k : Nat}, k ≤ l.length → ∀ j < k, wth t (l.getD j 0) ≤ wth t (l.getD (argB t l k) 0)
  | 0, _, j, hj => by omega
  | k + 1, hk, j, hj => by
    have hb := argB_lt (t := t) hn k (by omega)
    have ih := arg_most ht hn hl (k := k) (by omega)
    have hg := wth_greater ht (hl _ (getD_mem (zs := l) (k := k) (by omega))) (hl _ (getD_mem hb))
    rw [argB]
    by_cases c : twoP lGreater t (l.getD k 0) (l.getD (argB t l k) 0) = 1
    · rw [if_pos c]
      have := hg.1 c
      by_cases e : j = k
      · subst e; exact Int.le_refl _
      · have := ih j (by omega); omega
    · rw [if_neg c]
      by_cases e : j = k
      · subst e
        have := fun g => c (hg.2 g)
        omega
      · exact ih j (by omega)
theorem point_row {t : Int} (ht : t = 6 ∨ t = 7 ∨ t = 1) {l : List Int} (hn : l ≠ []) (hl : ∀ z ∈ l, VN t z) : argB t l l.length < l.length ∧ twoP lEqual t (l.getD (argB t l l.length) 0) (togP lRMax t l) = 1 := by
  have hb := argB_lt (t := t) hn l.length (Nat.le_refl _)
  refine ⟨hb, ?_⟩
  rw [togP_max]
  match l, hn, hl, hb with
  | x :: l, hn, hl, hb =>
    obtain ⟨g1, g2, g3⟩ := max_fold ht (l := l) (hl x (List.mem_cons_self ..)) fun z hz => hl z (List.mem_cons_of_mem _ hz)
    have hA := arg_most ht hn hl (Nat.le_refl _)
    show twoP lEqual t _ (l.foldl (twoP lMax t) x) = 1
    have hj := getD_mem hb
    generalize argB t (x :: l) (x :: l).length = J at hA hb hj ⊢
    have hM : l.foldl (twoP lMax t) x ∈ x :: l := by
      rcases g1 with e | e
      · rw [e]; exact List.mem_cons_self ..
      · exact List.mem_cons_of_mem _ e
    refine wth_equal ht (hl _ hj) (hl _ hM) ?_
    have h1 : wth t ((x :: l).getD J 0) ≤ wth t (l.foldl (twoP lMax t) x) := by
      rcases List.mem_cons.1 hj with e | e
      · rw [e]; exact g2
      · exact g3 _ e
    obtain ⟨i, hi, ei⟩ := List.mem_iff_getElem.1 hM
    have h2 := hA i hi
    rw [show (x :: l).getD i 0 = l.foldl (twoP lMax t) x by rw [← ei]; simp [List.getD, List.getElem?_eq_getElem hi]] at h2
    omega

/-! ### the law -/

theorem red_data {n : Nd} {L : List Int} {k : Int} (hn : GoodN n L k) {t : Int} {d xs : List Int} {r : Int × List Int × List Int} (h : redD n (t, d, xs) = (0, r)) :
    pbE t d xs = 0 ∧ (rTy n.op.toList t).1 = 0 ∧ (∀ a ∈ L, -(d.length : Int) ≤ a ∧ a < (d.length : Int)) ∧ r.2.2 = redR n.op.toList t (Vx.grp d (Vx.leftL d (L.map fun a => axZ a d.length))) xs xs.length (Vx.Vw.pr (Vx.leftL d (L.map fun a => axZ a d.length))).toNat := by
  have hz := redD_zeroI h
  obtain ⟨-, -, hp, ht, hr, -, -, hb, -⟩ := rB_yes hz
  rw [redD_yes hz] at h
  have hg : goneL n d.length = L.map fun a => axZ a d.length := by unfold goneL; rw [hn.axes]
  rw [hn.axes] at hr
  refine ⟨hp, ht, hr, ?_⟩
  have e := (congrArg (fun o => o.2.2.2) h).symm
  dsimp only at e
  rw [e]
  unfold redG redPn
  dsimp only
  rw [hg]
theorem rTy_arg (t : Int) : rTy lArg t = typS t 7 := if_pos rfl
theorem rTy_max (t : Int) : rTy lRMax t = typS t t := by unfold rTy; rw [if_neg (by decide), if_neg (by decide)]
theorem typS_fst (t a b : Int) : (typS t a).1 = (typS t b).1 := by unfold typS; split <;> rfl
theorem redD_err (n : Nd) (x : Tn) : (redD n x).1 = (rB n x).1 := by
  by_cases h : (rB n x).1 = 0
  · rw [redD_yes h, h]
  · rw [redD_no h]
/-- Both answer or both refuse alike. -/
theorem points_same {n1 n2 : Nd} {L : List Int} (h1 : GoodN n1 L 0) (h2 : GoodN n2 L 0) (o1 : n1.op.toList = lArg) (o2 : n2.op.toList = lRMax) (x : Tn) : (redD n1 x).1 = (redD n2 x).1 := by
  have hty : (rTy n1.op.toList x.1).1 = (rTy n2.op.toList x.1).1 := by rw [o1, o2, rTy_arg, rTy_max]; exact typS_fst _ _ _
  rw [redD_err, redD_err, rB_form h1 (Or.inl rfl) x, rB_form h2 (Or.inl rfl) x, ← hty]
  split
  · rfl
  split
  · rfl
  cases axesP L x.2.1.length <;> rfl
theorem okF_nan {z : Int} (h : Fl.chk 1 z = true) (hn : z ≠ 2143289344) : Fl.isN z = false := by
  have h' : Fl.okF z = true := by
    unfold Fl.chk at h
    rwa [if_pos rfl] at h
  unfold Fl.okF at h'
  rw [Bool.and_eq_true, Bool.or_eq_true] at h'
  rcases h'.2 with c | c
  · simpa using c
  · exact absurd (by simpa using c) hn
theorem points_plain {n1 n2 : Nd} (h1 : GoodN n1 [-1] 0) (h2 : GoodN n2 [-1] 0) (o1 : n1.op.toList = lArg) (o2 : n2.op.toList = lRMax) {t : Int} {d xs : List Int} (hd : d ≠ []) (hnan : t = 1 → ∀ z ∈ xs, z ≠ 2143289344)
    {r1 r2 : Int × List Int × List Int} (e1 : redD n1 (t, d, xs) = (0, r1)) (e2 : redD n2 (t, d, xs) = (0, r2)) :
    ∃ m : Nat, d[d.length - 1]? = some (m : Int) ∧ 1 ≤ m ∧ r1.2.2.length = r2.2.2.length ∧ r1.2.2.length * m = xs.length ∧
      ∀ i, i < r1.2.2.length → ∃ k : Nat, r1.2.2[i]? = some (k : Int) ∧ k < m ∧ i * m + k < xs.length ∧ twoP lEqual t (xs.getD (i * m + k) 0) (r2.2.2.getD i 0) = 1 := by
  obtain ⟨p1, q1, hr, f1⟩ := red_data h1 e1
  obtain ⟨-, -, -, f2⟩ := red_data h2 e2
  rw [o1] at q1 f1
  rw [o2] at f2
  have ht : t = 6 ∨ t = 7 ∨ t = 1 := by
    rw [rTy_arg] at q1
    unfold typS at q1
    by_cases c : t = 6 ∨ t = 7 ∨ t = 1
    · exact c
    · rw [if_neg c] at q1; exact absurd q1 (by decide)
  obtain ⟨-, c1, n1', k1⟩ := pbE_zero p1
  have hpos := Vx.cnt_pos c1
  obtain ⟨ds, z, rfl⟩ : ∃ ds z, d = ds ++ [z] := ⟨d.dropLast, d.getLast hd, (List.dropLast_concat_getLast hd).symm⟩
  have hz1 : 1 ≤ z := hpos z (by simp)
  obtain ⟨m, rfl⟩ : ∃ m : Nat, z = (m : Int) := ⟨z.toNat, by omega⟩
  have hA : ([-1].map fun a => axZ a (ds ++ [(m : Int)]).length) = [(ds.length : Int)] := by
    simp only [List.map_cons, List.map_nil, List.length_append, List.length_cons, List.length_nil]
    unfold axZ
    rw [if_pos (by decide)]
    congr 1
    omega
  rw [hA, Vx.left_last] at f1 f2
  have hP : ∀ y ∈ ds ++ [(m : Int)], 1 ≤ y := hpos
  have hpr := Vx.pr_snoc ds 1
  rw [Int.mul_one] at hpr
  rw [Vx.pr_snoc] at n1'
  have hp0 : 1 ≤ Vx.Vw.pr ds := Vx.Vw.pr_pos fun y hy => hpos y (by simp [hy])
  obtain ⟨P, hPe⟩ : ∃ P : Nat, Vx.Vw.pr ds = (P : Int) := ⟨(Vx.Vw.pr ds).toNat, by omega⟩
  rw [hpr, hPe, Int.toNat_natCast] at f1 f2
  rw [hPe] at n1'
  have hN : xs.length = P * m := by exact_mod_cast n1'
  have hG : ∀ k < xs.length, Vx.grp (ds ++ [(m : Int)]) (ds ++ [1]) k = k / m := fun k hk => Vx.grp_last hpos (by rw [Vx.pr_snoc, hPe]; have : (xs.length : Int) = (P : Int) * (m : Int) := n1'; omega)
  have hm1 : 1 ≤ m := by omega
  have hV : ∀ y ∈ xs, VN t y := fun y hy => ⟨by rw [← chk_fl]; exact k1 y hy, fun e => okF_nan (by rw [← e, ← chk_fl]; exact k1 y hy) (hnan e y hy)⟩
  have l1 : r1.2.2.length = P := by rw [f1]; simp [redR]
  have l2 : r2.2.2.length = P := by rw [f2]; simp [redR]
  refine ⟨m, by simp, hm1, by rw [l1, l2], by rw [l1, hN], fun i hi => ?_⟩
  rw [l1] at hi
  have hle : (i + 1) * m ≤ P * m := Nat.mul_le_mul_right _ (by omega)
  rw [Nat.add_mul, Nat.one_mul] at hle
  have hrow := Vx.rowOf_div (data := xs) (j := i) hm1 hG
  rw [show min m (xs.length - i * m) = m by omega] at hrow
  obtain ⟨l, hl⟩ : ∃ l, Vx.rowOf (Vx.grp (ds ++ [(m : Int)]) (ds ++ [1])) xs xs.length i = l := ⟨_, rfl⟩
  rw [hl] at hrow
  have hll : l.length = m := by rw [hrow]; simp
  have hlg : ∀ k < m, l.getD k 0 = xs.getD (i * m + k) 0 := fun k hk => by rw [hrow]; simp [List.getD, hk]
  have hln : l ≠ [] := fun e => by rw [e] at hll; simp at hll; omega
  have hlV : ∀ y ∈ l, VN t y := fun y hy => hV y (Vx.rowOf_mem (Nat.le_refl _) (by rw [hl]; exact hy))
  obtain ⟨g1, g2⟩ := point_row ht hln hlV
  have a1 : r1.2.2[i]? = some ((argB t l l.length : Nat) : Int) := by
    rw [f1]
    simp only [redR, List.getElem?_map, List.getElem?_range hi, Option.map_some]
    rw [hl, togP_arg]
  have a2 : r2.2.2.getD i 0 = togP lRMax t l := by
    rw [f2]
    simp only [redR, List.getD, List.getElem?_map, List.getElem?_range hi, Option.map_some, Option.getD_some]
    rw [hl]
  refine ⟨argB t l l.length, a1, by omega, by omega, ?_⟩
  rw [a2, ← hlg _ (by omega)]
  exact g2

end Go.Proofs.YtagiipecfdmceaaGreatDoor

set_option linter.unusedVariables false
set_option linter.unusedSimpArgs false
namespace Go.Proofs.YtagiipecfdmceaaGreatDoor
open Go.RowKit

set_option maxRecDepth 100000

theorem inI_m1 : InI (-1) := by unfold InI; decide
theorem inI_z : InI 0 := by unfold InI; decide
theorem m_arg : oArgM ∈ opsL := by unfold opsL; simp
theorem m_max : oRMax ∈ opsL := by unfold opsL; simp
theorem arg_list : oArgM.toList = lArg := by unfold oArgM; rw [ByteArray.toList_eq]; rfl
def NoN (t : Int) (xs : List Int) (k : Nat) : Prop := t = 1 → ∀ j, j < k → xs.getD j 0 ≠ 2143289344
theorem NoN.all {t : Int} {xs : List Int} (h : NoN t xs xs.length) : t = 1 → ∀ z ∈ xs, z ≠ 2143289344 := fun e z hz => by
  obtain ⟨i, hi, rfl⟩ := List.mem_iff_getElem.1 hz
  have := h e i hi
  rwa [List.getD, List.getElem?_eq_getElem hi] at this
theorem NoN.next {t : Int} {xs : List Int} {k : Nat} (h : NoN t xs k) (g : t = 1 → xs.getD k 0 ≠ 2143289344) : NoN t xs (k + 1) := fun e j hj => by
  by_cases c : j = k
  · subst c; exact g e
  · exact h e j (by omega)
/-- What ReducePoints goes through. -/
def Pts (t : Int) (d xs : List Int) (a b : Int × List Int × List Int) : Prop :=
  ∃ m : Nat, d[d.length - 1]? = some (m : Int) ∧ 1 ≤ m ∧ a.2.2.length = b.2.2.length ∧ a.2.2.length * m = xs.length ∧
      ∀ i, i < a.2.2.length → ∃ k : Nat, a.2.2[i]? = some (k : Int) ∧ k < m ∧ i * m + k < xs.length ∧ twoP lEqual t (xs.getD (i * m + k) 0) (b.2.2.getD i 0) = 1

attribute [local irreducible] redD AftD nK NoN opsL

theorem eq_any {t x y : Int} (hx : InI x) (h : twoP lEqual t x y = 1) (W : World) : Calls Tryz.prog 21 #[.string ⟨#[69, 113, 117, 97, 108]⟩, .int .i64 t, .int .i64 x, .int .i64 y] W fun e w' => (∃ z, e = .returned (.tuple #[.int .i64 1, .int .i64 z])) ∧ Below W.heap.size W w' := by
  refine (Nm.rbinary_any ⟨#[69, 113, 117, 97, 108]⟩ t x y hx.1 hx.2 W).mono ?_
  rintro e w' ⟨rfl, B⟩
  have e : (⟨#[69, 113, 117, 97, 108]⟩ : ByteArray).toList = lEqual := by rw [ByteArray.toList_eq]; rfl
  rw [e, show (Fl.bin lEqual t x y).1 = 1 from h]
  exact ⟨⟨_, rfl⟩, B⟩

set_option maxHeartbeats 16000000 in
theorem points_any {w : World} {v : Value} {x : Tn} (hv : TensV w v x) (hG : Glob w) :
    Calls Tryz.prog 6 #[v] w fun e w' => e = .returned (.bool true) ∧ Below w.heap.size w w' := by
  obtain ⟨vd, vx, rfl, ht, hd, hx⟩ := hv
  obtain ⟨xt, xd, xx⟩ := x
  dsimp only at ht hd hx ⊢
  obtain ⟨a1, c1, rfl⟩ := hd.shape
  obtain ⟨a2, c2, rfl⟩ := hx.shape
  have HG := Lib.hid hG
  have HXT := Lib.hid ht
  have HXD := Lib.hid hd
  have HXX := Lib.hid hx
  clear hG ht hd hx
  go_enter Tryz.func6, Tryz.ntmps6
  go_wp2_with fail
  generalize hW : World.alloc (World.alloc w _) _ = W1
  obtain ⟨hB, hS, b1, b2⟩ := allocs2 hW
  clear hW
  have HB1 := Lib.hid hB
  have HTB := Lib.hid (box_of b1)
  have HXD := Lib.hid (HXD.out.below hB)
  have HXX := Lib.hid (HXX.out.below hB)
  refine (small11_any (tens_one (x := (xt, xd, xx)) b2 ⟨HXT.out, HXD.out, HXX.out⟩)).mono ?_
  rintro e WS ⟨⟨sb, rfl⟩, B2⟩
  have HB2 := Lib.hid (HB1.out.trans (B2.mono HB1.out.size))
  have HTB := Lib.hid (HTB.out.below' B2)
  have HXD := Lib.hid (HXD.out.below B2)
  have HXX := Lib.hid (HXX.out.below B2)
  clear B2 b1 b2 hB hS HB1
  cases sb
  case false =>
    go_wp2_with fail
    refine (live11_any (HG.out.below HB2.out)).mono ?_
    rintro e wl ⟨rfl, Bl⟩
    have HBl := Lib.hid (HB2.out.trans (Bl.mono HB2.out.size))
    clear Bl
    go_wp2
    go_ret
    exact ⟨rfl, HBl.out⟩
  by_cases hxd : xd.length = 0
  case pos =>
    obtain ⟨y0, y1, y2⟩ := HTB.out.three
    have hxb : ((xd.length : Int) == 0) = true := by simp [hxd]
    clear hxd
    go_wp2_with fail
    refine (live11_any (HG.out.below HB2.out)).mono ?_
    rintro e wl ⟨rfl, Bl⟩
    have HBl := Lib.hid (HB2.out.trans (Bl.mono HB2.out.size))
    clear Bl
    go_wp2
    go_ret
    exact ⟨rfl, HBl.out⟩
  have hxb : ((xd.length : Int) == 0) = false := by simp; exact fun e => hxd (by rw [e]; rfl)
  have HXN : Hid (xd ≠ []) := Lib.hid fun e => hxd (by rw [e]; rfl)
  clear hxd
  obtain ⟨y0, y1, y2⟩ := HTB.out.three
  go_wp2_with fail
  clear y0 y1 y2 hxb
  go_loopw [3] (fun i wr => ∃ (k : Nat), k ≤ xx.length ∧ i = .int .i64 (k : Int) ∧ Hid (NoN xt xx k) ∧ Hid (Below WS.heap.size WS wr)) (fun i _ => xx.length - (intOf i).toNat)
  case atStart => exact ⟨0, Nat.zero_le _, rfl, Lib.hid (by unfold NoN; intro _ j hj; omega), Lib.hid (Below.refl _ _)⟩
  obtain ⟨k, hk, rfl, HNN, hW⟩ := hrel
  have HBw := Lib.hid (HB2.out.trans (hW.out.mono HB2.out.size))
  have hlx := HXX.out.wf.1
  obtain ⟨y0, y1, y2⟩ := (HTB.out.below' hW.out).three
  by_cases hkl : k < xx.length
  case pos =>
    have hki : (k : Int) < (xx.length : Int) := by omega
    obtain ⟨b5, o5, d5, e5, hb5, g5, -⟩ := ints_cell (HXX.out.below hW.out) hkl
    obtain ⟨rfl, -, rfl⟩ := Value.slice.inj e5
    clear e5
    obtain ⟨z, hz⟩ : ∃ z, xx.getD k 0 = z := ⟨_, rfl⟩
    rw [hz] at g5
    have HZ := Lib.hid hz
    clear hz
    by_cases hx1 : xt = 1
    · subst hx1
      by_cases hzn : z = 2143289344
      · subst hzn
        go_wp2_with fail
        refine (live11_any (HG.out.below HBw.out)).mono ?_
        rintro e wl ⟨rfl, Bl⟩
        have HBl := Lib.hid (HBw.out.trans (Bl.mono HBw.out.size))
        clear Bl
        go_wp2
        go_ret
        exact ⟨rfl, HBl.out⟩
      · have hzb : (z == 2143289344) = false := by simpa using hzn
        have HZN := Lib.hid hzn
        clear hzn
        go_wp2_with fail
        go_roundw
        case rel => exact ⟨k + 1, by omega, by go_num, Lib.hid (HNN.out.next fun _ => by rw [HZ.out]; exact HZN.out), hW⟩
        case measure => simp [intOf]; omega
    · have hxb : (xt == 1) = false := by simpa using hx1
      have HX1 := Lib.hid hx1
      clear hx1
      go_wp2_with fail
      go_roundw
      case rel => exact ⟨k + 1, by omega, by go_num, Lib.hid (HNN.out.next fun e => absurd e HX1.out), hW⟩
      case measure => simp [intOf]; omega
  have hki : ¬ (k : Int) < (xx.length : Int) := by omega
  obtain rfl : k = xx.length := by omega
  have HNN := Lib.hid HNN.out.all
  go_wp2_with fail
  clear y0 y1 y2 hki hkl hk hlx
  have HTB := Lib.hid (HTB.out.below' hW.out)
  have HXD := Lib.hid (HXD.out.below hW.out)
  have HXX := Lib.hid (HXX.out.below hW.out)
  have HGW : Hid (∀ W, Below wr.heap.size wr W → Glob W) := Lib.hid fun W h => HG.out.below (HBw.out.trans (h.mono HBw.out.size))
  clear hW HB2
  have HSM : Hid ((redD (nK oArgM (-1) 0) (xt, xd, xx)).1 = (redD (nK oRMax (-1) 0) (xt, xd, xx)).1) := Lib.hid (points_same (good_nK m_arg (-1) 0) (good_nK m_max (-1) 0) (by rw [nK_op]; exact arg_list) (by rw [nK_op]; exact max_list) (xt, xd, xx))
  have HPL : Hid (∀ r1 r2, redD (nK oArgM (-1) 0) (xt, xd, xx) = (0, r1) → redD (nK oRMax (-1) 0) (xt, xd, xx) = (0, r2) → Pts xt xd xx r1 r2) := Lib.hid fun r1 r2 e1 e2 => points_plain (good_nK m_arg (-1) 0) (good_nK m_max (-1) 0) (by rw [nK_op]; exact arg_list) (by rw [nK_op]; exact max_list) HXN.out HNN.out e1 e2
  clear HNN HXN
  have HAX : Hid (∀ W : World, Calls Tryz.prog 20 #[.string ⟨#[65, 114, 103, 77, 97, 120]⟩, .int .i64 (-1), .int .i64 0] W fun e w' => ∃ vin vat ts, e = .returned (.agg #[.string ⟨#[65, 114, 103, 77, 97, 120]⟩, .string ⟨#[]⟩, vin, .string ⟨#[122]⟩, vat]) ∧ NodeO w' W.heap.size (nK oArgM (-1) 0) vin vat ts ∧ Below W.heap.size W w') := Lib.hid (axisOf_any oArgM (-1) 0)
  obtain ⟨⟨cA, tA, dA, xA⟩, hE⟩ : ∃ o, redD (nK oArgM (-1) 0) (xt, xd, xx) = o := ⟨_, rfl⟩
  have HDO : Hid (∀ (W : World) (B : Nat) (vin vat vv : Value) (ts : List Tri), Below wr.heap.size wr W → NodeO W B (nK oArgM (-1) 0) vin vat ts → SlIn 3 rdTensor W vv [(xt, xd, xx)] → Calls Tryz.prog 19 #[.agg #[.string ⟨#[65, 114, 103, 77, 97, 120]⟩, .string ⟨#[]⟩, vin, .string ⟨#[122]⟩, vat], vv] W (UniR W (cA, tA, dA, xA))) := Lib.hid (by rw [← hE]; exact red_do HGW.out (op := oArgM) m_arg inI_m1 inI_z (xt, xd, xx))
  rw [hE] at HSM HPL
  clear hE
  have HSr : Hid (∀ W', Below wr.heap.size wr W' → BoxN W' (w.heap.size) #[.int .i64 xt, .slice a1 xd.length c1, .slice a2 xx.length c2] 38) := Lib.hid fun W' h => HTB.out.below' h
  apply share9 (P := fun W p bs vin vat ad cd ax cx => Hid (AftD wr (cA, tA, dA, xA) W p ad cd ax cx))
  · intro hrest
    have HRest := Lib.hid hrest
    clear hrest
    refine wp_region_fork 9 (Pf.read 1 (Pf.acts [0, 2, 7] fun i => if i = 0 then (Pf.acts [2, 7] fun i => if i = 2 then (Pf.acts [3, 7] fun i => if i = 3 then (Pf.read 4 (Pf.read 5 (Pf.read 6 (Pf.acts [7] fun i => if i = 7 then (Pf.acts [8] fun i => if i = 8 then Pf.tail else Pf.tail) else Pf.tail)))) else if i = 7 then (Pf.acts [3] fun i => if i = 3 then (Pf.read 4 (Pf.read 5 (Pf.read 6 (Pf.acts [8] fun i => if i = 8 then Pf.tail else Pf.tail)))) else Pf.tail) else Pf.tail) else if i = 7 then (Pf.acts [2] fun i => if i = 2 then (Pf.acts [3] fun i => if i = 3 then (Pf.read 4 (Pf.read 5 (Pf.read 6 (Pf.acts [8] fun i => if i = 8 then Pf.tail else Pf.tail)))) else Pf.tail) else Pf.tail) else Pf.tail) else if i = 2 then (Pf.acts [0, 7] fun i => if i = 0 then (Pf.acts [3, 7] fun i => if i = 3 then (Pf.read 4 (Pf.read 5 (Pf.read 6 (Pf.acts [7] fun i => if i = 7 then (Pf.acts [8] fun i => if i = 8 then Pf.tail else Pf.tail) else Pf.tail)))) else if i = 7 then (Pf.acts [3] fun i => if i = 3 then (Pf.read 4 (Pf.read 5 (Pf.read 6 (Pf.acts [8] fun i => if i = 8 then Pf.tail else Pf.tail)))) else Pf.tail) else Pf.tail) else if i = 7 then (Pf.acts [0] fun i => if i = 0 then (Pf.acts [3] fun i => if i = 3 then (Pf.read 4 (Pf.read 5 (Pf.read 6 (Pf.acts [8] fun i => if i = 8 then Pf.tail else Pf.tail)))) else Pf.tail) else Pf.tail) else Pf.tail) else if i = 7 then (Pf.acts [0, 2] fun i => if i = 0 then (Pf.acts [2] fun i => if i = 2 then (Pf.acts [3] fun i => if i = 3 then (Pf.read 4 (Pf.read 5 (Pf.read 6 (Pf.acts [8] fun i => if i = 8 then Pf.tail else Pf.tail)))) else Pf.tail) else Pf.tail) else if i = 2 then (Pf.acts [0] fun i => if i = 0 then (Pf.acts [3] fun i => if i = 3 then (Pf.read 4 (Pf.read 5 (Pf.read 6 (Pf.acts [8] fun i => if i = 8 then Pf.tail else Pf.tail)))) else Pf.tail) else Pf.tail) else Pf.tail) else Pf.tail)) (fun W' => Below wr.heap.size wr W') (by kernel_rfl) (by kernel_rfl) (fun _ d _ _ _ h => by cases d <;> exact h) (Below.refl _ _).drew ?_
    have B0 : Hid (Below wr.heap.size wr wr.drew) := Lib.hid (Below.refl _ _).drew
    generalize wr.drew = wD at B0 ⊢
    refine fork_read (v := ?_) rfl (Or.inl ⟨by rfl, ?_⟩) ?_
    rotate_left
    · intro W' hSw
      obtain ⟨s0, s1, s2⟩ := (HSr.out W' hSw).three
      go_simp
      try with_reducible rfl
    try simp only [Act.put, List.getElem_toArray, List.getElem_cons_zero, List.getElem_cons_succ, List.setIfInBounds_toArray, List.set_cons_zero, List.set_cons_succ]
    refine fork_three rfl rfl rfl rfl rfl rfl ?_ ?_ ?_
    · intro K' hK
      go_simp
      refine (HAX.out wD).mono ?_
      rintro e w1 ⟨vin, vat, ts, rfl, hno, Bx⟩
      have HNO := Lib.hid hno
      have B1 : Hid (Below wr.heap.size wr w1) := Lib.hid (B0.out.trans (Bx.mono B0.out.size))
      refine hK.out _ _ B1.out ?_
      clear hK K' Bx hno
      try simp only [Act.put, List.getElem_toArray, List.getElem_cons_zero, List.getElem_cons_succ, List.setIfInBounds_toArray, List.set_cons_zero, List.set_cons_succ]
      refine fork_two rfl rfl rfl rfl ?_ ?_
      · intro K' hK
        go_simp
        have Bx : Below w1.heap.size w1 (w1.alloc (Obj.cells #[.int .i64 xt, .slice a1 xd.length c1, .slice a2 xx.length c2] 38)) := (Below.refl _ _).alloc (Nat.le_refl _) _
        have HTSN : Hid (BoxN (w1.alloc (Obj.cells #[.int .i64 xt, .slice a1 xd.length c1, .slice a2 xx.length c2] 38)) w1.heap.size #[.int .i64 xt, .slice a1 xd.length c1, .slice a2 xx.length c2] 38) := Lib.hid (BoxN.new _ _ _)
        have HNO := Lib.hid (HNO.out.below Bx)
        have B2 : Hid (Below wr.heap.size wr (w1.alloc (Obj.cells #[.int .i64 xt, .slice a1 xd.length c1, .slice a2 xx.length c2] 38))) := Lib.hid (B1.out.trans (Bx.mono B1.out.size))
        refine hK.out _ _ B2.out ?_
        clear hK K' Bx
        generalize w1.alloc (Obj.cells #[.int .i64 xt, .slice a1 xd.length c1, .slice a2 xx.length c2] 38) = w2 at B2 HTSN HNO ⊢
        generalize w1.heap.size = bs at HTSN ⊢
        have HTS := HTSN
        clear HTSN
        try simp only [Act.put, List.getElem_toArray, List.getElem_cons_zero, List.getElem_cons_succ, List.setIfInBounds_toArray, List.set_cons_zero, List.set_cons_succ]
        refine fork_two rfl rfl rfl rfl ?_ ?_
        · intro K' hK
          go_simp
          refine (HDO.out w2 _ _ _ _ _ B2.out HNO.out (tens_one (x := (xt, xd, xx)) HTS.out ⟨HXT.out, HXD.out.below B2.out, HXX.out.below B2.out⟩)).mono ?_
          intro e w3 hu
          obtain ⟨vd, vx, rfl, hd, hx, ⟨hi1, hi2⟩, Bx⟩ := hu.out
          clear hu
          obtain ⟨ad, cd, rfl⟩ : ∃ a c, vd = Value.slice a dA.length c := hd.shape
          obtain ⟨ax, cx, rfl⟩ : ∃ a c, vx = Value.slice a xA.length c := hx.shape
          have HRD := Lib.hid hd
          have HRX := Lib.hid hx
          have HRD0 := HRD
          have HRX0 := HRX
          have B3 : Hid (Below wr.heap.size wr w3) := Lib.hid (B2.out.trans (Bx.mono B2.out.size))
          refine hK.out _ _ B3.out ?_
          clear hK K' Bx hd hx hi1 hi2 HNO HTS
          try simp only [Act.put, List.getElem_toArray, List.getElem_cons_zero, List.getElem_cons_succ, List.setIfInBounds_toArray, List.set_cons_zero, List.set_cons_succ]
          refine fork_read (v := ?_) rfl (Or.inl ⟨by rfl, ?_⟩) ?_
          rotate_left
          · intro W' hSw
            skip
            go_simp
            try with_reducible rfl
          try simp only [Act.put, List.getElem_toArray, List.getElem_cons_zero, List.getElem_cons_succ, List.setIfInBounds_toArray, List.set_cons_zero, List.set_cons_succ]
          refine fork_read (v := ?_) rfl (Or.inl ⟨by rfl, ?_⟩) ?_
          rotate_left
          · intro W' hSw
            skip
            go_simp
            try with_reducible rfl
          try simp only [Act.put, List.getElem_toArray, List.getElem_cons_zero, List.getElem_cons_succ, List.setIfInBounds_toArray, List.set_cons_zero, List.set_cons_succ]
          refine fork_read (v := ?_) rfl (Or.inl ⟨by rfl, ?_⟩) ?_
          rotate_left
          · intro W' hSw
            skip
            go_simp
            try with_reducible rfl
          try simp only [Act.put, List.getElem_toArray, List.getElem_cons_zero, List.getElem_cons_succ, List.setIfInBounds_toArray, List.set_cons_zero, List.set_cons_succ]
          refine fork_one rfl rfl ?_
          intro K' hK
          go_simp
          have Bx : Below w3.heap.size w3 (w3.alloc (Obj.cells #[.int .i64 0, .slice none 0 0, .slice none 0 0] 38)) := (Below.refl _ _).alloc (Nat.le_refl _) _
          have HPN : Hid (BoxN (w3.alloc (Obj.cells #[.int .i64 0, .slice none 0 0, .slice none 0 0] 38)) w3.heap.size #[.int .i64 0, .slice none 0 0, .slice none 0 0] 38) := Lib.hid (BoxN.new _ _ _)
          have HRD := Lib.hid (HRD.out.below Bx)
          have HRX := Lib.hid (HRX.out.below Bx)
          have HPL : Hid (wr.heap.size ≤ w3.heap.size) := Lib.hid B3.out.size
          have HPI : Hid (∀ u0 u1 u2, IntsIn (put3 (w3.alloc (Obj.cells #[.int .i64 0, .slice none 0 0, .slice none 0 0] 38)) w3.heap.size u0 u1 u2) (.slice ad dA.length cd) dA ∧ IntsIn (put3 (w3.alloc (Obj.cells #[.int .i64 0, .slice none 0 0, .slice none 0 0] 38)) w3.heap.size u0 u1 u2) (.slice ax xA.length cx) xA) := Lib.hid fun u0 u1 u2 => ⟨ints_freshD HRD0.out rfl _, ints_freshD HRX0.out rfl _⟩
          clear HRD0 HRX0
          have B4 : Hid (Below wr.heap.size wr (w3.alloc (Obj.cells #[.int .i64 0, .slice none 0 0, .slice none 0 0] 38))) := Lib.hid (B3.out.trans (Bx.mono B3.out.size))
          refine hK.out _ _ B4.out ?_
          clear hK K' Bx
          generalize w3.alloc (Obj.cells #[.int .i64 0, .slice none 0 0, .slice none 0 0] 38) = w4 at B4 HPN HRD HRX HPI ⊢
          generalize w3.heap.size = p at HPN HPL HPI ⊢
          have HP := HPN
          clear HPN
          try simp only [Act.put, List.getElem_toArray, List.getElem_cons_zero, List.getElem_cons_succ, List.setIfInBounds_toArray, List.set_cons_zero, List.set_cons_succ]
          refine fork_one rfl rfl ?_
          intro K' hK
          go_simp
          obtain ⟨f0, f1, f2⟩ := HP.out.three
          obtain ⟨z0, z1, z2⟩ := HP.out.thaw3
          have HAF : Hid (AftD wr (cA, tA, dA, xA) (put3 w4 p (.int .i64 tA) (.slice ad dA.length cd) (.slice ax xA.length cx)) p ad cd ax cx) := Lib.hid (AftD.mk (below_put3 B4.out HPL.out) HPL.out (HP.out.put3 _ _ _) (HPI.out _ _ _).1 (HPI.out _ _ _).2)
          have B5 : Hid (Below wr.heap.size wr (put3 w4 p (.int .i64 tA) (.slice ad dA.length cd) (.slice ax xA.length cx))) := Lib.hid (below_put3 B4.out HPL.out)
          go_simp
          refine hK.out _ (put3 w4 p _ _ _) B5.out ?_
          generalize put3 w4 p (.int .i64 tA) (.slice ad dA.length cd) (.slice ax xA.length cx) = w5 at HAF B5 ⊢
          clear hK K' f0 f1 f2 z0 z1 z2
          refine fork_tail rfl ?_
          simp only [List.toList_toArray, List.drop_succ_cons, List.drop_zero]
          exact HRest.out _ p bs vin vat ad cd ax cx HAF
        · intro K' hK
          go_simp
          have Bx : Below w2.heap.size w2 (w2.alloc (Obj.cells #[.int .i64 0, .slice none 0 0, .slice none 0 0] 38)) := (Below.refl _ _).alloc (Nat.le_refl _) _
          have HPN : Hid (BoxN (w2.alloc (Obj.cells #[.int .i64 0, .slice none 0 0, .slice none 0 0] 38)) w2.heap.size #[.int .i64 0, .slice none 0 0, .slice none 0 0] 38) := Lib.hid (BoxN.new _ _ _)
          have HNO := Lib.hid (HNO.out.below Bx)
          have HTS := Lib.hid (HTS.out.below' Bx)
          have HPL : Hid (wr.heap.size ≤ w2.heap.size) := Lib.hid B2.out.size
          have B3 : Hid (Below wr.heap.size wr (w2.alloc (Obj.cells #[.int .i64 0, .slice none 0 0, .slice none 0 0] 38))) := Lib.hid (B2.out.trans (Bx.mono B2.out.size))
          refine hK.out _ _ B3.out ?_
          clear hK K' Bx
          generalize w2.alloc (Obj.cells #[.int .i64 0, .slice none 0 0, .slice none 0 0] 38) = w3 at B3 HPN HNO HTS ⊢
          generalize w2.heap.size = p at HPN HPL ⊢
          have HP := HPN
          clear HPN
          try simp only [Act.put, List.getElem_toArray, List.getElem_cons_zero, List.getElem_cons_succ, List.setIfInBounds_toArray, List.set_cons_zero, List.set_cons_succ]
          refine fork_one rfl rfl ?_
          intro K' hK
          go_simp
          refine (HDO.out w3 _ _ _ _ _ B3.out HNO.out (tens_one (x := (xt, xd, xx)) HTS.out ⟨HXT.out, HXD.out.below B3.out, HXX.out.below B3.out⟩)).mono ?_
          intro e w4 hu
          obtain ⟨vd, vx, rfl, hd, hx, ⟨hi1, hi2⟩, Bx⟩ := hu.out
          clear hu
          obtain ⟨ad, cd, rfl⟩ : ∃ a c, vd = Value.slice a dA.length c := hd.shape
          obtain ⟨ax, cx, rfl⟩ : ∃ a c, vx = Value.slice a xA.length c := hx.shape
          have HRD := Lib.hid hd
          have HRX := Lib.hid hx
          have hpl := HP.out.lt
          have HP := Lib.hid (HP.out.below' Bx)
          have HPI : Hid (∀ u0 u1 u2, IntsIn (put3 w4 p u0 u1 u2) (.slice ad dA.length cd) dA ∧ IntsIn (put3 w4 p u0 u1 u2) (.slice ax xA.length cx) xA) := Lib.hid fun u0 u1 u2 => ⟨ints_highD hd hi1 hpl, ints_highD hx hi2 hpl⟩
          have B4 : Hid (Below wr.heap.size wr w4) := Lib.hid (B3.out.trans (Bx.mono B3.out.size))
          refine hK.out _ _ B4.out ?_
          clear hK K' Bx hd hx hi1 hi2 HNO HTS
          try simp only [Act.put, List.getElem_toArray, List.getElem_cons_zero, List.getElem_cons_succ, List.setIfInBounds_toArray, List.set_cons_zero, List.set_cons_succ]
          refine fork_read (v := ?_) rfl (Or.inl ⟨by rfl, ?_⟩) ?_
          rotate_left
          · intro W' hSw
            skip
            go_simp
            try with_reducible rfl
          try simp only [Act.put, List.getElem_toArray, List.getElem_cons_zero, List.getElem_cons_succ, List.setIfInBounds_toArray, List.set_cons_zero, List.set_cons_succ]
          refine fork_read (v := ?_) rfl (Or.inl ⟨by rfl, ?_⟩) ?_
          rotate_left
          · intro W' hSw
            skip
            go_simp
            try with_reducible rfl
          try simp only [Act.put, List.getElem_toArray, List.getElem_cons_zero, List.getElem_cons_succ, List.setIfInBounds_toArray, List.set_cons_zero, List.set_cons_succ]
          refine fork_read (v := ?_) rfl (Or.inl ⟨by rfl, ?_⟩) ?_
          rotate_left
          · intro W' hSw
            skip
            go_simp
            try with_reducible rfl
          try simp only [Act.put, List.getElem_toArray, List.getElem_cons_zero, List.getElem_cons_succ, List.setIfInBounds_toArray, List.set_cons_zero, List.set_cons_succ]
          refine fork_one rfl rfl ?_
          intro K' hK
          go_simp
          obtain ⟨f0, f1, f2⟩ := HP.out.three
          obtain ⟨z0, z1, z2⟩ := HP.out.thaw3
          have HAF : Hid (AftD wr (cA, tA, dA, xA) (put3 w4 p (.int .i64 tA) (.slice ad dA.length cd) (.slice ax xA.length cx)) p ad cd ax cx) := Lib.hid (AftD.mk (below_put3 B4.out HPL.out) HPL.out (HP.out.put3 _ _ _) (HPI.out _ _ _).1 (HPI.out _ _ _).2)
          have B5 : Hid (Below wr.heap.size wr (put3 w4 p (.int .i64 tA) (.slice ad dA.length cd) (.slice ax xA.length cx))) := Lib.hid (below_put3 B4.out HPL.out)
          go_simp
          refine hK.out _ (put3 w4 p _ _ _) B5.out ?_
          generalize put3 w4 p (.int .i64 tA) (.slice ad dA.length cd) (.slice ax xA.length cx) = w5 at HAF B5 ⊢
          clear hK K' f0 f1 f2 z0 z1 z2
          refine fork_tail rfl ?_
          simp only [List.toList_toArray, List.drop_succ_cons, List.drop_zero]
          exact HRest.out _ p bs vin vat ad cd ax cx HAF
      · intro K' hK
        go_simp
        have Bx : Below w1.heap.size w1 (w1.alloc (Obj.cells #[.int .i64 0, .slice none 0 0, .slice none 0 0] 38)) := (Below.refl _ _).alloc (Nat.le_refl _) _
        have HPN : Hid (BoxN (w1.alloc (Obj.cells #[.int .i64 0, .slice none 0 0, .slice none 0 0] 38)) w1.heap.size #[.int .i64 0, .slice none 0 0, .slice none 0 0] 38) := Lib.hid (BoxN.new _ _ _)
        have HNO := Lib.hid (HNO.out.below Bx)
        have HPL : Hid (wr.heap.size ≤ w1.heap.size) := Lib.hid B1.out.size
        have B2 : Hid (Below wr.heap.size wr (w1.alloc (Obj.cells #[.int .i64 0, .slice none 0 0, .slice none 0 0] 38))) := Lib.hid (B1.out.trans (Bx.mono B1.out.size))
        refine hK.out _ _ B2.out ?_
        clear hK K' Bx
        generalize w1.alloc (Obj.cells #[.int .i64 0, .slice none 0 0, .slice none 0 0] 38) = w2 at B2 HPN HNO ⊢
        generalize w1.heap.size = p at HPN HPL ⊢
        have HP := HPN
        clear HPN
        try simp only [Act.put, List.getElem_toArray, List.getElem_cons_zero, List.getElem_cons_succ, List.setIfInBounds_toArray, List.set_cons_zero, List.set_cons_succ]
        refine fork_one rfl rfl ?_
        intro K' hK
        go_simp
        have Bx : Below w2.heap.size w2 (w2.alloc (Obj.cells #[.int .i64 xt, .slice a1 xd.length c1, .slice a2 xx.length c2] 38)) := (Below.refl _ _).alloc (Nat.le_refl _) _
        have HTSN : Hid (BoxN (w2.alloc (Obj.cells #[.int .i64 xt, .slice a1 xd.length c1, .slice a2 xx.length c2] 38)) w2.heap.size #[.int .i64 xt, .slice a1 xd.length c1, .slice a2 xx.length c2] 38) := Lib.hid (BoxN.new _ _ _)
        have HNO := Lib.hid (HNO.out.below Bx)
        have HP := Lib.hid (HP.out.below' Bx)
        have B3 : Hid (Below wr.heap.size wr (w2.alloc (Obj.cells #[.int .i64 xt, .slice a1 xd.length c1, .slice a2 xx.length c2] 38))) := Lib.hid (B2.out.trans (Bx.mono B2.out.size))
        refine hK.out _ _ B3.out ?_
        clear hK K' Bx
        generalize w2.alloc (Obj.cells #[.int .i64 xt, .slice a1 xd.length c1, .slice a2 xx.length c2] 38) = w3 at B3 HTSN HNO HP ⊢
        generalize w2.heap.size = bs at HTSN ⊢
        have HTS := HTSN
        clear HTSN
        try simp only [Act.put, List.getElem_toArray, List.getElem_cons_zero, List.getElem_cons_succ, List.setIfInBounds_toArray, List.set_cons_zero, List.set_cons_succ]
        refine fork_one rfl rfl ?_
        intro K' hK
        go_simp
        refine (HDO.out w3 _ _ _ _ _ B3.out HNO.out (tens_one (x := (xt, xd, xx)) HTS.out ⟨HXT.out, HXD.out.below B3.out, HXX.out.below B3.out⟩)).mono ?_
        intro e w4 hu
        obtain ⟨vd, vx, rfl, hd, hx, ⟨hi1, hi2⟩, Bx⟩ := hu.out
        clear hu
        obtain ⟨ad, cd, rfl⟩ : ∃ a c, vd = Value.slice a dA.length c := hd.shape
        obtain ⟨ax, cx, rfl⟩ : ∃ a c, vx = Value.slice a xA.length c := hx.shape
        have HRD := Lib.hid hd
        have HRX := Lib.hid hx
        have hpl := HP.out.lt
        have HP := Lib.hid (HP.out.below' Bx)
        have HPI : Hid (∀ u0 u1 u2, IntsIn (put3 w4 p u0 u1 u2) (.slice ad dA.length cd) dA ∧ IntsIn (put3 w4 p u0 u1 u2) (.slice ax xA.length cx) xA) := Lib.hid fun u0 u1 u2 => ⟨ints_highD hd hi1 hpl, ints_highD hx hi2 hpl⟩
        have B4 : Hid (Below wr.heap.size wr w4) := Lib.hid (B3.out.trans (Bx.mono B3.out.size))
        refine hK.out _ _ B4.out ?_
        clear hK K' Bx hd hx hi1 hi2 HNO HTS
        try simp only [Act.put, List.getElem_toArray, List.getElem_cons_zero, List.getElem_cons_succ, List.setIfInBounds_toArray, List.set_cons_zero, List.set_cons_succ]
        refine fork_read (v := ?_) rfl (Or.inl ⟨by rfl, ?_⟩) ?_
        rotate_left
        · intro W' hSw
          skip
          go_simp
          try with_reducible rfl
        try simp only [Act.put, List.getElem_toArray, List.getElem_cons_zero, List.getElem_cons_succ, List.setIfInBounds_toArray, List.set_cons_zero, List.set_cons_succ]
        refine fork_read (v := ?_) rfl (Or.inl ⟨by rfl, ?_⟩) ?_
        rotate_left
        · intro W' hSw
          skip
          go_simp
          try with_reducible rfl
        try simp only [Act.put, List.getElem_toArray, List.getElem_cons_zero, List.getElem_cons_succ, List.setIfInBounds_toArray, List.set_cons_zero, List.set_cons_succ]
        refine fork_read (v := ?_) rfl (Or.inl ⟨by rfl, ?_⟩) ?_
        rotate_left
        · intro W' hSw
          skip
          go_simp
          try with_reducible rfl
        try simp only [Act.put, List.getElem_toArray, List.getElem_cons_zero, List.getElem_cons_succ, List.setIfInBounds_toArray, List.set_cons_zero, List.set_cons_succ]
        refine fork_one rfl rfl ?_
        intro K' hK
        go_simp
        obtain ⟨f0, f1, f2⟩ := HP.out.three
        obtain ⟨z0, z1, z2⟩ := HP.out.thaw3
        have HAF : Hid (AftD wr (cA, tA, dA, xA) (put3 w4 p (.int .i64 tA) (.slice ad dA.length cd) (.slice ax xA.length cx)) p ad cd ax cx) := Lib.hid (AftD.mk (below_put3 B4.out HPL.out) HPL.out (HP.out.put3 _ _ _) (HPI.out _ _ _).1 (HPI.out _ _ _).2)
        have B5 : Hid (Below wr.heap.size wr (put3 w4 p (.int .i64 tA) (.slice ad dA.length cd) (.slice ax xA.length cx))) := Lib.hid (below_put3 B4.out HPL.out)
        go_simp
        refine hK.out _ (put3 w4 p _ _ _) B5.out ?_
        generalize put3 w4 p (.int .i64 tA) (.slice ad dA.length cd) (.slice ax xA.length cx) = w5 at HAF B5 ⊢
        clear hK K' f0 f1 f2 z0 z1 z2
        refine fork_tail rfl ?_
        simp only [List.toList_toArray, List.drop_succ_cons, List.drop_zero]
        exact HRest.out _ p bs vin vat ad cd ax cx HAF
    · intro K' hK
      go_simp
      have Bx : Below wD.heap.size wD (wD.alloc (Obj.cells #[.int .i64 xt, .slice a1 xd.length c1, .slice a2 xx.length c2] 38)) := (Below.refl _ _).alloc (Nat.le_refl _) _
      have HTSN : Hid (BoxN (wD.alloc (Obj.cells #[.int .i64 xt, .slice a1 xd.length c1, .slice a2 xx.length c2] 38)) wD.heap.size #[.int .i64 xt, .slice a1 xd.length c1, .slice a2 xx.length c2] 38) := Lib.hid (BoxN.new _ _ _)
      have B1 : Hid (Below wr.heap.size wr (wD.alloc (Obj.cells #[.int .i64 xt, .slice a1 xd.length c1, .slice a2 xx.length c2] 38))) := Lib.hid (B0.out.trans (Bx.mono B0.out.size))
      refine hK.out _ _ B1.out ?_
      clear hK K' Bx
      generalize wD.alloc (Obj.cells #[.int .i64 xt, .slice a1 xd.length c1, .slice a2 xx.length c2] 38) = w1 at B1 HTSN ⊢
      generalize wD.heap.size = bs at HTSN ⊢
      have HTS := HTSN
      clear HTSN
      try simp only [Act.put, List.getElem_toArray, List.getElem_cons_zero, List.getElem_cons_succ, List.setIfInBounds_toArray, List.set_cons_zero, List.set_cons_succ]
      refine fork_two rfl rfl rfl rfl ?_ ?_
      · intro K' hK
        go_simp
        refine (HAX.out w1).mono ?_
        rintro e w2 ⟨vin, vat, ts, rfl, hno, Bx⟩
        have HNO := Lib.hid hno
        have HTS := Lib.hid (HTS.out.below' Bx)
        have B2 : Hid (Below wr.heap.size wr w2) := Lib.hid (B1.out.trans (Bx.mono B1.out.size))
        refine hK.out _ _ B2.out ?_
        clear hK K' Bx hno
        try simp only [Act.put, List.getElem_toArray, List.getElem_cons_zero, List.getElem_cons_succ, List.setIfInBounds_toArray, List.set_cons_zero, List.set_cons_succ]
        refine fork_two rfl rfl rfl rfl ?_ ?_
        · intro K' hK
          go_simp
          refine (HDO.out w2 _ _ _ _ _ B2.out HNO.out (tens_one (x := (xt, xd, xx)) HTS.out ⟨HXT.out, HXD.out.below B2.out, HXX.out.below B2.out⟩)).mono ?_
          intro e w3 hu
          obtain ⟨vd, vx, rfl, hd, hx, ⟨hi1, hi2⟩, Bx⟩ := hu.out
          clear hu
          obtain ⟨ad, cd, rfl⟩ : ∃ a c, vd = Value.slice a dA.length c := hd.shape
          obtain ⟨ax, cx, rfl⟩ : ∃ a c, vx = Value.slice a xA.length c := hx.shape
          have HRD := Lib.hid hd
          have HRX := Lib.hid hx
          have HRD0 := HRD
          have HRX0 := HRX
          have B3 : Hid (Below wr.heap.size wr w3) := Lib.hid (B2.out.trans (Bx.mono B2.out.size))
          refine hK.out _ _ B3.out ?_
          clear hK K' Bx hd hx hi1 hi2 HNO HTS
          try simp only [Act.put, List.getElem_toArray, List.getElem_cons_zero, List.getElem_cons_succ, List.setIfInBounds_toArray, List.set_cons_zero, List.set_cons_succ]
          refine fork_read (v := ?_) rfl (Or.inl ⟨by rfl, ?_⟩) ?_
          rotate_left
          · intro W' hSw
            skip
            go_simp
            try with_reducible rfl
          try simp only [Act.put, List.getElem_toArray, List.getElem_cons_zero, List.getElem_cons_succ, List.setIfInBounds_toArray, List.set_cons_zero, List.set_cons_succ]
          refine fork_read (v := ?_) rfl (Or.inl ⟨by rfl, ?_⟩) ?_
          rotate_left
          · intro W' hSw
            skip
            go_simp
            try with_reducible rfl
          try simp only [Act.put, List.getElem_toArray, List.getElem_cons_zero, List.getElem_cons_succ, List.setIfInBounds_toArray, List.set_cons_zero, List.set_cons_succ]
          refine fork_read (v := ?_) rfl (Or.inl ⟨by rfl, ?_⟩) ?_
          rotate_left
          · intro W' hSw
            skip
            go_simp
            try with_reducible rfl
          try simp only [Act.put, List.getElem_toArray, List.getElem_cons_zero, List.getElem_cons_succ, List.setIfInBounds_toArray, List.set_cons_zero, List.set_cons_succ]
          refine fork_one rfl rfl ?_
          intro K' hK
          go_simp
          have Bx : Below w3.heap.size w3 (w3.alloc (Obj.cells #[.int .i64 0, .slice none 0 0, .slice none 0 0] 38)) := (Below.refl _ _).alloc (Nat.le_refl _) _
          have HPN : Hid (BoxN (w3.alloc (Obj.cells #[.int .i64 0, .slice none 0 0, .slice none 0 0] 38)) w3.heap.size #[.int .i64 0, .slice none 0 0, .slice none 0 0] 38) := Lib.hid (BoxN.new _ _ _)
          have HRD := Lib.hid (HRD.out.below Bx)
          have HRX := Lib.hid (HRX.out.below Bx)
          have HPL : Hid (wr.heap.size ≤ w3.heap.size) := Lib.hid B3.out.size
          have HPI : Hid (∀ u0 u1 u2, IntsIn (put3 (w3.alloc (Obj.cells #[.int .i64 0, .slice none 0 0, .slice none 0 0] 38)) w3.heap.size u0 u1 u2) (.slice ad dA.length cd) dA ∧ IntsIn (put3 (w3.alloc (Obj.cells #[.int .i64 0, .slice none 0 0, .slice none 0 0] 38)) w3.heap.size u0 u1 u2) (.slice ax xA.length cx) xA) := Lib.hid fun u0 u1 u2 => ⟨ints_freshD HRD0.out rfl _, ints_freshD HRX0.out rfl _⟩
          clear HRD0 HRX0
          have B4 : Hid (Below wr.heap.size wr (w3.alloc (Obj.cells #[.int .i64 0, .slice none 0 0, .slice none 0 0] 38))) := Lib.hid (B3.out.trans (Bx.mono B3.out.size))
          refine hK.out _ _ B4.out ?_
          clear hK K' Bx
          generalize w3.alloc (Obj.cells #[.int .i64 0, .slice none 0 0, .slice none 0 0] 38) = w4 at B4 HPN HRD HRX HPI ⊢
          generalize w3.heap.size = p at HPN HPL HPI ⊢
          have HP := HPN
          clear HPN
          try simp only [Act.put, List.getElem_toArray, List.getElem_cons_zero, List.getElem_cons_succ, List.setIfInBounds_toArray, List.set_cons_zero, List.set_cons_succ]
          refine fork_one rfl rfl ?_
          intro K' hK
          go_simp
          obtain ⟨f0, f1, f2⟩ := HP.out.three
          obtain ⟨z0, z1, z2⟩ := HP.out.thaw3
          have HAF : Hid (AftD wr (cA, tA, dA, xA) (put3 w4 p (.int .i64 tA) (.slice ad dA.length cd) (.slice ax xA.length cx)) p ad cd ax cx) := Lib.hid (AftD.mk (below_put3 B4.out HPL.out) HPL.out (HP.out.put3 _ _ _) (HPI.out _ _ _).1 (HPI.out _ _ _).2)
          have B5 : Hid (Below wr.heap.size wr (put3 w4 p (.int .i64 tA) (.slice ad dA.length cd) (.slice ax xA.length cx))) := Lib.hid (below_put3 B4.out HPL.out)
          go_simp
          refine hK.out _ (put3 w4 p _ _ _) B5.out ?_
          generalize put3 w4 p (.int .i64 tA) (.slice ad dA.length cd) (.slice ax xA.length cx) = w5 at HAF B5 ⊢
          clear hK K' f0 f1 f2 z0 z1 z2
          refine fork_tail rfl ?_
          simp only [List.toList_toArray, List.drop_succ_cons, List.drop_zero]
          exact HRest.out _ p bs vin vat ad cd ax cx HAF
        · intro K' hK
          go_simp
          have Bx : Below w2.heap.size w2 (w2.alloc (Obj.cells #[.int .i64 0, .slice none 0 0, .slice none 0 0] 38)) := (Below.refl _ _).alloc (Nat.le_refl _) _
          have HPN : Hid (BoxN (w2.alloc (Obj.cells #[.int .i64 0, .slice none 0 0, .slice none 0 0] 38)) w2.heap.size #[.int .i64 0, .slice none 0 0, .slice none 0 0] 38) := Lib.hid (BoxN.new _ _ _)
          have HNO := Lib.hid (HNO.out.below Bx)
          have HTS := Lib.hid (HTS.out.below' Bx)
          have HPL : Hid (wr.heap.size ≤ w2.heap.size) := Lib.hid B2.out.size
          have B3 : Hid (Below wr.heap.size wr (w2.alloc (Obj.cells #[.int .i64 0, .slice none 0 0, .slice none 0 0] 38))) := Lib.hid (B2.out.trans (Bx.mono B2.out.size))
          refine hK.out _ _ B3.out ?_
          clear hK K' Bx
          generalize w2.alloc (Obj.cells #[.int .i64 0, .slice none 0 0, .slice none 0 0] 38) = w3 at B3 HPN HNO HTS ⊢
          generalize w2.heap.size = p at HPN HPL ⊢
          have HP := HPN
          clear HPN
          try simp only [Act.put, List.getElem_toArray, List.getElem_cons_zero, List.getElem_cons_succ, List.setIfInBounds_toArray, List.set_cons_zero, List.set_cons_succ]
          refine fork_one rfl rfl ?_
          intro K' hK
          go_simp
          refine (HDO.out w3 _ _ _ _ _ B3.out HNO.out (tens_one (x := (xt, xd, xx)) HTS.out ⟨HXT.out, HXD.out.below B3.out, HXX.out.below B3.out⟩)).mono ?_
          intro e w4 hu
          obtain ⟨vd, vx, rfl, hd, hx, ⟨hi1, hi2⟩, Bx⟩ := hu.out
          clear hu
          obtain ⟨ad, cd, rfl⟩ : ∃ a c, vd = Value.slice a dA.length c := hd.shape
          obtain ⟨ax, cx, rfl⟩ : ∃ a c, vx = Value.slice a xA.length c := hx.shape
          have HRD := Lib.hid hd
          have HRX := Lib.hid hx
          have hpl := HP.out.lt
          have HP := Lib.hid (HP.out.below' Bx)
          have HPI : Hid (∀ u0 u1 u2, IntsIn (put3 w4 p u0 u1 u2) (.slice ad dA.length cd) dA ∧ IntsIn (put3 w4 p u0 u1 u2) (.slice ax xA.length cx) xA) := Lib.hid fun u0 u1 u2 => ⟨ints_highD hd hi1 hpl, ints_highD hx hi2 hpl⟩
          have B4 : Hid (Below wr.heap.size wr w4) := Lib.hid (B3.out.trans (Bx.mono B3.out.size))
          refine hK.out _ _ B4.out ?_
          clear hK K' Bx hd hx hi1 hi2 HNO HTS
          try simp only [Act.put, List.getElem_toArray, List.getElem_cons_zero, List.getElem_cons_succ, List.setIfInBounds_toArray, List.set_cons_zero, List.set_cons_succ]
          refine fork_read (v := ?_) rfl (Or.inl ⟨by rfl, ?_⟩) ?_
          rotate_left
          · intro W' hSw
            skip
            go_simp
            try with_reducible rfl
          try simp only [Act.put, List.getElem_toArray, List.getElem_cons_zero, List.getElem_cons_succ, List.setIfInBounds_toArray, List.set_cons_zero, List.set_cons_succ]
          refine fork_read (v := ?_) rfl (Or.inl ⟨by rfl, ?_⟩) ?_
          rotate_left
          · intro W' hSw
            skip
            go_simp
            try with_reducible rfl
          try simp only [Act.put, List.getElem_toArray, List.getElem_cons_zero, List.getElem_cons_succ, List.setIfInBounds_toArray, List.set_cons_zero, List.set_cons_succ]
          refine fork_read (v := ?_) rfl (Or.inl ⟨by rfl, ?_⟩) ?_
          rotate_left
          · intro W' hSw
            skip
            go_simp
            try with_reducible rfl
          try simp only [Act.put, List.getElem_toArray, List.getElem_cons_zero, List.getElem_cons_succ, List.setIfInBounds_toArray, List.set_cons_zero, List.set_cons_succ]
          refine fork_one rfl rfl ?_
          intro K' hK
          go_simp
          obtain ⟨f0, f1, f2⟩ := HP.out.three
          obtain ⟨z0, z1, z2⟩ := HP.out.thaw3
          have HAF : Hid (AftD wr (cA, tA, dA, xA) (put3 w4 p (.int .i64 tA) (.slice ad dA.length cd) (.slice ax xA.length cx)) p ad cd ax cx) := Lib.hid (AftD.mk (below_put3 B4.out HPL.out) HPL.out (HP.out.put3 _ _ _) (HPI.out _ _ _).1 (HPI.out _ _ _).2)
          have B5 : Hid (Below wr.heap.size wr (put3 w4 p (.int .i64 tA) (.slice ad dA.length cd) (.slice ax xA.length cx))) := Lib.hid (below_put3 B4.out HPL.out)
          go_simp
          refine hK.out _ (put3 w4 p _ _ _) B5.out ?_
          generalize put3 w4 p (.int .i64 tA) (.slice ad dA.length cd) (.slice ax xA.length cx) = w5 at HAF B5 ⊢
          clear hK K' f0 f1 f2 z0 z1 z2
          refine fork_tail rfl ?_
          simp only [List.toList_toArray, List.drop_succ_cons, List.drop_zero]
          exact HRest.out _ p bs vin vat ad cd ax cx HAF
      · intro K' hK
        go_simp
        have Bx : Below w1.heap.size w1 (w1.alloc (Obj.cells #[.int .i64 0, .slice none 0 0, .slice none 0 0] 38)) := (Below.refl _ _).alloc (Nat.le_refl _) _
        have HPN : Hid (BoxN (w1.alloc (Obj.cells #[.int .i64 0, .slice none 0 0, .slice none 0 0] 38)) w1.heap.size #[.int .i64 0, .slice none 0 0, .slice none 0 0] 38) := Lib.hid (BoxN.new _ _ _)
        have HTS := Lib.hid (HTS.out.below' Bx)
        have HPL : Hid (wr.heap.size ≤ w1.heap.size) := Lib.hid B1.out.size
        have B2 : Hid (Below wr.heap.size wr (w1.alloc (Obj.cells #[.int .i64 0, .slice none 0 0, .slice none 0 0] 38))) := Lib.hid (B1.out.trans (Bx.mono B1.out.size))
        refine hK.out _ _ B2.out ?_
        clear hK K' Bx
        generalize w1.alloc (Obj.cells #[.int .i64 0, .slice none 0 0, .slice none 0 0] 38) = w2 at B2 HPN HTS ⊢
        generalize w1.heap.size = p at HPN HPL ⊢
        have HP := HPN
        clear HPN
        try simp only [Act.put, List.getElem_toArray, List.getElem_cons_zero, List.getElem_cons_succ, List.setIfInBounds_toArray, List.set_cons_zero, List.set_cons_succ]
        refine fork_one rfl rfl ?_
        intro K' hK
        go_simp
        refine (HAX.out w2).mono ?_
        rintro e w3 ⟨vin, vat, ts, rfl, hno, Bx⟩
        have HNO := Lib.hid hno
        have HTS := Lib.hid (HTS.out.below' Bx)
        have HP := Lib.hid (HP.out.below' Bx)
        have B3 : Hid (Below wr.heap.size wr w3) := Lib.hid (B2.out.trans (Bx.mono B2.out.size))
        refine hK.out _ _ B3.out ?_
        clear hK K' Bx hno
        try simp only [Act.put, List.getElem_toArray, List.getElem_cons_zero, List.getElem_cons_succ, List.setIfInBounds_toArray, List.set_cons_zero, List.set_cons_succ]
        refine fork_one rfl rfl ?_
        intro K' hK
        go_simp
        refine (HDO.out w3 _ _ _ _ _ B3.out HNO.out (tens_one (x := (xt, xd, xx)) HTS.out ⟨HXT.out, HXD.out.below B3.out, HXX.out.below B3.out⟩)).mono ?_
        intro e w4 hu
        obtain ⟨vd, vx, rfl, hd, hx, ⟨hi1, hi2⟩, Bx⟩ := hu.out
        clear hu
        obtain ⟨ad, cd, rfl⟩ : ∃ a c, vd = Value.slice a dA.length c := hd.shape
        obtain ⟨ax, cx, rfl⟩ : ∃ a c, vx = Value.slice a xA.length c := hx.shape
        have HRD := Lib.hid hd
        have HRX := Lib.hid hx
        have hpl := HP.out.lt
        have HP := Lib.hid (HP.out.below' Bx)
        have HPI : Hid (∀ u0 u1 u2, IntsIn (put3 w4 p u0 u1 u2) (.slice ad dA.length cd) dA ∧ IntsIn (put3 w4 p u0 u1 u2) (.slice ax xA.length cx) xA) := Lib.hid fun u0 u1 u2 => ⟨ints_highD hd hi1 hpl, ints_highD hx hi2 hpl⟩
        have B4 : Hid (Below wr.heap.size wr w4) := Lib.hid (B3.out.trans (Bx.mono B3.out.size))
        refine hK.out _ _ B4.out ?_
        clear hK K' Bx hd hx hi1 hi2 HNO HTS
        try simp only [Act.put, List.getElem_toArray, List.getElem_cons_zero, List.getElem_cons_succ, List.setIfInBounds_toArray, List.set_cons_zero, List.set_cons_succ]
        refine fork_read (v := ?_) rfl (Or.inl ⟨by rfl, ?_⟩) ?_
        rotate_left
        · intro W' hSw
          skip
          go_simp
          try with_reducible rfl
        try simp only [Act.put, List.getElem_toArray, List.getElem_cons_zero, List.getElem_cons_succ, List.setIfInBounds_toArray, List.set_cons_zero, List.set_cons_succ]
        refine fork_read (v := ?_) rfl (Or.inl ⟨by rfl, ?_⟩) ?_
        rotate_left
        · intro W' hSw
          skip
          go_simp
          try with_reducible rfl
        try simp only [Act.put, List.getElem_toArray, List.getElem_cons_zero, List.getElem_cons_succ, List.setIfInBounds_toArray, List.set_cons_zero, List.set_cons_succ]
        refine fork_read (v := ?_) rfl (Or.inl ⟨by rfl, ?_⟩) ?_
        rotate_left
        · intro W' hSw
          skip
          go_simp
          try with_reducible rfl
        try simp only [Act.put, List.getElem_toArray, List.getElem_cons_zero, List.getElem_cons_succ, List.setIfInBounds_toArray, List.set_cons_zero, List.set_cons_succ]
        refine fork_one rfl rfl ?_
        intro K' hK
        go_simp
        obtain ⟨f0, f1, f2⟩ := HP.out.three
        obtain ⟨z0, z1, z2⟩ := HP.out.thaw3
        have HAF : Hid (AftD wr (cA, tA, dA, xA) (put3 w4 p (.int .i64 tA) (.slice ad dA.length cd) (.slice ax xA.length cx)) p ad cd ax cx) := Lib.hid (AftD.mk (below_put3 B4.out HPL.out) HPL.out (HP.out.put3 _ _ _) (HPI.out _ _ _).1 (HPI.out _ _ _).2)
        have B5 : Hid (Below wr.heap.size wr (put3 w4 p (.int .i64 tA) (.slice ad dA.length cd) (.slice ax xA.length cx))) := Lib.hid (below_put3 B4.out HPL.out)
        go_simp
        refine hK.out _ (put3 w4 p _ _ _) B5.out ?_
        generalize put3 w4 p (.int .i64 tA) (.slice ad dA.length cd) (.slice ax xA.length cx) = w5 at HAF B5 ⊢
        clear hK K' f0 f1 f2 z0 z1 z2
        refine fork_tail rfl ?_
        simp only [List.toList_toArray, List.drop_succ_cons, List.drop_zero]
        exact HRest.out _ p bs vin vat ad cd ax cx HAF
    · intro K' hK
      go_simp
      have Bx : Below wD.heap.size wD (wD.alloc (Obj.cells #[.int .i64 0, .slice none 0 0, .slice none 0 0] 38)) := (Below.refl _ _).alloc (Nat.le_refl _) _
      have HPN : Hid (BoxN (wD.alloc (Obj.cells #[.int .i64 0, .slice none 0 0, .slice none 0 0] 38)) wD.heap.size #[.int .i64 0, .slice none 0 0, .slice none 0 0] 38) := Lib.hid (BoxN.new _ _ _)
      have HPL : Hid (wr.heap.size ≤ wD.heap.size) := Lib.hid B0.out.size
      have B1 : Hid (Below wr.heap.size wr (wD.alloc (Obj.cells #[.int .i64 0, .slice none 0 0, .slice none 0 0] 38))) := Lib.hid (B0.out.trans (Bx.mono B0.out.size))
      refine hK.out _ _ B1.out ?_
      clear hK K' Bx
      generalize wD.alloc (Obj.cells #[.int .i64 0, .slice none 0 0, .slice none 0 0] 38) = w1 at B1 HPN ⊢
      generalize wD.heap.size = p at HPN HPL ⊢
      have HP := HPN
      clear HPN
      try simp only [Act.put, List.getElem_toArray, List.getElem_cons_zero, List.getElem_cons_succ, List.setIfInBounds_toArray, List.set_cons_zero, List.set_cons_succ]
      refine fork_two rfl rfl rfl rfl ?_ ?_
      · intro K' hK
        go_simp
        refine (HAX.out w1).mono ?_
        rintro e w2 ⟨vin, vat, ts, rfl, hno, Bx⟩
        have HNO := Lib.hid hno
        have HP := Lib.hid (HP.out.below' Bx)
        have B2 : Hid (Below wr.heap.size wr w2) := Lib.hid (B1.out.trans (Bx.mono B1.out.size))
        refine hK.out _ _ B2.out ?_
        clear hK K' Bx hno
        try simp only [Act.put, List.getElem_toArray, List.getElem_cons_zero, List.getElem_cons_succ, List.setIfInBounds_toArray, List.set_cons_zero, List.set_cons_succ]
        refine fork_one rfl rfl ?_
        intro K' hK
        go_simp
        have Bx : Below w2.heap.size w2 (w2.alloc (Obj.cells #[.int .i64 xt, .slice a1 xd.length c1, .slice a2 xx.length c2] 38)) := (Below.refl _ _).alloc (Nat.le_refl _) _
        have HTSN : Hid (BoxN (w2.alloc (Obj.cells #[.int .i64 xt, .slice a1 xd.length c1, .slice a2 xx.length c2] 38)) w2.heap.size #[.int .i64 xt, .slice a1 xd.length c1, .slice a2 xx.length c2] 38) := Lib.hid (BoxN.new _ _ _)
        have HNO := Lib.hid (HNO.out.below Bx)
        have HP := Lib.hid (HP.out.below' Bx)
        have B3 : Hid (Below wr.heap.size wr (w2.alloc (Obj.cells #[.int .i64 xt, .slice a1 xd.length c1, .slice a2 xx.length c2] 38))) := Lib.hid (B2.out.trans (Bx.mono B2.out.size))
        refine hK.out _ _ B3.out ?_
        clear hK K' Bx
        generalize w2.alloc (Obj.cells #[.int .i64 xt, .slice a1 xd.length c1, .slice a2 xx.length c2] 38) = w3 at B3 HTSN HNO HP ⊢
        generalize w2.heap.size = bs at HTSN ⊢
        have HTS := HTSN
        clear HTSN
        try simp only [Act.put, List.getElem_toArray, List.getElem_cons_zero, List.getElem_cons_succ, List.setIfInBounds_toArray, List.set_cons_zero, List.set_cons_succ]
        refine fork_one rfl rfl ?_
        intro K' hK
        go_simp
        refine (HDO.out w3 _ _ _ _ _ B3.out HNO.out (tens_one (x := (xt, xd, xx)) HTS.out ⟨HXT.out, HXD.out.below B3.out, HXX.out.below B3.out⟩)).mono ?_
        intro e w4 hu
        obtain ⟨vd, vx, rfl, hd, hx, ⟨hi1, hi2⟩, Bx⟩ := hu.out
        clear hu
        obtain ⟨ad, cd, rfl⟩ : ∃ a c, vd = Value.slice a dA.length c := hd.shape
        obtain ⟨ax, cx, rfl⟩ : ∃ a c, vx = Value.slice a xA.length c := hx.shape
        have HRD := Lib.hid hd
        have HRX := Lib.hid hx
        have hpl := HP.out.lt
        have HP := Lib.hid (HP.out.below' Bx)
        have HPI : Hid (∀ u0 u1 u2, IntsIn (put3 w4 p u0 u1 u2) (.slice ad dA.length cd) dA ∧ IntsIn (put3 w4 p u0 u1 u2) (.slice ax xA.length cx) xA) := Lib.hid fun u0 u1 u2 => ⟨ints_highD hd hi1 hpl, ints_highD hx hi2 hpl⟩
        have B4 : Hid (Below wr.heap.size wr w4) := Lib.hid (B3.out.trans (Bx.mono B3.out.size))
        refine hK.out _ _ B4.out ?_
        clear hK K' Bx hd hx hi1 hi2 HNO HTS
        try simp only [Act.put, List.getElem_toArray, List.getElem_cons_zero, List.getElem_cons_succ, List.setIfInBounds_toArray, List.set_cons_zero, List.set_cons_succ]
        refine fork_read (v := ?_) rfl (Or.inl ⟨by rfl, ?_⟩) ?_
        rotate_left
        · intro W' hSw
          skip
          go_simp
          try with_reducible rfl
        try simp only [Act.put, List.getElem_toArray, List.getElem_cons_zero, List.getElem_cons_succ, List.setIfInBounds_toArray, List.set_cons_zero, List.set_cons_succ]
        refine fork_read (v := ?_) rfl (Or.inl ⟨by rfl, ?_⟩) ?_
        rotate_left
        · intro W' hSw
          skip
          go_simp
          try with_reducible rfl
        try simp only [Act.put, List.getElem_toArray, List.getElem_cons_zero, List.getElem_cons_succ, List.setIfInBounds_toArray, List.set_cons_zero, List.set_cons_succ]
        refine fork_read (v := ?_) rfl (Or.inl ⟨by rfl, ?_⟩) ?_
        rotate_left
        · intro W' hSw
          skip
          go_simp
          try with_reducible rfl
        try simp only [Act.put, List.getElem_toArray, List.getElem_cons_zero, List.getElem_cons_succ, List.setIfInBounds_toArray, List.set_cons_zero, List.set_cons_succ]
        refine fork_one rfl rfl ?_
        intro K' hK
        go_simp
        obtain ⟨f0, f1, f2⟩ := HP.out.three
        obtain ⟨z0, z1, z2⟩ := HP.out.thaw3
        have HAF : Hid (AftD wr (cA, tA, dA, xA) (put3 w4 p (.int .i64 tA) (.slice ad dA.length cd) (.slice ax xA.length cx)) p ad cd ax cx) := Lib.hid (AftD.mk (below_put3 B4.out HPL.out) HPL.out (HP.out.put3 _ _ _) (HPI.out _ _ _).1 (HPI.out _ _ _).2)
        have B5 : Hid (Below wr.heap.size wr (put3 w4 p (.int .i64 tA) (.slice ad dA.length cd) (.slice ax xA.length cx))) := Lib.hid (below_put3 B4.out HPL.out)
        go_simp
        refine hK.out _ (put3 w4 p _ _ _) B5.out ?_
        generalize put3 w4 p (.int .i64 tA) (.slice ad dA.length cd) (.slice ax xA.length cx) = w5 at HAF B5 ⊢
        clear hK K' f0 f1 f2 z0 z1 z2
        refine fork_tail rfl ?_
        simp only [List.toList_toArray, List.drop_succ_cons, List.drop_zero]
        exact HRest.out _ p bs vin vat ad cd ax cx HAF
      · intro K' hK
        go_simp
        have Bx : Below w1.heap.size w1 (w1.alloc (Obj.cells #[.int .i64 xt, .slice a1 xd.length c1, .slice a2 xx.length c2] 38)) := (Below.refl _ _).alloc (Nat.le_refl _) _
        have HTSN : Hid (BoxN (w1.alloc (Obj.cells #[.int .i64 xt, .slice a1 xd.length c1, .slice a2 xx.length c2] 38)) w1.heap.size #[.int .i64 xt, .slice a1 xd.length c1, .slice a2 xx.length c2] 38) := Lib.hid (BoxN.new _ _ _)
        have HP := Lib.hid (HP.out.below' Bx)
        have B2 : Hid (Below wr.heap.size wr (w1.alloc (Obj.cells #[.int .i64 xt, .slice a1 xd.length c1, .slice a2 xx.length c2] 38))) := Lib.hid (B1.out.trans (Bx.mono B1.out.size))
        refine hK.out _ _ B2.out ?_
        clear hK K' Bx
        generalize w1.alloc (Obj.cells #[.int .i64 xt, .slice a1 xd.length c1, .slice a2 xx.length c2] 38) = w2 at B2 HTSN HP ⊢
        generalize w1.heap.size = bs at HTSN ⊢
        have HTS := HTSN
        clear HTSN
        try simp only [Act.put, List.getElem_toArray, List.getElem_cons_zero, List.getElem_cons_succ, List.setIfInBounds_toArray, List.set_cons_zero, List.set_cons_succ]
        refine fork_one rfl rfl ?_
        intro K' hK
        go_simp
        refine (HAX.out w2).mono ?_
        rintro e w3 ⟨vin, vat, ts, rfl, hno, Bx⟩
        have HNO := Lib.hid hno
        have HTS := Lib.hid (HTS.out.below' Bx)
        have HP := Lib.hid (HP.out.below' Bx)
        have B3 : Hid (Below wr.heap.size wr w3) := Lib.hid (B2.out.trans (Bx.mono B2.out.size))
        refine hK.out _ _ B3.out ?_
        clear hK K' Bx hno
        try simp only [Act.put, List.getElem_toArray, List.getElem_cons_zero, List.getElem_cons_succ, List.setIfInBounds_toArray, List.set_cons_zero, List.set_cons_succ]
        refine fork_one rfl rfl ?_
        intro K' hK
        go_simp
        refine (HDO.out w3 _ _ _ _ _ B3.out HNO.out (tens_one (x := (xt, xd, xx)) HTS.out ⟨HXT.out, HXD.out.below B3.out, HXX.out.below B3.out⟩)).mono ?_
        intro e w4 hu
        obtain ⟨vd, vx, rfl, hd, hx, ⟨hi1, hi2⟩, Bx⟩ := hu.out
        clear hu
        obtain ⟨ad, cd, rfl⟩ : ∃ a c, vd = Value.slice a dA.length c := hd.shape
        obtain ⟨ax, cx, rfl⟩ : ∃ a c, vx = Value.slice a xA.length c := hx.shape
        have HRD := Lib.hid hd
        have HRX := Lib.hid hx
        have hpl := HP.out.lt
        have HP := Lib.hid (HP.out.below' Bx)
        have HPI : Hid (∀ u0 u1 u2, IntsIn (put3 w4 p u0 u1 u2) (.slice ad dA.length cd) dA ∧ IntsIn (put3 w4 p u0 u1 u2) (.slice ax xA.length cx) xA) := Lib.hid fun u0 u1 u2 => ⟨ints_highD hd hi1 hpl, ints_highD hx hi2 hpl⟩
        have B4 : Hid (Below wr.heap.size wr w4) := Lib.hid (B3.out.trans (Bx.mono B3.out.size))
        refine hK.out _ _ B4.out ?_
        clear hK K' Bx hd hx hi1 hi2 HNO HTS
        try simp only [Act.put, List.getElem_toArray, List.getElem_cons_zero, List.getElem_cons_succ, List.setIfInBounds_toArray, List.set_cons_zero, List.set_cons_succ]
        refine fork_read (v := ?_) rfl (Or.inl ⟨by rfl, ?_⟩) ?_
        rotate_left
        · intro W' hSw
          skip
          go_simp
          try with_reducible rfl
        try simp only [Act.put, List.getElem_toArray, List.getElem_cons_zero, List.getElem_cons_succ, List.setIfInBounds_toArray, List.set_cons_zero, List.set_cons_succ]
        refine fork_read (v := ?_) rfl (Or.inl ⟨by rfl, ?_⟩) ?_
        rotate_left
        · intro W' hSw
          skip
          go_simp
          try with_reducible rfl
        try simp only [Act.put, List.getElem_toArray, List.getElem_cons_zero, List.getElem_cons_succ, List.setIfInBounds_toArray, List.set_cons_zero, List.set_cons_succ]
        refine fork_read (v := ?_) rfl (Or.inl ⟨by rfl, ?_⟩) ?_
        rotate_left
        · intro W' hSw
          skip
          go_simp
          try with_reducible rfl
        try simp only [Act.put, List.getElem_toArray, List.getElem_cons_zero, List.getElem_cons_succ, List.setIfInBounds_toArray, List.set_cons_zero, List.set_cons_succ]
        refine fork_one rfl rfl ?_
        intro K' hK
        go_simp
        obtain ⟨f0, f1, f2⟩ := HP.out.three
        obtain ⟨z0, z1, z2⟩ := HP.out.thaw3
        have HAF : Hid (AftD wr (cA, tA, dA, xA) (put3 w4 p (.int .i64 tA) (.slice ad dA.length cd) (.slice ax xA.length cx)) p ad cd ax cx) := Lib.hid (AftD.mk (below_put3 B4.out HPL.out) HPL.out (HP.out.put3 _ _ _) (HPI.out _ _ _).1 (HPI.out _ _ _).2)
        have B5 : Hid (Below wr.heap.size wr (put3 w4 p (.int .i64 tA) (.slice ad dA.length cd) (.slice ax xA.length cx))) := Lib.hid (below_put3 B4.out HPL.out)
        go_simp
        refine hK.out _ (put3 w4 p _ _ _) B5.out ?_
        generalize put3 w4 p (.int .i64 tA) (.slice ad dA.length cd) (.slice ax xA.length cx) = w5 at HAF B5 ⊢
        clear hK K' f0 f1 f2 z0 z1 z2
        refine fork_tail rfl ?_
        simp only [List.toList_toArray, List.drop_succ_cons, List.drop_zero]
        exact HRest.out _ p bs vin vat ad cd ax cx HAF
  intro W7 p7 bs7 vin7 vat7 ad7 cd7 ax7 cx7 HAF
  obtain ⟨hB, hp7, hP7, hD7, hX7⟩ := HAF.out.all
  clear HAF HSr HDO HAX
  dsimp only at hP7 hD7 hX7
  have HB7 := Lib.hid (HBw.out.trans (hB.mono HBw.out.size))
  have HTB := Lib.hid (HTB.out.below' hB)
  have HXD := Lib.hid (HXD.out.below hB)
  have HXX := Lib.hid (HXX.out.below hB)
  have HP7 := Lib.hid hP7
  have HX7 := Lib.hid hX7
  have HGW : Hid (∀ W, Below W7.heap.size W7 W → Glob W) := Lib.hid fun W h => HG.out.below (HB7.out.trans (h.mono HB7.out.size))
  clear hB hp7 hP7 hD7 hX7
  go_wp2_with fail
  have HAX : Hid (∀ W : World, Calls Tryz.prog 20 #[.string ⟨#[82, 101, 100, 117, 99, 101, 77, 97, 120]⟩, .int .i64 (-1), .int .i64 0] W fun e w' => ∃ vin vat ts, e = .returned (.agg #[.string ⟨#[82, 101, 100, 117, 99, 101, 77, 97, 120]⟩, .string ⟨#[]⟩, vin, .string ⟨#[122]⟩, vat]) ∧ NodeO w' W.heap.size (nK oRMax (-1) 0) vin vat ts ∧ Below W.heap.size W w') := Lib.hid (axisOf_any oRMax (-1) 0)
  obtain ⟨⟨cB, tB, dB, xB⟩, hE⟩ : ∃ o, redD (nK oRMax (-1) 0) (xt, xd, xx) = o := ⟨_, rfl⟩
  have HDO : Hid (∀ (W : World) (B : Nat) (vin vat vv : Value) (ts : List Tri), Below W7.heap.size W7 W → NodeO W B (nK oRMax (-1) 0) vin vat ts → SlIn 3 rdTensor W vv [(xt, xd, xx)] → Calls Tryz.prog 19 #[.agg #[.string ⟨#[82, 101, 100, 117, 99, 101, 77, 97, 120]⟩, .string ⟨#[]⟩, vin, .string ⟨#[122]⟩, vat], vv] W (UniR W (cB, tB, dB, xB))) := Lib.hid (by rw [← hE]; exact red_do HGW.out (op := oRMax) m_max inI_m1 inI_z (xt, xd, xx))
  rw [hE] at HSM HPL
  clear hE
  have HSr : Hid (∀ W', Below W7.heap.size W7 W' → BoxN W' (w.heap.size) #[.int .i64 xt, .slice a1 xd.length c1, .slice a2 xx.length c2] 38) := Lib.hid fun W' h => HTB.out.below' h
  apply share9 (P := fun W p bs vin vat ad cd ax cx => Hid (AftD W7 (cB, tB, dB, xB) W p ad cd ax cx))
  · intro hrest
    have HRest := Lib.hid hrest
    clear hrest
    refine wp_region_fork 9 (Pf.read 1 (Pf.acts [0, 2, 7] fun i => if i = 0 then (Pf.acts [2, 7] fun i => if i = 2 then (Pf.acts [3, 7] fun i => if i = 3 then (Pf.read 4 (Pf.read 5 (Pf.read 6 (Pf.acts [7] fun i => if i = 7 then (Pf.acts [8] fun i => if i = 8 then Pf.tail else Pf.tail) else Pf.tail)))) else if i = 7 then (Pf.acts [3] fun i => if i = 3 then (Pf.read 4 (Pf.read 5 (Pf.read 6 (Pf.acts [8] fun i => if i = 8 then Pf.tail else Pf.tail)))) else Pf.tail) else Pf.tail) else if i = 7 then (Pf.acts [2] fun i => if i = 2 then (Pf.acts [3] fun i => if i = 3 then (Pf.read 4 (Pf.read 5 (Pf.read 6 (Pf.acts [8] fun i => if i = 8 then Pf.tail else Pf.tail)))) else Pf.tail) else Pf.tail) else Pf.tail) else if i = 2 then (Pf.acts [0, 7] fun i => if i = 0 then (Pf.acts [3, 7] fun i => if i = 3 then (Pf.read 4 (Pf.read 5 (Pf.read 6 (Pf.acts [7] fun i => if i = 7 then (Pf.acts [8] fun i => if i = 8 then Pf.tail else Pf.tail) else Pf.tail)))) else if i = 7 then (Pf.acts [3] fun i => if i = 3 then (Pf.read 4 (Pf.read 5 (Pf.read 6 (Pf.acts [8] fun i => if i = 8 then Pf.tail else Pf.tail)))) else Pf.tail) else Pf.tail) else if i = 7 then (Pf.acts [0] fun i => if i = 0 then (Pf.acts [3] fun i => if i = 3 then (Pf.read 4 (Pf.read 5 (Pf.read 6 (Pf.acts [8] fun i => if i = 8 then Pf.tail else Pf.tail)))) else Pf.tail) else Pf.tail) else Pf.tail) else if i = 7 then (Pf.acts [0, 2] fun i => if i = 0 then (Pf.acts [2] fun i => if i = 2 then (Pf.acts [3] fun i => if i = 3 then (Pf.read 4 (Pf.read 5 (Pf.read 6 (Pf.acts [8] fun i => if i = 8 then Pf.tail else Pf.tail)))) else Pf.tail) else Pf.tail) else if i = 2 then (Pf.acts [0] fun i => if i = 0 then (Pf.acts [3] fun i => if i = 3 then (Pf.read 4 (Pf.read 5 (Pf.read 6 (Pf.acts [8] fun i => if i = 8 then Pf.tail else Pf.tail)))) else Pf.tail) else Pf.tail) else Pf.tail) else Pf.tail)) (fun W' => Below W7.heap.size W7 W') (by kernel_rfl) (by kernel_rfl) (fun _ d _ _ _ h => by cases d <;> exact h) (Below.refl _ _).drew ?_
    have B0 : Hid (Below W7.heap.size W7 W7.drew) := Lib.hid (Below.refl _ _).drew
    generalize W7.drew = wD at B0 ⊢
    refine fork_read (v := ?_) rfl (Or.inl ⟨by rfl, ?_⟩) ?_
    rotate_left
    · intro W' hSw
      obtain ⟨s0, s1, s2⟩ := (HSr.out W' hSw).three
      go_simp
      try with_reducible rfl
    try simp only [Act.put, List.getElem_toArray, List.getElem_cons_zero, List.getElem_cons_succ, List.setIfInBounds_toArray, List.set_cons_zero, List.set_cons_succ]
    refine fork_three rfl rfl rfl rfl rfl rfl ?_ ?_ ?_
    · intro K' hK
      go_simp
      refine (HAX.out wD).mono ?_
      rintro e w1 ⟨vin, vat, ts, rfl, hno, Bx⟩
      have HNO := Lib.hid hno
      have B1 : Hid (Below W7.heap.size W7 w1) := Lib.hid (B0.out.trans (Bx.mono B0.out.size))
      refine hK.out _ _ B1.out ?_
      clear hK K' Bx hno
      try simp only [Act.put, List.getElem_toArray, List.getElem_cons_zero, List.getElem_cons_succ, List.setIfInBounds_toArray, List.set_cons_zero, List.set_cons_succ]
      refine fork_two rfl rfl rfl rfl ?_ ?_
      · intro K' hK
        go_simp
        have Bx : Below w1.heap.size w1 (w1.alloc (Obj.cells #[.int .i64 xt, .slice a1 xd.length c1, .slice a2 xx.length c2] 38)) := (Below.refl _ _).alloc (Nat.le_refl _) _
        have HTSN : Hid (BoxN (w1.alloc (Obj.cells #[.int .i64 xt, .slice a1 xd.length c1, .slice a2 xx.length c2] 38)) w1.heap.size #[.int .i64 xt, .slice a1 xd.length c1, .slice a2 xx.length c2] 38) := Lib.hid (BoxN.new _ _ _)
        have HNO := Lib.hid (HNO.out.below Bx)
        have B2 : Hid (Below W7.heap.size W7 (w1.alloc (Obj.cells #[.int .i64 xt, .slice a1 xd.length c1, .slice a2 xx.length c2] 38))) := Lib.hid (B1.out.trans (Bx.mono B1.out.size))
        refine hK.out _ _ B2.out ?_
        clear hK K' Bx
        generalize w1.alloc (Obj.cells #[.int .i64 xt, .slice a1 xd.length c1, .slice a2 xx.length c2] 38) = w2 at B2 HTSN HNO ⊢
        generalize w1.heap.size = bs at HTSN ⊢
        have HTS := HTSN
        clear HTSN
        try simp only [Act.put, List.getElem_toArray, List.getElem_cons_zero, List.getElem_cons_succ, List.setIfInBounds_toArray, List.set_cons_zero, List.set_cons_succ]
        refine fork_two rfl rfl rfl rfl ?_ ?_
        · intro K' hK
          go_simp
          refine (HDO.out w2 _ _ _ _ _ B2.out HNO.out (tens_one (x := (xt, xd, xx)) HTS.out ⟨HXT.out, HXD.out.below B2.out, HXX.out.below B2.out⟩)).mono ?_
          intro e w3 hu
          obtain ⟨vd, vx, rfl, hd, hx, ⟨hi1, hi2⟩, Bx⟩ := hu.out
          clear hu
          obtain ⟨ad, cd, rfl⟩ : ∃ a c, vd = Value.slice a dB.length c := hd.shape
          obtain ⟨ax, cx, rfl⟩ : ∃ a c, vx = Value.slice a xB.length c := hx.shape
          have HRD := Lib.hid hd
          have HRX := Lib.hid hx
          have HRD0 := HRD
          have HRX0 := HRX
          have B3 : Hid (Below W7.heap.size W7 w3) := Lib.hid (B2.out.trans (Bx.mono B2.out.size))
          refine hK.out _ _ B3.out ?_
          clear hK K' Bx hd hx hi1 hi2 HNO HTS
          try simp only [Act.put, List.getElem_toArray, List.getElem_cons_zero, List.getElem_cons_succ, List.setIfInBounds_toArray, List.set_cons_zero, List.set_cons_succ]
          refine fork_read (v := ?_) rfl (Or.inl ⟨by rfl, ?_⟩) ?_
          rotate_left
          · intro W' hSw
            skip
            go_simp
            try with_reducible rfl
          try simp only [Act.put, List.getElem_toArray, List.getElem_cons_zero, List.getElem_cons_succ, List.setIfInBounds_toArray, List.set_cons_zero, List.set_cons_succ]
          refine fork_read (v := ?_) rfl (Or.inl ⟨by rfl, ?_⟩) ?_
          rotate_left
          · intro W' hSw
            skip
            go_simp
            try with_reducible rfl
          try simp only [Act.put, List.getElem_toArray, List.getElem_cons_zero, List.getElem_cons_succ, List.setIfInBounds_toArray, List.set_cons_zero, List.set_cons_succ]
          refine fork_read (v := ?_) rfl (Or.inl ⟨by rfl, ?_⟩) ?_
          rotate_left
          · intro W' hSw
            skip
            go_simp
            try with_reducible rfl
          try simp only [Act.put, List.getElem_toArray, List.getElem_cons_zero, List.getElem_cons_succ, List.setIfInBounds_toArray, List.set_cons_zero, List.set_cons_succ]
          refine fork_one rfl rfl ?_
          intro K' hK
          go_simp
          have Bx : Below w3.heap.size w3 (w3.alloc (Obj.cells #[.int .i64 0, .slice none 0 0, .slice none 0 0] 38)) := (Below.refl _ _).alloc (Nat.le_refl _) _
          have HPN : Hid (BoxN (w3.alloc (Obj.cells #[.int .i64 0, .slice none 0 0, .slice none 0 0] 38)) w3.heap.size #[.int .i64 0, .slice none 0 0, .slice none 0 0] 38) := Lib.hid (BoxN.new _ _ _)
          have HRD := Lib.hid (HRD.out.below Bx)
          have HRX := Lib.hid (HRX.out.below Bx)
          have HPL : Hid (W7.heap.size ≤ w3.heap.size) := Lib.hid B3.out.size
          have HPI : Hid (∀ u0 u1 u2, IntsIn (put3 (w3.alloc (Obj.cells #[.int .i64 0, .slice none 0 0, .slice none 0 0] 38)) w3.heap.size u0 u1 u2) (.slice ad dB.length cd) dB ∧ IntsIn (put3 (w3.alloc (Obj.cells #[.int .i64 0, .slice none 0 0, .slice none 0 0] 38)) w3.heap.size u0 u1 u2) (.slice ax xB.length cx) xB) := Lib.hid fun u0 u1 u2 => ⟨ints_freshD HRD0.out rfl _, ints_freshD HRX0.out rfl _⟩
          clear HRD0 HRX0
          have B4 : Hid (Below W7.heap.size W7 (w3.alloc (Obj.cells #[.int .i64 0, .slice none 0 0, .slice none 0 0] 38))) := Lib.hid (B3.out.trans (Bx.mono B3.out.size))
          refine hK.out _ _ B4.out ?_
          clear hK K' Bx
          generalize w3.alloc (Obj.cells #[.int .i64 0, .slice none 0 0, .slice none 0 0] 38) = w4 at B4 HPN HRD HRX HPI ⊢
          generalize w3.heap.size = p at HPN HPL HPI ⊢
          have HP := HPN
          clear HPN
          try simp only [Act.put, List.getElem_toArray, List.getElem_cons_zero, List.getElem_cons_succ, List.setIfInBounds_toArray, List.set_cons_zero, List.set_cons_succ]
          refine fork_one rfl rfl ?_
          intro K' hK
          go_simp
          obtain ⟨f0, f1, f2⟩ := HP.out.three
          obtain ⟨z0, z1, z2⟩ := HP.out.thaw3
          have HAF : Hid (AftD W7 (cB, tB, dB, xB) (put3 w4 p (.int .i64 tB) (.slice ad dB.length cd) (.slice ax xB.length cx)) p ad cd ax cx) := Lib.hid (AftD.mk (below_put3 B4.out HPL.out) HPL.out (HP.out.put3 _ _ _) (HPI.out _ _ _).1 (HPI.out _ _ _).2)
          have B5 : Hid (Below W7.heap.size W7 (put3 w4 p (.int .i64 tB) (.slice ad dB.length cd) (.slice ax xB.length cx))) := Lib.hid (below_put3 B4.out HPL.out)
          go_simp
          refine hK.out _ (put3 w4 p _ _ _) B5.out ?_
          generalize put3 w4 p (.int .i64 tB) (.slice ad dB.length cd) (.slice ax xB.length cx) = w5 at HAF B5 ⊢
          clear hK K' f0 f1 f2 z0 z1 z2
          refine fork_tail rfl ?_
          simp only [List.toList_toArray, List.drop_succ_cons, List.drop_zero]
          exact HRest.out _ p bs vin vat ad cd ax cx HAF
        · intro K' hK
          go_simp
          have Bx : Below w2.heap.size w2 (w2.alloc (Obj.cells #[.int .i64 0, .slice none 0 0, .slice none 0 0] 38)) := (Below.refl _ _).alloc (Nat.le_refl _) _
          have HPN : Hid (BoxN (w2.alloc (Obj.cells #[.int .i64 0, .slice none 0 0, .slice none 0 0] 38)) w2.heap.size #[.int .i64 0, .slice none 0 0, .slice none 0 0] 38) := Lib.hid (BoxN.new _ _ _)
          have HNO := Lib.hid (HNO.out.below Bx)
          have HTS := Lib.hid (HTS.out.below' Bx)
          have HPL : Hid (W7.heap.size ≤ w2.heap.size) := Lib.hid B2.out.size
          have B3 : Hid (Below W7.heap.size W7 (w2.alloc (Obj.cells #[.int .i64 0, .slice none 0 0, .slice none 0 0] 38))) := Lib.hid (B2.out.trans (Bx.mono B2.out.size))
          refine hK.out _ _ B3.out ?_
          clear hK K' Bx
          generalize w2.alloc (Obj.cells #[.int .i64 0, .slice none 0 0, .slice none 0 0] 38) = w3 at B3 HPN HNO HTS ⊢
          generalize w2.heap.size = p at HPN HPL ⊢
          have HP := HPN
          clear HPN
          try simp only [Act.put, List.getElem_toArray, List.getElem_cons_zero, List.getElem_cons_succ, List.setIfInBounds_toArray, List.set_cons_zero, List.set_cons_succ]
          refine fork_one rfl rfl ?_
          intro K' hK
          go_simp
          refine (HDO.out w3 _ _ _ _ _ B3.out HNO.out (tens_one (x := (xt, xd, xx)) HTS.out ⟨HXT.out, HXD.out.below B3.out, HXX.out.below B3.out⟩)).mono ?_
          intro e w4 hu
          obtain ⟨vd, vx, rfl, hd, hx, ⟨hi1, hi2⟩, Bx⟩ := hu.out
          clear hu
          obtain ⟨ad, cd, rfl⟩ : ∃ a c, vd = Value.slice a dB.length c := hd.shape
          obtain ⟨ax, cx, rfl⟩ : ∃ a c, vx = Value.slice a xB.length c := hx.shape
          have HRD := Lib.hid hd
          have HRX := Lib.hid hx
          have hpl := HP.out.lt
          have HP := Lib.hid (HP.out.below' Bx)
          have HPI : Hid (∀ u0 u1 u2, IntsIn (put3 w4 p u0 u1 u2) (.slice ad dB.length cd) dB ∧ IntsIn (put3 w4 p u0 u1 u2) (.slice ax xB.length cx) xB) := Lib.hid fun u0 u1 u2 => ⟨ints_highD hd hi1 hpl, ints_highD hx hi2 hpl⟩
          have B4 : Hid (Below W7.heap.size W7 w4) := Lib.hid (B3.out.trans (Bx.mono B3.out.size))
          refine hK.out _ _ B4.out ?_
          clear hK K' Bx hd hx hi1 hi2 HNO HTS
          try simp only [Act.put, List.getElem_toArray, List.getElem_cons_zero, List.getElem_cons_succ, List.setIfInBounds_toArray, List.set_cons_zero, List.set_cons_succ]
          refine fork_read (v := ?_) rfl (Or.inl ⟨by rfl, ?_⟩) ?_
          rotate_left
          · intro W' hSw
            skip
            go_simp
            try with_reducible rfl
          try simp only [Act.put, List.getElem_toArray, List.getElem_cons_zero, List.getElem_cons_succ, List.setIfInBounds_toArray, List.set_cons_zero, List.set_cons_succ]
          refine fork_read (v := ?_) rfl (Or.inl ⟨by rfl, ?_⟩) ?_
          rotate_left
          · intro W' hSw
            skip
            go_simp
            try with_reducible rfl
          try simp only [Act.put, List.getElem_toArray, List.getElem_cons_zero, List.getElem_cons_succ, List.setIfInBounds_toArray, List.set_cons_zero, List.set_cons_succ]
          refine fork_read (v := ?_) rfl (Or.inl ⟨by rfl, ?_⟩) ?_
          rotate_left
          · intro W' hSw
            skip
            go_simp
            try with_reducible rfl
          try simp only [Act.put, List.getElem_toArray, List.getElem_cons_zero, List.getElem_cons_succ, List.setIfInBounds_toArray, List.set_cons_zero, List.set_cons_succ]
          refine fork_one rfl rfl ?_
          intro K' hK
          go_simp
          obtain ⟨f0, f1, f2⟩ := HP.out.three
          obtain ⟨z0, z1, z2⟩ := HP.out.thaw3
          have HAF : Hid (AftD W7 (cB, tB, dB, xB) (put3 w4 p (.int .i64 tB) (.slice ad dB.length cd) (.slice ax xB.length cx)) p ad cd ax cx) := Lib.hid (AftD.mk (below_put3 B4.out HPL.out) HPL.out (HP.out.put3 _ _ _) (HPI.out _ _ _).1 (HPI.out _ _ _).2)
          have B5 : Hid (Below W7.heap.size W7 (put3 w4 p (.int .i64 tB) (.slice ad dB.length cd) (.slice ax xB.length cx))) := Lib.hid (below_put3 B4.out HPL.out)
          go_simp
          refine hK.out _ (put3 w4 p _ _ _) B5.out ?_
          generalize put3 w4 p (.int .i64 tB) (.slice ad dB.length cd) (.slice ax xB.length cx) = w5 at HAF B5 ⊢
          clear hK K' f0 f1 f2 z0 z1 z2
          refine fork_tail rfl ?_
          simp only [List.toList_toArray, List.drop_succ_cons, List.drop_zero]
          exact HRest.out _ p bs vin vat ad cd ax cx HAF
      · intro K' hK
        go_simp
        have Bx : Below w1.heap.size w1 (w1.alloc (Obj.cells #[.int .i64 0, .slice none 0 0, .slice none 0 0] 38)) := (Below.refl _ _).alloc (Nat.le_refl _) _
        have HPN : Hid (BoxN (w1.alloc (Obj.cells #[.int .i64 0, .slice none 0 0, .slice none 0 0] 38)) w1.heap.size #[.int .i64 0, .slice none 0 0, .slice none 0 0] 38) := Lib.hid (BoxN.new _ _ _)
        have HNO := Lib.hid (HNO.out.below Bx)
        have HPL : Hid (W7.heap.size ≤ w1.heap.size) := Lib.hid B1.out.size
        have B2 : Hid (Below W7.heap.size W7 (w1.alloc (Obj.cells #[.int .i64 0, .slice none 0 0, .slice none 0 0] 38))) := Lib.hid (B1.out.trans (Bx.mono B1.out.size))
        refine hK.out _ _ B2.out ?_
        clear hK K' Bx
        generalize w1.alloc (Obj.cells #[.int .i64 0, .slice none 0 0, .slice none 0 0] 38) = w2 at B2 HPN HNO ⊢
        generalize w1.heap.size = p at HPN HPL ⊢
        have HP := HPN
        clear HPN
        try simp only [Act.put, List.getElem_toArray, List.getElem_cons_zero, List.getElem_cons_succ, List.setIfInBounds_toArray, List.set_cons_zero, List.set_cons_succ]
        refine fork_one rfl rfl ?_
        intro K' hK
        go_simp
        have Bx : Below w2.heap.size w2 (w2.alloc (Obj.cells #[.int .i64 xt, .slice a1 xd.length c1, .slice a2 xx.length c2] 38)) := (Below.refl _ _).alloc (Nat.le_refl _) _
        have HTSN : Hid (BoxN (w2.alloc (Obj.cells #[.int .i64 xt, .slice a1 xd.length c1, .slice a2 xx.length c2] 38)) w2.heap.size #[.int .i64 xt, .slice a1 xd.length c1, .slice a2 xx.length c2] 38) := Lib.hid (BoxN.new _ _ _)
        have HNO := Lib.hid (HNO.out.below Bx)
        have HP := Lib.hid (HP.out.below' Bx)
        have B3 : Hid (Below W7.heap.size W7 (w2.alloc (Obj.cells #[.int .i64 xt, .slice a1 xd.length c1, .slice a2 xx.length c2] 38))) := Lib.hid (B2.out.trans (Bx.mono B2.out.size))
        refine hK.out _ _ B3.out ?_
        clear hK K' Bx
        generalize w2.alloc (Obj.cells #[.int .i64 xt, .slice a1 xd.length c1, .slice a2 xx.length c2] 38) = w3 at B3 HTSN HNO HP ⊢
        generalize w2.heap.size = bs at HTSN ⊢
        have HTS := HTSN
        clear HTSN
        try simp only [Act.put, List.getElem_toArray, List.getElem_cons_zero, List.getElem_cons_succ, List.setIfInBounds_toArray, List.set_cons_zero, List.set_cons_succ]
        refine fork_one rfl rfl ?_
        intro K' hK
        go_simp
        refine (HDO.out w3 _ _ _ _ _ B3.out HNO.out (tens_one (x := (xt, xd, xx)) HTS.out ⟨HXT.out, HXD.out.below B3.out, HXX.out.below B3.out⟩)).mono ?_
        intro e w4 hu
        obtain ⟨vd, vx, rfl, hd, hx, ⟨hi1, hi2⟩, Bx⟩ := hu.out
        clear hu
        obtain ⟨ad, cd, rfl⟩ : ∃ a c, vd = Value.slice a dB.length c := hd.shape
        obtain ⟨ax, cx, rfl⟩ : ∃ a c, vx = Value.slice a xB.length c := hx.shape
        have HRD := Lib.hid hd
        have HRX := Lib.hid hx
        have hpl := HP.out.lt
        have HP := Lib.hid (HP.out.below' Bx)
        have HPI : Hid (∀ u0 u1 u2, IntsIn (put3 w4 p u0 u1 u2) (.slice ad dB.length cd) dB ∧ IntsIn (put3 w4 p u0 u1 u2) (.slice ax xB.length cx) xB) := Lib.hid fun u0 u1 u2 => ⟨ints_highD hd hi1 hpl, ints_highD hx hi2 hpl⟩
        have B4 : Hid (Below W7.heap.size W7 w4) := Lib.hid (B3.out.trans (Bx.mono B3.out.size))
        refine hK.out _ _ B4.out ?_
        clear hK K' Bx hd hx hi1 hi2 HNO HTS
        try simp only [Act.put, List.getElem_toArray, List.getElem_cons_zero, List.getElem_cons_succ, List.setIfInBounds_toArray, List.set_cons_zero, List.set_cons_succ]
        refine fork_read (v := ?_) rfl (Or.inl ⟨by rfl, ?_⟩) ?_
        rotate_left
        · intro W' hSw
          skip
          go_simp
          try with_reducible rfl
        try simp only [Act.put, List.getElem_toArray, List.getElem_cons_zero, List.getElem_cons_succ, List.setIfInBounds_toArray, List.set_cons_zero, List.set_cons_succ]
        refine fork_read (v := ?_) rfl (Or.inl ⟨by rfl, ?_⟩) ?_
        rotate_left
        · intro W' hSw
          skip
          go_simp
          try with_reducible rfl
        try simp only [Act.put, List.getElem_toArray, List.getElem_cons_zero, List.getElem_cons_succ, List.setIfInBounds_toArray, List.set_cons_zero, List.set_cons_succ]
        refine fork_read (v := ?_) rfl (Or.inl ⟨by rfl, ?_⟩) ?_
        rotate_left
        · intro W' hSw
          skip
          go_simp
          try with_reducible rfl
        try simp only [Act.put, List.getElem_toArray, List.getElem_cons_zero, List.getElem_cons_succ, List.setIfInBounds_toArray, List.set_cons_zero, List.set_cons_succ]
        refine fork_one rfl rfl ?_
        intro K' hK
        go_simp
        obtain ⟨f0, f1, f2⟩ := HP.out.three
        obtain ⟨z0, z1, z2⟩ := HP.out.thaw3
        have HAF : Hid (AftD W7 (cB, tB, dB, xB) (put3 w4 p (.int .i64 tB) (.slice ad dB.length cd) (.slice ax xB.length cx)) p ad cd ax cx) := Lib.hid (AftD.mk (below_put3 B4.out HPL.out) HPL.out (HP.out.put3 _ _ _) (HPI.out _ _ _).1 (HPI.out _ _ _).2)
        have B5 : Hid (Below W7.heap.size W7 (put3 w4 p (.int .i64 tB) (.slice ad dB.length cd) (.slice ax xB.length cx))) := Lib.hid (below_put3 B4.out HPL.out)
        go_simp
        refine hK.out _ (put3 w4 p _ _ _) B5.out ?_
        generalize put3 w4 p (.int .i64 tB) (.slice ad dB.length cd) (.slice ax xB.length cx) = w5 at HAF B5 ⊢
        clear hK K' f0 f1 f2 z0 z1 z2
        refine fork_tail rfl ?_
        simp only [List.toList_toArray, List.drop_succ_cons, List.drop_zero]
        exact HRest.out _ p bs vin vat ad cd ax cx HAF
    · intro K' hK
      go_simp
      have Bx : Below wD.heap.size wD (wD.alloc (Obj.cells #[.int .i64 xt, .slice a1 xd.length c1, .slice a2 xx.length c2] 38)) := (Below.refl _ _).alloc (Nat.le_refl _) _
      have HTSN : Hid (BoxN (wD.alloc (Obj.cells #[.int .i64 xt, .slice a1 xd.length c1, .slice a2 xx.length c2] 38)) wD.heap.size #[.int .i64 xt, .slice a1 xd.length c1, .slice a2 xx.length c2] 38) := Lib.hid (BoxN.new _ _ _)
      have B1 : Hid (Below W7.heap.size W7 (wD.alloc (Obj.cells #[.int .i64 xt, .slice a1 xd.length c1, .slice a2 xx.length c2] 38))) := Lib.hid (B0.out.trans (Bx.mono B0.out.size))
      refine hK.out _ _ B1.out ?_
      clear hK K' Bx
      generalize wD.alloc (Obj.cells #[.int .i64 xt, .slice a1 xd.length c1, .slice a2 xx.length c2] 38) = w1 at B1 HTSN ⊢
      generalize wD.heap.size = bs at HTSN ⊢
      have HTS := HTSN
      clear HTSN
      try simp only [Act.put, List.getElem_toArray, List.getElem_cons_zero, List.getElem_cons_succ, List.setIfInBounds_toArray, List.set_cons_zero, List.set_cons_succ]
      refine fork_two rfl rfl rfl rfl ?_ ?_
      · intro K' hK
        go_simp
        refine (HAX.out w1).mono ?_
        rintro e w2 ⟨vin, vat, ts, rfl, hno, Bx⟩
        have HNO := Lib.hid hno
        have HTS := Lib.hid (HTS.out.below' Bx)
        have B2 : Hid (Below W7.heap.size W7 w2) := Lib.hid (B1.out.trans (Bx.mono B1.out.size))
        refine hK.out _ _ B2.out ?_
        clear hK K' Bx hno
        try simp only [Act.put, List.getElem_toArray, List.getElem_cons_zero, List.getElem_cons_succ, List.setIfInBounds_toArray, List.set_cons_zero, List.set_cons_succ]
        refine fork_two rfl rfl rfl rfl ?_ ?_
        · intro K' hK
          go_simp
          refine (HDO.out w2 _ _ _ _ _ B2.out HNO.out (tens_one (x := (xt, xd, xx)) HTS.out ⟨HXT.out, HXD.out.below B2.out, HXX.out.below B2.out⟩)).mono ?_
          intro e w3 hu
          obtain ⟨vd, vx, rfl, hd, hx, ⟨hi1, hi2⟩, Bx⟩ := hu.out
          clear hu
          obtain ⟨ad, cd, rfl⟩ : ∃ a c, vd = Value.slice a dB.length c := hd.shape
          obtain ⟨ax, cx, rfl⟩ : ∃ a c, vx = Value.slice a xB.length c := hx.shape
          have HRD := Lib.hid hd
          have HRX := Lib.hid hx
          have HRD0 := HRD
          have HRX0 := HRX
          have B3 : Hid (Below W7.heap.size W7 w3) := Lib.hid (B2.out.trans (Bx.mono B2.out.size))
          refine hK.out _ _ B3.out ?_
          clear hK K' Bx hd hx hi1 hi2 HNO HTS
          try simp only [Act.put, List.getElem_toArray, List.getElem_cons_zero, List.getElem_cons_succ, List.setIfInBounds_toArray, List.set_cons_zero, List.set_cons_succ]
          refine fork_read (v := ?_) rfl (Or.inl ⟨by rfl, ?_⟩) ?_
          rotate_left
          · intro W' hSw
            skip
            go_simp
            try with_reducible rfl
          try simp only [Act.put, List.getElem_toArray, List.getElem_cons_zero, List.getElem_cons_succ, List.setIfInBounds_toArray, List.set_cons_zero, List.set_cons_succ]
          refine fork_read (v := ?_) rfl (Or.inl ⟨by rfl, ?_⟩) ?_
          rotate_left
          · intro W' hSw
            skip
            go_simp
            try with_reducible rfl
          try simp only [Act.put, List.getElem_toArray, List.getElem_cons_zero, List.getElem_cons_succ, List.setIfInBounds_toArray, List.set_cons_zero, List.set_cons_succ]
          refine fork_read (v := ?_) rfl (Or.inl ⟨by rfl, ?_⟩) ?_
          rotate_left
          · intro W' hSw
            skip
            go_simp
            try with_reducible rfl
          try simp only [Act.put, List.getElem_toArray, List.getElem_cons_zero, List.getElem_cons_succ, List.setIfInBounds_toArray, List.set_cons_zero, List.set_cons_succ]
          refine fork_one rfl rfl ?_
          intro K' hK
          go_simp
          have Bx : Below w3.heap.size w3 (w3.alloc (Obj.cells #[.int .i64 0, .slice none 0 0, .slice none 0 0] 38)) := (Below.refl _ _).alloc (Nat.le_refl _) _
          have HPN : Hid (BoxN (w3.alloc (Obj.cells #[.int .i64 0, .slice none 0 0, .slice none 0 0] 38)) w3.heap.size #[.int .i64 0, .slice none 0 0, .slice none 0 0] 38) := Lib.hid (BoxN.new _ _ _)
          have HRD := Lib.hid (HRD.out.below Bx)
          have HRX := Lib.hid (HRX.out.below Bx)
          have HPL : Hid (W7.heap.size ≤ w3.heap.size) := Lib.hid B3.out.size
          have HPI : Hid (∀ u0 u1 u2, IntsIn (put3 (w3.alloc (Obj.cells #[.int .i64 0, .slice none 0 0, .slice none 0 0] 38)) w3.heap.size u0 u1 u2) (.slice ad dB.length cd) dB ∧ IntsIn (put3 (w3.alloc (Obj.cells #[.int .i64 0, .slice none 0 0, .slice none 0 0] 38)) w3.heap.size u0 u1 u2) (.slice ax xB.length cx) xB) := Lib.hid fun u0 u1 u2 => ⟨ints_freshD HRD0.out rfl _, ints_freshD HRX0.out rfl _⟩
          clear HRD0 HRX0
          have B4 : Hid (Below W7.heap.size W7 (w3.alloc (Obj.cells #[.int .i64 0, .slice none 0 0, .slice none 0 0] 38))) := Lib.hid (B3.out.trans (Bx.mono B3.out.size))
          refine hK.out _ _ B4.out ?_
          clear hK K' Bx
          generalize w3.alloc (Obj.cells #[.int .i64 0, .slice none 0 0, .slice none 0 0] 38) = w4 at B4 HPN HRD HRX HPI ⊢
          generalize w3.heap.size = p at HPN HPL HPI ⊢
          have HP := HPN
          clear HPN
          try simp only [Act.put, List.getElem_toArray, List.getElem_cons_zero, List.getElem_cons_succ, List.setIfInBounds_toArray, List.set_cons_zero, List.set_cons_succ]
          refine fork_one rfl rfl ?_
          intro K' hK
          go_simp
          obtain ⟨f0, f1, f2⟩ := HP.out.three
          obtain ⟨z0, z1, z2⟩ := HP.out.thaw3
          have HAF : Hid (AftD W7 (cB, tB, dB, xB) (put3 w4 p (.int .i64 tB) (.slice ad dB.length cd) (.slice ax xB.length cx)) p ad cd ax cx) := Lib.hid (AftD.mk (below_put3 B4.out HPL.out) HPL.out (HP.out.put3 _ _ _) (HPI.out _ _ _).1 (HPI.out _ _ _).2)
          have B5 : Hid (Below W7.heap.size W7 (put3 w4 p (.int .i64 tB) (.slice ad dB.length cd) (.slice ax xB.length cx))) := Lib.hid (below_put3 B4.out HPL.out)
          go_simp
          refine hK.out _ (put3 w4 p _ _ _) B5.out ?_
          generalize put3 w4 p (.int .i64 tB) (.slice ad dB.length cd) (.slice ax xB.length cx) = w5 at HAF B5 ⊢
          clear hK K' f0 f1 f2 z0 z1 z2
          refine fork_tail rfl ?_
          simp only [List.toList_toArray, List.drop_succ_cons, List.drop_zero]
          exact HRest.out _ p bs vin vat ad cd ax cx HAF
        · intro K' hK
          go_simp
          have Bx : Below w2.heap.size w2 (w2.alloc (Obj.cells #[.int .i64 0, .slice none 0 0, .slice none 0 0] 38)) := (Below.refl _ _).alloc (Nat.le_refl _) _
          have HPN : Hid (BoxN (w2.alloc (Obj.cells #[.int .i64 0, .slice none 0 0, .slice none 0 0] 38)) w2.heap.size #[.int .i64 0, .slice none 0 0, .slice none 0 0] 38) := Lib.hid (BoxN.new _ _ _)
          have HNO := Lib.hid (HNO.out.below Bx)
          have HTS := Lib.hid (HTS.out.below' Bx)
          have HPL : Hid (W7.heap.size ≤ w2.heap.size) := Lib.hid B2.out.size
          have B3 : Hid (Below W7.heap.size W7 (w2.alloc (Obj.cells #[.int .i64 0, .slice none 0 0, .slice none 0 0] 38))) := Lib.hid (B2.out.trans (Bx.mono B2.out.size))
          refine hK.out _ _ B3.out ?_
          clear hK K' Bx
          generalize w2.alloc (Obj.cells #[.int .i64 0, .slice none 0 0, .slice none 0 0] 38) = w3 at B3 HPN HNO HTS ⊢
          generalize w2.heap.size = p at HPN HPL ⊢
          have HP := HPN
          clear HPN
          try simp only [Act.put, List.getElem_toArray, List.getElem_cons_zero, List.getElem_cons_succ, List.setIfInBounds_toArray, List.set_cons_zero, List.set_cons_succ]
          refine fork_one rfl rfl ?_
          intro K' hK
          go_simp
          refine (HDO.out w3 _ _ _ _ _ B3.out HNO.out (tens_one (x := (xt, xd, xx)) HTS.out ⟨HXT.out, HXD.out.below B3.out, HXX.out.below B3.out⟩)).mono ?_
          intro e w4 hu
          obtain ⟨vd, vx, rfl, hd, hx, ⟨hi1, hi2⟩, Bx⟩ := hu.out
          clear hu
          obtain ⟨ad, cd, rfl⟩ : ∃ a c, vd = Value.slice a dB.length c := hd.shape
          obtain ⟨ax, cx, rfl⟩ : ∃ a c, vx = Value.slice a xB.length c := hx.shape
          have HRD := Lib.hid hd
          have HRX := Lib.hid hx
          have hpl := HP.out.lt
          have HP := Lib.hid (HP.out.below' Bx)
          have HPI : Hid (∀ u0 u1 u2, IntsIn (put3 w4 p u0 u1 u2) (.slice ad dB.length cd) dB ∧ IntsIn (put3 w4 p u0 u1 u2) (.slice ax xB.length cx) xB) := Lib.hid fun u0 u1 u2 => ⟨ints_highD hd hi1 hpl, ints_highD hx hi2 hpl⟩
          have B4 : Hid (Below W7.heap.size W7 w4) := Lib.hid (B3.out.trans (Bx.mono B3.out.size))
          refine hK.out _ _ B4.out ?_
          clear hK K' Bx hd hx hi1 hi2 HNO HTS
          try simp only [Act.put, List.getElem_toArray, List.getElem_cons_zero, List.getElem_cons_succ, List.setIfInBounds_toArray, List.set_cons_zero, List.set_cons_succ]
          refine fork_read (v := ?_) rfl (Or.inl ⟨by rfl, ?_⟩) ?_
          rotate_left
          · intro W' hSw
            skip
            go_simp
            try with_reducible rfl
          try simp only [Act.put, List.getElem_toArray, List.getElem_cons_zero, List.getElem_cons_succ, List.setIfInBounds_toArray, List.set_cons_zero, List.set_cons_succ]
          refine fork_read (v := ?_) rfl (Or.inl ⟨by rfl, ?_⟩) ?_
          rotate_left
          · intro W' hSw
            skip
            go_simp
            try with_reducible rfl
          try simp only [Act.put, List.getElem_toArray, List.getElem_cons_zero, List.getElem_cons_succ, List.setIfInBounds_toArray, List.set_cons_zero, List.set_cons_succ]
          refine fork_read (v := ?_) rfl (Or.inl ⟨by rfl, ?_⟩) ?_
          rotate_left
          · intro W' hSw
            skip
            go_simp
            try with_reducible rfl
          try simp only [Act.put, List.getElem_toArray, List.getElem_cons_zero, List.getElem_cons_succ, List.setIfInBounds_toArray, List.set_cons_zero, List.set_cons_succ]
          refine fork_one rfl rfl ?_
          intro K' hK
          go_simp
          obtain ⟨f0, f1, f2⟩ := HP.out.three
          obtain ⟨z0, z1, z2⟩ := HP.out.thaw3
          have HAF : Hid (AftD W7 (cB, tB, dB, xB) (put3 w4 p (.int .i64 tB) (.slice ad dB.length cd) (.slice ax xB.length cx)) p ad cd ax cx) := Lib.hid (AftD.mk (below_put3 B4.out HPL.out) HPL.out (HP.out.put3 _ _ _) (HPI.out _ _ _).1 (HPI.out _ _ _).2)
          have B5 : Hid (Below W7.heap.size W7 (put3 w4 p (.int .i64 tB) (.slice ad dB.length cd) (.slice ax xB.length cx))) := Lib.hid (below_put3 B4.out HPL.out)
          go_simp
          refine hK.out _ (put3 w4 p _ _ _) B5.out ?_
          generalize put3 w4 p (.int .i64 tB) (.slice ad dB.length cd) (.slice ax xB.length cx) = w5 at HAF B5 ⊢
          clear hK K' f0 f1 f2 z0 z1 z2
          refine fork_tail rfl ?_
          simp only [List.toList_toArray, List.drop_succ_cons, List.drop_zero]
          exact HRest.out _ p bs vin vat ad cd ax cx HAF
      · intro K' hK
        go_simp
        have Bx : Below w1.heap.size w1 (w1.alloc (Obj.cells #[.int .i64 0, .slice none 0 0, .slice none 0 0] 38)) := (Below.refl _ _).alloc (Nat.le_refl _) _
        have HPN : Hid (BoxN (w1.alloc (Obj.cells #[.int .i64 0, .slice none 0 0, .slice none 0 0] 38)) w1.heap.size #[.int .i64 0, .slice none 0 0, .slice none 0 0] 38) := Lib.hid (BoxN.new _ _ _)
        have HTS := Lib.hid (HTS.out.below' Bx)
        have HPL : Hid (W7.heap.size ≤ w1.heap.size) := Lib.hid B1.out.size
        have B2 : Hid (Below W7.heap.size W7 (w1.alloc (Obj.cells #[.int .i64 0, .slice none 0 0, .slice none 0 0] 38))) := Lib.hid (B1.out.trans (Bx.mono B1.out.size))
        refine hK.out _ _ B2.out ?_
        clear hK K' Bx
        generalize w1.alloc (Obj.cells #[.int .i64 0, .slice none 0 0, .slice none 0 0] 38) = w2 at B2 HPN HTS ⊢
        generalize w1.heap.size = p at HPN HPL ⊢
        have HP := HPN
        clear HPN
        try simp only [Act.put, List.getElem_toArray, List.getElem_cons_zero, List.getElem_cons_succ, List.setIfInBounds_toArray, List.set_cons_zero, List.set_cons_succ]
        refine fork_one rfl rfl ?_
        intro K' hK
        go_simp
        refine (HAX.out w2).mono ?_
        rintro e w3 ⟨vin, vat, ts, rfl, hno, Bx⟩
        have HNO := Lib.hid hno
        have HTS := Lib.hid (HTS.out.below' Bx)
        have HP := Lib.hid (HP.out.below' Bx)
        have B3 : Hid (Below W7.heap.size W7 w3) := Lib.hid (B2.out.trans (Bx.mono B2.out.size))
        refine hK.out _ _ B3.out ?_
        clear hK K' Bx hno
        try simp only [Act.put, List.getElem_toArray, List.getElem_cons_zero, List.getElem_cons_succ, List.setIfInBounds_toArray, List.set_cons_zero, List.set_cons_succ]
        refine fork_one rfl rfl ?_
        intro K' hK
        go_simp
        refine (HDO.out w3 _ _ _ _ _ B3.out HNO.out (tens_one (x := (xt, xd, xx)) HTS.out ⟨HXT.out, HXD.out.below B3.out, HXX.out.below B3.out⟩)).mono ?_
        intro e w4 hu
        obtain ⟨vd, vx, rfl, hd, hx, ⟨hi1, hi2⟩, Bx⟩ := hu.out
        clear hu
        obtain ⟨ad, cd, rfl⟩ : ∃ a c, vd = Value.slice a dB.length c := hd.shape
        obtain ⟨ax, cx, rfl⟩ : ∃ a c, vx = Value.slice a xB.length c := hx.shape
        have HRD := Lib.hid hd
        have HRX := Lib.hid hx
        have hpl := HP.out.lt
        have HP := Lib.hid (HP.out.below' Bx)
        have HPI : Hid (∀ u0 u1 u2, IntsIn (put3 w4 p u0 u1 u2) (.slice ad dB.length cd) dB ∧ IntsIn (put3 w4 p u0 u1 u2) (.slice ax xB.length cx) xB) := Lib.hid fun u0 u1 u2 => ⟨ints_highD hd hi1 hpl, ints_highD hx hi2 hpl⟩
        have B4 : Hid (Below W7.heap.size W7 w4) := Lib.hid (B3.out.trans (Bx.mono B3.out.size))
        refine hK.out _ _ B4.out ?_
        clear hK K' Bx hd hx hi1 hi2 HNO HTS
        try simp only [Act.put, List.getElem_toArray, List.getElem_cons_zero, List.getElem_cons_succ, List.setIfInBounds_toArray, List.set_cons_zero, List.set_cons_succ]
        refine fork_read (v := ?_) rfl (Or.inl ⟨by rfl, ?_⟩) ?_
        rotate_left
        · intro W' hSw
          skip
          go_simp
          try with_reducible rfl
        try simp only [Act.put, List.getElem_toArray, List.getElem_cons_zero, List.getElem_cons_succ, List.setIfInBounds_toArray, List.set_cons_zero, List.set_cons_succ]
        refine fork_read (v := ?_) rfl (Or.inl ⟨by rfl, ?_⟩) ?_
        rotate_left
        · intro W' hSw
          skip
          go_simp
          try with_reducible rfl
        try simp only [Act.put, List.getElem_toArray, List.getElem_cons_zero, List.getElem_cons_succ, List.setIfInBounds_toArray, List.set_cons_zero, List.set_cons_succ]
        refine fork_read (v := ?_) rfl (Or.inl ⟨by rfl, ?_⟩) ?_
        rotate_left
        · intro W' hSw
          skip
          go_simp
          try with_reducible rfl
        try simp only [Act.put, List.getElem_toArray, List.getElem_cons_zero, List.getElem_cons_succ, List.setIfInBounds_toArray, List.set_cons_zero, List.set_cons_succ]
        refine fork_one rfl rfl ?_
        intro K' hK
        go_simp
        obtain ⟨f0, f1, f2⟩ := HP.out.three
        obtain ⟨z0, z1, z2⟩ := HP.out.thaw3
        have HAF : Hid (AftD W7 (cB, tB, dB, xB) (put3 w4 p (.int .i64 tB) (.slice ad dB.length cd) (.slice ax xB.length cx)) p ad cd ax cx) := Lib.hid (AftD.mk (below_put3 B4.out HPL.out) HPL.out (HP.out.put3 _ _ _) (HPI.out _ _ _).1 (HPI.out _ _ _).2)
        have B5 : Hid (Below W7.heap.size W7 (put3 w4 p (.int .i64 tB) (.slice ad dB.length cd) (.slice ax xB.length cx))) := Lib.hid (below_put3 B4.out HPL.out)
        go_simp
        refine hK.out _ (put3 w4 p _ _ _) B5.out ?_
        generalize put3 w4 p (.int .i64 tB) (.slice ad dB.length cd) (.slice ax xB.length cx) = w5 at HAF B5 ⊢
        clear hK K' f0 f1 f2 z0 z1 z2
        refine fork_tail rfl ?_
        simp only [List.toList_toArray, List.drop_succ_cons, List.drop_zero]
        exact HRest.out _ p bs vin vat ad cd ax cx HAF
    · intro K' hK
      go_simp
      have Bx : Below wD.heap.size wD (wD.alloc (Obj.cells #[.int .i64 0, .slice none 0 0, .slice none 0 0] 38)) := (Below.refl _ _).alloc (Nat.le_refl _) _
      have HPN : Hid (BoxN (wD.alloc (Obj.cells #[.int .i64 0, .slice none 0 0, .slice none 0 0] 38)) wD.heap.size #[.int .i64 0, .slice none 0 0, .slice none 0 0] 38) := Lib.hid (BoxN.new _ _ _)
      have HPL : Hid (W7.heap.size ≤ wD.heap.size) := Lib.hid B0.out.size
      have B1 : Hid (Below W7.heap.size W7 (wD.alloc (Obj.cells #[.int .i64 0, .slice none 0 0, .slice none 0 0] 38))) := Lib.hid (B0.out.trans (Bx.mono B0.out.size))
      refine hK.out _ _ B1.out ?_
      clear hK K' Bx
      generalize wD.alloc (Obj.cells #[.int .i64 0, .slice none 0 0, .slice none 0 0] 38) = w1 at B1 HPN ⊢
      generalize wD.heap.size = p at HPN HPL ⊢
      have HP := HPN
      clear HPN
      try simp only [Act.put, List.getElem_toArray, List.getElem_cons_zero, List.getElem_cons_succ, List.setIfInBounds_toArray, List.set_cons_zero, List.set_cons_succ]
      refine fork_two rfl rfl rfl rfl ?_ ?_
      · intro K' hK
        go_simp
        refine (HAX.out w1).mono ?_
        rintro e w2 ⟨vin, vat, ts, rfl, hno, Bx⟩
        have HNO := Lib.hid hno
        have HP := Lib.hid (HP.out.below' Bx)
        have B2 : Hid (Below W7.heap.size W7 w2) := Lib.hid (B1.out.trans (Bx.mono B1.out.size))
        refine hK.out _ _ B2.out ?_
        clear hK K' Bx hno
        try simp only [Act.put, List.getElem_toArray, List.getElem_cons_zero, List.getElem_cons_succ, List.setIfInBounds_toArray, List.set_cons_zero, List.set_cons_succ]
        refine fork_one rfl rfl ?_
        intro K' hK
        go_simp
        have Bx : Below w2.heap.size w2 (w2.alloc (Obj.cells #[.int .i64 xt, .slice a1 xd.length c1, .slice a2 xx.length c2] 38)) := (Below.refl _ _).alloc (Nat.le_refl _) _
        have HTSN : Hid (BoxN (w2.alloc (Obj.cells #[.int .i64 xt, .slice a1 xd.length c1, .slice a2 xx.length c2] 38)) w2.heap.size #[.int .i64 xt, .slice a1 xd.length c1, .slice a2 xx.length c2] 38) := Lib.hid (BoxN.new _ _ _)
        have HNO := Lib.hid (HNO.out.below Bx)
        have HP := Lib.hid (HP.out.below' Bx)
        have B3 : Hid (Below W7.heap.size W7 (w2.alloc (Obj.cells #[.int .i64 xt, .slice a1 xd.length c1, .slice a2 xx.length c2] 38))) := Lib.hid (B2.out.trans (Bx.mono B2.out.size))
        refine hK.out _ _ B3.out ?_
        clear hK K' Bx
        generalize w2.alloc (Obj.cells #[.int .i64 xt, .slice a1 xd.length c1, .slice a2 xx.length c2] 38) = w3 at B3 HTSN HNO HP ⊢
        generalize w2.heap.size = bs at HTSN ⊢
        have HTS := HTSN
        clear HTSN
        try simp only [Act.put, List.getElem_toArray, List.getElem_cons_zero, List.getElem_cons_succ, List.setIfInBounds_toArray, List.set_cons_zero, List.set_cons_succ]
        refine fork_one rfl rfl ?_
        intro K' hK
        go_simp
        refine (HDO.out w3 _ _ _ _ _ B3.out HNO.out (tens_one (x := (xt, xd, xx)) HTS.out ⟨HXT.out, HXD.out.below B3.out, HXX.out.below B3.out⟩)).mono ?_
        intro e w4 hu
        obtain ⟨vd, vx, rfl, hd, hx, ⟨hi1, hi2⟩, Bx⟩ := hu.out
        clear hu
        obtain ⟨ad, cd, rfl⟩ : ∃ a c, vd = Value.slice a dB.length c := hd.shape
        obtain ⟨ax, cx, rfl⟩ : ∃ a c, vx = Value.slice a xB.length c := hx.shape
        have HRD := Lib.hid hd
        have HRX := Lib.hid hx
        have hpl := HP.out.lt
        have HP := Lib.hid (HP.out.below' Bx)
        have HPI : Hid (∀ u0 u1 u2, IntsIn (put3 w4 p u0 u1 u2) (.slice ad dB.length cd) dB ∧ IntsIn (put3 w4 p u0 u1 u2) (.slice ax xB.length cx) xB) := Lib.hid fun u0 u1 u2 => ⟨ints_highD hd hi1 hpl, ints_highD hx hi2 hpl⟩
        have B4 : Hid (Below W7.heap.size W7 w4) := Lib.hid (B3.out.trans (Bx.mono B3.out.size))
        refine hK.out _ _ B4.out ?_
        clear hK K' Bx hd hx hi1 hi2 HNO HTS
        try simp only [Act.put, List.getElem_toArray, List.getElem_cons_zero, List.getElem_cons_succ, List.setIfInBounds_toArray, List.set_cons_zero, List.set_cons_succ]
        refine fork_read (v := ?_) rfl (Or.inl ⟨by rfl, ?_⟩) ?_
        rotate_left
        · intro W' hSw
          skip
          go_simp
          try with_reducible rfl
        try simp only [Act.put, List.getElem_toArray, List.getElem_cons_zero, List.getElem_cons_succ, List.setIfInBounds_toArray, List.set_cons_zero, List.set_cons_succ]
        refine fork_read (v := ?_) rfl (Or.inl ⟨by rfl, ?_⟩) ?_
        rotate_left
        · intro W' hSw
          skip
          go_simp
          try with_reducible rfl
        try simp only [Act.put, List.getElem_toArray, List.getElem_cons_zero, List.getElem_cons_succ, List.setIfInBounds_toArray, List.set_cons_zero, List.set_cons_succ]
        refine fork_read (v := ?_) rfl (Or.inl ⟨by rfl, ?_⟩) ?_
        rotate_left
        · intro W' hSw
          skip
          go_simp
          try with_reducible rfl
        try simp only [Act.put, List.getElem_toArray, List.getElem_cons_zero, List.getElem_cons_succ, List.setIfInBounds_toArray, List.set_cons_zero, List.set_cons_succ]
        refine fork_one rfl rfl ?_
        intro K' hK
        go_simp
        obtain ⟨f0, f1, f2⟩ := HP.out.three
        obtain ⟨z0, z1, z2⟩ := HP.out.thaw3
        have HAF : Hid (AftD W7 (cB, tB, dB, xB) (put3 w4 p (.int .i64 tB) (.slice ad dB.length cd) (.slice ax xB.length cx)) p ad cd ax cx) := Lib.hid (AftD.mk (below_put3 B4.out HPL.out) HPL.out (HP.out.put3 _ _ _) (HPI.out _ _ _).1 (HPI.out _ _ _).2)
        have B5 : Hid (Below W7.heap.size W7 (put3 w4 p (.int .i64 tB) (.slice ad dB.length cd) (.slice ax xB.length cx))) := Lib.hid (below_put3 B4.out HPL.out)
        go_simp
        refine hK.out _ (put3 w4 p _ _ _) B5.out ?_
        generalize put3 w4 p (.int .i64 tB) (.slice ad dB.length cd) (.slice ax xB.length cx) = w5 at HAF B5 ⊢
        clear hK K' f0 f1 f2 z0 z1 z2
        refine fork_tail rfl ?_
        simp only [List.toList_toArray, List.drop_succ_cons, List.drop_zero]
        exact HRest.out _ p bs vin vat ad cd ax cx HAF
      · intro K' hK
        go_simp
        have Bx : Below w1.heap.size w1 (w1.alloc (Obj.cells #[.int .i64 xt, .slice a1 xd.length c1, .slice a2 xx.length c2] 38)) := (Below.refl _ _).alloc (Nat.le_refl _) _
        have HTSN : Hid (BoxN (w1.alloc (Obj.cells #[.int .i64 xt, .slice a1 xd.length c1, .slice a2 xx.length c2] 38)) w1.heap.size #[.int .i64 xt, .slice a1 xd.length c1, .slice a2 xx.length c2] 38) := Lib.hid (BoxN.new _ _ _)
        have HP := Lib.hid (HP.out.below' Bx)
        have B2 : Hid (Below W7.heap.size W7 (w1.alloc (Obj.cells #[.int .i64 xt, .slice a1 xd.length c1, .slice a2 xx.length c2] 38))) := Lib.hid (B1.out.trans (Bx.mono B1.out.size))
        refine hK.out _ _ B2.out ?_
        clear hK K' Bx
        generalize w1.alloc (Obj.cells #[.int .i64 xt, .slice a1 xd.length c1, .slice a2 xx.length c2] 38) = w2 at B2 HTSN HP ⊢
        generalize w1.heap.size = bs at HTSN ⊢
        have HTS := HTSN
        clear HTSN
        try simp only [Act.put, List.getElem_toArray, List.getElem_cons_zero, List.getElem_cons_succ, List.setIfInBounds_toArray, List.set_cons_zero, List.set_cons_succ]
        refine fork_one rfl rfl ?_
        intro K' hK
        go_simp
        refine (HAX.out w2).mono ?_
        rintro e w3 ⟨vin, vat, ts, rfl, hno, Bx⟩
        have HNO := Lib.hid hno
        have HTS := Lib.hid (HTS.out.below' Bx)
        have HP := Lib.hid (HP.out.below' Bx)
        have B3 : Hid (Below W7.heap.size W7 w3) := Lib.hid (B2.out.trans (Bx.mono B2.out.size))
        refine hK.out _ _ B3.out ?_
        clear hK K' Bx hno
        try simp only [Act.put, List.getElem_toArray, List.getElem_cons_zero, List.getElem_cons_succ, List.setIfInBounds_toArray, List.set_cons_zero, List.set_cons_succ]
        refine fork_one rfl rfl ?_
        intro K' hK
        go_simp
        refine (HDO.out w3 _ _ _ _ _ B3.out HNO.out (tens_one (x := (xt, xd, xx)) HTS.out ⟨HXT.out, HXD.out.below B3.out, HXX.out.below B3.out⟩)).mono ?_
        intro e w4 hu
        obtain ⟨vd, vx, rfl, hd, hx, ⟨hi1, hi2⟩, Bx⟩ := hu.out
        clear hu
        obtain ⟨ad, cd, rfl⟩ : ∃ a c, vd = Value.slice a dB.length c := hd.shape
        obtain ⟨ax, cx, rfl⟩ : ∃ a c, vx = Value.slice a xB.length c := hx.shape
        have HRD := Lib.hid hd
        have HRX := Lib.hid hx
        have hpl := HP.out.lt
        have HP := Lib.hid (HP.out.below' Bx)
        have HPI : Hid (∀ u0 u1 u2, IntsIn (put3 w4 p u0 u1 u2) (.slice ad dB.length cd) dB ∧ IntsIn (put3 w4 p u0 u1 u2) (.slice ax xB.length cx) xB) := Lib.hid fun u0 u1 u2 => ⟨ints_highD hd hi1 hpl, ints_highD hx hi2 hpl⟩
        have B4 : Hid (Below W7.heap.size W7 w4) := Lib.hid (B3.out.trans (Bx.mono B3.out.size))
        refine hK.out _ _ B4.out ?_
        clear hK K' Bx hd hx hi1 hi2 HNO HTS
        try simp only [Act.put, List.getElem_toArray, List.getElem_cons_zero, List.getElem_cons_succ, List.setIfInBounds_toArray, List.set_cons_zero, List.set_cons_succ]
        refine fork_read (v := ?_) rfl (Or.inl ⟨by rfl, ?_⟩) ?_
        rotate_left
        · intro W' hSw
          skip
          go_simp
          try with_reducible rfl
        try simp only [Act.put, List.getElem_toArray, List.getElem_cons_zero, List.getElem_cons_succ, List.setIfInBounds_toArray, List.set_cons_zero, List.set_cons_succ]
        refine fork_read (v := ?_) rfl (Or.inl ⟨by rfl, ?_⟩) ?_
        rotate_left
        · intro W' hSw
          skip
          go_simp
          try with_reducible rfl
        try simp only [Act.put, List.getElem_toArray, List.getElem_cons_zero, List.getElem_cons_succ, List.setIfInBounds_toArray, List.set_cons_zero, List.set_cons_succ]
        refine fork_read (v := ?_) rfl (Or.inl ⟨by rfl, ?_⟩) ?_
        rotate_left
        · intro W' hSw
          skip
          go_simp
          try with_reducible rfl
        try simp only [Act.put, List.getElem_toArray, List.getElem_cons_zero, List.getElem_cons_succ, List.setIfInBounds_toArray, List.set_cons_zero, List.set_cons_succ]
        refine fork_one rfl rfl ?_
        intro K' hK
        go_simp
        obtain ⟨f0, f1, f2⟩ := HP.out.three
        obtain ⟨z0, z1, z2⟩ := HP.out.thaw3
        have HAF : Hid (AftD W7 (cB, tB, dB, xB) (put3 w4 p (.int .i64 tB) (.slice ad dB.length cd) (.slice ax xB.length cx)) p ad cd ax cx) := Lib.hid (AftD.mk (below_put3 B4.out HPL.out) HPL.out (HP.out.put3 _ _ _) (HPI.out _ _ _).1 (HPI.out _ _ _).2)
        have B5 : Hid (Below W7.heap.size W7 (put3 w4 p (.int .i64 tB) (.slice ad dB.length cd) (.slice ax xB.length cx))) := Lib.hid (below_put3 B4.out HPL.out)
        go_simp
        refine hK.out _ (put3 w4 p _ _ _) B5.out ?_
        generalize put3 w4 p (.int .i64 tB) (.slice ad dB.length cd) (.slice ax xB.length cx) = w5 at HAF B5 ⊢
        clear hK K' f0 f1 f2 z0 z1 z2
        refine fork_tail rfl ?_
        simp only [List.toList_toArray, List.drop_succ_cons, List.drop_zero]
        exact HRest.out _ p bs vin vat ad cd ax cx HAF
  intro W8 p8 bs8 vin8 vat8 ad8 cd8 ax8 cx8 HAF
  obtain ⟨hB, hp8, hP8, hD8, hX8⟩ := HAF.out.all
  clear HAF HSr HDO HAX
  dsimp only at hP8 hD8 hX8
  have HB8 := Lib.hid (HB7.out.trans (hB.mono HB7.out.size))
  have HTB := Lib.hid (HTB.out.below' hB)
  have HXD := Lib.hid (HXD.out.below hB)
  have HXX := Lib.hid (HXX.out.below hB)
  have HP7 := Lib.hid (HP7.out.below' hB)
  have HX7 := Lib.hid (HX7.out.below hB)
  have HP8 := Lib.hid hP8
  have HX8 := Lib.hid hX8
  clear hB hp8 hP8 hD8 hX8
  obtain rfl : cA = cB := HSM.out
  by_cases hcA : cA = 0
  case neg =>
    go_wp2_with fail
    refine (live11_any (HG.out.below HB8.out)).mono ?_
    rintro e wl ⟨rfl, Bl⟩
    have HBl := Lib.hid (HB8.out.trans (Bl.mono HB8.out.size))
    clear Bl
    go_wp2
    go_ret
    exact ⟨rfl, HBl.out⟩
  subst hcA
  obtain ⟨m, hm, hm1, hll, hlm, hat⟩ := HPL.out _ _ rfl rfl
  dsimp only at hll hlm hat
  have HAT := Lib.hid hat
  clear HPL HSM hat
  have hlx := HXX.out.wf.1
  have hld := HXD.out.wf.1
  have hlA := HX7.out.wf.1
  have hdl : 0 < xd.length := by have := (List.getElem?_eq_some_iff.1 hm).1; omega
  obtain ⟨b9, o9, d9, e9, hb9, g9, -⟩ := ints_cell HXD.out (k := xd.length - 1) (by omega)
  obtain ⟨rfl, -, rfl⟩ := Value.slice.inj e9
  clear e9
  rw [show xd.getD (xd.length - 1) 0 = (m : Int) by simp [List.getD, hm]] at g9
  have hnx : ((xd.length : Int) - 1).toNat = xd.length - 1 := by omega
  have hd1 : (1 : Int) ≤ (xd.length : Int) := by omega
  have hmul : IntKind.i64.wrap ((xA.length : Int) * (m : Int)) = (xx.length : Int) := by
    rw [show (xA.length : Int) * (m : Int) = (xx.length : Int) by exact_mod_cast hlm]
    rw [IntKind.wrap_i64]
    omega
  have hllb : ((xA.length : Int) != (xB.length : Int)) = false := by simp [hll]
  have HLL := Lib.hid hll
  have HLM := Lib.hid hlm
  have HM1 := Lib.hid hm1
  have HXB : Hid (IntsIn W8 (.slice ax8 xA.length cx8) xB) := Lib.hid (by rw [hll]; exact HX8.out)
  clear hll hlm hm1 hm
  obtain ⟨y0, y1, y2⟩ := HTB.out.three
  obtain ⟨r0, r1, r2⟩ := HP7.out.three
  obtain ⟨q0, q1, q2⟩ := HP8.out.three
  go_wp2_with fail
  clear y0 y1 y2 r0 r1 r2 q0 q1 q2 hnx hd1 hllb hmul g9 hb9 hdl
  go_loopw [9] (fun i wr => ∃ (k : Nat), k ≤ xA.length ∧ i = .int .i64 (k : Int) ∧ Hid (Below W8.heap.size W8 wr)) (fun i _ => xA.length - (intOf i).toNat)
  case atStart => exact ⟨0, Nat.zero_le _, rfl, Lib.hid (Below.refl _ _)⟩
  obtain ⟨k, hk, rfl, hW⟩ := hrel
  have HBw := Lib.hid (HB8.out.trans (hW.out.mono HB8.out.size))
  obtain ⟨y0, y1, y2⟩ := (HTB.out.below' hW.out).three
  obtain ⟨r0, r1, r2⟩ := (HP7.out.below' hW.out).three
  obtain ⟨q0, q1, q2⟩ := (HP8.out.below' hW.out).three
  by_cases hkl : k < xA.length
  case neg =>
    have hki : ¬ (k : Int) < (xA.length : Int) := by omega
    go_wp2_with fail
    refine (live11_any (HG.out.below HBw.out)).mono ?_
    rintro e wl ⟨rfl, Bl⟩
    have HBl := Lib.hid (HBw.out.trans (Bl.mono HBw.out.size))
    clear Bl
    go_wp2
    go_ret
    exact ⟨rfl, HBl.out⟩
  obtain ⟨kk, ha, hkm, hin, heq⟩ := HAT.out k hkl
  have hki : (k : Int) < (xA.length : Int) := by omega
  obtain ⟨b5, o5, d5, e5, hb5, g5, -⟩ := ints_cell (HX7.out.below hW.out) hkl
  obtain ⟨b6, o6, d6, e6, hb6, g6, -⟩ := ints_cell (HX8.out.below hW.out) (k := k) (by have := HLL.out; omega)
  obtain ⟨b4, o4, d4, e4, hb4, g4, hI4⟩ := ints_cell (HXX.out.below hW.out) hin
  obtain ⟨rfl, -, rfl⟩ := Value.slice.inj e5
  obtain ⟨rfl, -, rfl⟩ := Value.slice.inj e6
  obtain ⟨rfl, -, rfl⟩ := Value.slice.inj e4
  clear e5 e6 e4
  rw [show xA.getD k 0 = (kk : Int) by simp [List.getD, ha]] at g5
  have HBI := Lib.hid (eq_any hI4 heq)
  generalize xx.getD (k * m + kk) 0 = u at g4 HBI
  generalize xB.getD k 0 = v at g6 HBI
  clear hI4 heq ha
  obtain ⟨q, hq⟩ : ∃ q : Nat, k * m = q := ⟨_, rfl⟩
  obtain ⟨j, hj⟩ : ∃ j : Nat, k * m + kk = j := ⟨_, rfl⟩
  have hMul : IntKind.i64.wrap ((k : Int) * (m : Int)) = (q : Int) := by
    rw [show (k : Int) * (m : Int) = (q : Int) by exact_mod_cast hq]
    rw [IntKind.wrap_i64]
    omega
  have hAdd : IntKind.i64.wrap ((q : Int) + (kk : Int)) = (j : Int) := by
    rw [show (q : Int) + (kk : Int) = (j : Int) by omega]
    rw [IntKind.wrap_i64]
    omega
  rw [hj] at g4 hin
  have hjl : (j : Int) < (xx.length : Int) := by omega
  have hkmi : (kk : Int) < (m : Int) := by omega
  have hk0 : (0 : Int) ≤ (kk : Int) := by omega
  have hj0 : (0 : Int) ≤ (j : Int) := by omega
  clear hq hj
  go_wp2_with fail
  have HSr : Hid (∀ W', Below wr.heap.size wr W' → W'.cell? ⟨w.heap.size, 0, none⟩ = some (.int .i64 xt) ∧ W'.cell? ⟨w.heap.size, 2, none⟩ = some (.slice (some ⟨b4, o4, none⟩) xx.length c2) ∧ W'.cell? ⟨p7, 2, none⟩ = some (.slice (some ⟨b5, o5, none⟩) xA.length cx7) ∧ W'.cell? ⟨p8, 2, none⟩ = some (.slice (some ⟨b6, o6, none⟩) xB.length cx8) ∧ W'.cell? ⟨b5, o5 + k, none⟩ = some (.int .i64 (kk : Int)) ∧ W'.cell? ⟨b6, o6 + k, none⟩ = some (.int .i64 v) ∧ W'.cell? ⟨b4, o4 + j, none⟩ = some (.int .i64 u)) := Lib.hid fun W' h => ⟨(h.cell (p := ⟨w.heap.size, 0, none⟩) (HTB.out.below' hW.out).lt).trans y0, (h.cell (p := ⟨w.heap.size, 2, none⟩) (HTB.out.below' hW.out).lt).trans y2, (h.cell (p := ⟨p7, 2, none⟩) (HP7.out.below' hW.out).lt).trans r2, (h.cell (p := ⟨p8, 2, none⟩) (HP8.out.below' hW.out).lt).trans q2, (h.cell (p := ⟨b5, o5 + k, none⟩) hb5).trans g5, (h.cell (p := ⟨b6, o6 + k, none⟩) hb6).trans g6, (h.cell (p := ⟨b4, o4 + j, none⟩) hb4).trans g4⟩
  have hlb : (k : Int) < (xB.length : Int) := by have := HLL.out; omega
  clear y0 y1 y2 r0 r1 r2 q0 q1 q2 g5 g6 g4 hb5 hb6 hb4
  refine wp_region_plan 25 [0, 1, 2, 3, 4, 5, 6, 7, 8, 9, 10, 11, 12, 13, 14, 15, 16, 17, 18, 19, 20, 21, 22, 23, 24] (fun W' => Below wr.heap.size wr W') (by kernel_rfl) (by kernel_rfl) (fun _ d _ _ _ h => by cases d <;> exact h) (Below.refl _ _).drew ?_
  have B0 : Hid (Below wr.heap.size wr wr.drew) := Lib.hid (Below.refl _ _).drew
  generalize wr.drew = wD at B0 ⊢
  repeat
    refine plan_read (v := ?_) rfl rfl (Or.inl ⟨by rfl, ?_⟩) ?_
    rotate_left
    · intro W' hSw
      obtain ⟨s0, s1, s2, s3, s4, s5, s6⟩ := HSr.out W' hSw
      go_simp
      try with_reducible rfl
    try simp only [Act.put, List.getElem_toArray, List.getElem_cons_zero, List.getElem_cons_succ, List.setIfInBounds_toArray, List.set_cons_zero, List.set_cons_succ]
  refine plan_act rfl rfl (fun K' hK => ?_)
  go_simp
  refine (HBI.out wD).mono ?_
  rintro e wE ⟨⟨ze, rfl⟩, BE⟩
  have B1 : Hid (Below wr.heap.size wr wE) := Lib.hid (B0.out.trans (BE.mono B0.out.size))
  refine hK.out _ _ B1.out ?_
  clear hK K' BE
  try simp only [Act.put, List.getElem_toArray, List.getElem_cons_zero, List.getElem_cons_succ, List.setIfInBounds_toArray, List.set_cons_zero, List.set_cons_succ]
  repeat
    refine plan_read (v := ?_) rfl rfl (Or.inl ⟨by rfl, ?_⟩) ?_
    rotate_left
    · intro W' hSw
      go_simp
      try with_reducible rfl
    try simp only [Act.put, List.getElem_toArray, List.getElem_cons_zero, List.getElem_cons_succ, List.setIfInBounds_toArray, List.set_cons_zero, List.set_cons_succ]
  refine plan_tail rfl ?_
  simp only [List.toList_toArray, List.drop_succ_cons, List.drop_zero]
  have HW := Lib.hid (hW.out.trans (B1.out.mono hW.out.size))
  clear HSr B0 B1 hW HBI
  go_wp2_with fail
  go_roundw
  case rel => exact ⟨k + 1, by omega, by go_num, HW⟩
  case measure => simp [intOf]; omega
theorem points_walk {w : World} {v : Value} {t : Tn} {vd vx : Value} (ev : v = .agg #[.int .i64 t.1, vd, vx]) (h1 : InI t.1) (h2 : IntsIn w vd t.2.1) (h3 : IntsIn w vx t.2.2) (hG : Glob w) :
    Calls Tryz.prog 6 #[v] w fun e w' => e = .returned (.bool true) ∧ Below w.heap.size w w' := points_any ⟨vd, vx, ev, h1, h2, h3⟩ hG

end Go.Proofs.YtagiipecfdmceaaGreatDoor
