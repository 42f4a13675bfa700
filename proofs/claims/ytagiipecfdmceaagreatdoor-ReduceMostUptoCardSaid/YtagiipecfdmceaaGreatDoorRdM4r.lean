/- Reducing over one axis and then another, plain. -/
import Derived.Test.YtagiipecfdmceaaGreatDoorRdM3r
set_option linter.unusedVariables false
set_option linter.unusedSimpArgs false
namespace Go.Proofs.YtagiipecfdmceaaGreatDoor
open Go.RowKit

set_option maxRecDepth 100000

/-! ### folds -/

/-- A fold that starts with nothing. -/
def foV (f : Int → Int → Int) (o : Option Int) (x : Int) : Option Int := some (match o with | none => x | some a => f a x)
structure Mon (f : Int → Int → Int) (V : Int → Prop) : Prop where
  clo : ∀ {x y}, V x → V y → V (f x y)
  com : ∀ {x y}, V x → V y → f x y = f y x
  ass : ∀ {x y z}, V x → V y → V z → f (f x y) z = f x (f y z)
def OV (V : Int → Prop) : Option Int → Prop | none => True | some a => V a
theorem foV_ok {f : Int → Int → Int} {V : Int → Prop} (h : Mon f V) {o : Option Int} {x : Int} (ho : OV V o) (hx : V x) : OV V (foV f o x) := by
  cases o with
  | none => exact hx
  | some a => exact h.clo ho hx
theorem fold_ok {f : Int → Int → Int} {V : Int → Prop} (h : Mon f V) : ∀ {l : List Int} {o : Option Int}, OV V o → (∀ z ∈ l, V z) → OV V (l.foldl (foV f) o)
  | [], _, ho, _ => ho
  | x :: l, o, ho, hl => fold_ok h (l := l) (foV_ok h ho (hl x (List.mem_cons_self ..))) fun z hz => hl z (List.mem_cons_of_mem _ hz)
theorem foV_swap {f : Int → Int → Int} {V : Int → Prop} (h : Mon f V) {o : Option Int} {x y : Int} (ho : OV V o) (hx : V x) (hy : V y) : foV f (foV f o x) y = foV f (foV f o y) x := by
  cases o with
  | none => simp only [foV]; rw [h.com hx hy]
  | some a => simp only [foV]; rw [h.ass ho hx hy, h.ass ho hy hx, h.com hx hy]
theorem fold_perm {f : Int → Int → Int} {V : Int → Prop} (h : Mon f V) {l m : List Int} (hp : l.Perm m) : ∀ {o : Option Int}, OV V o → (∀ z ∈ l, V z) → l.foldl (foV f) o = m.foldl (foV f) o := by
  induction hp with
  | nil => intros; rfl
  | cons x _ ih => exact fun ho hl => ih (foV_ok h ho (hl x (List.mem_cons_self ..))) fun z hz => hl z (List.mem_cons_of_mem _ hz)
  | swap x y l =>
    intro o ho hl
    simp only [List.foldl_cons]
    rw [foV_swap h ho (hl y (by simp)) (hl x (by simp))]
  | trans p1 _ ih1 ih2 => exact fun ho hl => (ih1 ho hl).trans (ih2 ho fun z hz => hl z (p1.mem_iff.2 hz))
/-- What a fold of a list comes to. -/
def FV (f : Int → Int → Int) (l : List Int) : Int := (l.foldl (foV f) none).getD 0
theorem fold_some {f : Int → Int → Int} : ∀ {l : List Int} {o : Option Int}, o ≠ none ∨ l ≠ [] → ∃ a, l.foldl (foV f) o = some a
  | [], o, h => by
    rcases h with h | h
    · cases o with
      | none => exact absurd rfl h
      | some a => exact ⟨a, rfl⟩
    · exact absurd rfl h
  | x :: l, o, _ => fold_some (l := l) (Or.inl (by simp [foV]))
theorem FV_eq {f : Int → Int → Int} {l : List Int} (h : l ≠ []) : l.foldl (foV f) none = some (FV f l) := by
  obtain ⟨a, ha⟩ := fold_some (f := f) (o := none) (Or.inr h)
  unfold FV
  rw [ha]; rfl
theorem FV_ok {f : Int → Int → Int} {V : Int → Prop} (h : Mon f V) {l : List Int} (hn : l ≠ []) (hl : ∀ z ∈ l, V z) : V (FV f l) := by
  have := fold_ok h (o := none) trivial hl
  rw [FV_eq hn] at this
  exact this
theorem fold_from {f : Int → Int → Int} {V : Int → Prop} (h : Mon f V) {a b : Int} (ha : V a) (hb : V b) : ∀ {l : List Int}, (∀ z ∈ l, V z) → l.foldl (foV f) (some (f a b)) = (l.foldl (foV f) (some b)).map (f a) := by
  intro l
  induction l generalizing b with
  | nil => intro _; rfl
  | cons x l ih =>
    intro hl
    have hx := hl x (List.mem_cons_self ..)
    simp only [List.foldl_cons, foV]
    rw [h.ass ha hb hx]
    exact ih (h.clo hb hx) fun z hz => hl z (List.mem_cons_of_mem _ hz)
theorem fold_join {f : Int → Int → Int} {V : Int → Prop} (h : Mon f V) {o : Option Int} {l : List Int} (ho : OV V o) (hn : l ≠ []) (hl : ∀ z ∈ l, V z) : l.foldl (foV f) o = foV f o (FV f l) := by
  cases o with
  | none => exact FV_eq hn
  | some a =>
    match l, hn with
    | x :: l, _ =>
      have hx := hl x (List.mem_cons_self ..)
      have e1 : FV f (x :: l) = ((l.foldl (foV f) (some x))).getD 0 := rfl
      obtain ⟨b, hb⟩ := fold_some (f := f) (l := l) (o := some x) (Or.inl (by simp))
      rw [e1, hb]
      show l.foldl (foV f) (some (f a x)) = some (f a b)
      rw [fold_from h ho hx fun z hz => hl z (List.mem_cons_of_mem _ hz), hb]
      rfl
theorem fold_flat {f : Int → Int → Int} {V : Int → Prop} (h : Mon f V) {r : Nat → List Int} : ∀ {J : List Nat} {o : Option Int}, OV V o → (∀ j ∈ J, r j ≠ []) → (∀ j ∈ J, ∀ z ∈ r j, V z) → (J.flatMap r).foldl (foV f) o = (J.map fun j => FV f (r j)).foldl (foV f) o
  | [], _, _, _, _ => rfl
  | j :: J, o, ho, hn, hl => by
    have hj := hn j (List.mem_cons_self ..)
    have hv := hl j (List.mem_cons_self ..)
    rw [List.flatMap_cons, List.foldl_append, List.map_cons, List.foldl_cons, fold_join h ho hj hv]
    exact fold_flat h (foV_ok h ho (FV_ok h hj hv)) (fun i hi => hn i (List.mem_cons_of_mem _ hi)) fun i hi => hl i (List.mem_cons_of_mem _ hi)

/-! ### rows of rows -/

theorem flat_snoc (r : Nat → List Int) (g : Nat) (z : Int) : ∀ {J : List Nat}, J.Nodup → (J.flatMap fun j => r j ++ if g = j then [z] else []).Perm (J.flatMap r ++ if g ∈ J then [z] else [])
  | [], _ => by simp
  | j :: J, hJ => by
    have hj := List.nodup_cons.1 hJ
    have ih := flat_snoc r g z hj.2
    rw [List.flatMap_cons, List.flatMap_cons]
    by_cases e : g = j
    · subst e
      rw [if_pos rfl, if_pos (List.mem_cons_self ..)]
      rw [if_neg hj.1, List.append_nil] at ih
      have : (r g ++ [z] ++ J.flatMap fun j => r j ++ if g = j then [z] else []).Perm (r g ++ ([z] ++ J.flatMap r)) := by
        rw [List.append_assoc]
        exact (List.Perm.append_left _ ((List.Perm.append_left _ ih)))
      refine this.trans ?_
      rw [List.append_assoc]
      exact List.Perm.append_left _ List.perm_append_comm
    · rw [if_neg e, List.append_nil]
      have e2 : (g ∈ j :: J) ↔ g ∈ J := by simp [e]
      rw [List.append_assoc]
      refine List.Perm.append_left _ (ih.trans ?_)
      by_cases c : g ∈ J
      · rw [if_pos c, if_pos (e2.2 c)]
      · rw [if_neg c, if_neg (fun d => c (e2.1 d))]

theorem rows_perm {G1 G2 G3 : Nat → Nat} {data : List Int} {P k : Nat} : ∀ {N : Nat}, (∀ i < N, G1 i < P) → (∀ i < N, G3 i = G2 (G1 i)) →
    (Vx.rowOf G3 data N k).Perm (((List.range P).filter fun j => decide (G2 j = k)).flatMap fun j => Vx.rowOf G1 data N j)
  | 0, _, _ => by simp [Vx.rowOf_zero]
  | N + 1, h1, h3 => by
    have ih := rows_perm (G1 := G1) (G2 := G2) (G3 := G3) (data := data) (P := P) (k := k) (N := N) (fun i hi => h1 i (by omega)) (fun i hi => h3 i (by omega))
    have hn : ((List.range P).filter fun j => decide (G2 j = k)).Nodup := List.nodup_range.filter _
    have hf := flat_snoc (fun j => Vx.rowOf G1 data N j) (G1 N) (data.getD N 0) hn
    have e : (fun j => Vx.rowOf G1 data (N + 1) j) = fun j => Vx.rowOf G1 data N j ++ if G1 N = j then [data.getD N 0] else [] := by
      funext j
      rw [Vx.rowOf_next]
      split <;> simp
    rw [e]
    refine List.Perm.trans ?_ hf.symm
    rw [Vx.rowOf_next]
    have hm : (G1 N ∈ (List.range P).filter fun j => decide (G2 j = k)) ↔ G3 N = k := by
      rw [List.mem_filter, List.mem_range, decide_eq_true_eq, h3 N (by omega)]
      exact ⟨fun h => h.2, fun h => ⟨h1 N (by omega), h⟩⟩
    by_cases c : G3 N = k
    · rw [if_pos c, if_pos (hm.2 c)]
      exact ih.append_right _
    · rw [if_neg c, if_neg (fun d => c (hm.1 d)), List.append_nil]
      exact ih

theorem rowOf_range {G : Nat → Nat} {h : Nat → Int} {P k : Nat} : Vx.rowOf G ((List.range P).map h) P k = ((List.range P).filter fun j => decide (G j = k)).map h := by
  unfold Vx.rowOf
  refine List.map_congr_left fun j hj => ?_
  have hj' : j < P := List.mem_range.1 (List.mem_filter.1 hj).1
  simp [List.getD, hj']

/-- A fold of folds is the fold of all. -/
theorem fold_comp {f : Int → Int → Int} {V : Int → Prop} (h : Mon f V) {G1 G2 G3 : Nat → Nat} {data : List Int} {N P k : Nat} (hl : N ≤ data.length) (hV : ∀ z ∈ data, V z) (h1 : ∀ i < N, G1 i < P) (h2 : ∀ j < P, ∃ i < N, G1 i = j) (h3 : ∀ i < N, G3 i = G2 (G1 i)) :
    FV f (Vx.rowOf G2 ((List.range P).map fun j => FV f (Vx.rowOf G1 data N j)) P k) = FV f (Vx.rowOf G3 data N k) := by
  have hp := rows_perm (G1 := G1) (G2 := G2) (G3 := G3) (data := data) (P := P) (k := k) h1 h3
  unfold FV
  rw [rowOf_range]
  congr 1
  rw [fold_perm h hp (o := none) trivial fun z hz => hV z (Vx.rowOf_mem hl hz)]
  refine (fold_flat h (o := none) trivial (fun j hj => ?_) fun j hj z hz => hV z (Vx.rowOf_mem hl hz)).symm
  have hj' : j < P := List.mem_range.1 (List.mem_filter.1 hj).1
  obtain ⟨i, hi, e⟩ := h2 j hj'
  exact Vx.rowOf_some hi e

/-! ### groups of groups -/

namespace Vx
open Vw
theorem ownc_ownc : ∀ {l m d c : List Int}, Cmp l m → Cmp m d → c.length = d.length → ownc l (ownc m c) = ownc l c
  | [], [], [], [], _, _, _ => rfl
  | x :: l, y :: m, z :: d, c :: cs, h, g, e => by
    show (if x = 1 then (0 : Int) else if y = 1 then 0 else c) :: ownc l (ownc m cs) = (if x = 1 then 0 else c) :: ownc l cs
    rw [ownc_ownc h.2 g.2 (by simpa using e)]
    by_cases hx : x = 1
    · rw [if_pos hx, if_pos hx]
    · rw [if_neg hx, if_neg hx, if_neg (fun hy => by rcases h.1 with a | a <;> omega)]
  | [], _ :: _, _, _, h, _, _ => h.elim
  | _ :: _, [], _, _, h, _, _ => h.elim
  | _, [], _ :: _, _, _, g, _ => g.elim
  | _, _ :: _, [], _, _, g, _ => g.elim
  | [], [], [], _ :: _, _, _, e => by simp at e
  | _ :: _, _ :: _, _ :: _, [], _, _, e => by simp at e
theorem crd_len : ∀ {d : List Int} {k : Int}, (crd d k).length = d.length
  | [], _ => rfl
  | _ :: ds, k => by simp [crd, crd_len]
theorem grp_grp {d m l : List Int} (hm : Cmp m d) (hl : Cmp l m) (hp : Pos d) {k : Nat} (hk : (k : Int) < pr d) : grp m l (grp d m k) = grp d l k := by
  have hv := crd_val hp (k := (k : Int)) (by omega) hk
  have hpm := cmp_pos hm hp
  have e1 := (grp_lt hm hp hk).2
  show (plc (strd l) (ownc l (crd m ((grp d m k : Nat) : Int)))).toNat = (plc (strd l) (ownc l (crd d (k : Int)))).toNat
  rw [← e1, (val_plc hpm (ownc_val hm hv)).2, ownc_ownc hl hm crd_len]
end Vx

end Go.Proofs.YtagiipecfdmceaaGreatDoor

set_option linter.unusedVariables false
set_option linter.unusedSimpArgs false
namespace Go.Proofs.YtagiipecfdmceaaGreatDoor
open Go.RowKit

set_option maxRecDepth 100000

def VT (t z : Int) : Prop := Fl.chk t z = true ∧ InI z

theorem two_whole {op : List UInt8} {t x y : Int} (ht : t = 6 ∨ t = 7) (hx : Fl.chk t x = true) (hy : Fl.chk t y = true) : twoP op t x y = (Fl.binI op t x y).1 := by
  have hw : Fl.wholeT t = true := decide_eq_true ht
  unfold twoP Fl.bin Fl.binR
  rw [hx, hy, if_neg (by simp), if_pos hw]
theorem max_whole {t x y : Int} (ht : t = 6 ∨ t = 7) (hx : Fl.chk t x = true) (hy : Fl.chk t y = true) : twoP lMax t x y = max x y := by
  rw [two_whole ht hx hy]
  unfold Fl.binI
  rw [if_neg (by decide), if_neg (by decide), if_neg (by decide), if_neg (by decide), if_pos (show lMax = [77, 97, 120] from rfl)]
theorem add_whole {t x y : Int} (ht : t = 6 ∨ t = 7) (hx : Fl.chk t x = true) (hy : Fl.chk t y = true) : twoP lAdd t x y = Fl.cutT t (wrap64 (x + y)) := by
  rw [two_whole ht hx hy]
  unfold Fl.binI
  rw [if_pos (show lAdd = [65, 100, 100] from rfl)]
theorem chk6 {x : Int} : Fl.chk 6 x = true ↔ (-2147483648 ≤ x ∧ x ≤ 2147483647) := by
  unfold Fl.chk
  rw [if_neg (by decide), if_pos rfl, decide_eq_true_eq]
theorem mon_add {t : Int} (ht : t = 6 ∨ t = 7) : Mon (twoP lAdd t) (VT t) := by
  have clo : ∀ {x y : Int}, VT t x → VT t y → VT t (twoP lAdd t x y) := by
    intro x y hx hy
    refine ⟨?_, twoP_in hx.2 hy.2⟩
    rw [add_whole ht hx.1 hy.1]
    rcases ht with rfl | rfl
    · rw [chk6]
      unfold Fl.cutT wrap32
      rw [if_pos rfl]
      omega
    · rfl
  refine ⟨clo, fun hx hy => ?_, fun hx hy hz => ?_⟩
  · rw [add_whole ht hx.1 hy.1, add_whole ht hy.1 hx.1, Int.add_comm]
  · rw [add_whole ht (clo hx hy).1 hz.1, add_whole ht hx.1 hy.1, add_whole ht hx.1 (clo hy hz).1, add_whole ht hy.1 hz.1]
    have h1 := hx.1; have h2 := hy.1; have h3 := hz.1
    rcases ht with rfl | rfl
    · rw [chk6] at h1 h2 h3
      unfold Fl.cutT wrap32 wrap64
      simp only [if_pos]
      omega
    · unfold Fl.cutT wrap64
      simp only [show ¬ (7 : Int) = 6 by decide, if_false]
      omega
theorem add_zero {t x : Int} (ht : t = 6 ∨ t = 7) (hx : VT t x) : twoP lAdd t 0 x = x := by
  have h1 := hx.1
  have h2 := hx.2
  unfold InI at h2
  rw [add_whole ht (by rcases ht with rfl | rfl <;> rfl) hx.1]
  rcases ht with rfl | rfl
  · rw [chk6] at h1
    unfold Fl.cutT wrap32 wrap64
    rw [if_pos rfl]
    omega
  · unfold Fl.cutT wrap64
    rw [if_neg (by decide)]
    omega

/-- The greatest of two Floats by what they are worth. -/
def mxF (N : Int → Bool) (s : Int → Int) (x y : Int) : Int := if N x || N y then 2143289344 else if s x = s y then min x y else if s y < s x then x else y
def mxL (s : Int → Int) (x y : Int) : Int := if s x < s y ∨ (s x = s y ∧ y ≤ x) then y else x
theorem mxF_eq {N : Int → Bool} {s : Int → Int} {x y : Int} (hx : N x = false) (hy : N y = false) : mxF N s x y = mxL s x y := by
  unfold mxF mxL
  rw [hx, hy, if_neg (by decide)]
  by_cases h : s x = s y
  · rw [if_pos h]
    by_cases g : y ≤ x
    · rw [if_pos (Or.inr ⟨h, g⟩), Int.min_def]; split <;> omega
    · rw [if_neg (by rintro (c | c) <;> omega), Int.min_def]; split <;> omega
  · rw [if_neg h]
    by_cases g : s y < s x
    · rw [if_pos g, if_neg (by rintro (c | c) <;> omega)]
    · rw [if_neg g, if_pos (by left; omega)]
theorem mxL_or (s : Int → Int) (x y : Int) : mxL s x y = x ∨ mxL s x y = y := by unfold mxL; split; exact Or.inr rfl; exact Or.inl rfl
theorem mxL_com (s : Int → Int) (x y : Int) : mxL s x y = mxL s y x := by
  unfold mxL
  by_cases h : s x < s y ∨ (s x = s y ∧ y ≤ x)
  · rw [if_pos h]
    by_cases g : s y < s x ∨ (s y = s x ∧ x ≤ y)
    · rw [if_pos g]; rcases h with h | h <;> rcases g with g | g <;> omega
    · rw [if_neg g]
  · rw [if_neg h]
    by_cases g : s y < s x ∨ (s y = s x ∧ x ≤ y)
    · rw [if_pos g]
    · exfalso; apply g; by_cases e : s x = s y
      · right; exact ⟨e.symm, by have := fun c => h (Or.inr ⟨e, c⟩); omega⟩
      · left; have := fun c => h (Or.inl c); omega
theorem mxL_ass (s : Int → Int) (x y z : Int) : mxL s (mxL s x y) z = mxL s x (mxL s y z) := by
  by_cases h1 : s x < s y ∨ (s x = s y ∧ y ≤ x) <;> by_cases h2 : s y < s z ∨ (s y = s z ∧ z ≤ y) <;> by_cases h3 : s x < s z ∨ (s x = s z ∧ z ≤ x) <;>
    simp only [mxL, h1, h2, h3, if_true, if_false] <;> (exfalso; omega)
theorem max_float {x y : Int} (hx : Fl.chk 1 x = true) (hy : Fl.chk 1 y = true) : twoP lMax 1 x y = mxF Fl.isN (fun z => Fl.sv Ieee.single z.toNat) x y := by
  unfold twoP Fl.bin Fl.binR
  rw [hx, hy, if_neg (by simp), if_neg (by decide), if_pos rfl]
  unfold Fl.binF
  rw [if_neg (by decide), if_neg (by decide), if_neg (by decide), if_neg (by decide), if_neg (by decide), if_neg (by decide), if_neg (by decide), if_pos (show lMax = [77, 97, 120] from rfl)]
  rfl
theorem mxF_mon {N : Int → Bool} {s : Int → Int} (hN : N 2143289344 = true) (x y z : Int) : mxF N s (mxF N s x y) z = mxF N s x (mxF N s y z) := by
  have top : ∀ a b : Int, N a = true ∨ N b = true → mxF N s a b = 2143289344 := fun a b h => by unfold mxF; rw [if_pos (by rw [Bool.or_eq_true]; exact h)]
  cases hx : N x
  case true => rw [top x y (Or.inl hx), top x _ (Or.inl hx), top _ z (Or.inl hN)]
  cases hy : N y
  case true => rw [top x y (Or.inr hy), top y z (Or.inl hy), top _ z (Or.inl hN), top x _ (Or.inr hN)]
  cases hz : N z
  case true => rw [top y z (Or.inr hz), top _ z (Or.inr hz), top x _ (Or.inr hN)]
  rw [mxF_eq hx hy, mxF_eq hy hz]
  have h1 : N (mxL s x y) = false := by rcases mxL_or s x y with e | e <;> rw [e] <;> assumption
  have h2 : N (mxL s y z) = false := by rcases mxL_or s y z with e | e <;> rw [e] <;> assumption
  rw [mxF_eq h1 hz, mxF_eq hx h2, mxL_ass]
theorem mxF_com {N : Int → Bool} {s : Int → Int} (x y : Int) : mxF N s x y = mxF N s y x := by
  cases h : N x || N y
  case true => unfold mxF; rw [if_pos h, if_pos (by rw [Bool.or_comm]; exact h)]
  simp only [Bool.or_eq_false_iff] at h
  rw [mxF_eq h.1 h.2, mxF_eq h.2 h.1, mxL_com]
theorem mxF_or {N : Int → Bool} {s : Int → Int} (x y : Int) : mxF N s x y = x ∨ mxF N s x y = y ∨ mxF N s x y = 2143289344 := by
  cases h : N x || N y
  case true => unfold mxF; rw [if_pos h]; exact Or.inr (Or.inr rfl)
  simp only [Bool.or_eq_false_iff] at h
  rw [mxF_eq h.1 h.2]
  rcases mxL_or s x y with e | e
  · exact Or.inl e
  · exact Or.inr (Or.inl e)

theorem mon_max {t : Int} (ht : t = 6 ∨ t = 7 ∨ t = 1) : Mon (twoP lMax t) (VT t) := by
  by_cases h1 : t = 1
  · subst h1
    have clo : ∀ {x y : Int}, VT 1 x → VT 1 y → VT 1 (twoP lMax 1 x y) := by
      intro x y hx hy
      refine ⟨?_, twoP_in hx.2 hy.2⟩
      rw [max_float hx.1 hy.1]
      rcases mxF_or (N := Fl.isN) (s := fun z => Fl.sv Ieee.single z.toNat) x y with e | e | e <;> rw [e]
      · exact hx.1
      · exact hy.1
      · decide
    refine ⟨clo, fun hx hy => ?_, fun hx hy hz => ?_⟩
    · rw [max_float hx.1 hy.1, max_float hy.1 hx.1, mxF_com]
    · rw [max_float (clo hx hy).1 hz.1, max_float hx.1 hy.1, max_float hx.1 (clo hy hz).1, max_float hy.1 hz.1]
      exact mxF_mon (by decide) _ _ _
  · have ht' : t = 6 ∨ t = 7 := by rcases ht with h | h | h; exact Or.inl h; exact Or.inr h; exact absurd h h1
    have clo : ∀ {x y : Int}, VT t x → VT t y → VT t (twoP lMax t x y) := by
      intro x y hx hy
      refine ⟨?_, twoP_in hx.2 hy.2⟩
      rw [max_whole ht' hx.1 hy.1]
      have a1 := hx.1
      have a2 := hy.1
      rcases ht' with rfl | rfl
      · rw [chk6] at a1 a2 ⊢; omega
      · rfl
    refine ⟨clo, fun hx hy => ?_, fun hx hy hz => ?_⟩
    · rw [max_whole ht' hx.1 hy.1, max_whole ht' hy.1 hx.1]; omega
    · rw [max_whole ht' (clo hx hy).1 hz.1, max_whole ht' hx.1 hy.1, max_whole ht' hx.1 (clo hy hz).1, max_whole ht' hy.1 hz.1]; omega

theorem fold_head {f : Int → Int → Int} : ∀ {l : List Int} {a : Int}, l.foldl (foV f) (some a) = some (l.foldl f a)
  | [], _ => rfl
  | x :: l, a => fold_head (l := l)
theorem togV_max {t : Int} {l : List Int} (h : l ≠ []) : togP lRMax t l = FV (twoP lMax t) l := by
  rw [togP_max]
  match l, h with
  | x :: l, _ =>
    show l.foldl _ x = ((l.foldl (foV _) (some x))).getD 0
    rw [fold_head]; rfl
theorem togV_sum {t : Int} (ht : t = 6 ∨ t = 7) {l : List Int} (h : l ≠ []) (hv : ∀ z ∈ l, VT t z) : togP lRSum t l = FV (twoP lAdd t) l := by
  rw [togP_sum]
  match l, h, hv with
  | x :: l, _, hv =>
    show l.foldl _ (twoP lAdd t 0 x) = ((l.foldl (foV _) (some x))).getD 0
    rw [fold_head, add_zero ht (hv x (List.mem_cons_self ..))]; rfl

end Go.Proofs.YtagiipecfdmceaaGreatDoor

set_option linter.unusedVariables false
set_option linter.unusedSimpArgs false
namespace Go.Proofs.YtagiipecfdmceaaGreatDoor
open Go.RowKit

set_option maxRecDepth 100000

theorem wou_left {ds ks : List Int} (hk : ∀ a ∈ ks, 0 ≤ a) : ∀ {k : Nat}, k ≤ ds.length → wouL ds ks true k = (Vx.leftL ds ks).take k
  | 0, _ => by simp [wouL]
  | k + 1, h => by
    have hlt : k < (Vx.leftL ds ks).length := by rw [Vx.leftL_length]; omega
    rw [wou_next, wou_left hk (by omega), List.take_add_one, List.getElem?_eq_getElem hlt]
    congr 1
    have hg : (Vx.leftL ds ks)[k] = (Vx.leftL ds ks).getD k 0 := by simp [List.getD, List.getElem?_eq_getElem hlt]
    show cutI ds ks true k = [(Vx.leftL ds ks)[k]]
    rw [hg, Vx.leftL_get _ _ (by omega)]
    by_cases c : ks.contains (k : Int) = true
    · rw [cut_keep c, if_pos]
      rw [List.any_eq_true]
      exact ⟨(k : Int), by simpa using c, by simp⟩
    · rw [cut_not (by simpa using c), if_neg]
      rw [List.any_eq_true]
      rintro ⟨a, ha, e⟩
      have h0 := hk a ha
      have : a = (k : Int) := by have := of_decide_eq_true e; omega
      exact c (by rw [← this]; simpa using ha)
theorem left_swap {ds : List Int} {A B : Int} : Vx.leftL ds [B, A] = Vx.leftL ds [A, B] := by
  refine List.ext_getElem (by rw [Vx.leftL_length, Vx.leftL_length]) fun i h1 h2 => ?_
  rw [Vx.leftL_length] at h1
  have e1 : (Vx.leftL ds [B, A])[i] = (Vx.leftL ds [B, A]).getD i 0 := by simp [List.getD, List.getElem?_eq_getElem (l := Vx.leftL ds [B, A]) (i := i) (by rw [Vx.leftL_length]; exact h1)]
  have e2 : (Vx.leftL ds [A, B])[i] = (Vx.leftL ds [A, B]).getD i 0 := by simp [List.getD, List.getElem?_eq_getElem (l := Vx.leftL ds [A, B]) (i := i) (by rw [Vx.leftL_length]; exact h1)]
  rw [e1, e2, Vx.leftL_get _ _ h1, Vx.leftL_get _ _ h1]
  simp only [List.any_cons, List.any_nil, Bool.or_false]
  rw [Bool.or_comm]
theorem redD_zeroI {n : Nd} {x : Tn} {r : Int × List Int × List Int} (h : redD n x = (0, r)) : (rB n x).1 = 0 := by
  by_cases c : (rB n x).1 = 0
  · exact c
  · rw [redD_no c] at h; exact absurd (congrArg Prod.fst h) c

/-- What a good node with keepdims makes. -/
theorem red_form {n : Nd} {L : List Int} (hn : GoodN n L 1) {t : Int} {d xs : List Int} {r : Int × List Int × List Int} (h : redD n (t, d, xs) = (0, r)) :
    pbE t d xs = 0 ∧ (rTy n.op.toList t).1 = 0 ∧ r = ((rTy n.op.toList t).2, Vx.leftL d (L.map fun a => axZ a d.length), redR n.op.toList t (Vx.grp d (Vx.leftL d (L.map fun a => axZ a d.length))) xs xs.length (Vx.Vw.pr (Vx.leftL d (L.map fun a => axZ a d.length))).toNat) := by
  have hz := redD_zeroI h
  obtain ⟨-, -, hp, ht, hr, -, -, hb, -⟩ := rB_yes hz
  rw [redD_yes hz] at h
  have hg : goneL n d.length = L.map fun a => axZ a d.length := by unfold goneL; rw [hn.axes]
  rw [hn.axes] at hr
  refine ⟨hp, ht, ?_⟩
  have e := (congrArg Prod.snd h).symm
  dsimp only at e hb hr
  rw [e, hb, hn.keep]
  dsimp only
  rw [show decide ((1 : Int) = 1) = true from rfl, hg, wou_left (fun a ha => by
    obtain ⟨b, hb', rfl⟩ := List.mem_map.1 ha
    exact (axZ_in (hr b hb')).1) (Nat.le_refl _)]
  have hl : (Vx.leftL d (L.map fun a => axZ a d.length)).take d.length = Vx.leftL d (L.map fun a => axZ a d.length) := by
    rw [List.take_of_length_le]
    rw [Vx.leftL_length]; exact Nat.le_refl _
  rw [hl]
  unfold redG redPn
  dsimp only
  rw [hg]

theorem red_twice {n1 n2 n3 : Nd} {a b : Int} {L : List Int} (h1 : GoodN n1 [a] 1) (h2 : GoodN n2 [b] 1) (h3 : GoodN n3 L 1) (hL : L = [a, b] ∨ L = [b, a]) (o2 : n2.op = n1.op) (o3 : n3.op = n1.op)
    {t : Int} {d xs : List Int} (hI : ∀ z ∈ xs, InI z) (hop : n1.op.toList = lRMax ∨ (n1.op.toList = lRSum ∧ t ≠ 1)) {t1 t2 t3 : Int} {d1 d2 d3 x1 x2 x3 : List Int}
    (e1 : redD n1 (t, d, xs) = (0, t1, d1, x1)) (e2 : redD n2 (t1, d1, x1) = (0, t2, d2, x2)) (e3 : redD n3 (t, d, xs) = (0, t3, d3, x3)) : t2 = t3 ∧ d2 = d3 ∧ x2 = x3 := by
  obtain ⟨p1, q1, f1⟩ := red_form h1 e1
  obtain ⟨p2, q2, f2⟩ := red_form h2 e2
  obtain ⟨p3, q3, f3⟩ := red_form h3 e3
  rw [o2] at q2 f2
  rw [o3] at q3 f3
  have hty : rTy n1.op.toList t = (0, t) ∧ (t = 6 ∨ t = 7 ∨ t = 1) := by
    have e : rTy n1.op.toList t = typS t t := by
      unfold rTy
      rcases hop with h | ⟨h, -⟩ <;> rw [h, if_neg (by decide), if_neg (by decide)]
    rw [e] at q1 ⊢
    unfold typS at q1 ⊢
    split
    · rename_i c; exact ⟨rfl, c⟩
    · rename_i c; rw [if_neg c] at q1; exact absurd q1 (by decide)
  obtain ⟨hty, ht⟩ := hty
  rw [hty] at f1 f3
  obtain ⟨ht1, hf1⟩ := Prod.mk.inj f1
  subst t1
  obtain ⟨ht3, hf3⟩ := Prod.mk.inj f3
  subst t3
  rw [hty] at f2
  obtain ⟨ht2, hf2⟩ := Prod.mk.inj f2
  subst t2
  obtain ⟨hd1, hx1⟩ := Prod.mk.inj hf1
  obtain ⟨hd2, hx2⟩ := Prod.mk.inj hf2
  obtain ⟨hd3, hx3⟩ := Prod.mk.inj hf3
  refine ⟨rfl, ?_⟩
  -- the dims
  have hlen : d1.length = d.length := by rw [hd1, Vx.leftL_length]
  obtain ⟨m, hm⟩ : ∃ m, Vx.leftL d ([a].map fun a => axZ a d.length) = m := ⟨_, rfl⟩
  have hl2 : Vx.leftL d1 ([b].map fun a => axZ a d1.length) = Vx.leftL d [axZ a d.length, axZ b d.length] := by
    rw [hlen, hd1]; rfl
  have hl3 : Vx.leftL d (L.map fun a => axZ a d.length) = Vx.leftL d [axZ a d.length, axZ b d.length] := by
    rcases hL with rfl | rfl
    · rfl
    · exact left_swap
  obtain ⟨l, hl⟩ : ∃ l, Vx.leftL d [axZ a d.length, axZ b d.length] = l := ⟨_, rfl⟩
  have hcm : Vx.Cmp m d := by rw [← hm]; exact Vx.leftL_cmp _ _
  have hcl : Vx.Cmp l d1 := by rw [← hl, ← hl2]; exact Vx.leftL_cmp _ _
  rw [hm] at hd1 hx1
  rw [hl2, hl] at hd2 hx2
  rw [hl3, hl] at hd3 hx3
  obtain rfl : d1 = m := hd1
  refine ⟨hd2.trans hd3.symm, ?_⟩
  -- the elements
  obtain ⟨-, c1, n1', k1⟩ := pbE_zero p1
  obtain ⟨-, c2, n2', k2⟩ := pbE_zero p2
  have hpos := Vx.cnt_pos c1
  have hpos1 := Vx.cmp_pos hcm hpos
  obtain ⟨f, hM, hT⟩ : ∃ f, Mon f (VT t) ∧ ∀ l : List Int, l ≠ [] → (∀ z ∈ l, VT t z) → togP n1.op.toList t l = FV f l := by
    rcases hop with h | ⟨h, g⟩
    · rw [h]; exact ⟨_, mon_max ht, fun l hl _ => togV_max hl⟩
    · have ht' : t = 6 ∨ t = 7 := by rcases ht with c | c | c; exact Or.inl c; exact Or.inr c; exact absurd c g
      rw [h]; exact ⟨_, mon_add ht', fun l hl hv => togV_sum ht' hl hv⟩
  have hV : ∀ z ∈ xs, VT t z := fun z hz => ⟨by rw [← chk_fl]; exact k1 z hz, hI z hz⟩
  have hP1 : ((Vx.Vw.pr d1).toNat : Int) = Vx.Vw.pr d1 := by have := Vx.Vw.pr_pos hpos1; omega
  have hlt : ∀ i < xs.length, Vx.grp d d1 i < (Vx.Vw.pr d1).toNat := fun i hi => by
    have := (Vx.grp_lt hcm hpos (k := i) (by omega)).1
    omega
  have hon : ∀ j < (Vx.Vw.pr d1).toNat, ∃ i < xs.length, Vx.grp d d1 i = j := fun j hj => by
    obtain ⟨i, hi, e⟩ := Vx.grp_onto hcm hpos (j := j) (by omega)
    exact ⟨i, by omega, e⟩
  have hne : ∀ j < (Vx.Vw.pr d1).toNat, Vx.rowOf (Vx.grp d d1) xs xs.length j ≠ [] := fun j hj => by
    obtain ⟨i, hi, e⟩ := hon j hj
    exact Vx.rowOf_some hi e
  have hx1' : x1 = (List.range (Vx.Vw.pr d1).toNat).map fun j => FV f (Vx.rowOf (Vx.grp d d1) xs xs.length j) := by
    rw [hx1]
    unfold redR
    refine List.map_congr_left fun j hj => ?_
    exact hT _ (hne j (List.mem_range.1 hj)) fun z hz => hV z (Vx.rowOf_mem (Nat.le_refl _) hz)
  have hV1 : ∀ z ∈ x1, VT t z := fun z hz => by
    rw [hx1'] at hz
    obtain ⟨j, hj, rfl⟩ := List.mem_map.1 hz
    exact FV_ok hM (hne j (List.mem_range.1 hj)) fun z hz => hV z (Vx.rowOf_mem (Nat.le_refl _) hz)
  have hxl : x1.length = (Vx.Vw.pr d1).toNat := by rw [hx1']; simp
  rw [hx2, hx3]
  unfold redR
  refine List.map_congr_left fun k hk => ?_
  have hk' := List.mem_range.1 hk
  obtain ⟨j, hj, ej⟩ := Vx.grp_onto hcl hpos1 (j := k) (by omega)
  have hcld : Vx.Cmp l d := by rw [← hl]; exact Vx.leftL_cmp _ _
  obtain ⟨i, hi, ei⟩ := Vx.grp_onto hcld hpos (j := k) (by omega)
  rw [hT _ (Vx.rowOf_some (k := j) (by omega) ej) fun z hz => hV1 z (Vx.rowOf_mem (Nat.le_refl _) hz), hT _ (Vx.rowOf_some (k := i) (by omega) ei) fun z hz => hV z (Vx.rowOf_mem (Nat.le_refl _) hz)]
  have hc := fold_comp hM (G1 := Vx.grp d d1) (G2 := Vx.grp d1 l) (G3 := Vx.grp d l) (data := xs) (N := xs.length) (P := (Vx.Vw.pr d1).toNat) (k := k) (Nat.le_refl _) hV hlt hon (fun i hi => (Vx.grp_grp hcm hcl hpos (by omega)).symm)
  rw [← hx1'] at hc
  rw [hxl]
  exact hc

end Go.Proofs.YtagiipecfdmceaaGreatDoor

set_option linter.unusedVariables false
set_option linter.unusedSimpArgs false
namespace Go.Proofs.YtagiipecfdmceaaGreatDoor
open Go.RowKit

set_option maxRecDepth 100000

theorem in_one {a : Int} (h : InI a) : ∀ z ∈ [a], InI z := fun z hz => by simp only [List.mem_cons, List.not_mem_nil, or_false] at hz; subst hz; exact h
theorem in_two {a b : Int} (h : InI a) (g : InI b) : ∀ z ∈ [a, b], InI z := fun z hz => by simp only [List.mem_cons, List.not_mem_nil, or_false] at hz; rcases hz with rfl | rfl; exact h; exact g
theorem sum_list : oRSum.toList = lRSum := by unfold oRSum; rw [ByteArray.toList_eq]; rfl
theorem max_list : oRMax.toList = lRMax := by unfold oRMax; rw [ByteArray.toList_eq]; rfl
theorem ax_one (op : ByteArray) (ho : op.toList = lRSum ∨ op.toList = lRMax) (a k : Int) (W : World) :
    Calls Tryz.prog 20 #[.string op, .int .i64 a, .int .i64 k] W fun e w' => ∃ vin vat ts, e = .returned (.agg #[.string op, .string ⟨#[]⟩, vin, .string ⟨#[122]⟩, vat]) ∧ NodeO w' W.heap.size (axN op [a] k) vin vat ts ∧ Below W.heap.size W w' :=
  axisOf_axes op a k (by rcases ho with h | h <;> rw [h] <;> decide) W
theorem nodeB_axN (op : ByteArray) {l : List Int} {k : Int} (hl : ∀ z ∈ l, InI z) (hn : l.length ≤ 1000) (hk : InI k) : NodeB (axN op l k) := by
  have h0 : InI 0 := by unfold InI; decide
  have h2 : InI 2 := by unfold InI; decide
  have h7 : InI 7 := by unfold InI; decide
  refine ⟨by simp [axN], by simp [axN], fun b hb => ?_⟩
  simp only [axN, List.mem_cons, List.not_mem_nil, or_false] at hb
  rcases hb with rfl | rfl
  · exact attrB_lit rfl rfl ⟨by simp [keepA], by intro z hz; simp [keepA] at hz⟩ ⟨h2, h0, hk, h0⟩ (show nmKeep.size ≤ 1000 by decide) (show ByteArray.size ⟨#[]⟩ ≤ 1000 by decide)
  · exact attrB_lit rfl rfl ⟨hn, hl⟩ ⟨h7, h0, h0, h0⟩ (show nmAxes.size ≤ 1000 by decide) (show ByteArray.size ⟨#[]⟩ ≤ 1000 by decide)
theorem do_one {wr : World} (HG : ∀ W, Below wr.heap.size wr W → Glob W) {op : ByteArray} (ho : op ∈ opsL) {l : List Int} (hl : ∀ z ∈ l, InI z) (hn : l.length ≤ 1000) (x : Tn) :
    ∀ (W : World) (B : Nat) (vin vat vv : Value) (ts : List Tri), Below wr.heap.size wr W → NodeO W B (axN op l 1) vin vat ts → SlIn 3 rdTensor W vv [x] → Calls Tryz.prog 19 #[.agg #[.string op, .string ⟨#[]⟩, vin, .string ⟨#[122]⟩, vat], vv] W (UniR W (redD (axN op l 1) x)) :=
  fun W B vin vat vv ts hB hno hs => rdo_U ⟨vin, vat, rfl, hno.reads (nodeB_axN op hl hn (by unfold InI; decide))⟩ hs (HG W hB) (show op.toList ∈ _ from ops_red ho)
theorem redD_typ {n : Nd} {x : Tn} {c t : Int} {d xs : List Int} (h : InI x.1) (e : redD n x = (c, t, d, xs)) : InI t := by
  have h0 : InI 0 := by unfold InI; decide
  have h7 : InI 7 := by unfold InI; decide
  by_cases hz : (rB n x).1 = 0
  · obtain ⟨-, -, -, -, -, -, -, hb, -⟩ := rB_yes hz
    rw [redD_yes hz, hb] at e
    obtain rfl : (rTy n.op.toList x.1).2 = t := congrArg (fun o => o.2.1) e
    unfold rTy typS typD
    repeat' split
    all_goals first | exact h | exact h0 | exact h7
  · rw [redD_no hz] at e
    obtain rfl : 0 = t := congrArg (fun o => o.2.1) e
    exact h0

theorem NodeO.putAxF {w wf : World} {B g cap m : Nat} {op : ByteArray} {l0 l : List Int} {k : Int} {vin v : Value} {t0 t1 : Tri} (h : NodeO w B (axN op l0 k) vin (.slice (some ⟨g, 0, none⟩) m cap) [t0, t1])
    (hB : Below (w.setCell ⟨g, 17, none⟩ v).heap.size (w.setCell ⟨g, 17, none⟩ v) wf) (ho : wf.ownsRow B 2 1 v l.length (l.map (Value.int .i64))) : NodeO wf B (axN op l k) vin (.slice (some ⟨g, 0, none⟩) m cap) [t0, (t1.1, t1.2.1, v)] := by
  obtain ⟨_, _, e⟩ := owns_form h.row
  obtain ⟨_, rfl, _⟩ := Value.slice.inj e
  have hne : ∀ {e z m : _} {u : Value} {xs : List Value}, w.ownsRow B e z u m xs → e ≠ 49 → wf.ownsRow B e z u m xs := fun {e z m u xs} hr hn => owns_below (owns_heap hr fun x hx => Below.heap_setCell _ _ _ _ (fun e2 => by
    rcases owns_apart hr h.row hn with h1 | h1
    · rw [h1] at hx; cases hx
    · exact h1 (by rw [hx]; simp only at e2; rw [e2]; rfl))) hB
  refine ⟨hne h.ins (by decide), rfl, owns_below ((h.row.stored 17 v).1) hB, fun j b t h1 h2 => ?_⟩
  match j, h1, h2 with
  | 0, h1, h2 =>
    have := h.att 0 b t h1 h2
    exact ⟨hne this.od (by decide), hne this.ox (by decide), hne this.oi (by decide)⟩
  | 1, h1, h2 =>
    obtain rfl := Option.some.inj h1
    obtain rfl := Option.some.inj h2
    have := h.att 1 (axesA l0) t1 rfl rfl
    exact ⟨hne this.od (by decide), hne this.ox (by decide), ho⟩
  | j + 2, h1, h2 => simp [axN] at h1
/-- A block that a store leaves. -/
theorem BoxN.putOff {w : World} {b g : Nat} {cs : Array Value} {t : TypeId} {p : Addr} (h : BoxN w b cs t) (hp : p.block = g) (hne : b ≠ g) (v : Value) : BoxN (w.setCell p v) b cs t := (Below.heap_setCell _ _ _ _ (by rw [hp]; exact hne)).trans h
end Go.Proofs.YtagiipecfdmceaaGreatDoor
