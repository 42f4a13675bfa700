/- The walk of view.places' function: each place, in its order. -/
import Derived.Test.YtfdafceolkmkoaaViewI
import Derived.Deep.Draws
set_option linter.unusedVariables false
namespace Go.Proofs.Ytfdafceolkmkoaa
open Go.RowKit Go.Shelf Vw

attribute [local go_sem] Oper.semAt_some

theorem grown_set (W : World) (b j : Nat) (v : Value) : W.grownBy (W.setCell ⟨b, j, none⟩ v) (some b) :=
  ⟨rfl, rfl, rfl, (KeepsWalks.setCell W _ v).size, fun k _ hk => Below.heap_setCell _ _ _ k (fun e => hk (by rw [e]))⟩
theorem grown_drew (W : World) (row : Option Nat) : W.grownBy W.drew row := ⟨rfl, rfl, rfl, Nat.le_refl _, fun _ _ _ => rfl⟩

/-- Where the rows of a view lie, and its box. -/
structure Stands (w0 : World) (bv : Nat) (off : Int) (a1 a2 : Option Addr) (c1 c2 r : Nat) (W : World) : Prop where
  box : W.heap[bv]? = some (.cells #[.int .i64 off, .slice a1 r c1, .slice a2 r c2] 24 (0, 0))
  below : Below w0.heap.size w0 W

/-- What the rounds keep. -/
def Keep (n₁ bv B : Nat) (A A' : World) : Prop := Below n₁ A A' ∧ A'.heap[bv]? = A.heap[bv]? ∧ A'.heap[B]? = A.heap[B]?

/-- The state between two steps. -/
def St (w0 : World) (bv B : Nat) (off : Int) (a1 a2 : Option Addr) (c1 c2 r : Nat) (J : List Int → World → Prop) (pre xs : List Int) (W : World) : Prop :=
  Stands w0 bv off a1 a2 c1 c2 r W ∧ RowAt W B xs ∧ J pre W

variable {w0 : World} {bv B : Nat} {off : Int} {a1 a2 : Option Addr} {c1 c2 r : Nat} {J : List Int → World → Prop} {pre xs : List Int} {W : World}

theorem St.set (h : St w0 bv B off a1 a2 c1 c2 r J pre xs W) (hJ : AbC B J) (hbv : bv ≠ B) (hB : w0.heap.size ≤ B) (j : Nat) (x : Int) : St w0 bv B off a1 a2 c1 c2 r J pre (xs.set j x) (W.setCell ⟨B, j, none⟩ (.int .i64 x)) :=
  ⟨⟨(Below.heap_setCell _ _ _ bv hbv).trans h.1.box, h.1.below.setCell (p := ⟨B, j, none⟩) hB _⟩, h.2.1.set j x, hJ _ _ _ _ h.2.2 (grown_set W B j _) (fun r e => by cases e; rfl)⟩
theorem St.drew (h : St w0 bv B off a1 a2 c1 c2 r J pre xs W) (hJ : AbC B J) : St w0 bv B off a1 a2 c1 c2 r J pre xs W.drew :=
  ⟨⟨h.1.box, h.1.below.drew⟩, h.2.1, hJ _ _ _ none h.2.2 (grown_drew W none) (fun r e => by cases e)⟩
theorem St.drewN (h : St w0 bv B off a1 a2 c1 c2 r J pre xs W) (hJ : AbC B J) (q : Nat) : St w0 bv B off a1 a2 c1 c2 r J pre xs (W.drewN q) :=
  ⟨⟨h.1.box, ⟨h.1.below.os, h.1.below.tape, h.1.below.output, h.1.below.size, h.1.below.block⟩⟩, h.2.1, hJ _ _ _ none h.2.2 ⟨rfl, rfl, rfl, Nat.le_refl _, fun _ _ _ => rfl⟩ (fun r e => by cases e)⟩
theorem St.box0 (h : St w0 bv B off a1 a2 c1 c2 r J pre xs W) : W.cell? ⟨bv, 0, none⟩ = some (.int .i64 off) := by simp [World.cell?, h.1.box]
theorem St.box1 (h : St w0 bv B off a1 a2 c1 c2 r J pre xs W) : W.cell? ⟨bv, 1, none⟩ = some (.slice a1 r c1) := by simp [World.cell?, h.1.box]
theorem St.box2 (h : St w0 bv B off a1 a2 c1 c2 r J pre xs W) : W.cell? ⟨bv, 2, none⟩ = some (.slice a2 r c2) := by simp [World.cell?, h.1.box]

theorem plc_bound : ∀ {ss cs : List Int}, (∀ s ∈ ss, 0 ≤ s ∧ s ≤ 65536) → (∀ c ∈ cs, 0 ≤ c ∧ c ≤ 65536) → 0 ≤ plc ss cs ∧ plc ss cs ≤ cs.length * 4294967296
  | [], cs, _, _ => by simp [plc]; omega
  | s :: ss, [], _, _ => by simp [plc]
  | s :: ss, c :: cs, h, g => by
    have ih := plc_bound (ss := ss) (cs := cs) (fun x hx => h x (by simp [hx])) (fun x hx => g x (by simp [hx]))
    have h1 := h s (by simp)
    have g1 := g c (by simp)
    have m0 : 0 ≤ c * s := Int.mul_nonneg g1.1 h1.1
    have m1 : c * s ≤ 65536 * 65536 := Int.mul_le_mul g1.2 h1.2 h1.1 (by decide)
    simp only [plc, List.length_cons]
    omega

theorem take_set {c : List Int} {i : Nat} {t : List Int} {x : Int} (hi : i < c.length) : (c.take (i + 1) ++ t).set i x = c.take i ++ x :: t := by
  rw [List.take_add_one, List.getElem?_eq_getElem hi]
  simp only [Option.toList_some, List.append_assoc]
  rw [List.set_append_right _ _ (by simp; omega)]
  simp [Nat.min_eq_left (Nat.le_of_lt hi)]
theorem set_at {c : List Int} {i : Nat} {t : List Int} {x y : Int} (hi : i ≤ c.length) : (c.take i ++ x :: t).set i y = c.take i ++ y :: t := by
  rw [List.set_append_right _ _ (by simp; omega)]
  simp [Nat.min_eq_left hi]
theorem take_get {c : List Int} {i : Nat} {t : List Int} (hi : i < c.length) : (c.take (i + 1) ++ t).getD i 0 = c.getD i 0 := by
  rw [List.getD_eq_getElem?_getD, List.getElem?_append_left (by simp; omega), List.getElem?_take_of_lt (by omega)]
  simp [List.getD]
theorem here_get {c : List Int} {i : Nat} {t : List Int} {x : Int} (hi : i ≤ c.length) : (c.take i ++ x :: t).getD i 0 = x := by
  rw [List.getD_eq_getElem?_getD, List.getElem?_append_right (by simp; omega)]
  simp [Nat.min_eq_left hi]
theorem plc_take {ss c : List Int} {i : Nat} (h : i < ss.length) (g : i < c.length) : plc (ss.take (i + 1)) (c.take (i + 1)) = plc (ss.take i) (c.take i) + c.getD i 0 * ss.getD i 0 := by
  have h1 := plc_split (ss := ss.take (i + 1)) (cs := c.take (i + 1)) (i := i) (by simp; omega) (by simp; omega)
  have e1 : (ss.take (i + 1)).drop i = [ss.getD i 0] := by
    rw [List.drop_take, drop_next h]; simp
  have e2 : (c.take (i + 1)).drop i = [c.getD i 0] := by
    rw [List.drop_take, drop_next g]; simp
  rw [h1, e1, e2, List.take_take, List.take_take, Nat.min_eq_left (by omega)]
  simp [plc]
theorem plc_here {ss c : List Int} {ds : List Int} {i : Nat} {x : Int} (h : i < ss.length) (g : i ≤ c.length) : plc ss (c.take i ++ x :: zeros ds) = plc (ss.take i) (c.take i) + x * ss.getD i 0 := by
  have h1 := plc_split (ss := ss) (cs := c.take i ++ x :: zeros ds) (i := i) (by omega) (by simp; omega)
  rw [h1, List.take_append_of_le_length (by simp; omega), List.take_take, Nat.min_self, List.drop_append_of_le_length (by simp; omega)]
  have e0 : (c.take i).drop i = [] := List.drop_eq_nil_of_le (by simp; omega)
  rw [e0, drop_next h]
  simp [plc, plc_zeros]

theorem St.set0 {c t : List Int} {i : Nat} {x : Int} (h : St w0 bv B off a1 a2 c1 c2 r J pre (c.take i ++ x :: t) W) (hJ : AbC B J) (hbv : bv ≠ B) (hB : w0.heap.size ≤ B) (hi : i ≤ c.length) (y : Int) :
    St w0 bv B off a1 a2 c1 c2 r J pre (c.take i ++ y :: t) (W.setCell ⟨B, i, none⟩ (.int .i64 y)) := by
  have := h.set hJ hbv hB i y
  rwa [set_at hi] at this

end Go.Proofs.Ytfdafceolkmkoaa
