/- The walks of view.own, view.Whole. -/
import Derived.Test.YtfdafceolkmkoaaViewT
import Derived.Test.YtfdafceolkmkoaaShelf
set_option linter.unusedVariables false
namespace Go.Proofs.Ytfdafceolkmkoaa
open Go.RowKit Vw

theorem Fresh.of_owns {B : Nat} {w : World} {v : Value} {zs : List Int} (h : w.ownsRow B 3 1 v zs.length (zs.map (Value.int .i64))) : Fresh B w v zs := by
  obtain ⟨h1, h2⟩ := h
  rcases h2 with ⟨rfl, h0⟩ | ⟨g, cap, cur, rfl, hb, hg, hn, hc, hs, ht⟩
  · exact Or.inl ⟨List.length_eq_zero_iff.1 h0, none, 0, rfl⟩
  · exact Or.inr ⟨g, cap, cur, rfl, hb, hg, hn, by simpa using ht⟩

theorem clone_any {w : World} {v : Value} {zs : List Int} (h : IntsIn w v zs) :
    Calls Try.prog 43 #[v] w fun e w' => ∃ v', e = .returned v' ∧ Fresh w.heap.size w' v' zs ∧ Below w.heap.size w w' := by
  cases h with
  | empty a0 cap =>
    cases a0 with
    | none =>
      refine (Try.slices_Clone_int_nil 0 cap w).mono ?_
      rintro e w' ⟨rfl, rfl⟩
      exact ⟨_, rfl, Or.inl ⟨rfl, none, 0, rfl⟩, Below.refl _ _⟩
    | some a =>
      refine (Try.slices_Clone_int_zero a cap w).mono ?_
      rintro e w' ⟨v', rfl, h1, _, h2⟩
      exact ⟨v', rfl, Fresh.of_owns (zs := []) h1, h2⟩
  | row b off cap _ h0 hc hb hr hlen hw =>
    refine (Try.slices_Clone_int b off zs.length cap zs w (Nat.le_refl _) (by omega) hr).mono ?_
    rintro e w' ⟨v', rfl, h1, _, h2⟩
    rw [List.take_length] at h1
    exact ⟨v', rfl, Fresh.of_owns h1, h2⟩

theorem Fresh.form {B : Nat} {w : World} {v : Value} {zs : List Int} (h : Fresh B w v zs) : ∃ a cap, v = .slice a zs.length cap := by
  rcases h with ⟨rfl, a0, cap, rfl⟩ | ⟨g, cap, cur, rfl, _⟩
  · exact ⟨a0, cap, rfl⟩
  · exact ⟨_, cap, rfl⟩

/-- A box of three cells. -/
def Box3 (W : World) (b : Nat) (x y z : Value) : Prop := W.heap[b]? = some (.cells #[x, y, z] 24 (0, 0))

theorem Box3.frozen {W : World} {b : Nat} {x y z : Value} (h : Box3 W b x y z) (j : Nat) : W.frozen? ⟨b, j, none⟩ = false := by simp [World.frozen?, show W.heap[b]? = _ from h]
theorem Box3.c0 {W : World} {b : Nat} {x y z : Value} (h : Box3 W b x y z) : W.cell? ⟨b, 0, none⟩ = some x := by simp [World.cell?, show W.heap[b]? = _ from h]
theorem Box3.c1 {W : World} {b : Nat} {x y z : Value} (h : Box3 W b x y z) : W.cell? ⟨b, 1, none⟩ = some y := by simp [World.cell?, show W.heap[b]? = _ from h]
theorem Box3.c2 {W : World} {b : Nat} {x y z : Value} (h : Box3 W b x y z) : W.cell? ⟨b, 2, none⟩ = some z := by simp [World.cell?, show W.heap[b]? = _ from h]
theorem Box3.modify {W : World} {b : Nat} {x y z : Value} (h : Box3 W b x y z) (j : Nat) (v : Value) : (W.setCell ⟨b, j, none⟩ v).heap[b]? = some (.cells (#[x, y, z].setIfInBounds j v) 24 (0, 0)) := by
  obtain ⟨hlt, hk⟩ := Array.getElem?_eq_some_iff.1 h
  show (W.heap.modify b _)[b]? = _
  rw [Array.getElem?_eq_getElem (by rw [Array.size_modify]; exact hlt), Array.getElem_modify_self, hk]
  rfl
theorem Box3.set0 {W : World} {b : Nat} {x y z : Value} (h : Box3 W b x y z) (v : Value) : Box3 (W.setCell ⟨b, 0, none⟩ v) b v y z := h.modify 0 v
theorem Box3.set1 {W : World} {b : Nat} {x y z : Value} (h : Box3 W b x y z) (v : Value) : Box3 (W.setCell ⟨b, 1, none⟩ v) b x v z := h.modify 1 v
theorem Box3.set2 {W : World} {b : Nat} {x y z : Value} (h : Box3 W b x y z) (v : Value) : Box3 (W.setCell ⟨b, 2, none⟩ v) b x y v := h.modify 2 v
theorem Box3.new (W : World) (x y z : Value) : Box3 (W.alloc (.cells #[x, y, z] 24)) W.heap.size x y z := World.alloc_heap_new W _
theorem Box3.lt {W : World} {b : Nat} {x y z : Value} (h : Box3 W b x y z) : b < W.heap.size := (Array.getElem?_eq_some_iff.1 h).1
theorem Box3.below {W W' : World} {b : Nat} {x y z : Value} (h : Box3 W b x y z) (hb : Below W.heap.size W W') : Box3 W' b x y z := (hb.block b h.lt).trans h

/-- A view stored into a box. -/
def put3 (W : World) (b : Nat) (x y z : Value) : World := ((W.setCell ⟨b, 0, none⟩ x).setCell ⟨b, 1, none⟩ y).setCell ⟨b, 2, none⟩ z
theorem Box3.put {W : World} {b : Nat} {x y z : Value} (h : Box3 W b x y z) (x' y' z' : Value) : Box3 (put3 W b x' y' z') b x' y' z' := ((h.set0 x').set1 y').set2 z'
theorem below_put {n : Nat} {A W : World} {b : Nat} {x y z : Value} (h : Below n A W) (hb : n ≤ b) : Below n A (put3 W b x y z) :=
  ((h.setCell (p := ⟨b, 0, none⟩) hb _).setCell (p := ⟨b, 1, none⟩) hb _).setCell (p := ⟨b, 2, none⟩) hb _
theorem put_other {W : World} {b k : Nat} {x y z : Value} (h : k ≠ b) : (put3 W b x y z).heap[k]? = W.heap[k]? :=
  (Below.heap_setCell _ _ _ k h).trans ((Below.heap_setCell _ _ _ k h).trans (Below.heap_setCell _ _ _ k h))

/-- What is the call's own stays so while a box below it is written. -/
theorem Fresh.put {B B' : Nat} {w : World} {v : Value} {zs : List Int} {b : Nat} {x y z : Value} (h : Fresh B w v zs) (hb : b < B) (hB : B' ≤ B) : Fresh B' (put3 w b x y z) v zs := by
  rcases h with h | ⟨g, cap, cur, e, hg, hh, r⟩
  · exact Or.inl h
  · exact Or.inr ⟨g, cap, cur, e, by omega, (put_other (by omega)).trans hh, r⟩

/-- What comes out as a view and an error. -/
def ViewOut (w : World) (o : Int × Int × List Int × List Int) (e : Ending) (w' : World) : Prop :=
  Below w.heap.size w w' ∧ ((o.1 ≠ 0 ∧ e = .returned (.tuple #[.agg #[.int .i64 0, .slice none 0 0, .slice none 0 0], .int .i64 o.1])) ∨
    (o.1 = 0 ∧ ∃ d s, e = .returned (.tuple #[.agg #[.int .i64 o.2.1, d, s], .int .i64 0]) ∧ Fresh w.heap.size w' d o.2.2.1 ∧ Fresh w.heap.size w' s o.2.2.2))

def wholeO (zs : List Int) : Int × Int × List Int × List Int := if (cnt zs).2 = 0 then (0, 0, zs, strd zs) else ((cnt zs).2, 0, [], [])

attribute [local irreducible] cnt strd

set_option maxHeartbeats 1000000 in
theorem whole_any {w : World} {v : Value} {zs : List Int} (h : IntsIn w v zs) : Calls Try.prog 16 #[v] w (ViewOut w (wholeO zs)) := by
  obtain ⟨a1, c1, rfl⟩ := h.form
  have hA : Below w.heap.size w (w.alloc (.cells #[.int .i64 0, .slice none 0 0, .slice none 0 0] 24)) := (Below.refl _ w).alloc (Nat.le_refl _) _
  have HS := Lib.hid (strides_any (h.below hA))
  have hbox : Hid ((w.alloc (.cells #[.int .i64 0, .slice none 0 0, .slice none 0 0] 24)).heap[w.heap.size]? = some (.cells #[.int .i64 0, .slice none 0 0, .slice none 0 0] 24 (0, 0))) := Lib.hid (World.alloc_heap_new w _)
  have HA := Lib.hid hA
  have HI := Lib.hid (h.below hA)
  clear hA
  go_enter Try.func16, Try.ntmps16
  go_wp2_with fail
  refine HS.out.mono ?_
  rintro e w1 ⟨hB1, (⟨hne, rfl⟩ | ⟨he, s, rfl, hf⟩)⟩
  · have hb1 : Box3 w1 w.heap.size (.int .i64 0) (.slice none 0 0) (.slice none 0 0) := (Box3.new w _ _ _).below hB1
    have k0 := hb1.c0
    have k1 := hb1.c1
    have k2 := hb1.c2
    have f0 := hb1.frozen 0
    have f1 := hb1.frozen 1
    have f2 := hb1.frozen 2
    generalize hcc : (cnt zs).2 = cc at *
    have hO : Hid (wholeO zs = (cc, 0, [], [])) := Lib.hid (by unfold wholeO; rw [hcc, if_neg hne])
    have hp : Hid (Box3 (put3 w1 w.heap.size (.int .i64 0) (.slice none 0 0) (.slice none 0 0)) w.heap.size (.int .i64 0) (.slice none 0 0) (.slice none 0 0)) := Lib.hid (hb1.put _ _ _)
    have hbl : Hid (Below w.heap.size w (put3 w1 w.heap.size (.int .i64 0) (.slice none 0 0) (.slice none 0 0))) := Lib.hid (below_put (HA.out.trans (hB1.mono (by simp))) (Nat.le_refl _))
    have hNE := Lib.hid hne
    clear hb1 hcc
    have hcb : (cc != 0) = true := by simpa using hne
    go_wp2
    have c0 := hp.out.c0
    have c1' := hp.out.c1
    have c2 := hp.out.c2
    unfold put3 at c0 c1' c2
    exact bodyPost_ret (v := .tuple #[.agg #[.int .i64 0, .slice none 0 0, .slice none 0 0], .int .i64 cc]) (by simp [results, Try.f16, go_sem, c0, c1', c2]) rfl ⟨hbl.out, by rw [hO.out]; exact Or.inl ⟨hNE.out, rfl⟩⟩
  · have hO : Hid (wholeO zs = (0, 0, zs, strd zs)) := Lib.hid (by unfold wholeO; rw [if_pos he])
    have HC := Lib.hid (clone_any (HI.out.below hB1))
    have hb1 := Lib.hid ((Box3.new w (.int .i64 0) (.slice none 0 0) (.slice none 0 0)).below hB1)
    have hF := Lib.hid hf
    obtain ⟨av, cs, rfl⟩ := hf.form
    have HB1 := Lib.hid hB1
    clear hf hB1 he
    go_wp2_with fail
    refine HC.out.mono ?_
    rintro e w2 ⟨d, rfl, hfd, hB2⟩
    obtain ⟨ad, cd, rfl⟩ := hfd.form
    have hb2 := hb1.out.below hB2
    have k0 := hb2.c0
    have k1 := hb2.c1
    have k2 := hb2.c2
    have f0 := hb2.frozen 0
    have f1 := hb2.frozen 1
    have f2 := hb2.frozen 2
    have hp : Hid (Box3 (put3 w2 w.heap.size (.int .i64 0) (.slice ad zs.length cd) (.slice av (strd zs).length cs)) w.heap.size (.int .i64 0) (.slice ad zs.length cd) (.slice av (strd zs).length cs)) := Lib.hid (hb2.put _ _ _)
    have hz1 : w.heap.size < w1.heap.size := by have := HB1.out.size; simp at this; omega
    have hz2 : w1.heap.size ≤ w2.heap.size := hB2.size
    have hbl : Hid (Below w.heap.size w (put3 w2 w.heap.size (.int .i64 0) (.slice ad zs.length cd) (.slice av (strd zs).length cs))) := Lib.hid (below_put ((HA.out.trans (HB1.out.mono (by simp))).trans (hB2.mono (by omega))) (Nat.le_refl _))
    have hd2 : Hid (Fresh w.heap.size (put3 w2 w.heap.size (.int .i64 0) (.slice ad zs.length cd) (.slice av (strd zs).length cs)) (.slice ad zs.length cd) zs) := Lib.hid (hfd.put (by omega) (by omega))
    have hs2 : Hid (Fresh w.heap.size (put3 w2 w.heap.size (.int .i64 0) (.slice ad zs.length cd) (.slice av (strd zs).length cs)) (.slice av (strd zs).length cs) (strd zs)) := Lib.hid ((hF.out.below hB2).put (B' := w.heap.size) (by simp) (by simp))
    clear hb2 hfd hB2
    go_wp2
    have c0 := hp.out.c0
    have c1' := hp.out.c1
    have c2 := hp.out.c2
    have hbl2 := hbl.out
    have hd3 := hd2.out
    have hs3 := hs2.out
    unfold put3 at c0 c1' c2 hbl2 hd3 hs3
    exact bodyPost_ret (v := .tuple #[.agg #[.int .i64 0, .slice ad zs.length cd, .slice av (strd zs).length cs], .int .i64 0]) (by simp [results, Try.f16, go_sem, c0, c1', c2]) rfl ⟨hbl2, by rw [hO.out]; exact Or.inr ⟨rfl, _, _, rfl, hd3, hs3⟩⟩

end Go.Proofs.Ytfdafceolkmkoaa
