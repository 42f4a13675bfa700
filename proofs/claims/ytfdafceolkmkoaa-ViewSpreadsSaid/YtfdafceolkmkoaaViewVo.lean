/- What comes out as a view and an error, in one form for both ways. -/
import Derived.Test.YtfdafceolkmkoaaViewTt
import Derived.Test.YtfdafceolkmkoaaViewRq
import Derived.Test.YtfdafceolkmkoaaViewCv
import Derived.Test.YtfdafceolkmkoaaViewBw
set_option linter.unusedVariables false
namespace Go.Proofs.Ytfdafceolkmkoaa
open Go.RowKit Vw

/-- Lists that fit. -/
def Fits (zs : List Int) : Prop := zs.length ≤ 6 ∧ ∀ z ∈ zs, InI z

theorem Fits.nil : Fits [] := ⟨by simp, fun z h => by cases h⟩
theorem Fits.map {ds ps : List Int} (hl : ps.length ≤ 6) (h : ∀ z ∈ ds, InI z) : Fits (ps.map fun p => ds.getD p.toNat 0) := ⟨by simpa using hl, fun z hz => by
  obtain ⟨p, _, rfl⟩ := List.mem_map.1 hz
  exact getD_inI h _⟩
theorem Fits.strd {ds : List Int} (h : (cnt ds).2 = 0) : Fits (strd ds) := ⟨by rw [strd_length]; exact (cnt_good h).2.1, fun z hz => by
  have := strd_mem (cnt_pos h) hz
  have := (cnt_good h).2.2.2
  constructor <;> omega⟩

/-- An outcome of which both lists fit, and that is empty where it is an error. -/
structure Outc (O : Int × Int × List Int × List Int) : Prop where
  bad : O.1 ≠ 0 → O = (O.1, 0, [], [])
  d : Fits O.2.2.1
  s : Fits O.2.2.2

theorem Outc.err (c : Int) : Outc (c, 0, [], []) := ⟨fun _ => rfl, Fits.nil, Fits.nil⟩
theorem Outc.ok {o : Int} {D S : List Int} (h1 : Fits D) (h2 : Fits S) : Outc (0, o, D, S) := ⟨fun h => absurd rfl h, h1, h2⟩

theorem trO_outc {off : Int} {ds ss ps : List Int} (hd : ∀ z ∈ ds, InI z) (hs : ∀ z ∈ ss, InI z) : Outc (trO off ds ss ps) := by
  unfold trO
  by_cases h1 : mayV off ds ss = false
  · rw [if_pos h1]; exact .err 1
  · rw [if_neg h1]
    by_cases h2 : sortI ps = rng ps.length ∧ ps.length = ds.length
    · rw [if_pos h2]
      have hm : mayV off ds ss = true := by simpa using h1
      have := (may_good hm).2.1
      exact .ok (.map (by omega) hd) (.map (by omega) hs)
    · rw [if_neg h2]; exact .err 4

theorem reshO_outc {off : Int} {ds ss ps : List Int} (hp : ∀ z ∈ ps, InI z) : Outc (reshO off ds ss ps) := by
  unfold reshO
  by_cases h1 : mayV off ds ss = false
  · rw [if_pos h1]; exact .err 1
  · rw [if_neg h1]
    by_cases h2 : (cnt ps).2 ≠ 0
    · rw [if_pos h2]; exact .err _
    · rw [if_neg h2]
      have hc : (cnt ps).2 = 0 := by simpa using h2
      by_cases h3 : (cnt ds).1 ≠ (cnt ps).1
      · rw [if_pos h3]; exact .err 4
      · rw [if_neg h3]
        by_cases h4 : PlTo ds ss ds.length
        · rw [if_pos h4]; exact .ok ⟨(cnt_good hc).2.1, hp⟩ (.strd hc)
        · rw [if_neg h4]; exact .err 1

theorem wholeO_outc {zs : List Int} (hp : ∀ z ∈ zs, InI z) : Outc (wholeO zs) := by
  unfold wholeO
  by_cases h : (cnt zs).2 = 0
  · rw [if_pos h]; exact .ok ⟨(cnt_good h).2.1, hp⟩ (.strd h)
  · rw [if_neg h]; exact .err _

/-- In one form. -/
def VOut (w : World) (c o : Int) (D S : List Int) (e : Ending) (w' : World) : Prop :=
  Below w.heap.size w w' ∧ ∃ a1 c1 a2 c2, e = .returned (.tuple #[.agg #[.int .i64 o, .slice a1 D.length c1, .slice a2 S.length c2], .int .i64 c]) ∧ Fresh w.heap.size w' (.slice a1 D.length c1) D ∧ Fresh w.heap.size w' (.slice a2 S.length c2) S

theorem ViewOut.uni {w w' : World} {O : Int × Int × List Int × List Int} {e : Ending} (h : ViewOut w O e w') (hO : Outc O) : VOut w O.1 O.2.1 O.2.2.1 O.2.2.2 e w' := by
  obtain ⟨hb, ⟨hne, rfl⟩ | ⟨h0, d, s, rfl, f1, f2⟩⟩ := h
  · obtain ⟨c, o, D, S⟩ := O
    have := hO.bad hne
    simp only [Prod.mk.injEq, true_and] at this
    obtain ⟨rfl, rfl, rfl⟩ := this
    exact ⟨hb, none, 0, none, 0, rfl, Fresh.nil _ _ _ _, Fresh.nil _ _ _ _⟩
  · obtain ⟨c, o, D, S⟩ := O
    obtain rfl : c = 0 := h0
    obtain ⟨a1, c1, rfl⟩ := f1.form
    obtain ⟨a2, c2, rfl⟩ := f2.form
    exact ⟨hb, a1, c1, a2, c2, rfl, f1, f2⟩

theorem Own.mono {B B' : Nat} {w : World} {a : Option Addr} {n : Nat} (h : Own B w a n) (hB : B' ≤ B) : Own B' w a n := fun h0 => by
  obtain ⟨g, e, hg, hr⟩ := h h0
  exact ⟨g, e, by omega, hr⟩

theorem Fits.ints {B : Nat} {w : World} {v : Value} {zs : List Int} (h : Fits zs) (f : Fresh B w v zs) : IntsIn w v zs := f.ints (by have := h.1; omega) h.2

end Go.Proofs.Ytfdafceolkmkoaa
