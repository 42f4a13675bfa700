/- Reducing over one axis and then another, plain. -/
import Derived.Test.YtagiipecfdmceaaGreatDoorRdM3s
set_option linter.unusedVariables false
set_option linter.unusedSimpArgs false
namespace Go.Proofs.YtagiipecfdmceaaGreatDoor
open Go.RowKit

set_option maxRecDepth 100000

/-! ### folds -/

/-! ### rows of rows -/

/-! ### groups of groups -/

namespace Vx
open Vw
end Vx

end Go.Proofs.YtagiipecfdmceaaGreatDoor

set_option linter.unusedVariables false
set_option linter.unusedSimpArgs false
namespace Go.Proofs.YtagiipecfdmceaaGreatDoor
open Go.RowKit

set_option maxRecDepth 100000

def VT (t z : Int) : Prop := Fl.chk t z = true ∧ InI z

theorem two_whole {op : List UInt8} {t x y : Int} (ht : t = 6 ∨ t = 7) (hx : Fl.chk t x = true) (hy : Fl.chk t y = true) : twoP op t x y = (Fl.binI op t x y).1 := by
  have hw : Fl.wholeT t = true := decide_eq_true ht
  unfold twoP Fl.bin Fl.binR
  rw [hx, hy, if_neg (by simp), if_pos hw]
theorem max_whole {t x y : Int} (ht : t = 6 ∨ t = 7) (hx : Fl.chk t x = true) (hy : Fl.chk t y = true) : twoP lMax t x y = max x y := by
  rw [two_whole ht hx hy]
  unfold Fl.binI
  rw [if_neg (by decide), if_neg (by decide), if_neg (by decide), if_neg (by decide), if_pos (show lMax = [77, 97, 120] from rfl)]
theorem add_whole {t x y : Int} (ht : t = 6 ∨ t = 7) (hx : Fl.chk t x = true) (hy : Fl.chk t y = true) : twoP lAdd t x y = Fl.cutT t (wrap64 (x + y)) := by
  rw [two_whole ht hx hy]
  unfold Fl.binI
  rw [if_pos (show lAdd = [65, 100, 100] from rfl)]
theorem chk6 {x : Int} : Fl.chk 6 x = true ↔ (-2147483648 ≤ x ∧ x ≤ 2147483647) := by
  unfold Fl.chk
  rw [if_neg (by decide), if_pos rfl, decide_eq_true_eq]
theorem add_zero {t x : Int} (ht : t = 6 ∨ t = 7) (hx : VT t x) : twoP lAdd t 0 x = x := by
  have h1 := hx.1
  have h2 := hx.2
  unfold InI at h2
  rw [add_whole ht (by rcases ht with rfl | rfl <;> rfl) hx.1]
  rcases ht with rfl | rfl
  · rw [chk6] at h1
    unfold Fl.cutT wrap32 wrap64
    rw [if_pos rfl]
    omega
  · unfold Fl.cutT wrap64
    rw [if_neg (by decide)]
    omega

/-- The greatest of two Floats by what they are worth. -/
def mxF (N : Int → Bool) (s : Int → Int) (x y : Int) : Int := if N x || N y then 2143289344 else if s x = s y then min x y else if s y < s x then x else y
def mxL (s : Int → Int) (x y : Int) : Int := if s x < s y ∨ (s x = s y ∧ y ≤ x) then y else x
theorem mxF_eq {N : Int → Bool} {s : Int → Int} {x y : Int} (hx : N x = false) (hy : N y = false) : mxF N s x y = mxL s x y := by
  unfold mxF mxL
  rw [hx, hy, if_neg (by decide)]
  by_cases h : s x = s y
  · rw [if_pos h]
    by_cases g : y ≤ x
    · rw [if_pos (Or.inr ⟨h, g⟩), Int.min_def]; split <;> omega
    · rw [if_neg (by rintro (c | c) <;> omega), Int.min_def]; split <;> omega
  · rw [if_neg h]
    by_cases g : s y < s x
    · rw [if_pos g, if_neg (by rintro (c | c) <;> omega)]
    · rw [if_neg g, if_pos (by left; omega)]
theorem mxL_or (s : Int → Int) (x y : Int) : mxL s x y = x ∨ mxL s x y = y := by unfold mxL; split; exact Or.inr rfl; exact Or.inl rfl
theorem max_float {x y : Int} (hx : Fl.chk 1 x = true) (hy : Fl.chk 1 y = true) : twoP lMax 1 x y = mxF Fl.isN (fun z => Fl.sv Ieee.single z.toNat) x y := by
  unfold twoP Fl.bin Fl.binR
  rw [hx, hy, if_neg (by simp), if_neg (by decide), if_pos rfl]
  unfold Fl.binF
  rw [if_neg (by decide), if_neg (by decide), if_neg (by decide), if_neg (by decide), if_neg (by decide), if_neg (by decide), if_neg (by decide), if_pos (show lMax = [77, 97, 120] from rfl)]
  rfl
end Go.Proofs.YtagiipecfdmceaaGreatDoor

set_option linter.unusedVariables false
set_option linter.unusedSimpArgs false
namespace Go.Proofs.YtagiipecfdmceaaGreatDoor
open Go.RowKit

set_option maxRecDepth 100000

theorem redD_zeroI {n : Nd} {x : Tn} {r : Int × List Int × List Int} (h : redD n x = (0, r)) : (rB n x).1 = 0 := by
  by_cases c : (rB n x).1 = 0
  · exact c
  · rw [redD_no c] at h; exact absurd (congrArg Prod.fst h) c

end Go.Proofs.YtagiipecfdmceaaGreatDoor

set_option linter.unusedVariables false
set_option linter.unusedSimpArgs false
namespace Go.Proofs.YtagiipecfdmceaaGreatDoor
open Go.RowKit

set_option maxRecDepth 100000

theorem max_list : oRMax.toList = lRMax := by unfold oRMax; rw [ByteArray.toList_eq]; rfl
end Go.Proofs.YtagiipecfdmceaaGreatDoor
