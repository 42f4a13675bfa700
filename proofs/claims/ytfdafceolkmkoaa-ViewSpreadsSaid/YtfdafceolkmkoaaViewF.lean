/- The walk of view.fine: may a view be. -/
import Derived.Test.YtfdafceolkmkoaaViewC
set_option linter.unusedVariables false
namespace Go.Proofs.Ytfdafceolkmkoaa
open Go.RowKit

theorem IntsIn.form {w : World} {v : Value} {zs : List Int} (h : IntsIn w v zs) : ∃ a cap, v = .slice a zs.length cap := by
  cases h with
  | empty a0 cap => exact ⟨a0, cap, rfl⟩
  | row b off cap _ h0 hc hb hr hlen hw => exact ⟨_, cap, rfl⟩

/-- Is a stride out of its bounds? -/
def farS (d : Int) : Bool := decide (d < 0 ∨ 65536 < d)

/-- May a view be? -/
def mayV (off : Int) (ds ss : List Int) : Bool := decide ((cnt ds).2 = 0) && decide (ss.length = ds.length) && decide (0 ≤ off) && decide (off < 65536) && !ss.any farS

attribute [local irreducible] cnt

set_option maxHeartbeats 1000000 in
theorem fine_any {w : World} {off : Int} {d s : Value} {ds ss : List Int} (hd : IntsIn w d ds) (hs : IntsIn w s ss) :
    Calls Try.prog 33 #[.agg #[.int .i64 off, d, s]] w fun e w' => e = .returned (.bool (mayV off ds ss)) ∧ Below w.heap.size w w' := by
  have hb : Below w.heap.size w (w.alloc (.cells #[.int .i64 off, d, s] 24)) := (Below.refl _ w).alloc (Nat.le_refl _) _
  have HC := Lib.hid (count_any (hd.below hb))
  have HF := Lib.hid (containsLow_any (hs.below hb) (.func (.func 49) #[] #[]) _ (Or.inr ⟨rfl, rfl⟩))
  obtain ⟨a1, c1, rfl⟩ := hd.form
  obtain ⟨a2, c2, rfl⟩ := hs.form
  have hl1 := hd.wf.1
  have hl2 := hs.wf.1
  have HB := Lib.hid hb
  have e : Hid (mayV off ds ss = (decide ((cnt ds).2 = 0) && decide (ss.length = ds.length) && decide (0 ≤ off) && decide (off < 65536) && !ss.any (fun d => decide (d < 0 ∨ 65536 < d)))) := Lib.hid rfl
  generalize cnt ds = cc at *
  generalize ss.any (fun d => decide (d < 0 ∨ 65536 < d)) = fa at *
  clear hd hs hb
  go_enter Try.func33, Try.ntmps33
  go_wp2_with (first | (go_at_call 39; refine HC.out.mono ?_; rintro e w' ⟨rfl, rfl⟩) | (go_at_call 50; refine HF.out.mono ?_; rintro e w' ⟨rfl, rfl⟩))
  all_goals
    go_ret
    go_light
    refine ⟨ret_val (bool_val ?_), HB.out⟩
    rw [e.out]
    grind

end Go.Proofs.Ytfdafceolkmkoaa
