/- The walk of mandrelref03.Copy. -/
import Derived.Test.YtlbhepfbogcipaaGreatDoorSchCa
set_option linter.unusedVariables false
namespace Go.Proofs.YtlbhepfbogcipaaGreatDoor
open Go.RowKit

/-- mandrelref03.Copy. -/
theorem rcopy_any {w : World} {v : Value} {zs : List Int} (h : IntsIn w v zs) :
    Calls Tryz.prog 36 #[v] w fun e w' => ∃ v', e = .returned v' ∧ w'.ownsRow w.heap.size 3 1 v' zs.length (zs.map (Value.int .i64)) ∧ Below w.heap.size w w' := by
  obtain ⟨i0, hi, hz0, hz1, hz2⟩ := info_parts info_int
  have H := Lib.hid h.news
  obtain ⟨a1, c1, rfl⟩ := h.shape
  clear h
  go_enter Tryz.func36, Tryz.ntmps36
  go_wp2_with (at_builtin; refine wpList_append_copy rfl _ _ 40 rfl Tryz.underlying40 hi hz0 hz1 hz2 rfl (by decide) rfl rfl H.out ?_)
  intro v' w' h1 h2
  have H1 := Lib.hid h1
  have H2 := Lib.hid h2
  clear h1 h2
  go_wp2
  go_ret
  exact ⟨_, rfl, H1.out, H2.out⟩

end Go.Proofs.YtlbhepfbogcipaaGreatDoor
