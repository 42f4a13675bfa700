/- The law ViewCuts. -/
import Derived.Test.YtfdafceolkmkoaaViewCw
import Derived.Test.YtfdafceolkmkoaaViewRc
import Derived.Carry
namespace Go.Proofs.Ytfdafceolkmkoaa
namespace viewCuts
open Go.ChangeShapes Go.WideShapes Go.ChangeAt Go.RowKit

set_option linter.unusedVariables false
set_option maxRecDepth 100000 in
set_option maxHeartbeats 400000 in
theorem lifted (os : Os) (started : os.Started) (H : Type) (enc : TypeId × Value → H) :
    ReturnsInHanded {} Try.checked os 10 .any (Rows.viewCutsSpec.pre6 enc Try.prog Try.f10 Rows.viewCutsRow.domain false) (Rows.viewCutsSpec.post enc Try.prog Try.f10 false true false false) := by
  refine returnsInHanded_of_change_sized (C := Try.checked) own started (by kernel_rfl) Try.func10
    (ChangeSpec.witness6 (enc := enc) (C := Try.checked) false ⟨#[], #[.agg #[.int .i64 0, .slice none 0 0, .slice none 0 0], .agg #[.int .i64 0, .int .i64 0, .int .i64 0], .slice none 0 0], []⟩ 8 (by kernel_rfl) (by kernel_rfl) (by kernel_rfl) (by kernel_rfl)) ?_
  intro W base args ds gs before hval0 hW _ hsz0 _
  have hsz : (DataW.weightsEach Try.prog (Try.f10.params.toList ++ Rows.viewCutsSpec.plain.varTypes Try.prog) (ds ++ gs)).all (· ≤ reachBytes) = true := hsz0
  have hval : ∀ (j : Nat) t v, Try.f10.params[j]? = some t → args[j]? = some v → Value.okWide Try.prog W .any base t v := hval0
  have hW' := hW
  obtain ⟨p, q, hA0, hV, rfl, hfz, hnd⟩ := hW
  have hA : DataW.TrodAll enc Try.prog W 0 (fun _ => true) true Try.f10.params.toList args.toList ds p := hA0
  rw [Try.params10] at hA hval hsz
  obtain ⟨v0, vs0, d0, ds0, p0, q0, hargs, rfl, rfl, h0, r0⟩ := trodAll_cons hA
  obtain ⟨v1, vs1, d1, ds1, p1, q1, rfl, rfl, rfl, h1, r1⟩ := trodAll_cons r0
  obtain ⟨v2, vs2, d2, ds2, p2, q2, rfl, rfl, rfl, h2, r2⟩ := trodAll_cons r1
  obtain ⟨rfl, rfl, rfl⟩ := trodAll_nil r2
  obtain rfl : args = #[v0, v1, v2] := by cases args; simp_all
  obtain ⟨rfl, rfl⟩ := trodVars_none hV
  have hw : ∀ (j : Nat) t d, [24, 51, 22][j]? = some t → [d0, d1, d2][j]? = some d → ∀ n ∈ d.weights Try.prog t, n ≤ reachBytes := by
    intro j t d ht hd n hn
    have := List.all_eq_true.1 hsz n (DataW.weights_mem_each (j := j) (t := t) (d := d) (by
      match j, ht with
      | 0, h => simpa using h
      | 1, h => simpa using h
      | 2, h => simpa using h) (by
      match j, hd with
      | 0, h => simpa using h
      | 1, h => simpa using h
      | 2, h => simpa using h) n hn)
    simpa using this
  simp only [List.append_nil] at hW'
  have hlt : ∀ x ∈ p0 ++ (p1 ++ p2), x.block < W.heap.size := fun x hx => by simpa using hW'.lt x (by simpa using hx)
  obtain ⟨off0, dv0, sv0, dz0, sz0, rfl, i0, g0⟩ := open_view (hval 0 24 v0 rfl rfl) h0 (fun y hy => hlt y (by simp [hy])) (hw 0 _ _ rfl rfl)
  obtain ⟨cx1, cy1, cz1, rfl, k1, l1, m1⟩ := open_cut (hval 1 51 v1 rfl rfl) h1
  obtain ⟨zs2, i2⟩ := open_data Try.underlying22 Try.underlying3 cellsInt bytesInt (hval 2 22 v2 rfl rfl) h2 (fun y hy => hlt y (by simp [hy])) (hw 2 _ _ rfl rfl)
  clear hA0 hval0
  refine (cuts_walk off0 dv0 sv0 dz0 sz0 cx1 cy1 cz1 v2 zs2 (Lib.hid (i0)) (Lib.hid (g0)) (Lib.hid (k1)) (Lib.hid (l1)) (Lib.hid (m1)) (Lib.hid (i2))).mono fun e W' ⟨he, hnx⟩ => ?_
  subst he
  refine ⟨_, rfl, _, _, _, [], _, [], hW', (trodAll_cons_mk (shut_bool Try.underlying4 _) trodAll_mk0), (trodAll_cons_mk (Below.trod laidOut (by kernel_rfl) (of_decide_eq_true (by kernel_rfl)) h0 hnx (fun x hx => hlt x (by simp [hx]))) (trodAll_cons_mk (Below.trod laidOut (by kernel_rfl) (of_decide_eq_true (by kernel_rfl)) h1 hnx (fun x hx => hlt x (by simp [hx]))) (trodAll_cons_mk (Below.trod laidOut (by kernel_rfl) (of_decide_eq_true (by kernel_rfl)) h2 hnx (fun x hx => hlt x (by simp [hx]))) trodAll_mk0))), rfl, hnx.frame _, fun h => by cases h⟩

theorem over : Rows.viewCutsRow.holds Try.pinned (OpenSpec.ofChange Rows.viewCutsSpec) :=
  OpenClaim.holds_of_wide 10 Try.f10 rfl rfl rfl rfl rfl rfl rfl ⟨rfl, rfl, rfl, rfl, rfl⟩ rfl rfl rfl rfl rfl (by kernel_rfl) Try.func10 (by kernel_rfl)
    (of_decide_eq_true (by kernel_rfl)) (by unfold Func.isWrapper; first | (rw [if_pos (by decide +kernel)]; kernel_rfl) | (rw [if_neg (by decide +kernel)]; exact ⟨rfl, rfl⟩))
    (fun os started H enc _ => lifted os started H enc)

/-- The statement. -/
theorem proved : Rows.ViewCutsSaid :=
  over
#print axioms proved

end viewCuts
end Go.Proofs.Ytfdafceolkmkoaa
