/- For every input mandrellaw02.NumThere returns true, and the input reads as it did. No condition. -/
import Derived.Test.YtepmacimknblpaaRows
import Derived.Test.YtepmacimknblpaaNumL
import Derived.Test.YtepmacimknblpaaNumV
import Derived.ProofKit
import Derived.OpenShut
namespace Go.Proofs.Ytepmacimknblpaa
namespace numThere
open Go.ChangeShapes Go.WideShapes Go.ChangeAt Go.RowKit Ieee Fl

theorem own : ownKnob Try.prog.godebug = none := by kernel_rfl

theorem i32_of_wf {x : Int} (h : (Lit.int .i32 x).wf = true) : -2147483648 ≤ x ∧ x ≤ 2147483647 := by
  simp [Lit.wf, IntKind.min, IntKind.max, IntKind.signed, IntKind.bits] at h
  omega

theorem canon_range {y : Int} : -9223372036854775808 ≤ canon (floatOfInt .f32 y) ∧ canon (floatOfInt .f32 y) ≤ 9223372036854775807 := by
  have hl : floatOfInt .f32 y < 4294967296 := by rw [foi32]; exact single.write_lt (.number _ _ _)
  unfold canon
  split <;> omega

attribute [local irreducible] chk bin un cst canon floatOfInt

set_option maxHeartbeats 1000000 in
theorem walk (a0 : Int) (w0 : (Lit.int .i32 a0).wf = true) (w : World) :
    Calls Try.prog 10 #[.int .i32 a0] w fun e w' => e = .returned (.bool true) ∧ Grown w w' := by
  obtain ⟨b1, b2⟩ := i32_of_wf w0
  have c1 := cst_67 b1 b2
  have c2 := cst_76 b1 b2
  have hy : (a0.tmod 16777217).natAbs ≤ 16777216 := by
    have : (a0.tmod 16777217).natAbs = a0.natAbs % 16777217 := Int.natAbs_tmod _ _
    omega
  have c3 := cst_61 hy
  have c4 := cst_16 hy
  obtain ⟨z0, z1⟩ := canon_range (y := a0.tmod 16777217)
  have y0 : -16777216 ≤ a0.tmod 16777217 := by omega
  have y1 : a0.tmod 16777217 ≤ 16777216 := by omega
  generalize canon (floatOfInt .f32 (a0.tmod 16777217)) = z at *
  clear hy w0
  go_enter Try.func10, Try.ntmps10
  go_wp2_with fail
  refine (cast_any _ _ _ (by omega) (by omega) _).mono ?_
  rintro e w1 ⟨rfl, g1⟩
  go_wp2_with fail
  refine (cast_any _ _ _ (by omega) (by omega) _).mono ?_
  rintro e w2 ⟨rfl, g2⟩
  go_wp2_with fail
  refine (cast_any _ _ _ (by omega) (by omega) _).mono ?_
  rintro e w3 ⟨rfl, g3⟩
  go_wp2_with fail
  refine (cast_any _ _ _ (by omega) (by omega) _).mono ?_
  rintro e w4 ⟨rfl, g4⟩
  go_wp2_with (go_at_call 18; refine (live_any _).mono ?_; rintro e w5 ⟨rfl, g5⟩)
  go_ret
  exact ⟨rfl, grown_trans g1 (grown_trans g2 (grown_trans g3 (grown_trans g4 g5)))⟩

set_option linter.unusedVariables false

set_option maxRecDepth 100000 in
theorem lifted (os : Os) (started : os.Started) (H : Type) (enc : TypeId × Value → H) :
    ReturnsInHanded {} Try.checked os 10 .any (Rows.numThereSpec.pre6 enc Try.prog Try.f10 Rows.numThereRow.domain false) (Rows.numThereSpec.post enc Try.prog Try.f10 false true false false) := by
  refine returnsInHanded_of_change (C := Try.checked) own started (by kernel_rfl) Try.func10
    (ChangeSpec.witness6 (enc := enc) (C := Try.checked) false ⟨#[], #[.int .i32 0], []⟩ 8 (by kernel_rfl) (by kernel_rfl) (by kernel_rfl) (by kernel_rfl)) ?_
  intro W base args ds gs before hval0 hW hcnd _
  have hval : ∀ (j : Nat) t v, Try.f10.params[j]? = some t → args[j]? = some v → Value.okWide Try.prog W .any base t v := hval0
  have hW' := hW
  obtain ⟨p, q, hA0, hV, rfl, hfz, hnd⟩ := hW
  have hA : DataW.TrodAll enc Try.prog W 0 (fun _ => true) true Try.f10.params.toList args.toList ds p := hA0
  rw [Try.params10] at hA hval
  obtain ⟨v0, vs0, d0, ds0, p0, q0, hargs, rfl, rfl, h0, r0⟩ := trodAll_cons hA
  obtain ⟨rfl, rfl, rfl⟩ := trodAll_nil r0
  obtain rfl : args = #[v0] := by cases args; simp_all
  obtain ⟨rfl, rfl⟩ := trodVars_none hV
  obtain ⟨a0, rfl, rfl, rfl, w0⟩ := open_int Try.underlying21 (hval 0 21 v0 rfl rfl) h0
  clear hA0 hval0
  simp only [List.append_nil] at hW'
  refine (walk a0 w0 W).mono fun e W' ⟨he, hg⟩ => ?_
  subst he
  exact ⟨_, rfl, post_of_same (pa := []) (pv := []) hW' (fun _ _ _ => (trodAll_cons_mk (shut_bool Try.underlying4 _) trodAll_mk0)) (fun sp _ => (trodAll_cons_mk (shut_int Try.underlying21 w0) trodAll_mk0)) (fun _ _ => rfl) rfl
    (hg.frame _) hg.2.1 (ok_one (by kernel_rfl) rfl (okWide_bool_mk Try.underlying4 _))⟩

theorem over : Rows.numThereRow.holds Try.pinned (OpenSpec.ofChange Rows.numThereSpec) :=
  OpenClaim.holds_of_wide 10 Try.f10 rfl rfl rfl rfl rfl rfl rfl ⟨rfl, rfl, rfl, rfl, rfl⟩ rfl rfl rfl rfl rfl (by kernel_rfl) Try.func10 (by kernel_rfl)
    (of_decide_eq_true (by kernel_rfl)) (by unfold Func.isWrapper; first | (rw [if_pos (by decide +kernel)]; kernel_rfl) | (rw [if_neg (by decide +kernel)]; exact ⟨rfl, rfl⟩))
    (fun os started H enc _ => lifted os started H enc)

/-- The statement. -/
theorem proved : Rows.NumThereSaid :=
  over
#print axioms proved

end numThere
end Go.Proofs.Ytepmacimknblpaa
