/- For every input mandrellaw02.NumUnary returns true, and the input reads as it did. No condition. -/
import Derived.Test.YtepmacimknblpaaNumRow
import Derived.Test.YtepmacimknblpaaNumV
import Derived.Test.YtepmacimknblpaaRefU
import Derived.ChangeMaps5
set_option linter.unusedVariables false
namespace Go.Proofs.Ytepmacimknblpaa
namespace numUnary
open Go.ChangeMaps Go.ChangeShapes Go.WideShapes Go.ChangeAt Go.RowKit Ieee Fl

set_option maxHeartbeats 1000000 in
theorem walk_any (op : ByteArray) (t x a e : Int) (c : Bool)
    (C0 : Hid (∀ w, Calls Try.prog 14 #[.string op, .int .i64 t, .int .i64 x] w fun res w' => res = .returned (.tuple #[.int .i64 a, .int .i64 e]) ∧ Grown w w'))
    (C1 : Hid (∀ w, Calls Try.prog 15 #[.string op, .int .i64 t, .int .i64 x] w fun res w' => res = .returned (.tuple #[.int .i64 a, .int .i64 e]) ∧ Grown w w'))
    (C2 : Hid (∀ w, Calls Try.prog 16 #[.int .i64 t, .int .i64 x] w fun res w' => res = .returned (.bool c) ∧ w = w'))
    (C3 : Hid (∀ w, Calls Try.prog 17 #[.int .i64 t, .int .i64 x] w fun res w' => res = .returned (.bool c) ∧ w = w'))
    (w : World) : Calls Try.prog 3 #[.string op, .int .i64 t, .int .i64 x] w fun e w' => e = .returned (.bool true) ∧ Grown w w' := by
  go_enter Try.func3, Try.ntmps3
  go_wp2_with fail
  refine (C0.out _).mono ?_
  rintro e w1 ⟨rfl, g1⟩
  go_wp2_with fail
  refine (C1.out _).mono ?_
  rintro e w2 ⟨rfl, g2⟩
  go_wp2_with (first | (go_at_call 16; refine (C2.out _).mono ?_; rintro e w' ⟨rfl, rfl⟩) | (go_at_call 17; refine (C3.out _).mono ?_; rintro e w' ⟨rfl, rfl⟩) | (go_at_call 18; refine (live_any _).mono ?_; rintro e wL ⟨rfl, gL⟩))
  all_goals (go_ret; exact ⟨rfl, grown_trans g1 (grown_trans g2 gL)⟩)

attribute [local irreducible] chk bin un cst

theorem walk (op : ByteArray) (t x : Int) (_ : op.size ≤ maxLen) (w0 : (Lit.int .i64 t).wf = true) (w1 : (Lit.int .i64 x).wf = true) (w : World) :
    Calls Try.prog 3 #[.string op, .int .i64 t, .int .i64 x] w fun e w' => e = .returned (.bool true) ∧ Grown w w' := by
  obtain ⟨x0, x1⟩ := i64_of_wf w1
  exact walk_any op t x _ _ _ (Lib.hid (unary_any op t x x0 x1)) (Lib.hid (runary_any op t x)) (Lib.hid (check_any t x x0 x1)) (Lib.hid (rcheck_any t x)) w

set_option linter.unusedVariables false
set_option maxRecDepth 100000 in
set_option maxHeartbeats 400000 in
theorem lifted (os : Os) (started : os.Started) (H : Type) (enc : TypeId × Value → H) :
    ReturnsInHanded {} Try.checked os 3 .any (Rows.numUnarySpec.pre6 enc Try.prog Try.f3 Rows.numUnaryRow.domain false) (Rows.numUnarySpec.post enc Try.prog Try.f3 false true false false) := by
  refine returnsInHanded_of_change (C := Try.checked) own started (by kernel_rfl) Try.func3
    (ChangeSpec.witness6 (enc := enc) (C := Try.checked) false ⟨#[], #[.string ⟨#[]⟩, .int .i64 0, .int .i64 0], []⟩ 8 (by kernel_rfl) (by kernel_rfl) (by kernel_rfl) (by kernel_rfl)) ?_
  intro W base args ds gs before hval0 hW hcnd _
  have hval : ∀ (j : Nat) t v, Try.f3.params[j]? = some t → args[j]? = some v → Value.okWide Try.prog W .any base t v := hval0
  have hW' := hW
  obtain ⟨p, q, hA0, hV, rfl, hfz, hnd⟩ := hW
  have hA : DataW.TrodAll enc Try.prog W 0 (fun _ => true) true Try.f3.params.toList args.toList ds p := hA0
  rw [Try.params3] at hA hval
  obtain ⟨v0, vs0, d0, ds0, p0, q0, hargs, rfl, rfl, h0, r0⟩ := trodAll_cons hA
  obtain ⟨v1, vs1, d1, ds1, p1, q1, rfl, rfl, rfl, h1, r1⟩ := trodAll_cons r0
  obtain ⟨v2, vs2, d2, ds2, p2, q2, rfl, rfl, rfl, h2, r2⟩ := trodAll_cons r1
  obtain ⟨rfl, rfl, rfl⟩ := trodAll_nil r2
  obtain rfl : args = #[v0, v1, v2] := by cases args; simp_all
  obtain ⟨rfl, rfl⟩ := trodVars_none hV
  obtain ⟨a0, rfl, rfl, rfl, w0⟩ := open_string Try.underlying9 (hval 0 9 v0 rfl rfl) h0
  obtain ⟨a1, rfl, rfl, rfl, w1⟩ := open_int Try.underlying3 (hval 1 3 v1 rfl rfl) h1
  obtain ⟨a2, rfl, rfl, rfl, w2⟩ := open_int Try.underlying2 (hval 2 2 v2 rfl rfl) h2
  clear hA0 hval0
  simp only [List.append_nil] at hW'
  refine (walk a0 a1 a2 w0 w1 w2 W).mono fun e W' ⟨he, hg⟩ => ?_
  subst he
  exact ⟨_, rfl, post_of_same (pa := []) (pv := []) hW' (fun _ _ _ => (trodAll_cons_mk (shut_bool Try.underlying4 _) trodAll_mk0)) (fun sp _ => (trodAll_cons_mk (shut_string Try.underlying9 w0) (trodAll_cons_mk (shut_int Try.underlying3 w1) (trodAll_cons_mk (shut_int Try.underlying2 w2) trodAll_mk0)))) (fun _ _ => rfl) rfl
    (hg.frame _) hg.2.1 (ok_one (by kernel_rfl) rfl (okWide_bool_mk Try.underlying4 _))⟩

theorem over : Rows.numUnaryRow.holds Try.pinned (OpenSpec.ofChange Rows.numUnarySpec) :=
  OpenClaim.holds_of_wide 3 Try.f3 rfl rfl rfl rfl rfl rfl rfl ⟨rfl, rfl, rfl, rfl, rfl⟩ rfl rfl rfl rfl rfl (by kernel_rfl) Try.func3 (by kernel_rfl)
    (of_decide_eq_true (by kernel_rfl)) (by unfold Func.isWrapper; first | (rw [if_pos (by decide +kernel)]; kernel_rfl) | (rw [if_neg (by decide +kernel)]; exact ⟨rfl, rfl⟩))
    (fun os started H enc _ => lifted os started H enc)

/-- The statement. -/
theorem proved : Rows.NumUnarySaid :=
  over
#print axioms proved

end numUnary
end Go.Proofs.Ytepmacimknblpaa
