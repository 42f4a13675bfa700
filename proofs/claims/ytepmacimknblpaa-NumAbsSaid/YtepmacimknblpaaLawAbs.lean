/- For every input mandrellaw02.NumAbs returns true, and the input reads as it did. No condition. -/
import Derived.Test.YtepmacimknblpaaNumRow
import Derived.Test.YtepmacimknblpaaNumV
set_option linter.unusedVariables false
namespace Go.Proofs.Ytepmacimknblpaa
namespace numAbs
open Go.ChangeShapes Go.WideShapes Go.ChangeAt Go.RowKit Ieee Fl

set_option maxHeartbeats 1000000 in
theorem walk_err1 (t : Int) (x : Int) (a : Int) (e : Int) (b : Int) (f : Int) (h0 : (e != 0) = true)
    (C0 : Hid (∀ w, Calls Try.prog 14 #[.string ⟨#[65, 98, 115]⟩, .int .i64 t, .int .i64 x] w fun res w' => res = .returned (.tuple #[.int .i64 a, .int .i64 e]) ∧ Grown w w'))
    (C1 : Hid (∀ w, Calls Try.prog 14 #[.string ⟨#[78, 101, 103]⟩, .int .i64 t, .int .i64 x] w fun res w' => res = .returned (.tuple #[.int .i64 b, .int .i64 f]) ∧ Grown w w'))
    (w : World) : Calls Try.prog 12 #[.int .i64 t, .int .i64 x] w fun e w' => e = .returned (.bool true) ∧ Grown w w' := by
  go_enter Try.func12, Try.ntmps12
  go_wp2_with fail
  refine (C0.out _).mono ?_
  rintro e w1 ⟨rfl, g1⟩
  go_wp2_with fail
  refine (C1.out _).mono ?_
  rintro e w2 ⟨rfl, g2⟩
  go_wp2_with (go_at_call 18; refine (live_any _).mono ?_; rintro e wL ⟨rfl, gL⟩)
  all_goals (go_ret; exact ⟨rfl, grown_trans g1 (grown_trans g2 (gL))⟩)

set_option maxHeartbeats 1000000 in
theorem walk_err2 (t : Int) (x : Int) (a : Int) (b : Int) (f : Int) (h0 : (f != 0) = true)
    (C0 : Hid (∀ w, Calls Try.prog 14 #[.string ⟨#[65, 98, 115]⟩, .int .i64 t, .int .i64 x] w fun res w' => res = .returned (.tuple #[.int .i64 a, .int .i64 (0)]) ∧ Grown w w'))
    (C1 : Hid (∀ w, Calls Try.prog 14 #[.string ⟨#[78, 101, 103]⟩, .int .i64 t, .int .i64 x] w fun res w' => res = .returned (.tuple #[.int .i64 b, .int .i64 f]) ∧ Grown w w'))
    (w : World) : Calls Try.prog 12 #[.int .i64 t, .int .i64 x] w fun e w' => e = .returned (.bool true) ∧ Grown w w' := by
  go_enter Try.func12, Try.ntmps12
  go_wp2_with fail
  refine (C0.out _).mono ?_
  rintro e w1 ⟨rfl, g1⟩
  go_wp2_with fail
  refine (C1.out _).mono ?_
  rintro e w2 ⟨rfl, g2⟩
  go_wp2_with (go_at_call 18; refine (live_any _).mono ?_; rintro e wL ⟨rfl, gL⟩)
  all_goals (go_ret; exact ⟨rfl, grown_trans g1 (grown_trans g2 (gL))⟩)

set_option maxHeartbeats 1000000 in
theorem walk_none (t : Int) (x : Int) (a : Int) (b : Int) (r : Int) (h : Int) (m : Int) (i : Int) (h0 : (h != 0) = true)
    (C0 : Hid (∀ w, Calls Try.prog 14 #[.string ⟨#[65, 98, 115]⟩, .int .i64 t, .int .i64 x] w fun res w' => res = .returned (.tuple #[.int .i64 a, .int .i64 (0)]) ∧ Grown w w'))
    (C1 : Hid (∀ w, Calls Try.prog 14 #[.string ⟨#[78, 101, 103]⟩, .int .i64 t, .int .i64 x] w fun res w' => res = .returned (.tuple #[.int .i64 b, .int .i64 (0)]) ∧ Grown w w'))
    (C2 : Hid (∀ w, Calls Try.prog 19 #[.string ⟨#[77, 97, 120]⟩, .int .i64 t, .int .i64 x, .int .i64 b] w fun res w' => res = .returned (.tuple #[.int .i64 (a), .int .i64 (0)]) ∧ Grown w w'))
    (C3 : Hid (∀ w, Calls Try.prog 14 #[.string ⟨#[82, 101, 108, 117]⟩, .int .i64 t, .int .i64 x] w fun res w' => res = .returned (.tuple #[.int .i64 r, .int .i64 h]) ∧ Grown w w'))
    (C4 : Hid (∀ w, Calls Try.prog 19 #[.string ⟨#[77, 97, 120]⟩, .int .i64 t, .int .i64 x, .int .i64 0] w fun res w' => res = .returned (.tuple #[.int .i64 m, .int .i64 i]) ∧ Grown w w'))
    (w : World) : Calls Try.prog 12 #[.int .i64 t, .int .i64 x] w fun e w' => e = .returned (.bool true) ∧ Grown w w' := by
  go_enter Try.func12, Try.ntmps12
  go_wp2_with fail
  refine (C0.out _).mono ?_
  rintro e w1 ⟨rfl, g1⟩
  go_wp2_with fail
  refine (C1.out _).mono ?_
  rintro e w2 ⟨rfl, g2⟩
  go_wp2_with fail
  refine (C2.out _).mono ?_
  rintro e w3 ⟨rfl, g3⟩
  go_wp2_with fail
  refine (C3.out _).mono ?_
  rintro e w4 ⟨rfl, g4⟩
  go_wp2_with fail
  refine (C4.out _).mono ?_
  rintro e w5 ⟨rfl, g5⟩
  go_wp2_with (go_at_call 18; refine (live_any _).mono ?_; rintro e wL ⟨rfl, gL⟩)
  all_goals (go_ret; exact ⟨rfl, grown_trans g1 (grown_trans g2 (grown_trans g3 (grown_trans g4 (grown_trans g5 (gL)))))⟩)

set_option maxHeartbeats 1000000 in
theorem walk_ok (t : Int) (x : Int) (a : Int) (b : Int) (r : Int) 
    (C0 : Hid (∀ w, Calls Try.prog 14 #[.string ⟨#[65, 98, 115]⟩, .int .i64 t, .int .i64 x] w fun res w' => res = .returned (.tuple #[.int .i64 a, .int .i64 (0)]) ∧ Grown w w'))
    (C1 : Hid (∀ w, Calls Try.prog 14 #[.string ⟨#[78, 101, 103]⟩, .int .i64 t, .int .i64 x] w fun res w' => res = .returned (.tuple #[.int .i64 b, .int .i64 (0)]) ∧ Grown w w'))
    (C2 : Hid (∀ w, Calls Try.prog 19 #[.string ⟨#[77, 97, 120]⟩, .int .i64 t, .int .i64 x, .int .i64 b] w fun res w' => res = .returned (.tuple #[.int .i64 (a), .int .i64 (0)]) ∧ Grown w w'))
    (C3 : Hid (∀ w, Calls Try.prog 14 #[.string ⟨#[82, 101, 108, 117]⟩, .int .i64 t, .int .i64 x] w fun res w' => res = .returned (.tuple #[.int .i64 r, .int .i64 (0)]) ∧ Grown w w'))
    (C4 : Hid (∀ w, Calls Try.prog 19 #[.string ⟨#[77, 97, 120]⟩, .int .i64 t, .int .i64 x, .int .i64 0] w fun res w' => res = .returned (.tuple #[.int .i64 (r), .int .i64 (0)]) ∧ Grown w w'))
    (w : World) : Calls Try.prog 12 #[.int .i64 t, .int .i64 x] w fun e w' => e = .returned (.bool true) ∧ Grown w w' := by
  go_enter Try.func12, Try.ntmps12
  go_wp2_with fail
  refine (C0.out _).mono ?_
  rintro e w1 ⟨rfl, g1⟩
  go_wp2_with fail
  refine (C1.out _).mono ?_
  rintro e w2 ⟨rfl, g2⟩
  go_wp2_with fail
  refine (C2.out _).mono ?_
  rintro e w3 ⟨rfl, g3⟩
  go_wp2_with fail
  refine (C3.out _).mono ?_
  rintro e w4 ⟨rfl, g4⟩
  go_wp2_with fail
  refine (C4.out _).mono ?_
  rintro e w5 ⟨rfl, g5⟩
  go_wp2_with (go_at_call 18; refine (live_any _).mono ?_; rintro e wL ⟨rfl, gL⟩)
  all_goals (go_ret; exact ⟨rfl, grown_trans g1 (grown_trans g2 (grown_trans g3 (grown_trans g4 (grown_trans g5 (gL)))))⟩)

attribute [local irreducible] chk bin un cst

theorem walk (t x : Int) (w0 : (Lit.int .i64 t).wf = true) (w1 : (Lit.int .i64 x).wf = true) (w : World) :
    Calls Try.prog 12 #[.int .i64 t, .int .i64 x] w fun e w' => e = .returned (.bool true) ∧ Grown w w' := by
  obtain ⟨x0, x1⟩ := i64_of_wf w1
  have C1 := unary_l [65, 98, 115] t x x0 x1
  have C2 := unary_l [78, 101, 103] t x x0 x1
  obtain ⟨b0, b1⟩ := un_range [78, 101, 103] t x x0 x1
  have C3 := binary_l [77, 97, 120] t x (un [78, 101, 103] t x).1 x0 x1 b0 b1
  have C4 := unary_l [82, 101, 108, 117] t x x0 x1
  have C5 := binary_l [77, 97, 120] t x 0 x0 x1 (by decide) (by decide)
  have hl := abs_law (t := t) x0 x1
  have hr := relu_law (t := t) (x := x)
  generalize bin [77, 97, 120] t x (un [78, 101, 103] t x).1 = r at *
  generalize bin [77, 97, 120] t x 0 = m at *
  generalize un [65, 98, 115] t x = p at *
  generalize un [78, 101, 103] t x = q at *
  generalize un [82, 101, 108, 117] t x = s at *
  obtain ⟨a, e⟩ := p
  obtain ⟨b, f⟩ := q
  obtain ⟨s, h⟩ := s
  obtain ⟨m, i⟩ := m
  simp only at hl hr C1 C2 C3 C4 C5
  by_cases h0 : e = 0
  · subst h0
    by_cases h1 : f = 0
    · subst h1
      have := hl rfl rfl
      subst this
      by_cases h2 : h = 0
      · subst h2
        have := hr rfl
        simp only [Prod.mk.injEq] at this
        obtain ⟨rfl, rfl⟩ := this
        exact walk_ok t x a b m C1 C2 C3 C4 C5 w
      · exact walk_none t x a b s h m i (by simpa using h2) C1 C2 C3 C4 C5 w
    · exact walk_err2 t x a b f (by simpa using h1) C1 C2 w
  · exact walk_err1 t x a e b f (by simpa using h0) C1 C2 w

set_option linter.unusedVariables false
set_option maxRecDepth 100000 in
set_option maxHeartbeats 400000 in
theorem lifted (os : Os) (started : os.Started) (H : Type) (enc : TypeId × Value → H) :
    ReturnsInHanded {} Try.checked os 12 .any (Rows.numAbsSpec.pre6 enc Try.prog Try.f12 Rows.numAbsRow.domain false) (Rows.numAbsSpec.post enc Try.prog Try.f12 false true false false) := by
  refine returnsInHanded_of_change (C := Try.checked) own started (by kernel_rfl) Try.func12
    (ChangeSpec.witness6 (enc := enc) (C := Try.checked) false ⟨#[], #[.int .i64 0, .int .i64 0], []⟩ 8 (by kernel_rfl) (by kernel_rfl) (by kernel_rfl) (by kernel_rfl)) ?_
  intro W base args ds gs before hval0 hW hcnd _
  have hval : ∀ (j : Nat) t v, Try.f12.params[j]? = some t → args[j]? = some v → Value.okWide Try.prog W .any base t v := hval0
  have hW' := hW
  obtain ⟨p, q, hA0, hV, rfl, hfz, hnd⟩ := hW
  have hA : DataW.TrodAll enc Try.prog W 0 (fun _ => true) true Try.f12.params.toList args.toList ds p := hA0
  rw [Try.params12] at hA hval
  obtain ⟨v0, vs0, d0, ds0, p0, q0, hargs, rfl, rfl, h0, r0⟩ := trodAll_cons hA
  obtain ⟨v1, vs1, d1, ds1, p1, q1, rfl, rfl, rfl, h1, r1⟩ := trodAll_cons r0
  obtain ⟨rfl, rfl, rfl⟩ := trodAll_nil r1
  obtain rfl : args = #[v0, v1] := by cases args; simp_all
  obtain ⟨rfl, rfl⟩ := trodVars_none hV
  obtain ⟨a0, rfl, rfl, rfl, w0⟩ := open_int Try.underlying3 (hval 0 3 v0 rfl rfl) h0
  obtain ⟨a1, rfl, rfl, rfl, w1⟩ := open_int Try.underlying2 (hval 1 2 v1 rfl rfl) h1
  clear hA0 hval0
  simp only [List.append_nil] at hW'
  refine (walk a0 a1 w0 w1 W).mono fun e W' ⟨he, hg⟩ => ?_
  subst he
  exact ⟨_, rfl, post_of_same (pa := []) (pv := []) hW' (fun _ _ _ => (trodAll_cons_mk (shut_bool Try.underlying4 _) trodAll_mk0)) (fun sp _ => (trodAll_cons_mk (shut_int Try.underlying3 w0) (trodAll_cons_mk (shut_int Try.underlying2 w1) trodAll_mk0))) (fun _ _ => rfl) rfl
    (hg.frame _) hg.2.1 (ok_one (by kernel_rfl) rfl (okWide_bool_mk Try.underlying4 _))⟩

theorem over : Rows.numAbsRow.holds Try.pinned (OpenSpec.ofChange Rows.numAbsSpec) :=
  OpenClaim.holds_of_wide 12 Try.f12 rfl rfl rfl rfl rfl rfl rfl ⟨rfl, rfl, rfl, rfl, rfl⟩ rfl rfl rfl rfl rfl (by kernel_rfl) Try.func12 (by kernel_rfl)
    (of_decide_eq_true (by kernel_rfl)) (by unfold Func.isWrapper; first | (rw [if_pos (by decide +kernel)]; kernel_rfl) | (rw [if_neg (by decide +kernel)]; exact ⟨rfl, rfl⟩))
    (fun os started H enc _ => lifted os started H enc)

/-- The statement. -/
theorem proved : Rows.NumAbsSaid :=
  over
#print axioms proved

end numAbs
end Go.Proofs.Ytepmacimknblpaa
