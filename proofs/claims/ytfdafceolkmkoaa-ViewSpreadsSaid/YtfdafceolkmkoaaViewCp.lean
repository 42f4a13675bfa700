/- Copies by append; the walk of the reference's Copy of a list. -/
import Derived.Test.YtfdafceolkmkoaaViewRr
import Derived.Laws.AppendOwnNone
set_option linter.unusedVariables false
namespace Go.Proofs.Ytfdafceolkmkoaa
open Go.RowKit Vw

/-- append(nil, x...), x numbers: a list of the call's own. -/
theorem wpList_append_copy {P : Program} {w : World} {ops : Array Oper} {rest : List Oper} {o : Oper} {a : Act} {Q : Exit → Act → World → Prop} (hgd : o.guard = none) (s x : Operand) (t : TypeId)
    (ho : o.op = .call { callee := .builtin .append, args := #[s, x], argTypes := #[t, t] })
    (e : TypeId) (i : TypeInfo) (z : Value) (ht : P.underlying t = some (.slice e)) (hi : P.info? e = some i) (hz : i.zero = some z)
    (hsize : i.size = 1) (hby : i.bytes = 8) (hzs : z.cells.size = 1) (hs : a.eval s = .slice none 0 0) (xv : Value) (zs : List Int) (hx : a.eval x = xv) (hI : IntsIn w xv zs)
    (h : ∀ v' w', w'.ownsRow w.heap.size e 1 v' zs.length (zs.map (Value.int .i64)) → Below w.heap.size w w' → wpList P ops Q rest (a.put o.dst v') w') : wpList P ops Q (o :: rest) a w := by
  cases hI with
  | empty a0 cap =>
    cases a0 with
    | none =>
      have hI2 : w.ownsRow w.heap.size e 1 (.slice none 0 0) 0 [] := World.ownsRow_nil _ _ _ _
      by_cases hc : cap = 0
      · subst hc
        exact wpList_append_own_none hgd s x t ho w.heap.size e i 1 ht hi (.slice none 0 0) 0 [] hs hI2 hx (h _ _ hI2 (Below.refl _ _))
      · refine wpList_plain hgd fun K hK => ?_
        have hrun : (Builtin.append_ #[t, t] o.type #[.slice none 0 0, .slice none 0 cap]).run P w = .ok (.slice none 0 0) w := by
          simp [Builtin.append_, run_underlying ht, sizeOf, typeInfo, hi, Builtin.lenOf, Builtin.firstCells]
        unfold Oper.wp
        simp [execOp, ho, resolve, invoke, builtin, hs, hx, hrun, Result.andThen]
        exact hK _ _ (h _ _ hI2 (Below.refl _ _))
    | some ad =>
      refine wpList_append_own w hgd s x t ho w.heap.size e i z 1 8 ht hi hz hsize hby hzs (by decide) _ 0 [] hs (World.ownsRow_nil _ _ _ _) ad 0 cap [] hx rfl (fun j u hu => by simp at hu) (fun u hu => by simp at hu) (by unfold maxLen; omega) (by omega) (Nat.le_refl _) ?_
      intro v' w' h1 h2 _
      exact h v' w' h1 ((Below.refl _ w).grown h2 (Nat.le_refl _) (fun g hg => by simp [Value.ownBlock] at hg))
  | row b off cap _ h0 hc hb hr hlen hw =>
    refine wpList_append_own w hgd s x t ho w.heap.size e i z 1 8 ht hi hz hsize hby hzs (by decide) _ 0 [] hs (World.ownsRow_nil _ _ _ _) ⟨b, off, none⟩ zs.length cap (zs.map (Value.int .i64)) hx (by simp) (reads_cells hr) (ints_one zs) (by unfold maxLen; omega) (by omega) (Nat.le_refl _) ?_
    intro v' w' h1 h2 _
    rw [Nat.zero_add] at h1
    exact h v' w' h1 ((Below.refl _ w).grown h2 (Nat.le_refl _) (fun g hg => by simp [Value.ownBlock] at hg))

theorem rcopy_any {w : World} {v : Value} {zs : List Int} (h : IntsIn w v zs) :
    Calls Try.prog 32 #[v] w fun e w' => ∃ v', e = .returned v' ∧ Fresh w.heap.size w' v' zs ∧ Below w.heap.size w w' := by
  obtain ⟨i0, hi, hz0, hz1, hz2⟩ := info_parts info_int
  obtain ⟨a1, c1, rfl⟩ := h.form
  have H := Lib.hid h
  clear h
  go_enter Try.func32, Try.ntmps32
  go_wp2_with (at_builtin; refine wpList_append_copy rfl _ _ 22 rfl 3 i0 (.int .i64 0) Try.underlying22 hi hz0 hz1 hz2 rfl rfl _ zs rfl H.out ?_)
  intro v' w' h1 h2
  have H1 := Lib.hid h1
  have H2 := Lib.hid h2
  clear h1 h2
  go_wp2
  go_ret
  exact ⟨_, rfl, Fresh.of_owns H1.out, H2.out⟩

end Go.Proofs.Ytfdafceolkmkoaa
