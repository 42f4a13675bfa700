/- The walks of live.Before and live.Apart. -/
import Derived.Test.YtlbhepfbogcipaaDoorLvS
import Derived.Test.YtlbhepfbogcipaaDoorLvR
import Derived.Test.YtlbhepfbogcipaaDoorLvB
import Derived.Test.YtlbhepfbogcipaaDoorLvC
set_option linter.unusedVariables false
set_option linter.unusedSimpArgs false
namespace Go.Proofs.YtlbhepfbogcipaaDoor
open Go.RowKit

theorem rds_lt (l : List Nd) : ∀ k, k < l.length → ∀ r ∈ rdsL l k, k < r ∧ r < l.length := fun k _ r hr => readsL_lt (mem_rdsL.1 hr)
theorem sorted_outs {g : Gr} (h : orderE g = 0) : ((sortedL g).map (·.out)).Nodup := by rw [sortedL_good h]; exact picked_outs (fineG_of h)

def BeforeV (w : World) (g : Gr) (e : Ending) (w' : World) : Prop := ∃ v', e = .returned (.tuple #[v', .int .i64 (orderE g)]) ∧ Below w.heap.size w w' ∧ ((orderE g = 0 ∧ TabB w' v' (sortedL g).length (befB (sortedL g))) ∨ (orderE g ≠ 0 ∧ v' = .slice none 0 0))
theorem BeforeV.good {w w' : World} {g : Gr} {v : Value} (h : orderE g = 0) (hB : Below w.heap.size w w') (hT : TabB w' v (sortedL g).length (befB (sortedL g))) : BeforeV w g (.returned (.tuple #[v, .int .i64 0])) w' := ⟨v, by rw [h], hB, Or.inl ⟨h, hT⟩⟩
theorem BeforeV.bad {w w' : World} {g : Gr} {x : Int} (h : orderE g = x) (hx : x ≠ 0) (hB : Below w.heap.size w w') : BeforeV w g (.returned (.tuple #[.slice none 0 0, .int .i64 x])) w' := ⟨_, by rw [h], hB, Or.inr ⟨by rw [h]; exact hx, rfl⟩⟩

attribute [local irreducible] orderE orderL work hasS namesG picked sortedL rdsL befB doneB apartB

set_option maxRecDepth 100000 in
set_option maxHeartbeats 4000000 in
theorem before_any {w : World} {v : Value} {g : Gr} (h : GraphV w v g) (hG : Glob w) :
    Calls Tryd.prog 8 #[v] w fun e w' => BeforeV w g e w' := by
  have HS := Lib.hid (fun (W : World) (vi : Value) (h : GraphV W vi g) (hG : Glob W) => sorted_any h (Below.refl _ _) hG)
  have HR := Lib.hid (fun (W : World) (vi : Value) (h : SlIn 5 rdNodeG W vi (sortedL g)) (hE : orderE g = 0) => lreaders_any h (sorted_outs hE) (sortedL_le g))
  have HT := Lib.hid (fun (W : World) (vi : Value) (h : TabN W vi (sortedL g).length (rdsL (sortedL g))) => rows_any h (sortedL_le g) (rds_lt _) (fun i b _ => befB_step i b))
  obtain ⟨vn, vi, vo, vt, rfl, hg⟩ := h
  have HN := Lib.hid hg
  have HGl := Lib.hid hG
  clear hg hG
  unfold Gr.val
  go_enter Tryd.func8, Tryd.ntmps8
  go_wp2_with fail
  have hB1 : Hid (Below w.heap.size w (w.alloc (Obj.cells #[Value.string g.name, vn, vi, vo, vt] 26))) := Lib.hid ((Below.refl _ w).alloc (Nat.le_refl _) _)
  generalize w.alloc _ = W1 at hB1 ⊢
  have hGV : Hid (GraphV W1 (.agg #[Value.string g.name, vn, vi, vo, vt]) g) := Lib.hid ⟨_, _, _, _, rfl, HN.out.below hB1.out⟩
  refine (HS.out _ _ hGV.out (HGl.out.below hB1.out)).mono ?_
  rintro e w5 ⟨v5, ns, rfl, hs5', B5⟩
  have hs5 := NodesR.reads' hs5' B5 (by have := sortedL_le g; omega)
  have HB5 : Hid (Below w.heap.size w w5) := Lib.hid (hB1.out.trans (B5.mono hB1.out.size))
  have HS5 := Lib.hid hs5
  clear B5 hs5 hs5'
  obtain ⟨a5, c5, rfl⟩ := HS5.out.form
  generalize hce : orderE g = ce
  have HCE := Lib.hid hce
  clear hce
  by_cases hz : ce = 0
  · have hzb : (ce != 0) = false := by simpa using hz
    have HE0 := Lib.hid (HCE.out.trans hz)
    clear hz
    go_wp2_with fail
    refine (HR.out _ _ HS5.out HE0.out).mono ?_
    rintro e w6 ⟨B6, v6, rfl, ht6⟩
    have HB6 : Hid (Below w.heap.size w w6) := Lib.hid (HB5.out.trans (B6.mono HB5.out.size))
    have HT6 := Lib.hid ht6
    clear B6 ht6
    go_wp2_with fail
    refine (HT.out _ _ HT6.out).mono ?_
    rintro e w7 ⟨B7, v7, rfl, ht7⟩
    have HB7 : Hid (Below w.heap.size w w7) := Lib.hid (HB6.out.trans (B7.mono HB6.out.size))
    have HT7 := Lib.hid ht7
    clear B7 ht7
    go_wp2
    go_ret2
    exact BeforeV.good HE0.out HB7.out HT7.out
  · have hzb : (ce != 0) = true := by simpa using hz
    have HZ := Lib.hid hz
    clear hz
    go_wp2
    go_ret2
    exact BeforeV.bad HCE.out HZ.out HB5.out

end Go.Proofs.YtlbhepfbogcipaaDoor
