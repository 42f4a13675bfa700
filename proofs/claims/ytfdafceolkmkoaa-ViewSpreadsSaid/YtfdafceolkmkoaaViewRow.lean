/- How the rows of the laws of view read their arguments: slices of numbers, views. -/
import Derived.Test.YtfdafceolkmkoaaRows
import Derived.Test.YtfdafceolkmkoaaViewLv
import Derived.ProofKit
import Derived.OpenShut
import Derived.SizedLaws
import Derived.ChangeSlices
import Derived.Deep.Strs
namespace Go.Proofs.Ytfdafceolkmkoaa
open Go.ChangeShapes Go.WideShapes Go.ChangeAt Go.RowKit

theorem own : ownKnob Try.prog.godebug = none := by kernel_rfl
theorem laidOut : laidOutB Try.prog = true := by kernel_rfl
theorem cellsInt : Try.prog.cellsOf 3 = 1 := by kernel_rfl
theorem cellsInt64 : Try.prog.cellsOf 2 = 1 := by kernel_rfl
theorem bytesInt : Try.prog.bytesOf 3 = 8 := by kernel_rfl
theorem bytesInt64 : Try.prog.bytesOf 2 = 8 := by kernel_rfl
theorem cellsInts : Try.prog.cellsOf 22 = 1 := by kernel_rfl
theorem cellsView : Try.prog.cellsOf 24 = 3 := by kernel_rfl

theorem i64_of_wf {x : Int} (h : (Lit.int .i64 x).wf = true) : InI x := by
  simp [Lit.wf, IntKind.min, IntKind.max, IntKind.signed, IntKind.bits] at h
  unfold InI
  omega

theorem open_row {H : Type} {enc : TypeId × Value → H} {P : Program} {W : World} {t e : TypeId} {fuel : Nat} {cs : List Value} {x : DataW H × List MemPlace} (ht : P.underlying t = some (.slice e)) (he : P.underlying e = some (.int .i64)) (hc : P.cellsOf e = 1) (hb : P.bytesOf e = 8)
    (h : DataW.trod enc P W 0 (fun _ => true) true fuel t cs = some x) (hlt : ∀ y ∈ x.2, y.block < W.heap.size) (hz : ∀ n ∈ x.1.weights P t, n ≤ reachBytes) : ∃ v zs, cs = [v] ∧ IntsIn W v zs := by
  rcases open_ints ht he hc h with ⟨hcs, hx⟩ | ⟨a, len, cap, zs, hcs, _, hl, hm, hzl, hx, hcell, hw⟩
  · exact ⟨_, [], hcs, .empty none 0⟩
  · subst hx
    by_cases h0 : len = 0
    · subst h0; exact ⟨_, [], hcs, .empty _ cap⟩
    · simp only [if_true] at hzl
      obtain ⟨b, off, spot⟩ := a
      have hspot : spot = none := by simpa [Addr.add] using World.cell?_spot (hcell 0 (by omega))
      subst hspot
      have hbW : b < W.heap.size := hlt (.cell b off) (MemPlace.mem_row.2 ⟨0, by omega, by simp⟩)
      have hlen : (zs.take len).length = len := by rw [List.length_take]; omega
      have hz2 : (len + (cap - len)) * 8 ≤ reachBytes := by
        have := hz ((len + (cap - len)) * 8) (by simp [DataW.weights, ht, lits, hb, hzl]; left; omega)
        exact this
      refine ⟨_, zs.take len, hcs, ?_⟩
      have := IntsIn.row b off cap (zs.take len) (w := W) (by intro e; rw [e] at hlen; simp at hlen; omega) (by omega) hbW (fun j hj => by
        have := hcell j (by rw [hlen] at hj; omega)
        rw [add_plain] at this
        rw [this]
        rw [hlen] at hj
        simp [List.getD, hj]) (by rw [hlen]; unfold reachBytes at hz2; omega) (fun z hz => i64_of_wf (hw z (List.mem_of_mem_take hz)))
      rw [hlen] at this
      exact this

theorem open_view {H : Type} {enc : TypeId × Value → H} {W : World} {r : Reach} {b0 : Nat} {v : Value} {d : DataW H} {p : List MemPlace} (hv : Value.okWide Try.prog W r b0 24 v) (hd : DataW.Trod enc Try.prog W 0 (fun _ => true) true 24 v d p)
    (hlt : ∀ y ∈ p, y.block < W.heap.size) (hz : ∀ n ∈ d.weights Try.prog 24, n ≤ reachBytes) :
    ∃ off dv sv ds ss, v = .agg #[.int .i64 off, dv, sv] ∧ IntsIn W dv ds ∧ IntsIn W sv ss := by
  obtain ⟨cs, rfl, hsz⟩ := okWide_struct Try.underlying24 hv
  rw [cellsView] at hsz
  obtain ⟨fuel, hf⟩ := hd
  simp only [Value.cells] at hf
  obtain ⟨y0, y1, y2, k, hx, hl, u0, u1, u2⟩ := Go.Deep.trod_struct3 Try.underlying24 hf
  simp only [Prod.mk.injEq] at hx
  obtain ⟨rfl, rfl⟩ := hx
  rw [show Try.prog.cellsOf 3 = 1 from cellsInt] at u0
  rw [show Try.prog.cellsOf 22 = 1 from cellsInts] at u1 u2
  match cs, hsz with
  | ⟨[c0, c1, c2]⟩, _ =>
  simp at u0 u1 u2
  obtain ⟨x0, g0, e0, _⟩ := DataW.trod_int Try.underlying3 u0
  have hw : ∀ n ∈ DataW.weights Try.prog 22 y1.1 ++ DataW.weights Try.prog 22 y2.1, n ≤ reachBytes := by
    intro n hn
    refine hz n ?_
    simp only [DataW.weights, Try.underlying24, DataW.weightsEach, List.map_cons, List.map_nil, List.mem_append, List.append_nil]
    rcases List.mem_append.1 hn with h | h
    · exact Or.inr (Or.inl h)
    · exact Or.inr (Or.inr h)
  obtain ⟨v1, z1, g1, i1⟩ := open_row Try.underlying22 Try.underlying3 cellsInt bytesInt u1 (fun y hy => hlt y (by simp [hy])) (fun n hn => hw n (List.mem_append.2 (Or.inl hn)))
  obtain ⟨v2, z2, g2, i2⟩ := open_row Try.underlying22 Try.underlying3 cellsInt bytesInt u2 (fun y hy => hlt y (by simp [hy])) (fun n hn => hw n (List.mem_append.2 (Or.inr hn)))
  simp at g0 g1 g2
  subst g0 g1 g2
  exact ⟨x0, _, _, z1, z2, rfl, i1, i2⟩

theorem open_data {H : Type} {enc : TypeId × Value → H} {W : World} {r : Reach} {b0 : Nat} {t e : TypeId} {v : Value} {d : DataW H} {p : List MemPlace} (ht : Try.prog.underlying t = some (.slice e)) (he : Try.prog.underlying e = some (.int .i64)) (hc : Try.prog.cellsOf e = 1) (hb : Try.prog.bytesOf e = 8)
    (hv : Value.okWide Try.prog W r b0 t v) (hd : DataW.Trod enc Try.prog W 0 (fun _ => true) true t v d p)
    (hlt : ∀ y ∈ p, y.block < W.heap.size) (hz : ∀ n ∈ d.weights Try.prog t, n ≤ reachBytes) : ∃ zs, IntsIn W v zs := by
  obtain ⟨a, len, cap, rfl⟩ := okWide_slice ht hv
  obtain ⟨fuel, hf⟩ := hd
  obtain ⟨v1, z1, g1, i1⟩ := open_row ht he hc hb hf hlt hz
  simp [Value.cells] at g1
  subst g1
  exact ⟨z1, i1⟩

end Go.Proofs.Ytfdafceolkmkoaa
