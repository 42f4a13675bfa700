/- The walk of graph.Readers. -/
import Derived.Test.YtccjflhliicdlaaDoorGrN
import Derived.Test.YtccjflhliicdlaaDoorSchCt
set_option linter.unusedVariables false
set_option linter.unusedSimpArgs false
namespace Go.Proofs.YtccjflhliicdlaaDoor
open Go.RowKit

def readsB (g : Gr) (nm : ByteArray) (i : Nat) : Bool := match g.nodes[i]? with
  | some n => hasS n.ins nm
  | none => false
/-- Of the first nodes those that read a name. -/
def rdrs (g : Gr) (nm : ByteArray) (k : Nat) : List Nat := (List.range k).filter (readsB g nm)
theorem rdrs_len (g : Gr) (nm : ByteArray) (k : Nat) : (rdrs g nm k).length ≤ k := by
  unfold rdrs
  have := List.length_filter_le (readsB g nm) (List.range k)
  simpa using this
theorem rdrs_yes {g : Gr} {nm : ByteArray} {k : Nat} {n : Nd} (h : g.nodes[k]? = some n) (hs : hasS n.ins nm = true) : rdrs g nm (k + 1) = rdrs g nm k ++ [k] := by
  unfold rdrs
  rw [List.range_succ, List.filter_append]
  have : readsB g nm k = true := by unfold readsB; rw [h]; exact hs
  simp [this]
theorem rdrs_no {g : Gr} {nm : ByteArray} {k : Nat} {n : Nd} (h : g.nodes[k]? = some n) (hs : hasS n.ins nm = false) : rdrs g nm (k + 1) = rdrs g nm k := by
  unfold rdrs
  rw [List.range_succ, List.filter_append]
  have : readsB g nm k = false := by unfold readsB; rw [h]; exact hs
  simp [this]

attribute [local irreducible] rdrs hasS

set_option maxRecDepth 100000 in
set_option maxHeartbeats 4000000 in
theorem readers_any {w : World} {v : Value} {g : Gr} (h : GraphV w v g) (nm : ByteArray) :
    Calls Tryd.prog 10 #[v, .string nm] w fun e w' => Below w.heap.size w w' ∧ ∃ v', e = .returned v' ∧ w'.ownsRow w.heap.size 3 1 v' (rdrs g nm g.nodes.length).length ((rdrs g nm g.nodes.length).map fun (i : Nat) => Value.int .i64 (i : Int)) := by
  have HCon := Lib.hid (fun (W : World) (vi : Value) (ss : List ByteArray) (h : StrsIn W vi ss) => contains_any h nm)
  obtain ⟨i0, hi, hz0, hz1, hz2⟩ := info_parts info_int
  obtain ⟨vn, vi, vo, vt, rfl, hg⟩ := h
  obtain ⟨an, cn, rfl⟩ := hg.nodes.form
  have hln := hg.nodes.len
  have HN := Lib.hid hg
  clear hg
  unfold Gr.val
  go_enter Tryd.func10, Tryd.ntmps10
  go_wp2_with fail
  have hB1 : Hid (Below w.heap.size w (w.alloc (Obj.cells #[Value.string g.name, Value.slice an g.nodes.length cn, vi, vo, vt] 26))) := Lib.hid ((Below.refl _ w).alloc (Nat.le_refl _) _)
  have hA1 := Lib.hid (BoxN.new w #[Value.string g.name, Value.slice an g.nodes.length cn, vi, vo, vt] 26)
  generalize w.alloc _ = W1 at hB1 hA1 ⊢
  obtain ⟨k0, k1, k2, k3, k4⟩ := hA1.out.fiveG
  go_wp2_with fail
  clear k0 k1 k2 k3 k4
  have hs1 := hB1.out.size
  go_loopw [5, 11] (fun ov i wr => ∃ k pl : Nat, k ≤ g.nodes.length ∧ pl ≤ k ∧ i = .int .i64 (k : Int) ∧ Hid ((rdrs g nm k).length = pl) ∧ Hid (wr.ownsRow W1.heap.size 3 1 ov pl ((rdrs g nm k).map fun (i : Nat) => Value.int .i64 (i : Int))) ∧ Hid (Below W1.heap.size W1 wr)) (fun _ i _ => g.nodes.length - (intOf i).toNat)
  case atStart => exact ⟨0, 0, Nat.zero_le _, Nat.le_refl _, rfl, Lib.hid (by unfold rdrs; simp), Lib.hid (by unfold rdrs; exact World.ownsRow_nil _ _ _ _), Lib.hid (Below.refl _ _)⟩
  case round =>
    obtain ⟨k, pl, hk, hpl, rfl, hPL, hown, hW⟩ := hrel
    by_cases hkl : k < g.nodes.length
    · have hki : (k : Int) < (g.nodes.length : Int) := by omega
      obtain ⟨x, hx⟩ : ∃ x, g.nodes[k]? = some x := ⟨_, List.getElem?_eq_getElem hkl⟩
      have hBw := hB1.out.trans (hW.out.mono hB1.out.size)
      obtain ⟨b, off, cap, vd, vx, hv, hb, c0, c1, c2, c3, c4, h3, h4, h5, h6⟩ := node_at HN.out.nodes hx
      obtain ⟨rfl, hle, rfl⟩ := Value.slice.inj hv
      clear hle hv h4 h5 h6
      obtain ⟨ad, cd, rfl⟩ := h3.is.form
      obtain ⟨ax, cx, rfl⟩ := h3.ia.form
      have c0 := (hBw.cell (p := ⟨b, off + k * 5, none⟩) hb).trans c0
      have c1 := (hBw.cell (p := ⟨b, off + k * 5 + 1, none⟩) hb).trans c1
      have c2 := (hBw.cell (p := ⟨b, off + k * 5 + 2, none⟩) hb).trans c2
      have c3 := (hBw.cell (p := ⟨b, off + k * 5 + 3, none⟩) hb).trans c3
      have c4 := (hBw.cell (p := ⟨b, off + k * 5 + 4, none⟩) hb).trans c4
      have HX := Lib.hid hx
      have HI := Lib.hid (h3.is.below hBw)
      clear hx h3 hBw
      go_wp2_with fail
      have HW2 : Hid (Below W1.heap.size W1 (wr.alloc (.cells #[.string x.op, .string x.name, .slice ad x.ins.length cd, .string x.out, .slice ax x.attrs.length cx] 41))) := Lib.hid (hW.out.alloc hW.out.size _)
      have HI2 : Hid (StrsIn (wr.alloc (.cells #[.string x.op, .string x.name, .slice ad x.ins.length cd, .string x.out, .slice ax x.attrs.length cx] 41)) (.slice ad x.ins.length cd) x.ins) := Lib.hid (HI.out.below ((Below.refl _ _).alloc (Nat.le_refl _) _))
      have HO2 : Hid ((wr.alloc (.cells #[.string x.op, .string x.name, .slice ad x.ins.length cd, .string x.out, .slice ax x.attrs.length cx] 41)).ownsRow W1.heap.size 3 1 u5 pl ((rdrs g nm k).map fun (i : Nat) => Value.int .i64 (i : Int))) := Lib.hid (hown.out.alloc _)
      generalize wr.alloc _ = W2 at HW2 HI2 HO2 ⊢
      clear c0 c1 c2 c3 c4 hW hown HI
      have hs2 := HW2.out.size
      refine (HCon.out _ _ _ HI2.out).mono ?_
      rintro e w5 ⟨rfl, rfl⟩
      cases hh : hasS x.ins nm with
      | true =>
        have HR := Lib.hid (rdrs_yes HX.out hh)
        clear hh
        go_wp2_with (at_builtin; refine wpList_append_own _ rfl _ _ 28 rfl W1.heap.size 3 i0 (.int .i64 0) 1 8 Tryd.underlying28 hi hz0 hz1 hz2 rfl (by decide) _ _ _ rfl (HO2.out.alloc _) ⟨W2.heap.size, 0, none⟩ 1 1 (#[.int .i64 (k : Int)] : Array Value).toList rfl rfl (World.news_of_block (heap_alloc_new W2 _)) (by simp [Value.oneCell']) ?A3 ?A4 ?A5 ?_)
        case A3 => unfold maxLen; omega
        case A4 => omega
        case A5 => simp; omega
        intro v' w4 hown' hgrow _
        have hb4 : Hid (Below W1.heap.size W1 w4) := Lib.hid ((HW2.out.alloc hs2 _).grown hgrow (by simp; omega) fun g hg => (HO2.out.lt g hg).1)
        have ho4 : Hid (w4.ownsRow W1.heap.size 3 1 v' (pl + 1) ((rdrs g nm (k + 1)).map fun (i : Nat) => Value.int .i64 (i : Int))) := Lib.hid (by rw [HR.out, List.map_append]; exact hown')
        have hl4 : Hid ((rdrs g nm (k + 1)).length = pl + 1) := Lib.hid (by rw [HR.out, List.length_append, hPL.out]; rfl)
        clear hown' hgrow
        go_wp2_with fail
        go_roundw
        case rel => exact ⟨k + 1, pl + 1, by omega, by omega, by go_num, hl4, ho4, hb4⟩
        case measure => simp [intOf]; omega
      | false =>
        have HR := Lib.hid (rdrs_no HX.out hh)
        clear hh
        have ho4 : Hid (W2.ownsRow W1.heap.size 3 1 u5 pl ((rdrs g nm (k + 1)).map fun (i : Nat) => Value.int .i64 (i : Int))) := Lib.hid (by rw [HR.out]; exact HO2.out)
        have hl4 : Hid ((rdrs g nm (k + 1)).length = pl) := Lib.hid (by rw [HR.out, hPL.out])
        go_wp2
        go_roundw
        case rel => exact ⟨k + 1, pl, by omega, by omega, by go_num, hl4, ho4, HW2⟩
        case measure => simp [intOf]; omega
    · have hki : ¬ (k : Int) < (g.nodes.length : Int) := by omega
      obtain rfl : k = g.nodes.length := by omega
      have HO := Lib.hid (owns_base hown.out hs1)
      have HL := hPL
      go_wp2
      go_ret
      exact ⟨hB1.out.trans (hW.out.mono hs1), _, rfl, by rw [HL.out]; exact HO.out⟩

end Go.Proofs.YtccjflhliicdlaaDoor
