/- The walk of the law GraphReads. -/
import Derived.Test.YtccjflhliicdlaaDoorGrF
import Derived.Test.YtccjflhliicdlaaDoorGrG
import Derived.Test.YtccjflhliicdlaaDoorGrV
set_option linter.unusedVariables false
set_option linter.unusedSimpArgs false
namespace Go.Proofs.YtccjflhliicdlaaDoor
open Go.RowKit

theorem nats_ints2 {w : World} {B : Nat} {v : Value} {l : List Nat} (h : w.ownsRow B 3 1 v l.length (natsV l)) (hl : l.length ≤ 2000000) (hb : ∀ i ∈ l, i < 2000000) : IntsIn w v (l.map fun (i : Nat) => (i : Int)) := by
  refine IntsIn.of_owns (B := B) (t := 3) ?_ (by simp; omega) (fun z hz => ?_)
  · rw [List.length_map, List.map_map]; exact h
  · obtain ⟨i, hi, rfl⟩ := List.mem_map.1 hz
    have := hb i hi
    unfold InI; omega
theorem rdrs_lt {g : Gr} {nm : ByteArray} {k : Nat} : ∀ i ∈ rdrs g nm k, i < k := fun i hi => by
  unfold rdrs at hi
  simpa using (List.mem_filter.1 hi).1

theorem rsame_same {w : World} {a b : Value} {xs : List Int} (h1 : IntsIn w a xs) (h2 : IntsIn w b xs) :
    Calls Tryd.prog 11 #[a, b] w fun e w' => e = .returned (.bool true) ∧ Below w.heap.size w w' := by
  have := rsame_any h1 h2
  rwa [decide_eq_true rfl] at this

attribute [local irreducible] rdrs

set_option maxRecDepth 100000 in
set_option maxHeartbeats 4000000 in
theorem greadslaw_any {w : World} {v : Value} {g : Gr} (nm : ByteArray) (h : GraphV w v g) (hs : nm.size ≤ 1048576) (hG : Glob w) :
    Calls Tryd.prog 3 #[v, .string nm] w fun e w' => e = .returned (.bool true) ∧ Below w.heap.size w w' := by
  have HC := Lib.hid (fun (W : World) (vi : Value) (h : GraphV W vi g) => gcopy_any h)
  have HR := Lib.hid (fun (W : World) (vi : Value) (h : GraphV W vi g) => readers_any h nm)
  have HRr := Lib.hid (fun (W : World) (vi : Value) (h : GraphV W vi g) => rreaders_any h nm)
  have HSm := Lib.hid (fun (W : World) (a b : Value) (xs : List Int) (h1 : IntsIn W a xs) (h2 : IntsIn W b xs) => rsame_same h1 h2)
  have HSg := Lib.hid (fun (W : World) (a b : Value) (h1 : GraphV W a g) (h2 : GraphV W b g) => gsame_any h1 h2)
  have HL := Lib.hid (fun (W : World) (hG : Glob W) => glive_any hG)
  obtain ⟨vn, vi, vo, vt, rfl, hg⟩ := h
  have hln := hg.nodes.len
  have HN := Lib.hid hg
  have HGl := Lib.hid hG
  clear hg hG
  unfold Gr.val
  go_enter Tryd.func3, Tryd.ntmps3
  go_wp2_with fail
  have hB1 : Hid (Below w.heap.size w (w.alloc (Obj.cells #[Value.string g.name, vn, vi, vo, vt] 26))) := Lib.hid ((Below.refl _ w).alloc (Nat.le_refl _) _)
  have hA1 := Lib.hid (BoxN.new w #[Value.string g.name, vn, vi, vo, vt] 26)
  generalize w.alloc _ = W1 at hB1 hA1 ⊢
  have hGV : Hid (∀ W, Below W1.heap.size W1 W → GraphV W (.agg #[Value.string g.name, vn, vi, vo, vt]) g) := Lib.hid fun W hW => ⟨_, _, _, _, rfl, HN.out.below (hB1.out.trans (hW.mono hB1.out.size))⟩
  refine (HC.out _ _ (hGV.out W1 (Below.refl _ _))).mono ?_
  rintro e w2 ⟨wn, wi, wo, wt, rfl, ho, B2⟩
  have HO2 : Hid (GraphN w2 g wn wi wo wt) := Lib.hid (ho.reads HN.out)
  have HB2 : Hid (Below W1.heap.size W1 w2) := Lib.hid B2
  clear ho B2
  obtain ⟨an2, cn2, rfl⟩ := HO2.out.nodes.form
  obtain ⟨ai2, ci2, rfl⟩ := HO2.out.ins.form
  obtain ⟨ao2, co2, rfl⟩ := HO2.out.outs.form
  obtain ⟨at2, ct2, rfl⟩ := HO2.out.inits.form
  unfold Gr.val
  go_wp2_with fail
  have hA3 := Lib.hid (BoxN.new w2 #[Value.string g.name, .slice an2 g.nodes.length cn2, .slice ai2 g.ins.length ci2, .slice ao2 g.outs.length co2, .slice at2 g.inits.length ct2] 26)
  have hB3 : Hid (Below w2.heap.size w2 (w2.alloc (.cells #[Value.string g.name, .slice an2 g.nodes.length cn2, .slice ai2 g.ins.length ci2, .slice ao2 g.outs.length co2, .slice at2 g.inits.length ct2] 26))) := Lib.hid ((Below.refl _ _).alloc (Nat.le_refl _) _)
  generalize w2.alloc _ = W3 at hA3 hB3 ⊢
  have HB3 : Hid (Below W1.heap.size W1 W3) := Lib.hid (HB2.out.trans (hB3.out.mono HB2.out.size))
  have hOV : Hid (∀ W, Below W3.heap.size W3 W → GraphV W (.agg #[Value.string g.name, .slice an2 g.nodes.length cn2, .slice ai2 g.ins.length ci2, .slice ao2 g.outs.length co2, .slice at2 g.inits.length ct2]) g) := Lib.hid fun W hW => ⟨_, _, _, _, rfl, HO2.out.below (hB3.out.trans (hW.mono hB3.out.size))⟩
  have hOb : Hid (BoxN W3 w2.heap.size #[Value.string g.name, .slice an2 g.nodes.length cn2, .slice ai2 g.ins.length ci2, .slice ao2 g.outs.length co2, .slice at2 g.inits.length ct2] 26) := hA3
  clear hB3 HB2 HO2 hA3
  refine (HR.out _ _ (hOV.out W3 (Below.refl _ _))).mono ?_
  rintro e w4 ⟨B4, v4, rfl, ho4⟩
  have HB4 : Hid (Below W3.heap.size W3 w4) := Lib.hid B4
  have HI4 : Hid (IntsIn w4 v4 ((rdrs g nm g.nodes.length).map fun (i : Nat) => (i : Int))) := Lib.hid (nats_ints2 ho4 (by have := rdrs_len g nm g.nodes.length; omega) (fun i hi => by have := rdrs_lt i hi; omega))
  clear B4 ho4
  obtain ⟨a4, c4, e4⟩ := HI4.out.shape
  rw [List.length_map] at e4
  subst e4
  have hb4 := Lib.hid (HB3.out.trans (HB4.out.mono HB3.out.size))
  obtain ⟨k0, k1, k2, k3, k4⟩ := (hA1.out.below' hb4.out).fiveG
  go_wp2_with fail
  clear k0 k1 k2 k3 k4
  refine (HRr.out _ _ (hGV.out w4 hb4.out)).mono ?_
  rintro e w5 ⟨B5, v5, rfl, ho5⟩
  have HB5 : Hid (Below W3.heap.size W3 w5) := Lib.hid (HB4.out.trans (B5.mono HB4.out.size))
  have HI5 : Hid (IntsIn w5 v5 ((rdrs g nm g.nodes.length).map fun (i : Nat) => (i : Int))) := Lib.hid (nats_ints2 ho5 (by have := rdrs_len g nm g.nodes.length; omega) (fun i hi => by have := rdrs_lt i hi; omega))
  have HI4' := Lib.hid (HI4.out.below B5)
  clear B5 ho5 HI4 HB4 hb4
  obtain ⟨a5, c5, e5⟩ := HI5.out.shape
  rw [List.length_map] at e5
  subst e5
  go_wp2_with fail
  refine (HSm.out _ _ _ _ HI4'.out HI5.out).mono ?_
  rintro e w6 ⟨rfl, B6⟩
  have HB6 : Hid (Below W3.heap.size W3 w6) := Lib.hid (HB5.out.trans (B6.mono HB5.out.size))
  have hb6 := Lib.hid (HB3.out.trans (HB6.out.mono HB3.out.size))
  clear B6 HB5 HI5 HI4'
  obtain ⟨k0, k1, k2, k3, k4⟩ := (hA1.out.below' hb6.out).fiveG
  obtain ⟨o0, o1, o2, o3, o4⟩ := (hOb.out.below' HB6.out).fiveG
  go_wp2_with fail
  clear k0 k1 k2 k3 k4 o0 o1 o2 o3 o4
  refine (HSg.out _ _ _ (hOV.out w6 HB6.out) (hGV.out w6 hb6.out)).mono ?_
  rintro e w7 ⟨rfl, B7⟩
  have hb7 : Hid (Below w.heap.size w w7) := Lib.hid (hB1.out.trans ((hb6.out.trans (B7.mono hb6.out.size)).mono hB1.out.size))
  clear B7
  go_wp2_with fail
  refine (HL.out _ (HGl.out.below hb7.out)).mono ?_
  rintro e w8 ⟨rfl, B8⟩
  have hb8 : Hid (Below w.heap.size w w8) := Lib.hid (hb7.out.trans (B8.mono hb7.out.size))
  clear B8
  go_wp2
  go_ret
  exact ⟨rfl, hb8.out⟩

end Go.Proofs.YtccjflhliicdlaaDoor
