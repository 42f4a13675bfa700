/- The walk of the law GraphRenamed. -/
import Derived.Test.YtccjflhliicdlaaDoorGrV
import Derived.Test.YtccjflhliicdlaaDoorGrRR
import Derived.BigQuiet
import Derived.Deep.QuietTactic
import Derived.Test.YtccjflhliicdlaaDoorSchX
import Derived.Test.YtccjflhliicdlaaDoorSchXn
import Derived.Deep.DeepWitnessRowRef
import Derived.ChangeMaps5
set_option linter.unusedVariables false
set_option linter.unusedSimpArgs false
namespace Go.Proofs.YtccjflhliicdlaaDoor
open Go.RowKit

theorem nats_intsR {w : World} {B : Nat} {v : Value} {l : List Nat} (h : w.ownsRow B 3 1 v l.length (natsV l)) (hl : l.length ≤ 2000000) (hb : ∀ i ∈ l, i < 2000000) : IntsIn w v (l.map fun (i : Nat) => (i : Int)) := by
  refine IntsIn.of_owns (B := B) (t := 3) ?_ (by simp; omega) (fun z hz => ?_)
  · rw [List.length_map, List.map_map]; exact h
  · obtain ⟨i, hi, rfl⟩ := List.mem_map.1 hz
    have := hb i hi
    unfold InI; omega
theorem rsame_sameR {w : World} {a b : Value} {xs : List Int} (h1 : IntsIn w a xs) (h2 : IntsIn w b xs) :
    Calls Tryd.prog 11 #[a, b] w fun e w' => e = .returned (.bool true) ∧ Below w.heap.size w w' := by
  have := rsame_any h1 h2
  rwa [decide_eq_true rfl] at this
theorem orderL_okR {g : Gr} (h : g.nodes.length ≤ 1048575) : (orderL g).length ≤ 2000000 ∧ ∀ i ∈ orderL g, i < 2000000 := by
  unfold orderL
  by_cases e : orderE g = 0
  · rw [if_pos e]
    have hg := work_good g
    exact ⟨by have := hg.len; omega, fun i hi => by have := hg.lt i hi; omega⟩
  · rw [if_neg e]
    exact ⟨by simp, by simp⟩

theorem turned_any (s old nm : ByteArray) (w : World) : Calls Tryd.prog 18 #[.string s, .string old, .string nm] w fun e w' => e = .returned (.string (ren1 old nm s)) ∧ w = w' := by
  by_cases h : s.toList = old.toList
  · have hb : (s.toList == old.toList) = true := by simpa using h
    have e : Hid (ren1 old nm s = nm) := Lib.hid (by unfold ren1; rw [if_pos (toList_inj h)])
    go_enter Tryd.func18, Tryd.ntmps18
    go_wp2
    go_ret
    exact ⟨ret_val (congrArg Value.string e.out).symm, rfl⟩
  · have hb : (s.toList == old.toList) = false := by simpa using h
    have e : Hid (ren1 old nm s = s) := Lib.hid (by unfold ren1; rw [if_neg (fun c => h (by rw [c]))])
    go_enter Tryd.func18, Tryd.ntmps18
    go_wp2
    go_ret
    exact ⟨ret_val (congrArg Value.string e.out).symm, rfl⟩

def gI (old nm : ByteArray) (g : Gr) (k : Nat) : Gr := { g with ins := mix (renV old nm) g.ins k }
def gO (old nm : ByteArray) (g : Gr) (k : Nat) : Gr := { g with ins := g.ins.map (renV old nm), outs := mix (renV old nm) g.outs k }
def gT (old nm : ByteArray) (g : Gr) (k : Nat) : Gr := { g with ins := g.ins.map (renV old nm), outs := g.outs.map (renV old nm), inits := mix (renT old nm) g.inits k }
def gN (old nm : ByteArray) (g : Gr) (k : Nat) : Gr := { g with ins := g.ins.map (renV old nm), outs := g.outs.map (renV old nm), inits := g.inits.map (renT old nm), nodes := mix (renN old nm) g.nodes k }
def nodeJ (old nm : ByteArray) (x : Nd) (j : Nat) : Nd := { x with out := ren1 old nm x.out, ins := mix (ren1 old nm) x.ins j }
def gJ (old nm : ByteArray) (g : Gr) (k : Nat) (x : Nd) (j : Nat) : Gr := { g with ins := g.ins.map (renV old nm), outs := g.outs.map (renV old nm), inits := g.inits.map (renT old nm), nodes := (mix (renN old nm) g.nodes k).set k (nodeJ old nm x j) }
section
variable {old nm : ByteArray} {g : Gr}
theorem gI_zero : gI old nm g 0 = g := by unfold gI; rw [mix_zero]
theorem gI_full : gI old nm g g.ins.length = gO old nm g 0 := by unfold gI gO; rw [mix_full, mix_zero]
theorem gO_full : gO old nm g g.outs.length = gT old nm g 0 := by unfold gO gT; rw [mix_full, mix_zero]
theorem gT_full : gT old nm g g.inits.length = gN old nm g 0 := by unfold gT gN; rw [mix_full, mix_zero]
theorem gN_full : gN old nm g g.nodes.length = ren old nm g := by unfold gN ren; rw [mix_full]
theorem gI_step {k : Nat} {x : Vl} (h : g.ins[k]? = some x) : { gI old nm g k with ins := (gI old nm g k).ins.set k { x with name := ren1 old nm x.name } } = gI old nm g (k + 1) := by
  unfold gI
  simp only
  rw [← mix_set h]; rfl
theorem gO_step {k : Nat} {x : Vl} (h : g.outs[k]? = some x) : { gO old nm g k with outs := (gO old nm g k).outs.set k { x with name := ren1 old nm x.name } } = gO old nm g (k + 1) := by
  unfold gO
  simp only
  rw [← mix_set h]; rfl
theorem gT_step {k : Nat} {x : Nm} (h : g.inits[k]? = some x) : { gT old nm g k with inits := (gT old nm g k).inits.set k { x with name := ren1 old nm x.name } } = gT old nm g (k + 1) := by
  unfold gT
  simp only
  rw [← mix_set h]; rfl
theorem gN_out {k : Nat} {x : Nd} : { gN old nm g k with nodes := (gN old nm g k).nodes.set k { x with out := ren1 old nm x.out } } = gJ old nm g k x 0 := by
  unfold gN gJ nodeJ
  rw [mix_zero]
theorem gJ_at {k : Nat} {x : Nd} {j : Nat} (h : g.nodes[k]? = some x) : (gJ old nm g k x j).nodes[k]? = some (nodeJ old nm x j) := by
  unfold gJ
  simp only
  rw [List.getElem?_set_self]
  rw [mix_len]
  exact (List.getElem?_eq_some_iff.1 h).1
theorem gJ_step {k : Nat} {x : Nd} {j : Nat} {s : ByteArray} (hs : x.ins[j]? = some s) : { gJ old nm g k x j with nodes := (gJ old nm g k x j).nodes.set k { nodeJ old nm x j with ins := (nodeJ old nm x j).ins.set j (ren1 old nm s) } } = gJ old nm g k x (j + 1) := by
  unfold gJ nodeJ
  simp only
  rw [List.set_set, mix_set hs]
theorem gJ_full {k : Nat} {x : Nd} (h : g.nodes[k]? = some x) : gJ old nm g k x x.ins.length = gN old nm g (k + 1) := by
  unfold gJ gN nodeJ
  rw [mix_full, ← mix_set h]
  rfl
end
theorem ren_bounds {old nm : ByteArray} (h1 : old.size ≤ 1048576) (h2 : nm.size ≤ 1048576) {s : ByteArray} (h : s.size ≤ 1048576) : (ren1 old nm s).size ≤ 1048576 := by
  unfold ren1
  by_cases a : s = old
  · rw [if_pos a]; exact h2
  · rw [if_neg a]; exact h
theorem ren_reads {old nm : ByteArray} {g : Gr} (h2 : nm.size ≤ 1048576) (h1 : old.size ≤ 1048576) {w w0 : World} {B : Nat} {vn vi vo vt vn0 vi0 vo0 vt0 : Value} (h : GraphO w B (ren old nm g) vn vi vo vt) (h0 : GraphN w0 g vn0 vi0 vo0 vt0) : GraphN w (ren old nm g) vn vi vo vt := by
  obtain ⟨ns, hn, _⟩ := h.nodes
  obtain ⟨ds, hi⟩ := h.ins
  obtain ⟨es, ho⟩ := h.outs
  obtain ⟨ts, ht⟩ := h.inits
  refine ⟨?_, ?_, ?_, ?_⟩
  · refine RowO.reads hn (fun _ _ => rfl) (by show (g.nodes.map _).length ≤ _; rw [List.length_map]; exact h0.nodes.len) fun n s hm hd => ?_
    obtain ⟨n0, hn0, rfl⟩ := List.mem_map.1 (show n ∈ g.nodes.map (renN old nm) from hm)
    obtain ⟨b1, b2, b3, b4⟩ := node_bounds h0.nodes n0 hn0
    obtain ⟨us, hd⟩ := hd
    refine ⟨s.1, s.2, rfl, hd.reads ⟨?_, b1.len, b1.att⟩, b2, ren_bounds h1 h2 b3, fun s hs => ?_⟩
    · show (n0.ins.map _).length * 16 ≤ _; rw [List.length_map]; exact b1.ins
    · obtain ⟨t, ht, rfl⟩ := List.mem_map.1 (show s ∈ n0.ins.map (ren1 old nm) from hs)
      exact ren_bounds h1 h2 (b4 t ht)
  · refine RowO.reads hi (fun _ _ => rfl) (by show (g.ins.map _).length ≤ _; rw [List.length_map]; exact h0.ins.len) fun x d hm hd => ?_
    obtain ⟨y, hy, rfl⟩ := List.mem_map.1 (show x ∈ g.ins.map (renV old nm) from hm)
    obtain ⟨b1, b2, b3⟩ := value_bounds h0.ins y hy
    exact ⟨d, rfl, ren_bounds h1 h2 b1, b2, IntsIn.of_owns hd b3.1 b3.2⟩
  · refine RowO.reads ho (fun _ _ => rfl) (by show (g.outs.map _).length ≤ _; rw [List.length_map]; exact h0.outs.len) fun x d hm hd => ?_
    obtain ⟨y, hy, rfl⟩ := List.mem_map.1 (show x ∈ g.outs.map (renV old nm) from hm)
    obtain ⟨b1, b2, b3⟩ := value_bounds h0.outs y hy
    exact ⟨d, rfl, ren_bounds h1 h2 b1, b2, IntsIn.of_owns hd b3.1 b3.2⟩
  · refine RowO.reads ht (fun _ _ => rfl) (by show (g.inits.map _).length ≤ _; rw [List.length_map]; exact h0.inits.len) fun x s hm hd => ?_
    obtain ⟨y, hy, rfl⟩ := List.mem_map.1 (show x ∈ g.inits.map (renT old nm) from hm)
    obtain ⟨b1, b2, b3, b4⟩ := named_bounds h0.inits y hy
    exact ⟨s.1, s.2, rfl, ren_bounds h1 h2 b1, b2, IntsIn.of_owns hd.1 b3.1 b3.2, IntsIn.of_owns hd.2 b4.1 b4.2⟩

/-- What may be written, and what stands there. -/
theorem vals_cell {w : World} {B : Nat} {l : List Vl} {a : Option Addr} {n c : Nat} (h : ∃ ds, ValsO w B l (.slice a n c) ds) (hl : l.length = n) {k : Nat} {x : Vl} (hk : l[k]? = some x) : ∃ b, a = some ⟨b, 0, none⟩ ∧ b < w.heap.size ∧ w.cell? ⟨b, k * 3, none⟩ = some (.string x.name) ∧ (∀ j, w.frozen? ⟨b, j, none⟩ = false) ∧ B ≤ b := by
  obtain ⟨ds, h⟩ := h
  obtain ⟨b, cap, s, e, hs, _, hc⟩ := RowO.at' h (fun _ _ => rfl) hk
  rw [hl] at e
  obtain ⟨rfl, _, rfl⟩ := Value.slice.inj e
  obtain ⟨cur, hb⟩ := owns_boxN (by have := h.row; rwa [hl] at this)
  exact ⟨b, rfl, hb.lt, by simpa using hc 0 _ rfl, hb.frozen, (h.row.lt b rfl).1⟩
theorem named_cell {w : World} {B : Nat} {l : List Nm} {a : Option Addr} {n c : Nat} (h : ∃ ds, NamedsO w B l (.slice a n c) ds) (hl : l.length = n) {k : Nat} {x : Nm} (hk : l[k]? = some x) : ∃ b, a = some ⟨b, 0, none⟩ ∧ b < w.heap.size ∧ w.cell? ⟨b, k * 4, none⟩ = some (.string x.name) ∧ (∀ j, w.frozen? ⟨b, j, none⟩ = false) ∧ B ≤ b := by
  obtain ⟨ds, h⟩ := h
  obtain ⟨b, cap, s, e, hs, _, hc⟩ := RowO.at' h (fun _ _ => rfl) hk
  rw [hl] at e
  obtain ⟨rfl, _, rfl⟩ := Value.slice.inj e
  obtain ⟨cur, hb⟩ := owns_boxN (by have := h.row; rwa [hl] at this)
  exact ⟨b, rfl, hb.lt, by simpa using hc 0 _ rfl, hb.frozen, (h.row.lt b rfl).1⟩
theorem node_cell {w : World} {B : Nat} {l : List Nd} {a : Option Addr} {n c : Nat} {ns : List (Value × Value)} (h : NodesO w B l (.slice a n c) ns) (hl : l.length = n) {k : Nat} {x : Nd} (hk : l[k]? = some x) : ∃ b s, a = some ⟨b, 0, none⟩ ∧ b < w.heap.size ∧ ns[k]? = some s ∧ w.cell? ⟨b, k * 5 + 2, none⟩ = some s.1 ∧ w.cell? ⟨b, k * 5 + 3, none⟩ = some (.string x.out) ∧ (∀ j, w.frozen? ⟨b, j, none⟩ = false) ∧ B ≤ b ∧ w.ownsRow B 9 1 s.1 x.ins.length (x.ins.map Value.string) := by
  obtain ⟨b, cap, s, e, hs, ⟨us, q⟩, hc⟩ := RowO.at' h (fun _ _ => rfl) hk
  rw [hl] at e
  obtain ⟨rfl, _, rfl⟩ := Value.slice.inj e
  obtain ⟨cur, hb⟩ := owns_boxN (by have := h.row; rwa [hl] at this)
  exact ⟨b, s, rfl, hb.lt, hs, hc 2 _ rfl, hc 3 _ rfl, hb.frozen, (h.row.lt b rfl).1, q.ins⟩
theorem strs_cell {w : World} {B : Nat} {l : List ByteArray} {a : Option Addr} {n c : Nat} (h : w.ownsRow B 9 1 (.slice a n c) n (l.map Value.string)) {k : Nat} {x : ByteArray} (hk : l[k]? = some x) : ∃ b, a = some ⟨b, 0, none⟩ ∧ b < w.heap.size ∧ w.cell? ⟨b, k, none⟩ = some (.string x) ∧ (∀ j, w.frozen? ⟨b, j, none⟩ = false) ∧ B ≤ b := by
  have hl : l.length = n := by have := h.1; simpa using this
  have hkl := (List.getElem?_eq_some_iff.1 hk).1
  obtain ⟨b, cap, e, _, _⟩ := h.form (by omega)
  obtain ⟨rfl, _, rfl⟩ := Value.slice.inj e
  obtain ⟨cur, hb⟩ := owns_boxN h
  refine ⟨b, rfl, hb.lt, ?_, hb.frozen, (h.lt b rfl).1⟩
  have := h.cells (g := b) rfl k (.string x) (by rw [List.getElem?_map, hk]; rfl)
  rw [add_off] at this
  simpa using this

theorem not_allR {g : Gr} {s : ByteArray} (h : hasS (allN g) s = false) : s ∉ allN g := fun c => by
  have := hasS_iff.2 c
  rw [h] at this; cases this
theorem GraphO.below {w w' : World} {B : Nat} {g : Gr} {vn vi vo vt : Value} (h : GraphO w B g vn vi vo vt) (hB : Below w.heap.size w w') : GraphO w' B g vn vi vo vt := h.keep (keep_below hB)

attribute [local irreducible] orderE orderL work hasS allN allLen gI gO gT gN gJ nodeJ ren ren1

set_option maxRecDepth 100000 in
set_option maxHeartbeats 4000000 in
theorem renlaw_any {w : World} {v : Value} {g : Gr} (old nm : ByteArray) (h : GraphV w v g) (hM : allLen g ≤ 1048576) (hso : old.size ≤ 1048576) (hsn : nm.size ≤ 1048576) (hG : Glob w) :
    Calls Tryd.prog 6 #[v, .string old, .string nm] w fun e w' => e = .returned (.bool true) ∧ Below w.heap.size w w' := by
  have HAl := Lib.hid (fun (W : World) (vi : Value) (h : GraphV W vi g) => gall_any h hM)
  have HO := Lib.hid (fun (W : World) (vi : Value) (h : GraphV W vi g) (hG : Glob W) => order_any h hG)
  have HO2 := Lib.hid (fun (W : World) (vi : Value) (h : GraphV W vi (ren old nm g)) (hG : Glob W) => order_any h hG)
  have HC := Lib.hid (fun (W : World) (vi : Value) (h : GraphV W vi g) => gcopy_any h)
  have HL := Lib.hid (fun (W : World) (hG : Glob W) => glive_any hG)
  have HRd := Lib.hid (fun (w w0 : World) (B : Nat) (vn vi vo vt vn0 vi0 vo0 vt0 : Value) (h : GraphO w B (ren old nm g) vn vi vo vt) (h0 : GraphN w0 g vn0 vi0 vo0 vt0) => ren_reads hsn hso h h0)
  clear hso hsn
  obtain ⟨vn, vi, vo, vt, rfl, hg⟩ := h
  obtain ⟨an, cn, rfl⟩ := hg.nodes.form
  obtain ⟨ai, ci, rfl⟩ := hg.ins.form
  obtain ⟨ao, co, rfl⟩ := hg.outs.form
  obtain ⟨at', ct, rfl⟩ := hg.inits.form
  have hln := hg.nodes.len
  have hli := hg.ins.len
  have hlo := hg.outs.len
  have hlt2 := hg.inits.len
  have HN := Lib.hid hg
  have HGl := Lib.hid hG
  clear hg hG
  unfold Gr.val
  go_enter Tryd.func6, Tryd.ntmps6
  go_wp2_with fail
  have hB1 : Hid (Below w.heap.size w (w.alloc (Obj.cells #[Value.string g.name, .slice an g.nodes.length cn, .slice ai g.ins.length ci, .slice ao g.outs.length co, .slice at' g.inits.length ct] 26))) := Lib.hid ((Below.refl _ w).alloc (Nat.le_refl _) _)
  have hA1 := Lib.hid (BoxN.new w #[Value.string g.name, .slice an g.nodes.length cn, .slice ai g.ins.length ci, .slice ao g.outs.length co, .slice at' g.inits.length ct] 26)
  generalize w.alloc _ = W1 at hB1 hA1 ⊢
  have hGV : Hid (∀ W, Below W1.heap.size W1 W → GraphV W (.agg #[Value.string g.name, .slice an g.nodes.length cn, .slice ai g.ins.length ci, .slice ao g.outs.length co, .slice at' g.inits.length ct]) g) := Lib.hid fun W hW => ⟨_, _, _, _, rfl, HN.out.below (hB1.out.trans (hW.mono hB1.out.size))⟩
  refine (HAl.out _ _ (hGV.out W1 (Below.refl _ _))).mono ?_
  rintro e w3 ⟨lv, rfl, hl3, B3⟩
  have HLen : Hid ((allN g).length = allLen g) := Lib.hid (by have := hl3.1; simpa using this)
  have HS3 : Hid (StrsIn w3 lv (allN g)) := Lib.hid (StrsIn.own hl3 HLen.out (by omega))
  obtain ⟨al, cl, rfl⟩ := owns_form hl3
  have HW3 : Hid (Below W1.heap.size W1 w3) := Lib.hid B3
  clear hl3 B3 HAl
  go_wp2_with fail
  have hlive : ∀ (W : World), Hid (Below w.heap.size w W) → Hid (Calls Tryd.prog 14 #[] W fun e w' => e = .returned (.bool true) ∧ Below w.heap.size w w') := fun W hB => Lib.hid ((HL.out W (HGl.out.below hB.out)).mono fun e w' h => ⟨h.1, hB.out.trans (h.2.mono hB.out.size)⟩)
  have HLive := Lib.hid hlive
  clear hlive HL
  go_loopw [8] (fun i wr => ∃ (k : Nat), k ≤ allLen g ∧ i = .int .i64 (k : Int) ∧ Hid (hasS ((allN g).take k) nm = false) ∧ Hid (Below w3.heap.size w3 wr)) (fun i _ => allLen g - (intOf i).toNat)
  case atStart => exact ⟨0, Nat.zero_le _, rfl, Lib.hid (by unfold hasS; simp), Lib.hid (Below.refl _ _)⟩
  case round =>
    obtain ⟨k, hk, rfl, hT, hW⟩ := hrel
    have hW1 := Lib.hid (HW3.out.trans (hW.out.mono HW3.out.size))
    have hBw := Lib.hid (hB1.out.trans (hW1.out.mono hB1.out.size))
    by_cases hkl : k < allLen g
    · have hki : (k : Int) < (allLen g : Int) := by omega
      obtain ⟨s, hs⟩ : ∃ s, (allN g)[k]? = some s := ⟨_, List.getElem?_eq_getElem (by rw [HLen.out]; exact hkl)⟩
      obtain ⟨b, off, cap, hv, hb, hr⟩ := HS3.out.rows k s hs
      rw [HLen.out] at hv
      obtain ⟨rfl, _, rfl⟩ := Value.slice.inj hv
      have c0 := (hW.out.cell (p := ⟨b, off + k, none⟩) hb).trans (hr k s hs)
      have HSs := Lib.hid hs
      clear hv hr hs
      by_cases hx : s.toList = nm.toList
      · have hxb : (s.toList == nm.toList) = true := by simpa using hx
        go_wp2_with fail
        refine (HLive.out _ hBw).out.mono ?_
        rintro e w7 ⟨rfl, B7⟩
        have HB7 := Lib.hid B7
        clear B7
        go_wp2
        go_ret
        exact ⟨rfl, HB7.out⟩
      · have hxb : (s.toList == nm.toList) = false := by simpa using hx
        have e := Lib.hid (hasS_next hT.out HSs.out (str_ne hx))
        go_wp2_with fail
        go_roundw
        case rel => exact ⟨k + 1, by omega, by go_num, e, hW⟩
        case measure => simp [intOf]; omega
    · have hki : ¬ (k : Int) < (allLen g : Int) := by omega
      obtain rfl : k = allLen g := by omega
      have HNo : Hid (nm ∉ allN g) := Lib.hid (not_allR (by have := hT.out; rwa [← HLen.out, List.take_length] at this))
      clear hT hki hkl hk HS3
      by_cases hn0 : nm.toList = []
      · have hnb : (nm.toList == []) = true := by simpa using hn0
        go_wp2_with fail
        refine (HLive.out _ hBw).out.mono ?_
        rintro e w7 ⟨rfl, B7⟩
        have HB7 := Lib.hid B7
        clear B7
        go_wp2
        go_ret
        exact ⟨rfl, HB7.out⟩
      by_cases ho0 : old.toList = []
      · have hnb : (old.toList == []) = true := by simpa using ho0
        go_wp2_with fail
        refine (HLive.out _ hBw).out.mono ?_
        rintro e w7 ⟨rfl, B7⟩
        have HB7 := Lib.hid B7
        clear B7
        go_wp2
        go_ret
        exact ⟨rfl, HB7.out⟩
      have HP : Hid (orderE (ren old nm g) = orderE g ∧ orderL (ren old nm g) = orderL g) := Lib.hid (ren_plain HNo.out (fun c => hn0 (by rw [c]; exact toList_nil')) (fun c => ho0 (by rw [c]; exact toList_nil')))
      obtain ⟨k0, k1, k2, k3, k4⟩ := (hA1.out.below' hW1.out).fiveG
      have hnb1 : (nm.toList == []) = false := by simpa using hn0
      have hnb2 : (old.toList == []) = false := by simpa using ho0
      go_wp2_with fail
      clear k0 k1 k2 k3 k4 hnb1 hnb2
      generalize hwq : wr = wc at *
      clear hwq hn0 ho0
      refine (HC.out _ _ (hGV.out wc hW1.out)).mono ?_
      rintro e w6 ⟨wn, wi, wo, wt, rfl, ho, B6⟩
      have HG6 : Hid (GraphN w6 g wn wi wo wt) := Lib.hid (ho.reads HN.out)
      have HO6 := Lib.hid ho
      have HB6 : Hid (Below wc.heap.size wc w6) := Lib.hid B6
      clear ho B6
      obtain ⟨an2, cn2, rfl⟩ := HG6.out.nodes.form
      obtain ⟨ai2, ci2, rfl⟩ := HG6.out.ins.form
      obtain ⟨ao2, co2, rfl⟩ := HG6.out.outs.form
      obtain ⟨at2, ct2, rfl⟩ := HG6.out.inits.form
      unfold Gr.val
      have HX7 := Lib.hid (BoxN.new w6 #[Value.string g.name, .slice an2 g.nodes.length cn2, .slice ai2 g.ins.length ci2, .slice ao2 g.outs.length co2, .slice at2 g.inits.length ct2] 26)
      have HB7 : Hid (Below wc.heap.size wc (w6.alloc (.cells #[Value.string g.name, .slice an2 g.nodes.length cn2, .slice ai2 g.ins.length ci2, .slice ao2 g.outs.length co2, .slice at2 g.inits.length ct2] 26))) := Lib.hid (HB6.out.alloc HB6.out.size _)
      have HE : Hid (GraphO (w6.alloc (.cells #[Value.string g.name, .slice an2 g.nodes.length cn2, .slice ai2 g.ins.length ci2, .slice ao2 g.outs.length co2, .slice at2 g.inits.length ct2] 26)) wc.heap.size (gI old nm g 0) (.slice an2 g.nodes.length cn2) (.slice ai2 g.ins.length ci2) (.slice ao2 g.outs.length co2) (.slice at2 g.inits.length ct2)) := Lib.hid (by rw [gI_zero]; exact HO6.out.below ((Below.refl _ _).alloc (Nat.le_refl _) _))
      go_wp2_with fail
      generalize w6.alloc _ = W7 at HX7 HB7 HE ⊢
      have hT6 : wc.heap.size ≤ w6.heap.size := HB6.out.size
      clear HO6 HB6 HG6
      go_loopw [10] (fun i wr => ∃ k : Nat, k ≤ g.ins.length ∧ i = .int .i64 (k : Int) ∧ Hid (GraphO wr wc.heap.size (gI old nm g k) (.slice an2 g.nodes.length cn2) (.slice ai2 g.ins.length ci2) (.slice ao2 g.outs.length co2) (.slice at2 g.inits.length ct2)) ∧ Hid (BoxN wr w6.heap.size #[Value.string g.name, .slice an2 g.nodes.length cn2, .slice ai2 g.ins.length ci2, .slice ao2 g.outs.length co2, .slice at2 g.inits.length ct2] 26) ∧ Hid (Below wc.heap.size wc wr)) (fun i _ => g.ins.length - (intOf i).toNat)
      case atStart => exact ⟨0, Nat.zero_le _, rfl, HE, HX7, HB7⟩
      case round =>
        clear HE HX7 HB7
        obtain ⟨k, hk, rfl, hO, hX, hW⟩ := hrel
        have q1 := hX.out.fiveG.2.2.1
        by_cases hkl : k < g.ins.length
        · have hki : (k : Int) < (g.ins.length : Int) := by omega
          obtain ⟨x, hx⟩ : ∃ x, g.ins[k]? = some x := ⟨_, List.getElem?_eq_getElem hkl⟩
          have hmx : (gI old nm g k).ins[k]? = some x := by unfold gI; exact mix_at hx
          have hml : (gI old nm g k).ins.length = g.ins.length := by unfold gI; exact mix_len _ _ _
          obtain ⟨b, rfl, hb, c0, hf, hBb⟩ := vals_cell hO.out.ins hml hmx
          have HMX := Lib.hid hmx
          have HML := Lib.hid hml
          have HSt := Lib.hid (gI_step (old := old) (nm := nm) hx)
          have HF := Lib.hid hf
          have HS : Hid (∀ W', Below wr.heap.size wr W' → W'.cell? ⟨w6.heap.size, 2, none⟩ = some (.slice (some ⟨b, 0, none⟩) g.ins.length ci2) ∧ W'.cell? ⟨b, k * 3, none⟩ = some (.string x.name)) := Lib.hid fun W' h => ⟨(hX.out.below' h).fiveG.2.2.1, (h.cell (p := ⟨b, k * 3, none⟩) hb).trans c0⟩
          clear hx hmx hml c0 hf
          go_wp2_with fail
          refine wp_region_plan 12 [0, 1, 2, 3, 4, 5, 6, 7, 8, 9, 10, 11] (fun W' => Below wr.heap.size wr W') (by kernel_rfl) (by kernel_rfl) (fun _ d _ _ _ h => by cases d <;> exact h) (Below.refl _ _).drew ?_
          have B0 : Hid (Below wr.heap.size wr wr.drew) := Lib.hid (Below.refl _ _).drew
          generalize wr.drew = wD at B0 ⊢
          repeat
            refine plan_read (v := ?_) rfl rfl (Or.inl ⟨by rfl, ?_⟩) ?_
            rotate_left
            · intro w' hSw
              obtain ⟨s0, s1⟩ := HS.out w' hSw
              go_simp
              try with_reducible rfl
            try simp only [Act.put, List.getElem_toArray, List.getElem_cons_zero, List.getElem_cons_succ, List.setIfInBounds_toArray, List.set_cons_zero, List.set_cons_succ]
          refine plan_act rfl rfl (fun K' hK => ?_)
          go_simp
          refine (turned_any x.name old nm wD).mono ?_
          rintro e w8 ⟨rfl, rfl⟩
          refine hK.out _ _ B0.out ?_
          clear hK K' q1
          refine plan_tail rfl ?_
          simp only [List.toList_toArray, List.drop_succ_cons, List.drop_zero]
          have hO8 := hO.out.below B0.out
          have HO9 : Hid (GraphO (wD.setCell ⟨b, k * 3, none⟩ (.string (ren1 old nm x.name))) wc.heap.size (gI old nm g (k + 1)) (.slice an2 g.nodes.length cn2) (.slice (some ⟨b, 0, none⟩) g.ins.length ci2) (.slice ao2 g.outs.length co2) (.slice at2 g.inits.length ct2)) := Lib.hid (by
            have h9 := setIns (ren1 old nm x.name) hO8 HML.out HMX.out
            rwa [HSt.out] at h9)
          have hX8 := hX.out.below' B0.out
          have hne : w6.heap.size ≠ b := fun c => by
            have h1 := hX8
            obtain ⟨cur, h2⟩ : ∃ cur, BoxN wD b cur 46 := by
              obtain ⟨ds, hds⟩ := hO8.ins
              exact owns_boxN (by have := hds.row; rwa [HML.out] at this)
            rw [c] at h1
            have h3 := (show wD.heap[b]? = _ from h1).symm.trans h2
            simp only [Option.some.injEq, Obj.cells.injEq] at h3
            exact absurd h3.2.1 (by decide)
          have HX9 : Hid (BoxN (wD.setCell ⟨b, k * 3, none⟩ (.string (ren1 old nm x.name))) w6.heap.size #[Value.string g.name, .slice an2 g.nodes.length cn2, .slice (some ⟨b, 0, none⟩) g.ins.length ci2, .slice ao2 g.outs.length co2, .slice at2 g.inits.length ct2] 26) := Lib.hid ((Below.heap_setCell _ _ _ _ hne).trans hX8)
          have HW9 : Hid (Below wc.heap.size wc (wD.setCell ⟨b, k * 3, none⟩ (.string (ren1 old nm x.name)))) := Lib.hid ((hW.out.trans (B0.out.mono hW.out.size)).setCell (p := ⟨b, k * 3, none⟩) hBb _)
          obtain ⟨_, s1⟩ := HS.out wD B0.out
          have f1 : wD.frozen? ⟨b, k * 3, none⟩ = false := by
            obtain ⟨ds, hds⟩ := hO8.ins
            obtain ⟨cur, h2⟩ := owns_boxN (by have := hds.row; rwa [HML.out] at this)
            exact h2.frozen _
          clear hO8 hX8 hne
          go_wp2_with fail
          go_roundw
          case rel => exact ⟨k + 1, by omega, by go_num, HO9, HX9, HW9⟩
          case measure => simp [intOf]; omega
        · have hki : ¬ (k : Int) < (g.ins.length : Int) := by omega
          obtain rfl : k = g.ins.length := by omega
          have HE : Hid (GraphO wr wc.heap.size (gO old nm g 0) (.slice an2 g.nodes.length cn2) (.slice ai2 g.ins.length ci2) (.slice ao2 g.outs.length co2) (.slice at2 g.inits.length ct2)) := Lib.hid (by have := hO.out; rwa [gI_full] at this)
          go_wp2_with fail
          clear q1 hk hki hkl hO
          generalize hwq : wr = V at *
          clear hwq
          go_loopw [11] (fun i wr => ∃ k : Nat, k ≤ g.outs.length ∧ i = .int .i64 (k : Int) ∧ Hid (GraphO wr wc.heap.size (gO old nm g k) (.slice an2 g.nodes.length cn2) (.slice ai2 g.ins.length ci2) (.slice ao2 g.outs.length co2) (.slice at2 g.inits.length ct2)) ∧ Hid (BoxN wr w6.heap.size #[Value.string g.name, .slice an2 g.nodes.length cn2, .slice ai2 g.ins.length ci2, .slice ao2 g.outs.length co2, .slice at2 g.inits.length ct2] 26) ∧ Hid (Below wc.heap.size wc wr)) (fun i _ => g.outs.length - (intOf i).toNat)
          case atStart => exact ⟨0, Nat.zero_le _, rfl, HE, hX, hW⟩
          case round =>
            clear HE hX hW
            obtain ⟨k, hk, rfl, hO, hX, hW⟩ := hrel
            have q1 := hX.out.fiveG.2.2.2.1
            by_cases hkl : k < g.outs.length
            · have hki : (k : Int) < (g.outs.length : Int) := by omega
              obtain ⟨x, hx⟩ : ∃ x, g.outs[k]? = some x := ⟨_, List.getElem?_eq_getElem hkl⟩
              have hmx : (gO old nm g k).outs[k]? = some x := by unfold gO; exact mix_at hx
              have hml : (gO old nm g k).outs.length = g.outs.length := by unfold gO; exact mix_len _ _ _
              obtain ⟨b, rfl, hb, c0, hf, hBb⟩ := vals_cell hO.out.outs hml hmx
              have HMX := Lib.hid hmx
              have HML := Lib.hid hml
              have HSt := Lib.hid (gO_step (old := old) (nm := nm) hx)
              have HF := Lib.hid hf
              have HS : Hid (∀ W', Below wr.heap.size wr W' → W'.cell? ⟨w6.heap.size, 3, none⟩ = some (.slice (some ⟨b, 0, none⟩) g.outs.length co2) ∧ W'.cell? ⟨b, k * 3, none⟩ = some (.string x.name)) := Lib.hid fun W' h => ⟨(hX.out.below' h).fiveG.2.2.2.1, (h.cell (p := ⟨b, k * 3, none⟩) hb).trans c0⟩
              clear hx hmx hml c0 hf
              go_wp2_with fail
              refine wp_region_plan 12 [0, 1, 2, 3, 4, 5, 6, 7, 8, 9, 10, 11] (fun W' => Below wr.heap.size wr W') (by kernel_rfl) (by kernel_rfl) (fun _ d _ _ _ h => by cases d <;> exact h) (Below.refl _ _).drew ?_
              have B0 : Hid (Below wr.heap.size wr wr.drew) := Lib.hid (Below.refl _ _).drew
              generalize wr.drew = wD at B0 ⊢
              repeat
                refine plan_read (v := ?_) rfl rfl (Or.inl ⟨by rfl, ?_⟩) ?_
                rotate_left
                · intro w' hSw
                  obtain ⟨s0, s1⟩ := HS.out w' hSw
                  go_simp
                  try with_reducible rfl
                try simp only [Act.put, List.getElem_toArray, List.getElem_cons_zero, List.getElem_cons_succ, List.setIfInBounds_toArray, List.set_cons_zero, List.set_cons_succ]
              refine plan_act rfl rfl (fun K' hK => ?_)
              go_simp
              refine (turned_any x.name old nm wD).mono ?_
              rintro e w8 ⟨rfl, rfl⟩
              refine hK.out _ _ B0.out ?_
              clear hK K' q1
              refine plan_tail rfl ?_
              simp only [List.toList_toArray, List.drop_succ_cons, List.drop_zero]
              have hO8 := hO.out.below B0.out
              have HO9 : Hid (GraphO (wD.setCell ⟨b, k * 3, none⟩ (.string (ren1 old nm x.name))) wc.heap.size (gO old nm g (k + 1)) (.slice an2 g.nodes.length cn2) (.slice ai2 g.ins.length ci2) (.slice (some ⟨b, 0, none⟩) g.outs.length co2) (.slice at2 g.inits.length ct2)) := Lib.hid (by
                have h9 := setOuts (ren1 old nm x.name) hO8 HML.out HMX.out
                rwa [HSt.out] at h9)
              have hX8 := hX.out.below' B0.out
              have hne : w6.heap.size ≠ b := fun c => by
                have h1 := hX8
                obtain ⟨cur, h2⟩ : ∃ cur, BoxN wD b cur 46 := by
                  obtain ⟨ds, hds⟩ := hO8.outs
                  exact owns_boxN (by have := hds.row; rwa [HML.out] at this)
                rw [c] at h1
                have h3 := (show wD.heap[b]? = _ from h1).symm.trans h2
                simp only [Option.some.injEq, Obj.cells.injEq] at h3
                exact absurd h3.2.1 (by decide)
              have HX9 : Hid (BoxN (wD.setCell ⟨b, k * 3, none⟩ (.string (ren1 old nm x.name))) w6.heap.size #[Value.string g.name, .slice an2 g.nodes.length cn2, .slice ai2 g.ins.length ci2, .slice (some ⟨b, 0, none⟩) g.outs.length co2, .slice at2 g.inits.length ct2] 26) := Lib.hid ((Below.heap_setCell _ _ _ _ hne).trans hX8)
              have HW9 : Hid (Below wc.heap.size wc (wD.setCell ⟨b, k * 3, none⟩ (.string (ren1 old nm x.name)))) := Lib.hid ((hW.out.trans (B0.out.mono hW.out.size)).setCell (p := ⟨b, k * 3, none⟩) hBb _)
              obtain ⟨_, s1⟩ := HS.out wD B0.out
              have f1 : wD.frozen? ⟨b, k * 3, none⟩ = false := by
                obtain ⟨ds, hds⟩ := hO8.outs
                obtain ⟨cur, h2⟩ := owns_boxN (by have := hds.row; rwa [HML.out] at this)
                exact h2.frozen _
              clear hO8 hX8 hne
              go_wp2_with fail
              go_roundw
              case rel => exact ⟨k + 1, by omega, by go_num, HO9, HX9, HW9⟩
              case measure => simp [intOf]; omega
            · have hki : ¬ (k : Int) < (g.outs.length : Int) := by omega
              obtain rfl : k = g.outs.length := by omega
              have HE : Hid (GraphO wr wc.heap.size (gT old nm g 0) (.slice an2 g.nodes.length cn2) (.slice ai2 g.ins.length ci2) (.slice ao2 g.outs.length co2) (.slice at2 g.inits.length ct2)) := Lib.hid (by have := hO.out; rwa [gO_full] at this)
              go_wp2_with fail
              clear q1 hk hki hkl hO
              generalize hwq : wr = V at *
              clear hwq
              go_loopw [12] (fun i wr => ∃ k : Nat, k ≤ g.inits.length ∧ i = .int .i64 (k : Int) ∧ Hid (GraphO wr wc.heap.size (gT old nm g k) (.slice an2 g.nodes.length cn2) (.slice ai2 g.ins.length ci2) (.slice ao2 g.outs.length co2) (.slice at2 g.inits.length ct2)) ∧ Hid (BoxN wr w6.heap.size #[Value.string g.name, .slice an2 g.nodes.length cn2, .slice ai2 g.ins.length ci2, .slice ao2 g.outs.length co2, .slice at2 g.inits.length ct2] 26) ∧ Hid (Below wc.heap.size wc wr)) (fun i _ => g.inits.length - (intOf i).toNat)
              case atStart => exact ⟨0, Nat.zero_le _, rfl, HE, hX, hW⟩
              case round =>
                clear HE hX hW
                obtain ⟨k, hk, rfl, hO, hX, hW⟩ := hrel
                have q1 := hX.out.fiveG.2.2.2.2
                by_cases hkl : k < g.inits.length
                · have hki : (k : Int) < (g.inits.length : Int) := by omega
                  obtain ⟨x, hx⟩ : ∃ x, g.inits[k]? = some x := ⟨_, List.getElem?_eq_getElem hkl⟩
                  have hmx : (gT old nm g k).inits[k]? = some x := by unfold gT; exact mix_at hx
                  have hml : (gT old nm g k).inits.length = g.inits.length := by unfold gT; exact mix_len _ _ _
                  obtain ⟨b, rfl, hb, c0, hf, hBb⟩ := named_cell hO.out.inits hml hmx
                  have HMX := Lib.hid hmx
                  have HML := Lib.hid hml
                  have HSt := Lib.hid (gT_step (old := old) (nm := nm) hx)
                  have HF := Lib.hid hf
                  have HS : Hid (∀ W', Below wr.heap.size wr W' → W'.cell? ⟨w6.heap.size, 4, none⟩ = some (.slice (some ⟨b, 0, none⟩) g.inits.length ct2) ∧ W'.cell? ⟨b, k * 4, none⟩ = some (.string x.name)) := Lib.hid fun W' h => ⟨(hX.out.below' h).fiveG.2.2.2.2, (h.cell (p := ⟨b, k * 4, none⟩) hb).trans c0⟩
                  clear hx hmx hml c0 hf
                  go_wp2_with fail
                  refine wp_region_plan 12 [0, 1, 2, 3, 4, 5, 6, 7, 8, 9, 10, 11] (fun W' => Below wr.heap.size wr W') (by kernel_rfl) (by kernel_rfl) (fun _ d _ _ _ h => by cases d <;> exact h) (Below.refl _ _).drew ?_
                  have B0 : Hid (Below wr.heap.size wr wr.drew) := Lib.hid (Below.refl _ _).drew
                  generalize wr.drew = wD at B0 ⊢
                  repeat
                    refine plan_read (v := ?_) rfl rfl (Or.inl ⟨by rfl, ?_⟩) ?_
                    rotate_left
                    · intro w' hSw
                      obtain ⟨s0, s1⟩ := HS.out w' hSw
                      go_simp
                      try with_reducible rfl
                    try simp only [Act.put, List.getElem_toArray, List.getElem_cons_zero, List.getElem_cons_succ, List.setIfInBounds_toArray, List.set_cons_zero, List.set_cons_succ]
                  refine plan_act rfl rfl (fun K' hK => ?_)
                  go_simp
                  refine (turned_any x.name old nm wD).mono ?_
                  rintro e w8 ⟨rfl, rfl⟩
                  refine hK.out _ _ B0.out ?_
                  clear hK K' q1
                  refine plan_tail rfl ?_
                  simp only [List.toList_toArray, List.drop_succ_cons, List.drop_zero]
                  have hO8 := hO.out.below B0.out
                  have HO9 : Hid (GraphO (wD.setCell ⟨b, k * 4, none⟩ (.string (ren1 old nm x.name))) wc.heap.size (gT old nm g (k + 1)) (.slice an2 g.nodes.length cn2) (.slice ai2 g.ins.length ci2) (.slice ao2 g.outs.length co2) (.slice (some ⟨b, 0, none⟩) g.inits.length ct2)) := Lib.hid (by
                    have h9 := setInits (ren1 old nm x.name) hO8 HML.out HMX.out
                    rwa [HSt.out] at h9)
                  have hX8 := hX.out.below' B0.out
                  have hne : w6.heap.size ≠ b := fun c => by
                    have h1 := hX8
                    obtain ⟨cur, h2⟩ : ∃ cur, BoxN wD b cur 51 := by
                      obtain ⟨ds, hds⟩ := hO8.inits
                      exact owns_boxN (by have := hds.row; rwa [HML.out] at this)
                    rw [c] at h1
                    have h3 := (show wD.heap[b]? = _ from h1).symm.trans h2
                    simp only [Option.some.injEq, Obj.cells.injEq] at h3
                    exact absurd h3.2.1 (by decide)
                  have HX9 : Hid (BoxN (wD.setCell ⟨b, k * 4, none⟩ (.string (ren1 old nm x.name))) w6.heap.size #[Value.string g.name, .slice an2 g.nodes.length cn2, .slice ai2 g.ins.length ci2, .slice ao2 g.outs.length co2, .slice (some ⟨b, 0, none⟩) g.inits.length ct2] 26) := Lib.hid ((Below.heap_setCell _ _ _ _ hne).trans hX8)
                  have HW9 : Hid (Below wc.heap.size wc (wD.setCell ⟨b, k * 4, none⟩ (.string (ren1 old nm x.name)))) := Lib.hid ((hW.out.trans (B0.out.mono hW.out.size)).setCell (p := ⟨b, k * 4, none⟩) hBb _)
                  obtain ⟨_, s1⟩ := HS.out wD B0.out
                  have f1 : wD.frozen? ⟨b, k * 4, none⟩ = false := by
                    obtain ⟨ds, hds⟩ := hO8.inits
                    obtain ⟨cur, h2⟩ := owns_boxN (by have := hds.row; rwa [HML.out] at this)
                    exact h2.frozen _
                  clear hO8 hX8 hne
                  go_wp2_with fail
                  go_roundw
                  case rel => exact ⟨k + 1, by omega, by go_num, HO9, HX9, HW9⟩
                  case measure => simp [intOf]; omega
                · have hki : ¬ (k : Int) < (g.inits.length : Int) := by omega
                  obtain rfl : k = g.inits.length := by omega
                  have HE : Hid (GraphO wr wc.heap.size (gN old nm g 0) (.slice an2 g.nodes.length cn2) (.slice ai2 g.ins.length ci2) (.slice ao2 g.outs.length co2) (.slice at2 g.inits.length ct2)) := Lib.hid (by have := hO.out; rwa [gT_full] at this)
                  go_wp2_with fail
                  clear q1 hk hki hkl hO
                  generalize hwq : wr = V at *
                  clear hwq
                  go_loopw [13] (fun i wr => ∃ k : Nat, k ≤ g.nodes.length ∧ i = .int .i64 (k : Int) ∧ Hid (GraphO wr wc.heap.size (gN old nm g k) (.slice an2 g.nodes.length cn2) (.slice ai2 g.ins.length ci2) (.slice ao2 g.outs.length co2) (.slice at2 g.inits.length ct2)) ∧ Hid (BoxN wr w6.heap.size #[Value.string g.name, .slice an2 g.nodes.length cn2, .slice ai2 g.ins.length ci2, .slice ao2 g.outs.length co2, .slice at2 g.inits.length ct2] 26) ∧ Hid (Below wc.heap.size wc wr)) (fun i _ => g.nodes.length - (intOf i).toNat)
                  case atStart => exact ⟨0, Nat.zero_le _, rfl, HE, hX, hW⟩
                  case round =>
                    clear HE hX hW
                    obtain ⟨k, hk, rfl, hO, hX, hW⟩ := hrel
                    have q1 := hX.out.fiveG.2.1
                    by_cases hkl : k < g.nodes.length
                    · have hki : (k : Int) < (g.nodes.length : Int) := by omega
                      obtain ⟨x, hx⟩ : ∃ x, g.nodes[k]? = some x := ⟨_, List.getElem?_eq_getElem hkl⟩
                      have hmx : (gN old nm g k).nodes[k]? = some x := by unfold gN; exact mix_at hx
                      have hml : (gN old nm g k).nodes.length = g.nodes.length := by unfold gN; exact mix_len _ _ _
                      have hxl : x.ins.length * 16 ≤ 140737488351232 := (node_bounds HN.out.nodes x (List.mem_of_getElem? hx)).1.ins
                      obtain ⟨ns0, hns0, _⟩ := hO.out.nodes
                      obtain ⟨b, sv, rfl, hb, _, _, c0, _, hBb, _⟩ := node_cell hns0 hml hmx
                      have HX := Lib.hid hx
                      have HMX := Lib.hid hmx
                      have HML := Lib.hid hml
                      have HS : Hid (∀ W', Below wr.heap.size wr W' → W'.cell? ⟨w6.heap.size, 1, none⟩ = some (.slice (some ⟨b, 0, none⟩) g.nodes.length cn2) ∧ W'.cell? ⟨b, k * 5 + 3, none⟩ = some (.string x.out)) := Lib.hid fun W' h => ⟨(hX.out.below' h).fiveG.2.1, (h.cell (p := ⟨b, k * 5 + 3, none⟩) hb).trans c0⟩
                      clear hx hmx hml c0 hns0
                      go_wp2_with fail
                      refine wp_region_plan 12 [0, 1, 2, 3, 4, 5, 6, 7, 8, 9, 10, 11] (fun W' => Below wr.heap.size wr W') (by kernel_rfl) (by kernel_rfl) (fun _ d _ _ _ h => by cases d <;> exact h) (Below.refl _ _).drew ?_
                      have B0 : Hid (Below wr.heap.size wr wr.drew) := Lib.hid (Below.refl _ _).drew
                      generalize wr.drew = wD at B0 ⊢
                      repeat
                        refine plan_read (v := ?_) rfl rfl (Or.inl ⟨by rfl, ?_⟩) ?_
                        rotate_left
                        · intro w' hSw
                          obtain ⟨s0, s1⟩ := HS.out w' hSw
                          go_simp
                          try with_reducible rfl
                        try simp only [Act.put, List.getElem_toArray, List.getElem_cons_zero, List.getElem_cons_succ, List.setIfInBounds_toArray, List.set_cons_zero, List.set_cons_succ]
                      refine plan_act rfl rfl (fun K' hK => ?_)
                      go_simp
                      refine (turned_any x.out old nm wD).mono ?_
                      rintro e w8 ⟨rfl, rfl⟩
                      refine hK.out _ _ B0.out ?_
                      clear hK K' q1
                      refine plan_tail rfl ?_
                      simp only [List.toList_toArray, List.drop_succ_cons, List.drop_zero]
                      have hO8 := hO.out.below B0.out
                      have HO9 : Hid (GraphO (wD.setCell ⟨b, k * 5 + 3, none⟩ (.string (ren1 old nm x.out))) wc.heap.size (gJ old nm g k x 0) (.slice (some ⟨b, 0, none⟩) g.nodes.length cn2) (.slice ai2 g.ins.length ci2) (.slice ao2 g.outs.length co2) (.slice at2 g.inits.length ct2)) := Lib.hid (by
                        have h9 := setNodeOut (ren1 old nm x.out) hO8 HML.out HMX.out
                        rwa [gN_out] at h9)
                      obtain ⟨cur, hcur⟩ : ∃ cur, BoxN wD b cur 41 := by
                        obtain ⟨ns, hns, _⟩ := hO8.nodes
                        exact owns_boxN (by have := hns.row; rwa [HML.out] at this)
                      have hX8 := hX.out.below' B0.out
                      have hne : w6.heap.size ≠ b := fun c => by
                        have h1 := hX8
                        rw [c] at h1
                        have h3 := (show wD.heap[b]? = _ from h1).symm.trans hcur
                        simp only [Option.some.injEq, Obj.cells.injEq] at h3
                        exact absurd h3.2.1 (by decide)
                      have HX9 : Hid (BoxN (wD.setCell ⟨b, k * 5 + 3, none⟩ (.string (ren1 old nm x.out))) w6.heap.size #[Value.string g.name, .slice (some ⟨b, 0, none⟩) g.nodes.length cn2, .slice ai2 g.ins.length ci2, .slice ao2 g.outs.length co2, .slice at2 g.inits.length ct2] 26) := Lib.hid ((Below.heap_setCell _ _ _ _ hne).trans hX8)
                      have HW9 : Hid (Below wc.heap.size wc (wD.setCell ⟨b, k * 5 + 3, none⟩ (.string (ren1 old nm x.out)))) := Lib.hid ((hW.out.trans (B0.out.mono hW.out.size)).setCell (p := ⟨b, k * 5 + 3, none⟩) hBb _)
                      obtain ⟨_, s1⟩ := HS.out wD B0.out
                      have f1 : wD.frozen? ⟨b, k * 5 + 3, none⟩ = false := hcur.frozen _
                      clear hO8 hX8 hne hcur
                      go_wp2_with fail
                      generalize World.setCell _ _ _ = W9 at HO9 HX9 HW9 ⊢
                      clear f1 s1 HS B0 hO hX hW
                      go_loopw [14] (fun i wr => ∃ j : Nat, j ≤ x.ins.length ∧ i = .int .i64 (j : Int) ∧ Hid (GraphO wr wc.heap.size (gJ old nm g k x j) (.slice (some ⟨b, 0, none⟩) g.nodes.length cn2) (.slice ai2 g.ins.length ci2) (.slice ao2 g.outs.length co2) (.slice at2 g.inits.length ct2)) ∧ Hid (BoxN wr w6.heap.size #[Value.string g.name, .slice (some ⟨b, 0, none⟩) g.nodes.length cn2, .slice ai2 g.ins.length ci2, .slice ao2 g.outs.length co2, .slice at2 g.inits.length ct2] 26) ∧ Hid (Below wc.heap.size wc wr)) (fun i _ => x.ins.length - (intOf i).toNat)
                      case atStart => exact ⟨0, Nat.zero_le _, rfl, HO9, HX9, HW9⟩
                      case round =>
                        clear HO9 HX9 HW9
                        obtain ⟨j, hj, rfl, hO, hX, hW⟩ := hrel
                        have q1 := hX.out.fiveG.2.1
                        obtain ⟨ns, hns, hap⟩ := hO.out.nodes
                        have hjml : (gJ old nm g k x j).nodes.length = g.nodes.length := by unfold gJ; simp only [List.length_set]; exact mix_len _ _ _
                        have hjx := gJ_at (old := old) (nm := nm) (j := j) HX.out
                        obtain ⟨b', sv2, hbb, hb2, hsv, cin, _, _, _, hrin⟩ := node_cell hns hjml hjx
                        obtain rfl : b' = b := by simpa using hbb.symm
                        have hil : (nodeJ old nm x j).ins.length = x.ins.length := by unfold nodeJ; exact mix_len _ _ _
                        rw [hil] at hrin
                        obtain ⟨va, vb⟩ := sv2
                        obtain ⟨ain, cin2, e1⟩ := owns_form hrin
                        simp only at e1 cin hrin
                        subst e1
                        by_cases hjl : j < x.ins.length
                        · have hji : (j : Int) < (x.ins.length : Int) := by omega
                          obtain ⟨s0, hs0⟩ : ∃ s, x.ins[j]? = some s := ⟨_, List.getElem?_eq_getElem hjl⟩
                          have hms : (nodeJ old nm x j).ins[j]? = some s0 := by unfold nodeJ; exact mix_at hs0
                          obtain ⟨b2, rfl, hbl, cs0, hf2, hB2⟩ := strs_cell hrin hms
                          have HSt := Lib.hid (gJ_step (old := old) (nm := nm) (g := g) (k := k) hs0)
                          have HS : Hid (∀ W', Below wr.heap.size wr W' → W'.cell? ⟨w6.heap.size, 1, none⟩ = some (.slice (some ⟨b', 0, none⟩) g.nodes.length cn2) ∧ W'.cell? ⟨b', k * 5 + 2, none⟩ = some (.slice (some ⟨b2, 0, none⟩) x.ins.length cin2) ∧ W'.cell? ⟨b2, j, none⟩ = some (.string s0)) := Lib.hid fun W' h => ⟨(hX.out.below' h).fiveG.2.1, (h.cell (p := ⟨b', k * 5 + 2, none⟩) hb2).trans cin, (h.cell (p := ⟨b2, j, none⟩) hbl).trans cs0⟩
                          have HNs := Lib.hid hns
                          have HAp := Lib.hid hap
                          have HSv := Lib.hid hsv
                          have HMs := Lib.hid hms
                          have HJx := Lib.hid hjx
                          have HIl := Lib.hid hil
                          have HRin := Lib.hid hrin
                          clear hns hap hsv hms hjx hil hrin hs0 cs0 hf2 hjml hbb
                          go_wp2_with fail
                          clear q1 cin
                          refine wp_region_plan 19 [0, 1, 2, 3, 4, 5, 6, 7, 8, 9, 10, 11, 12, 13, 14, 15, 16, 17, 18] (fun W' => Below wr.heap.size wr W') (by kernel_rfl) (by kernel_rfl) (fun _ d _ _ _ h => by cases d <;> exact h) (Below.refl _ _).drew ?_
                          have B0 : Hid (Below wr.heap.size wr wr.drew) := Lib.hid (Below.refl _ _).drew
                          generalize wr.drew = wD at B0 ⊢
                          repeat
                            refine plan_read (v := ?_) rfl rfl (Or.inl ⟨by rfl, ?_⟩) ?_
                            rotate_left
                            · intro w' hSw
                              obtain ⟨s0c, s1c, s2c⟩ := HS.out w' hSw
                              go_simp
                              try with_reducible rfl
                            try simp only [Act.put, List.getElem_toArray, List.getElem_cons_zero, List.getElem_cons_succ, List.setIfInBounds_toArray, List.set_cons_zero, List.set_cons_succ]
                          refine plan_act rfl rfl (fun K' hK => ?_)
                          go_simp
                          refine (turned_any s0 old nm wD).mono ?_
                          rintro e w8 ⟨rfl, rfl⟩
                          refine hK.out _ _ B0.out ?_
                          clear hK K'
                          refine plan_tail rfl ?_
                          simp only [List.toList_toArray, List.drop_succ_cons, List.drop_zero]
                          have hO8 := hO.out.below B0.out
                          have hN8 : NodesO wD wc.heap.size (gJ old nm g k x j).nodes _ ns := nodes_keep HNs.out (keep_below (ts := [3, 2, 9, 76, 41]) B0.out) (by decide) (by decide) (by decide) (by decide) (by decide)
                          have HO9 : Hid (GraphO (wD.setCell ⟨b2, j, none⟩ (.string (ren1 old nm s0))) wc.heap.size (gJ old nm g k x (j + 1)) (.slice (some ⟨b', 0, none⟩) g.nodes.length cn2) (.slice ai2 g.ins.length ci2) (.slice ao2 g.outs.length co2) (.slice at2 g.inits.length ct2)) := Lib.hid (by
                            have h9 := setNodeIn (ren1 old nm s0) hO8 hN8 HAp.out HJx.out HSv.out HIl.out HMs.out
                            rwa [HSt.out] at h9)
                          obtain ⟨cur, hcur⟩ : ∃ cur, BoxN wD b2 cur 9 := owns_boxN (owns_below HRin.out B0.out)
                          have hX8 := hX.out.below' B0.out
                          have hne : w6.heap.size ≠ b2 := fun c => by
                            have h1 := hX8
                            rw [c] at h1
                            have h3 := (show wD.heap[b2]? = _ from h1).symm.trans hcur
                            simp only [Option.some.injEq, Obj.cells.injEq] at h3
                            exact absurd h3.2.1 (by decide)
                          have HX9 : Hid (BoxN (wD.setCell ⟨b2, j, none⟩ (.string (ren1 old nm s0))) w6.heap.size #[Value.string g.name, .slice (some ⟨b', 0, none⟩) g.nodes.length cn2, .slice ai2 g.ins.length ci2, .slice ao2 g.outs.length co2, .slice at2 g.inits.length ct2] 26) := Lib.hid ((Below.heap_setCell _ _ _ _ hne).trans hX8)
                          have HW9 : Hid (Below wc.heap.size wc (wD.setCell ⟨b2, j, none⟩ (.string (ren1 old nm s0)))) := Lib.hid ((hW.out.trans (B0.out.mono hW.out.size)).setCell (p := ⟨b2, j, none⟩) hB2 _)
                          obtain ⟨_, _, s1⟩ := HS.out wD B0.out
                          have f1 : wD.frozen? ⟨b2, j, none⟩ = false := hcur.frozen _
                          clear hO8 hX8 hne hcur hN8
                          go_wp2_with fail
                          go_roundw
                          case rel => exact ⟨j + 1, by omega, by go_num, HO9, HX9, HW9⟩
                          case measure => simp [intOf]; omega
                        · have hji : ¬ (j : Int) < (x.ins.length : Int) := by omega
                          obtain rfl : j = x.ins.length := by omega
                          have HO9 : Hid (GraphO wr wc.heap.size (gN old nm g (k + 1)) (.slice (some ⟨b', 0, none⟩) g.nodes.length cn2) (.slice ai2 g.ins.length ci2) (.slice ao2 g.outs.length co2) (.slice at2 g.inits.length ct2)) := Lib.hid (by have := hO.out; rwa [gJ_full HX.out] at this)
                          clear hns hap hsv hjx hil hrin hjml hbb
                          go_wp2_with fail
                          go_roundw
                          case rel => exact ⟨k + 1, by omega, by go_num, HO9, hX, hW⟩
                          case measure => simp [intOf]; omega
                    · have hki : ¬ (k : Int) < (g.nodes.length : Int) := by omega
                      obtain rfl : k = g.nodes.length := by omega
                      have HE : Hid (GraphO wr wc.heap.size (ren old nm g) (.slice an2 g.nodes.length cn2) (.slice ai2 g.ins.length ci2) (.slice ao2 g.outs.length co2) (.slice at2 g.inits.length ct2)) := Lib.hid (by have := hO.out; rwa [gN_full] at this)
                      have hWr : Hid (Below W1.heap.size W1 wr) := Lib.hid (hW1.out.trans (hW.out.mono hW1.out.size))
                      obtain ⟨k0, k1, k2, k3, k4⟩ := (hA1.out.below' hWr.out).fiveG
                      have hbr := Lib.hid (hB1.out.trans (hWr.out.mono hB1.out.size))
                      go_wp2_with fail
                      clear k0 k1 k2 k3 k4 q1
                      refine (HO.out _ _ (hGV.out wr hWr.out) (HGl.out.below hbr.out)).mono ?_
                      rintro e w10 ⟨v10, rfl, ho10, B10⟩
                      have HI10 : Hid (IntsIn w10 v10 ((orderL g).map fun (i : Nat) => (i : Int))) := Lib.hid (nats_intsR ho10 (orderL_okR hln).1 (orderL_okR hln).2)
                      obtain ⟨a10, c10, rfl⟩ := owns_form ho10
                      have hb10 : Hid (Below w.heap.size w w10) := Lib.hid (hbr.out.trans (B10.mono hbr.out.size))
                      have HV10 : Hid (GraphV w10 (.agg #[Value.string g.name, .slice an2 g.nodes.length cn2, .slice ai2 g.ins.length ci2, .slice ao2 g.outs.length co2, .slice at2 g.inits.length ct2]) (ren old nm g)) := Lib.hid (by
                        have hr := (HRd.out _ _ _ _ _ _ _ _ _ _ _ HE.out HN.out).below B10
                        exact ⟨_, _, _, _, by unfold ren Gr.val; rfl, hr⟩)
                      obtain ⟨y0, y1, y2, y3, y4⟩ := (hX.out.below' B10).fiveG
                      clear ho10 B10
                      go_wp2_with fail
                      clear y0 y1 y2 y3 y4
                      refine (HO2.out _ _ HV10.out (HGl.out.below hb10.out)).mono ?_
                      rintro e w11 ⟨v11, rfl, ho11, B11⟩
                      rw [HP.out.1]
                      rw [HP.out.2] at ho11
                      have HI11 : Hid (IntsIn w11 v11 ((orderL g).map fun (i : Nat) => (i : Int))) := Lib.hid (nats_intsR ho11 (orderL_okR hln).1 (orderL_okR hln).2)
                      have HI10' := Lib.hid (HI10.out.below B11)
                      obtain ⟨a11, c11, rfl⟩ := owns_form ho11
                      have hb11 : Hid (Below w.heap.size w w11) := Lib.hid (hb10.out.trans (B11.mono hb10.out.size))
                      clear ho11 B11
                      have hee : (orderE g == orderE g) = true := by simp
                      go_wp2_with fail
                      refine (rsame_sameR HI10'.out HI11.out).mono ?_
                      rintro e w12 ⟨rfl, B12⟩
                      have hb12 : Hid (Below w.heap.size w w12) := Lib.hid (hb11.out.trans (B12.mono hb11.out.size))
                      clear B12
                      go_wp2_with fail
                      refine (HLive.out _ hb12).out.mono ?_
                      rintro e wz ⟨rfl, Bz⟩
                      have HBz := Lib.hid Bz
                      clear Bz
                      go_wp2
                      go_ret
                      exact ⟨rfl, HBz.out⟩

end Go.Proofs.YtccjflhliicdlaaDoor

namespace Go.Proofs.YtccjflhliicdlaaDoor
namespace graphRenamed
open Go.ChangeShapes Go.WideShapes Go.ChangeAt Go.RowKit Go.ChangeMaps

set_option linter.unusedVariables false
set_option maxRecDepth 100000

theorem reads (os : Os) {H : Type} (enc : TypeId × Value → H) : ∃ places, DataW.whole enc Tryd.prog ((World.laidAll Tryd.prog os laids).forCall (fun _ _ => 0) ⟨#[], #[.agg #[.string ⟨#[]⟩, .slice none 0 0, .slice none 0 0, .slice none 0 0, .slice none 0 0], .string ⟨#[]⟩, .string ⟨#[]⟩], []⟩).memory Tryd.f6.params.toList Rows.graphRenamedSpec.vars false (#[.agg #[.string ⟨#[]⟩, .slice none 0 0, .slice none 0 0, .slice none 0 0, .slice none 0 0], .string ⟨#[]⟩, .string ⟨#[]⟩] : Array Value).toList 8 = some ([.agg [.lit (.string []), .nil, .nil, .nil, .nil], .lit (.string []), .lit (.string [])], [], places) :=
  ⟨[], by kernel_rfl⟩

set_option maxHeartbeats 1000000 in
theorem lifted (os : Os) (started : os.Started) (H : Type) (enc : TypeId × Value → H) (F : Stop.Interp) :
    ReturnsInHanded {} Tryd.checked os 6 .any ((Rows.OpenSpec.upto Rows.graphRenamedSpec).preRow enc Tryd.prog Tryd.f6 Rows.graphRenamedUptoRow.domain false Rows.graphRenamedUptoRow.laid) (((Rows.OpenSpec.upto Rows.graphRenamedSpec).at F).post enc Tryd.prog Tryd.f6 false true false false) := by
  obtain ⟨places, hx⟩ := reads os enc
  refine returnsInHanded_of_row (C := Tryd.checked) (s := (Rows.OpenSpec.upto Rows.graphRenamedSpec)) own started (by kernel_rfl) Tryd.func6
    (witness_row_atRef (enc := enc) (C := Tryd.checked) false (World.laidAll Tryd.prog os laids) #[.agg #[.string ⟨#[]⟩, .slice none 0 0, .slice none 0 0, .slice none 0 0, .slice none 0 0], .string ⟨#[]⟩, .string ⟨#[]⟩] (World.laidAll_os _ _ _) (by kernel_rfl) (by kernel_rfl) (by kernel_rfl)
      (OpenSpec.preRow_of_cond 8 hx (by kernel_rfl) (fun k hk => by cases hk; kernel_rfl) (by kernel_rfl) (laid_met os _))) ?_
  intro W base args ds gs before hval0 hW _ hcond hsz0 hL hSh _
  have hG : Glob W := glob_of hL hSh
  have hsz : (DataW.weightsEach Tryd.prog (Tryd.f6.params.toList ++ Rows.graphRenamedSpec.plain.varTypes Tryd.prog) (ds ++ gs)).all (· ≤ reachBytes) = true := hsz0
  have hval : ∀ (j : Nat) t v, Tryd.f6.params[j]? = some t → args[j]? = some v → Value.okWide Tryd.prog W .any base t v := hval0
  have hW' : DataW.Whole enc Tryd.prog Tryd.f6.params.toList Rows.graphRenamedSpec.vars false W args.toList ds gs before := hW
  obtain ⟨p, q, hA0, hV, rfl, hfz, hnd⟩ := hW
  have hA : DataW.TrodAll enc Tryd.prog W 0 (fun _ => true) true Tryd.f6.params.toList args.toList ds p := hA0
  rw [Tryd.params6] at hA hval hsz
  obtain ⟨v0, vs0, d0, ds0, p0, q0, hargs, rfl, rfl, h0, r0⟩ := trodAll_cons hA
  obtain ⟨v1, vs1, d1, ds1, p1, q1, rfl, rfl, rfl, h1, r1⟩ := trodAll_cons r0
  obtain ⟨v2, vs2, d2, ds2, p2, q2, rfl, rfl, rfl, h2, r2⟩ := trodAll_cons r1
  obtain ⟨rfl, rfl, rfl⟩ := trodAll_nil r2
  obtain rfl : args = #[v0, v1, v2] := by cases args; simp_all
  obtain ⟨rfl, rfl⟩ := trodVars_none hV
  have hbulk : Rows.uptoBulkAll [d0, d1, d2] ≤ 1048576 := by
    have := of_decide_eq_true (hcond _ rfl)
    simpa using this
  simp only [Rows.uptoBulkAll] at hbulk
  have hw : ∀ (j : Nat) t d, [26, 9, 9][j]? = some t → [d0, d1, d2][j]? = some d → ∀ n ∈ d.weights Tryd.prog t, n ≤ reachBytes := by
    intro j t d ht hd n hn
    have := List.all_eq_true.1 hsz n (DataW.weights_mem_each (j := j) (t := t) (d := d) (by
      match j, ht with
      | 0, h => simpa using h
      | 1, h => simpa using h
      | 2, h => simpa using h) (by
      match j, hd with
      | 0, h => simpa using h
      | 1, h => simpa using h
      | 2, h => simpa using h) n hn)
    simpa using this
  simp only [List.append_nil] at hW'
  have hlt : ∀ x ∈ p0 ++ (p1 ++ p2), x.block < W.heap.size := fun x hx => by simpa using hW'.lt x (by simpa using hx)
  obtain ⟨gr0, i0, m0⟩ := open_graphM (hval 0 26 v0 rfl rfl) h0 (fun y hy => hlt y (by simp [hy])) (show Rows.uptoBulk d0 ≤ 1048576 by omega)
  obtain ⟨s1, rfl, rfl, rfl, w1⟩ := open_string Tryd.underlying9 (hval 1 9 v1 rfl rfl) h1
  obtain ⟨s2, rfl, rfl, rfl, w2⟩ := open_string Tryd.underlying9 (hval 2 9 v2 rfl rfl) h2
  clear hA0 hval0
  refine (renlaw_any s1 s2 i0 (by first | omega | (have := bulk_pos d1; omega)) (by simp [Rows.uptoBulk] at hbulk; have : s1.size = s1.data.toList.length := Array.length_toList.symm; simp at this; omega) (by simp [Rows.uptoBulk] at hbulk; have : s2.size = s2.data.toList.length := Array.length_toList.symm; simp at this; omega) hG).mono fun e W' ⟨he, hnx⟩ => ?_
  subst he
  refine ⟨_, rfl, _, _, _, [], _, [], hW', (trodAll_cons_mk (shut_bool Tryd.underlying4 _) trodAll_mk0), (trodAll_cons_mk (Below.trod laidOut (by kernel_rfl) (of_decide_eq_true (by kernel_rfl)) h0 hnx (fun x hx => hlt x (by simp [hx]))) (trodAll_cons_mk (shut_string Tryd.underlying9 w1) (trodAll_cons_mk (shut_string Tryd.underlying9 w2) trodAll_mk0))), rfl, hnx.frame _, fun h => by cases h⟩

theorem over : Rows.graphRenamedUptoRow.holds Tryd.pinned (Rows.OpenSpec.upto Rows.graphRenamedSpec) :=
  OpenClaim.holds_of_cond 6 Tryd.f6 rfl rfl rfl rfl rfl rfl rfl ⟨rfl, rfl, rfl, rfl, rfl⟩ rfl rfl rfl rfl rfl (by kernel_rfl) Tryd.func6 (by kernel_rfl)
    (of_decide_eq_true (by kernel_rfl)) (by unfold Func.isWrapper; first | (rw [if_pos (by decide +kernel)]; kernel_rfl) | (rw [if_neg (by decide +kernel)]; exact ⟨rfl, rfl⟩))
    (fun os started H enc _ F => by rw [OpenClaim.pre_eq_preRow]; exact lifted os started H enc F)

theorem plain (f : FuncId) (fn : Func) (hf : Tryd.pinned.checked.prog.funcNamed "mandrel/mandrellaw07.GraphRenamed" = some f) (hfn : Tryd.pinned.checked.prog.funcs[f]? = some fn) :
    false = Tryd.pinned.checked.prog.looks [] ∧ ∀ (j : Nat) t, fn.params[j]? = some t → Tryd.pinned.checked.prog.wantsStandIn t = false := by
  obtain rfl : f = 6 := Option.some.inj ((show Tryd.prog.funcNamed "mandrel/mandrellaw07.GraphRenamed" = some 6 by kernel_rfl).symm.trans hf) |>.symm
  obtain rfl : fn = Tryd.f6 := (Option.some.inj (Tryd.func6.symm.trans hfn)).symm
  refine ⟨by kernel_rfl, fun j t ht => ?_⟩
  rw [Tryd.params6] at ht
  have hm : t ∈ [26, 9, 9] := by simpa using Array.mem_of_getElem? ht
  have hall : ([26, 9, 9].all fun u => !Tryd.prog.wantsStandIn u) = true := by kernel_rfl
  exact (show Tryd.prog.wantsStandIn t = false by simpa using List.all_eq_true.1 hall t hm)

/-- The card. -/
theorem proved : Rows.GraphRenamedUptoCardSaid :=
  Claim7.holds_tied_plain_at .later [] _ _ _ _ over (fun _ h => by cases h) (by kernel_rfl) (fun _ h => by cases h) graphRenamedUpto_row_tie rfl ⟨rfl, rfl⟩ (by kernel_rfl) rfl plain (by kernel_rfl)
#print axioms proved

end graphRenamed
end Go.Proofs.YtccjflhliicdlaaDoor
