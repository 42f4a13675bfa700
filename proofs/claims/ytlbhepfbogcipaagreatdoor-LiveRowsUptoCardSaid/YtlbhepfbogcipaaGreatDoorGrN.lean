/- The walk of graph.named. -/
import Derived.Test.YtlbhepfbogcipaaGreatDoorGrK
set_option linter.unusedVariables false
set_option linter.unusedSimpArgs false
namespace Go.Proofs.YtlbhepfbogcipaaGreatDoor
open Go.RowKit Go.WideMaps Go.Maps

theorem MapS.below {w w' : World} {b n : Nat} {l : List (ByteArray × Int)} (h : MapS w b n l) (hB : Below w.heap.size w w') : MapS w' b n l := by
  have hlt := World.ownsMap.lt h
  obtain ⟨es, clock, hb, F, hs, hD⟩ := h
  exact ⟨es, clock, (hB.block _ hlt).trans hb, F, hs, hD⟩

theorem size_iff {H : Type} (l : List (ByteArray × Int)) : Maps.size (putAll l : DataW H) ≤ l.length ∧ (Maps.size (putAll l : DataW H) = l.length ↔ (l.map Prod.fst).Nodup) := by
  induction l using snoc_ind with
  | h0 => exact ⟨Nat.le_refl _, by simp [putAll_nil, Maps.size]⟩
  | h1 l p ih =>
    obtain ⟨i1, i2⟩ := ih
    rw [size_putAll, List.length_append, List.map_append, any_fst]
    have e1 : [p].length = 1 := rfl
    rw [e1]
    by_cases hs : p.1 ∈ l.map Prod.fst
    · rw [if_pos (hasS_iff.2 hs)]
      refine ⟨by omega, ⟨fun h => absurd h (by omega), fun h => ?_⟩⟩
      rw [List.nodup_append] at h
      exact absurd rfl (h.2.2 p.1 hs p.1 (by simp))
    · have hf : ¬ hasS (l.map Prod.fst) p.1 = true := fun c => hs (hasS_iff.1 c)
      rw [if_neg hf]
      refine ⟨by omega, ⟨fun h => ?_, fun h => ?_⟩⟩
      · rw [List.nodup_append]
        refine ⟨i2.1 (by omega), by simp, fun a ha b hb e => ?_⟩
        obtain rfl : b = p.1 := by simpa using hb
        exact hs (e ▸ ha)
      · have := i2.2 (List.nodup_append.1 h).1
        omega

theorem has_pairs {H : Type} (g : Gr) (s : ByteArray) : Maps.has (putAll (pairs g) : DataW H) (keyS s) = hasS (namesG g) s := by
  rw [has_putAll, any_fst, pairs_names]

theorem named_miss {g : Gr} {n : Nd} {s : ByteArray} (hn : n ∈ g.nodes) (hs : s ∈ n.ins) (h : hasS (namesG g) s = false) : namedB g = false := by
  unfold namedB
  have : (g.nodes.all fun n => n.ins.all fun s => hasS (namesG g) s) = false := by
    rw [List.all_eq_false]
    refine ⟨n, hn, ?_⟩
    rw [Bool.not_eq_true, List.all_eq_false]
    exact ⟨s, hs, by rw [h]; decide⟩
  rw [this]; simp
theorem named_out {g : Gr} {x : Vl} (hx : x ∈ g.outs) (h : hasS (namesG g) x.name = false) : namedB g = false := by
  unfold namedB
  have : (g.outs.all fun v => hasS (namesG g) v.name) = false := by
    rw [List.all_eq_false]
    exact ⟨x, hx, by rw [h]; decide⟩
  rw [this]; simp
theorem named_end {g : Gr} (h1 : (g.nodes.all fun n => n.ins.all fun s => hasS (namesG g) s) = true) (h2 : (g.outs.all fun v => hasS (namesG g) v.name) = true) : namedB g = (decide (g.outs ≠ []) && decide (g.outs.map (·.name)).Nodup) := by
  unfold namedB; rw [h1, h2]; simp

attribute [local irreducible] unlikeB namesG pairs namedB hasS

set_option maxRecDepth 100000 in
set_option maxHeartbeats 4000000 in
theorem gnamed_any {w : World} {v : Value} {g : Gr} (h : GraphV w v g) {Bm n : Nat} (hm : MapS w Bm n (pairs g)) (hlo : g.outs.length ≤ 3000) :
    Calls Tryz.prog 48 #[v, .map (some Bm)] w fun e w' => e = .returned (.bool (namedB g)) ∧ Below w.heap.size w w' := by
  have hmm := @run_makeMap Tryz.prog
  obtain ⟨vn, vi, vo, vt, rfl, hg⟩ := h
  obtain ⟨an, cn, rfl⟩ := hg.nodes.form
  obtain ⟨ai, ci, rfl⟩ := hg.ins.form
  obtain ⟨ao, co, rfl⟩ := hg.outs.form
  obtain ⟨at', ct, rfl⟩ := hg.inits.form
  have hln := hg.nodes.len
  have HN := Lib.hid hg
  have HM := Lib.hid hm
  clear hg hm
  unfold Gr.val
  go_enter Tryz.func48, Tryz.ntmps48
  go_wp2_with fail
  have hB1 : Hid (Below w.heap.size w (w.alloc (Obj.cells #[Value.string g.name, Value.slice an g.nodes.length cn, Value.slice ai g.ins.length ci, Value.slice ao g.outs.length co, Value.slice at' g.inits.length ct] 26))) := Lib.hid ((Below.refl _ w).alloc (Nat.le_refl _) _)
  have hA1 := Lib.hid (BoxN.new w #[Value.string g.name, Value.slice an g.nodes.length cn, Value.slice ai g.ins.length ci, Value.slice ao g.outs.length co, Value.slice at' g.inits.length ct] 26)
  generalize w.alloc _ = W1 at hB1 hA1 ⊢
  obtain ⟨k0, k1, k2, k3, k4⟩ := hA1.out.fiveG
  go_wp2_with fail
  clear k0 k1 k2 k3 k4
  go_loopw [19] (fun i wr => ∃ k : Nat, k ≤ g.nodes.length ∧ i = .int .i64 (k : Int) ∧ Hid (((g.nodes.take k).all fun n => n.ins.all fun s => hasS (namesG g) s) = true) ∧ Hid (Below W1.heap.size W1 wr)) (fun i _ => g.nodes.length - (intOf i).toNat)
  case atStart => exact ⟨0, Nat.zero_le _, rfl, Lib.hid (by simp), Lib.hid (Below.refl _ _)⟩
  case round =>
    obtain ⟨k, hk, rfl, hE, hW⟩ := hrel
    by_cases hkl : k < g.nodes.length
    · have hki : (k : Int) < (g.nodes.length : Int) := by omega
      obtain ⟨x, hx⟩ : ∃ x, g.nodes[k]? = some x := ⟨_, List.getElem?_eq_getElem hkl⟩
      have hBw := hB1.out.trans (hW.out.mono hB1.out.size)
      obtain ⟨b, off, cap, vd, vx, hv, hb, c0, c1, c2, c3, c4, h3, h4, h5, h6⟩ := node_at HN.out.nodes hx
      obtain ⟨rfl, hle, rfl⟩ := Value.slice.inj hv
      clear hle hv h4 h5
      have hil := h3.is.len
      obtain ⟨ad, cd, rfl⟩ := h3.is.form
      obtain ⟨ax, cx, rfl⟩ := h3.ia.form
      have c0 := (hBw.cell (p := ⟨b, off + k * 5, none⟩) hb).trans c0
      have c1 := (hBw.cell (p := ⟨b, off + k * 5 + 1, none⟩) hb).trans c1
      have c2 := (hBw.cell (p := ⟨b, off + k * 5 + 2, none⟩) hb).trans c2
      have c3 := (hBw.cell (p := ⟨b, off + k * 5 + 3, none⟩) hb).trans c3
      have c4 := (hBw.cell (p := ⟨b, off + k * 5 + 4, none⟩) hb).trans c4
      have HX := Lib.hid hx
      have HI := Lib.hid h3.is
      have HS6 := Lib.hid h6
      clear hx h3 h6 hBw
      go_wp2_with fail
      have HW2 : Hid (Below W1.heap.size W1 (wr.alloc (.cells #[.string x.op, .string x.name, .slice ad x.ins.length cd, .string x.out, .slice ax x.attrs.length cx] 47))) := Lib.hid (hW.out.alloc hW.out.size _)
      generalize wr.alloc _ = W2 at HW2 ⊢
      clear c0 c1 c2 c3 c4 hW
      go_loopw [26] (fun i wr => ∃ j : Nat, j ≤ x.ins.length ∧ i = .int .i64 (j : Int) ∧ Hid (((x.ins.take j).all fun s => hasS (namesG g) s) = true) ∧ Hid (Below W1.heap.size W1 wr)) (fun i _ => x.ins.length - (intOf i).toNat)
      case atStart => exact ⟨0, Nat.zero_le _, rfl, Lib.hid (by simp), HW2⟩
      case round =>
        clear HW2
        obtain ⟨j, hj, rfl, hE2, hW⟩ := hrel
        by_cases hjl : j < x.ins.length
        · have hji : (j : Int) < (x.ins.length : Int) := by omega
          obtain ⟨s, hs⟩ : ∃ s, x.ins[j]? = some s := ⟨_, List.getElem?_eq_getElem hjl⟩
          have hBw := hB1.out.trans (hW.out.mono hB1.out.size)
          obtain ⟨b2, off2, cap2, hv, hb2, hr2⟩ := HI.out.rows j s hs
          obtain ⟨rfl, hle, rfl⟩ := Value.slice.inj hv
          clear hle hv
          have c0 := (hBw.cell (p := ⟨b2, off2 + j, none⟩) hb2).trans (hr2 j s hs)
          have hkey := key_str (HS6.out s (List.mem_of_getElem? hs))
          have hm := HM.out.below hBw
          unfold MapS at hm
          have HSJ := Lib.hid hs
          have hhas := has_pairs (H := Unit) g s
          clear hr2 hs hBw
          generalize hb' : hasS (namesG g) s = hb at hhas
          have HH := Lib.hid hb'
          have hhas := Lib.hid hhas
          clear hb'
          cases hb with
          | false =>
            have HR := Lib.hid (named_miss (List.mem_of_getElem? HX.out) (List.mem_of_getElem? HSJ.out) HH.out)
            go_wp2_with (at_lookup; refine wpList_lookup_own_ok_int _ rfl _ _ 80 rfl 9 3 .i64 keyed_str Tryz.underlying80 Tryz.underlying3 (zero_int _) Bm n _ rfl hm _ _ rfl hkey ?_; intro c hat hwc; rw [hhas.out])
            go_ret
            exact ⟨ret_val (bool_val HR.out.symm), hB1.out.trans (hW.out.mono hB1.out.size)⟩
          | true =>
            have HN2 : Hid (((x.ins.take (j + 1)).all fun s => hasS (namesG g) s) = true) := Lib.hid (by rw [List.take_add_one, List.all_append, hE2.out, HSJ.out]; simp [HH.out])
            go_wp2_with (at_lookup; refine wpList_lookup_own_ok_int _ rfl _ _ 80 rfl 9 3 .i64 keyed_str Tryz.underlying80 Tryz.underlying3 (zero_int _) Bm n _ rfl hm _ _ rfl hkey ?_; intro c hat hwc; rw [hhas.out])
            go_roundw
            case rel => exact ⟨j + 1, by omega, by go_num, HN2, hW⟩
            case measure => simp [intOf]; omega
        · have hji : ¬ (j : Int) < (x.ins.length : Int) := by omega
          obtain rfl : j = x.ins.length := by omega
          have HN2 : Hid (((g.nodes.take (k + 1)).all fun n => n.ins.all fun s => hasS (namesG g) s) = true) := Lib.hid (by
            have h2 := hE2.out
            rw [List.take_length] at h2
            rw [List.take_add_one, List.all_append, hE.out, HX.out]; simp only [Option.toList_some, List.all_cons, List.all_nil, Bool.and_true, Bool.true_and]; exact h2)
          go_wp2
          go_roundw
          case rel => exact ⟨k + 1, by omega, by go_num, HN2, hW⟩
          case measure => simp [intOf]; omega
    · have hki : ¬ (k : Int) < (g.nodes.length : Int) := by omega
      obtain rfl : k = g.nodes.length := by omega
      have HE0 : Hid ((g.nodes.all fun n => n.ins.all fun s => hasS (namesG g) s) = true) := Lib.hid (by have := hE.out; rwa [List.take_length] at this)
      have hA3 := fun o => (hA1.out.below' hW.out).below' ((Below.refl _ wr).alloc (Nat.le_refl _) o)
      have k3 := fun o => (hA3 o).fiveG.2.2.2.1
      clear hE
      go_wp2
      have HB3 : Hid (Below W1.heap.size W1 (wr.alloc (.map #[] 0))) := Lib.hid (hW.out.alloc hW.out.size _)
      have HO : Hid (MapS (wr.alloc (.map #[] 0)) wr.heap.size 0 []) := Lib.hid (World.ownsMap_made _ _ _ _)
      have hgt := hW.out.size
      clear k3 hA3 hW
      generalize wr.alloc _ = W3 at HB3 HO ⊢
      generalize wr.heap.size = Bo at HO hgt ⊢
      go_loopw [44] (fun i wr => ∃ (k : Nat) (l : List (ByteArray × Int)), k ≤ g.outs.length ∧ i = .int .i64 (k : Int) ∧ Hid (l.map Prod.fst = (g.outs.take k).map (·.name)) ∧ Hid (((g.outs.take k).all fun v => hasS (namesG g) v.name) = true) ∧ Hid (MapS wr Bo k l) ∧ Hid (Below W1.heap.size W1 wr)) (fun i _ => g.outs.length - (intOf i).toNat)
      case atStart => exact ⟨0, [], Nat.zero_le _, rfl, Lib.hid (by simp), Lib.hid (by simp), HO, HB3⟩
      case round =>
        clear HO HB3
        obtain ⟨k, l, hk, rfl, hL, hE, hO, hW⟩ := hrel
        by_cases hkl : k < g.outs.length
        · have hki2 : (k : Int) < (g.outs.length : Int) := by omega
          obtain ⟨x, hx⟩ : ∃ x, g.outs[k]? = some x := ⟨_, List.getElem?_eq_getElem hkl⟩
          have hBw := hB1.out.trans (hW.out.mono hB1.out.size)
          obtain ⟨b, off, cap, vd, hv, hb, c0, c1, c2, h1, h2, h3⟩ := value_at HN.out.outs hx
          obtain ⟨rfl, hle, rfl⟩ := Value.slice.inj hv
          clear hle hv
          obtain ⟨ad, cd, rfl⟩ := h3.shape
          have c0 := (hBw.cell (p := ⟨b, off + k * 3, none⟩) hb).trans c0
          have c1 := (hBw.cell (p := ⟨b, off + k * 3 + 1, none⟩) hb).trans c1
          have c2 := (hBw.cell (p := ⟨b, off + k * 3 + 2, none⟩) hb).trans c2
          have HX := Lib.hid hx
          have hkey := key_str h1
          have HW2 : Hid (Below W1.heap.size W1 (wr.alloc (.cells #[.string x.name, .int .i64 x.typ, .slice ad x.dims.length cd] 42))) := Lib.hid (hW.out.alloc hW.out.size _)
          have hm : World.ownsMap (wr.alloc (.cells #[.string x.name, .int .i64 x.typ, .slice ad x.dims.length cd] 42)) Tryz.prog 9 (plainElem (H := Unit) Tryz.prog 3) Bm n (putAll (pairs g)) := HM.out.below (hB1.out.trans (HW2.out.mono hB1.out.size))
          have ho : World.ownsMap (wr.alloc (.cells #[.string x.name, .int .i64 x.typ, .slice ad x.dims.length cd] 42)) Tryz.prog 9 (plainElem (H := Unit) Tryz.prog 3) Bo k (putAll l) := World.ownsMap.alloc hO.out _
          have hhas := has_pairs (H := Unit) g x.name
          clear hx h1 h2 h3 hBw hW hO
          generalize hb' : hasS (namesG g) x.name = hb at hhas
          have HH := Lib.hid hb'
          have hhas := Lib.hid hhas
          clear hb'
          cases hb with
          | false =>
            have HR := Lib.hid (named_out (List.mem_of_getElem? HX.out) HH.out)
            go_wp2_with (at_lookup; refine wpList_lookup_own_ok_int _ rfl _ _ 80 rfl 9 3 .i64 keyed_str Tryz.underlying80 Tryz.underlying3 (zero_int _) Bm n _ rfl hm _ _ rfl hkey ?_; intro c hat hwc; rw [hhas.out])
            go_ret
            exact ⟨ret_val (bool_val HR.out.symm), hB1.out.trans (HW2.out.mono hB1.out.size)⟩
          | true =>
            have HN2 : Hid (((g.outs.take (k + 1)).all fun v => hasS (namesG g) v.name) = true) := Lib.hid (by rw [List.take_add_one, List.all_append, hE.out, HX.out]; simp [HH.out])
            obtain ⟨c2, hrun, hat2, hwc2⟩ := ho.lookup_int keyed_str Tryz.underlying80 Tryz.underlying3 (zero_int _) hkey
            go_wp2_with (first | (at_lookup; refine wpList_lookup_own_ok_int _ rfl _ _ 80 rfl 9 3 .i64 keyed_str Tryz.underlying80 Tryz.underlying3 (zero_int _) Bm n _ rfl hm _ _ rfl hkey ?_; intro c hat hwc; rw [hhas.out]) | (at_mapUpdate; refine wpList_mapUpdate_own _ rfl _ _ _ 80 rfl 9 3 keyed_str Tryz.underlying80 _ Bo k _ rfl ho (by unfold maxLen; omega) _ _ _ rfl rfl hkey _ [] (plainElem_int Tryz.underlying3 (wrap64_wf _)) ?_; intro w5 hown5 hgrow5))
            have HW5 := Lib.hid (HW2.out.grown hgrow5 HW2.out.size (fun k h => by cases h; exact hgt))
            have HO5 : Hid (MapS w5 Bo (k + 1) (l ++ [(x.name, wrap64 (c2 + 1))])) := Lib.hid (by unfold MapS; rw [putAll_snoc]; exact hown5)
            have HL5 : Hid ((l ++ [(x.name, wrap64 (c2 + 1))]).map Prod.fst = (g.outs.take (k + 1)).map (·.name)) := Lib.hid (by rw [List.map_append, hL.out, List.take_add_one, HX.out, List.map_append]; rfl)
            clear hown5 hgrow5 ho hm hrun
            go_wp2
            go_roundw
            case rel => exact ⟨k + 1, _, by omega, by go_num, HL5, HN2, HO5, HW5⟩
            case measure => simp [intOf]; omega
        · have hki2 : ¬ (k : Int) < (g.outs.length : Int) := by omega
          obtain rfl : k = g.outs.length := by omega
          have HR := Lib.hid (named_end HE0.out (by have := hE.out; rwa [List.take_length] at this))
          obtain ⟨k0, k1, k2, k3, k4⟩ := (hA1.out.below' hW.out).fiveG
          have hlenm := World.ownsMap.len hO.out Tryz.underlying80 3
          have HSZ : Hid (Maps.size (putAll l : DataW Unit) = g.outs.length ↔ (g.outs.map (·.name)).Nodup) := Lib.hid (by
            have h1 := (size_iff (H := Unit) l).2
            rw [hL.out, List.take_length] at h1
            have h2 : l.length = g.outs.length := by
              have := congrArg List.length hL.out
              simpa using this
            rwa [h2] at h1)
          go_wp2
          · have h0 : g.outs ≠ [] := fun c => by
              have : 0 < g.outs.length := by assumption
              rw [c] at this
              exact absurd this (by decide)
            have hr : ((Maps.size (putAll l : DataW Unit) : Int) == (g.outs.length : Int)) = namedB g := by
              rw [HR.out, decide_eq_true h0, Bool.true_and]
              by_cases hs : Maps.size (putAll l : DataW Unit) = g.outs.length
              · rw [decide_eq_true (HSZ.out.1 hs), hs]; simp
              · rw [decide_eq_false (fun c => hs (HSZ.out.2 c))]
                rw [beq_eq_false_iff_ne]
                intro c
                exact hs (by omega)
            go_ret
            exact ⟨ret_val (bool_val hr), hB1.out.trans (hW.out.mono hB1.out.size)⟩
          · have h0 : g.outs = [] := List.eq_nil_of_length_eq_zero (by have : ¬ 0 < g.outs.length := by assumption
                                                                       omega)
            have hr : namedB g = false := by rw [HR.out, decide_eq_false (fun c => c h0)]; rfl
            go_ret
            exact ⟨ret_val (bool_val hr.symm), hB1.out.trans (hW.out.mono hB1.out.size)⟩

end Go.Proofs.YtlbhepfbogcipaaGreatDoor
