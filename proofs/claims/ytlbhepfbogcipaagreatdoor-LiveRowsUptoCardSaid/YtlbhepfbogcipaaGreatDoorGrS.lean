/- The walk of graph.parts. -/
import Derived.Test.YtlbhepfbogcipaaGreatDoorGrP
import Derived.Test.YtlbhepfbogcipaaGreatDoorSchQ
set_option linter.unusedVariables false
set_option linter.unusedSimpArgs false
namespace Go.Proofs.YtlbhepfbogcipaaGreatDoor
open Go.RowKit

theorem BoxN.fiveG {W : World} {b : Nat} {x0 x1 x2 x3 x4 : Value} {t : TypeId} (h : BoxN W b #[x0, x1, x2, x3, x4] t) : W.cell? ⟨b, 0, none⟩ = some x0 ∧ W.cell? ⟨b, 1, none⟩ = some x1 ∧ W.cell? ⟨b, 2, none⟩ = some x2 ∧ W.cell? ⟨b, 3, none⟩ = some x3 ∧ W.cell? ⟨b, 4, none⟩ = some x4 := ⟨h.cell 0 rfl, h.cell 1 rfl, h.cell 2 rfl, h.cell 3 rfl, h.cell 4 rfl⟩
theorem BoxN.threeG {W : World} {b : Nat} {x0 x1 x2 : Value} {t : TypeId} (h : BoxN W b #[x0, x1, x2] t) : W.cell? ⟨b, 0, none⟩ = some x0 ∧ W.cell? ⟨b, 1, none⟩ = some x1 ∧ W.cell? ⟨b, 2, none⟩ = some x2 := ⟨h.cell 0 rfl, h.cell 1 rfl, h.cell 2 rfl⟩

theorem BoxN.fourG {W : World} {b : Nat} {x0 x1 x2 x3 : Value} {t : TypeId} (h : BoxN W b #[x0, x1, x2, x3] t) : W.cell? ⟨b, 0, none⟩ = some x0 ∧ W.cell? ⟨b, 1, none⟩ = some x1 ∧ W.cell? ⟨b, 2, none⟩ = some x2 ∧ W.cell? ⟨b, 3, none⟩ = some x3 := ⟨h.cell 0 rfl, h.cell 1 rfl, h.cell 2 rfl, h.cell 3 rfl⟩

theorem insE_at {l : List Vl} {k : Nat} {x : Vl} (h : l[k]? = some x) : insE (l.drop k) = if chk x.typ 0 = false then 5 else if (cnt x.dims).2 ≠ 0 then (cnt x.dims).2 else insE (l.drop (k + 1)) := by
  obtain ⟨hlt, e⟩ := List.getElem?_eq_some_iff.1 h
  conv => lhs; rw [List.drop_eq_getElem_cons hlt, e]
  conv => lhs; unfold insE
theorem initsE_at {l : List Nm} {k : Nat} {x : Nm} (h : l[k]? = some x) : initsE (l.drop k) = if pbE x.typ x.dims x.data ≠ 0 then pbE x.typ x.dims x.data else initsE (l.drop (k + 1)) := by
  obtain ⟨hlt, e⟩ := List.getElem?_eq_some_iff.1 h
  conv => lhs; rw [List.drop_eq_getElem_cons hlt, e]
  conv => lhs; unfold initsE
theorem nodesE_at {l : List Nd} {k : Nat} {x : Nd} (h : l[k]? = some x) : nodesE (l.drop k) = if checkP x ≠ 0 then checkP x else nodesE (l.drop (k + 1)) := by
  obtain ⟨hlt, e⟩ := List.getElem?_eq_some_iff.1 h
  conv => lhs; rw [List.drop_eq_getElem_cons hlt, e]
  conv => lhs; unfold nodesE
theorem insE_end (l : List Vl) : insE (l.drop l.length) = 0 := by rw [List.drop_length]; rfl
theorem initsE_end (l : List Nm) : initsE (l.drop l.length) = 0 := by rw [List.drop_length]; rfl
theorem nodesE_end (l : List Nd) : nodesE (l.drop l.length) = 0 := by rw [List.drop_length]; rfl

theorem insE_type {l : List Vl} {k : Nat} {x : Vl} (h : l[k]? = some x) (c : chk x.typ 0 = false) : insE (l.drop k) = 5 := by rw [insE_at h, if_pos c]
theorem insE_dims {l : List Vl} {k : Nat} {x : Vl} (h : l[k]? = some x) (c : chk x.typ 0 = true) (d : (cnt x.dims).2 ≠ 0) : insE (l.drop k) = (cnt x.dims).2 := by rw [insE_at h, if_neg (by rw [c]; decide), if_pos d]
theorem insE_next {l : List Vl} {k : Nat} {x : Vl} (h : l[k]? = some x) (c : chk x.typ 0 = true) (d : (cnt x.dims).2 = 0) : insE (l.drop k) = insE (l.drop (k + 1)) := by rw [insE_at h, if_neg (by rw [c]; decide), if_neg (fun f => f d)]

theorem parts_ins {g : Gr} {x : Int} (h : insE g.ins = x) (hx : x ≠ 0) : partsE g = x := by unfold partsE; rw [if_pos (by rw [h]; exact hx), h]
theorem parts_inits {g : Gr} {x : Int} (h : insE g.ins = 0) (h2 : initsE g.inits = x) (hx : x ≠ 0) : partsE g = x := by unfold partsE; rw [if_neg (fun c => c h), if_pos (by rw [h2]; exact hx), h2]
theorem parts_nodes {g : Gr} {x : Int} (h : insE g.ins = 0) (h2 : initsE g.inits = 0) (h3 : nodesE g.nodes = x) : partsE g = x := by unfold partsE; rw [if_neg (fun c => c h), if_neg (fun c => c h2), h3]

theorem initsE_bad {l : List Nm} {k : Nat} {x : Nm} (h : l[k]? = some x) (d : pbE x.typ x.dims x.data ≠ 0) : initsE (l.drop k) = pbE x.typ x.dims x.data := by rw [initsE_at h, if_pos d]
theorem initsE_next {l : List Nm} {k : Nat} {x : Nm} (h : l[k]? = some x) (d : pbE x.typ x.dims x.data = 0) : initsE (l.drop k) = initsE (l.drop (k + 1)) := by rw [initsE_at h, if_neg (fun f => f d)]
theorem nodesE_bad {l : List Nd} {k : Nat} {x : Nd} (h : l[k]? = some x) (d : checkP x ≠ 0) : nodesE (l.drop k) = checkP x := by rw [nodesE_at h, if_pos d]
theorem nodesE_next {l : List Nd} {k : Nat} {x : Nd} (h : l[k]? = some x) (d : checkP x = 0) : nodesE (l.drop k) = nodesE (l.drop (k + 1)) := by rw [nodesE_at h, if_neg (fun f => f d)]

attribute [local irreducible] insE initsE nodesE partsE chk cnt pbE checkP

set_option maxRecDepth 100000 in
set_option maxHeartbeats 4000000 in
theorem parts_any {w : World} {v : Value} {g : Gr} (h : GraphV w v g) (hG : Glob w) :
    Calls Tryz.prog 46 #[v] w fun e w' => e = .returned (.int .i64 (partsE g)) ∧ Below w.heap.size w w' := by
  obtain ⟨vn, vi, vo, vt, rfl, hg⟩ := h
  obtain ⟨an, cn, rfl⟩ := hg.nodes.form
  obtain ⟨ai, ci, rfl⟩ := hg.ins.form
  obtain ⟨ao, co, rfl⟩ := hg.outs.form
  obtain ⟨at', ct, rfl⟩ := hg.inits.form
  have hl1 := hg.nodes.len
  have hl2 := hg.ins.len
  have hl3 := hg.inits.len
  have HN := Lib.hid hg
  have HG := Lib.hid hG
  clear hg hG
  unfold Gr.val
  go_enter Tryz.func46, Tryz.ntmps46
  go_wp2_with fail
  have hB1 : Hid (Below w.heap.size w (w.alloc (Obj.cells #[Value.string g.name, Value.slice an g.nodes.length cn, Value.slice ai g.ins.length ci, Value.slice ao g.outs.length co, Value.slice at' g.inits.length ct] 26))) := Lib.hid ((Below.refl _ w).alloc (Nat.le_refl _) _)
  have hA1 := Lib.hid (BoxN.new w #[Value.string g.name, Value.slice an g.nodes.length cn, Value.slice ai g.ins.length ci, Value.slice ao g.outs.length co, Value.slice at' g.inits.length ct] 26)
  generalize w.alloc _ = W1 at hB1 hA1 ⊢
  obtain ⟨k0, k1, k2, k3, k4⟩ := hA1.out.fiveG
  go_wp2_with fail
  clear k0 k1 k2 k3 k4
  go_loopw [16] (fun i wr => ∃ k : Nat, k ≤ g.ins.length ∧ i = .int .i64 (k : Int) ∧ Hid (insE g.ins = insE (g.ins.drop k)) ∧ Hid (Below W1.heap.size W1 wr)) (fun i _ => g.ins.length - (intOf i).toNat)
  case atStart => exact ⟨0, Nat.zero_le _, rfl, Lib.hid rfl, Lib.hid (Below.refl _ _)⟩
  case round =>
    obtain ⟨k, hk, rfl, hE, hW⟩ := hrel
    by_cases hkl : k < g.ins.length
    · have hki : (k : Int) < (g.ins.length : Int) := by omega
      obtain ⟨x, hx⟩ : ∃ x, g.ins[k]? = some x := ⟨_, List.getElem?_eq_getElem hkl⟩
      have hBw := hB1.out.trans (hW.out.mono hB1.out.size)
      obtain ⟨b, off, cap, vd, hv, hb, c0, c1, c2, h1, h2, h3⟩ := value_at HN.out.ins hx
      obtain ⟨rfl, hle, rfl⟩ := Value.slice.inj hv
      clear hle hv
      obtain ⟨ad, cd, rfl⟩ := h3.shape
      have c0 := (hBw.cell (p := ⟨b, off + k * 3, none⟩) hb).trans c0
      have c1 := (hBw.cell (p := ⟨b, off + k * 3 + 1, none⟩) hb).trans c1
      have c2 := (hBw.cell (p := ⟨b, off + k * 3 + 2, none⟩) hb).trans c2
      have HX := Lib.hid hx
      have HD := Lib.hid (h3.below hBw)
      clear hx h3 hBw h1 h2
      go_wp2_with fail
      have HW2 : Hid (Below W1.heap.size W1 (wr.alloc (.cells #[.string x.name, .int .i64 x.typ, .slice ad x.dims.length cd] 42))) := Lib.hid (hW.out.alloc hW.out.size _)
      have HD2 : Hid (IntsIn (wr.alloc (.cells #[.string x.name, .int .i64 x.typ, .slice ad x.dims.length cd] 42)) (.slice ad x.dims.length cd) x.dims) := Lib.hid (HD.out.below ((Below.refl _ _).alloc (Nat.le_refl _) _))
      have HX2 := Lib.hid (BoxN.new wr #[.string x.name, .int .i64 x.typ, .slice ad x.dims.length cd] 42)
      generalize wr.alloc _ = W2 at HW2 HD2 HX2 ⊢
      obtain ⟨d0, d1, d2⟩ := HX2.out.threeG
      refine (check_any x.typ 0 (by decide) (by decide) _).mono ?_
      rintro e w5 ⟨rfl, rfl⟩
      cases hc : chk x.typ 0 with
      | false =>
        have HR := Lib.hid (parts_ins (hE.out.trans (insE_type HX.out hc)) (by decide))
        clear hc
        go_wp2
        go_ret
        exact ⟨ret_val (congrArg (Value.int .i64) HR.out).symm, hB1.out.trans (HW2.out.mono hB1.out.size)⟩
      | true =>
        have HCK := Lib.hid hc
        clear hc
        go_wp2_with fail
        refine (count_any HD2.out).mono ?_
        rintro e w6 ⟨rfl, B6⟩
        have HW6 := Lib.hid (HW2.out.trans (B6.mono HW2.out.size))
        clear B6 HD2 HD HX2 d0 d1 d2 c0 c1 c2
        generalize hce : (cnt x.dims).2 = ce
        have HCE := Lib.hid hce
        clear hce
        by_cases hz : ce = 0
        · have hzb : (ce != 0) = false := by simpa using hz
          have HN2 := Lib.hid (hE.out.trans (insE_next HX.out HCK.out (HCE.out.trans hz)))
          clear hz
          go_wp2
          go_roundw
          case rel => exact ⟨k + 1, by omega, by go_num, HN2, HW6⟩
          case measure => simp [intOf]; omega
        · have hzb : (ce != 0) = true := by simpa using hz
          have HR := Lib.hid (parts_ins (hE.out.trans ((insE_dims HX.out HCK.out (by rw [HCE.out]; exact hz)).trans HCE.out)) hz)
          clear hz
          go_wp2
          go_ret
          exact ⟨ret_val (congrArg (Value.int .i64) HR.out).symm, hB1.out.trans (HW6.out.mono hB1.out.size)⟩
    · have hki : ¬ (k : Int) < (g.ins.length : Int) := by omega
      obtain rfl : k = g.ins.length := by omega
      have HI0 : Hid (insE g.ins = 0) := Lib.hid (hE.out.trans (insE_end _))
      clear hE
      obtain ⟨k0, k1, k2, k3, k4⟩ := (hA1.out.below' hW.out).fiveG
      go_wp2
      clear k0 k1 k2 k3 k4
      generalize hwq : wr = V2 at *
      clear hwq
      go_loopw [37] (fun i wr => ∃ k : Nat, k ≤ g.inits.length ∧ i = .int .i64 (k : Int) ∧ Hid (initsE g.inits = initsE (g.inits.drop k)) ∧ Hid (Below W1.heap.size W1 wr)) (fun i _ => g.inits.length - (intOf i).toNat)
      case atStart => exact ⟨0, Nat.zero_le _, rfl, Lib.hid rfl, hW⟩
      case round =>
        clear hW
        obtain ⟨k, hk, rfl, hE, hW⟩ := hrel
        by_cases hkl : k < g.inits.length
        · have hki : (k : Int) < (g.inits.length : Int) := by omega
          obtain ⟨x, hx⟩ : ∃ x, g.inits[k]? = some x := ⟨_, List.getElem?_eq_getElem hkl⟩
          have hBw := hB1.out.trans (hW.out.mono hB1.out.size)
          obtain ⟨b, off, cap, vd, vx, hv, hb, c0, c1, c2, c3, h1, h2, h3, h4⟩ := named_at HN.out.inits hx
          obtain ⟨rfl, hle, rfl⟩ := Value.slice.inj hv
          clear hle hv
          obtain ⟨ad, cd, rfl⟩ := h3.shape
          obtain ⟨ax, cx, rfl⟩ := h4.shape
          have c0 := (hBw.cell (p := ⟨b, off + k * 4, none⟩) hb).trans c0
          have c1 := (hBw.cell (p := ⟨b, off + k * 4 + 1, none⟩) hb).trans c1
          have c2 := (hBw.cell (p := ⟨b, off + k * 4 + 2, none⟩) hb).trans c2
          have c3 := (hBw.cell (p := ⟨b, off + k * 4 + 3, none⟩) hb).trans c3
          have HX := Lib.hid hx
          have HD := Lib.hid (h3.below hBw)
          have HE := Lib.hid (h4.below hBw)
          clear hx h3 h4 hBw h1 h2
          go_wp2_with fail
          have HW2 : Hid (Below W1.heap.size W1 (wr.alloc (.cells #[.string x.name, .int .i64 x.typ, .slice ad x.dims.length cd, .slice ax x.data.length cx] 54))) := Lib.hid (hW.out.alloc hW.out.size _)
          have HD2 : Hid (IntsIn (wr.alloc (.cells #[.string x.name, .int .i64 x.typ, .slice ad x.dims.length cd, .slice ax x.data.length cx] 54)) (.slice ad x.dims.length cd) x.dims) := Lib.hid (HD.out.below ((Below.refl _ _).alloc (Nat.le_refl _) _))
          have HE2 : Hid (IntsIn (wr.alloc (.cells #[.string x.name, .int .i64 x.typ, .slice ad x.dims.length cd, .slice ax x.data.length cx] 54)) (.slice ax x.data.length cx) x.data) := Lib.hid (HE.out.below ((Below.refl _ _).alloc (Nat.le_refl _) _))
          generalize wr.alloc _ = W2 at HW2 HD2 HE2 ⊢
          refine (pb_any x.typ x.dims x.data HD2.out HE2.out).mono ?_
          rintro e w6 ⟨rfl, B6⟩
          have HW6 := Lib.hid (HW2.out.trans (B6.mono HW2.out.size))
          clear B6 HD2 HD HE HE2 c0 c1 c2 c3
          generalize hce : pbE x.typ x.dims x.data = ce
          have HCE := Lib.hid hce
          clear hce
          by_cases hz : ce = 0
          · have hzb : (ce != 0) = false := by simpa using hz
            have HN2 := Lib.hid (hE.out.trans (initsE_next HX.out (HCE.out.trans hz)))
            clear hz
            go_wp2
            go_roundw
            case rel => exact ⟨k + 1, by omega, by go_num, HN2, HW6⟩
            case measure => simp [intOf]; omega
          · have hzb : (ce != 0) = true := by simpa using hz
            have HR := Lib.hid (parts_inits HI0.out (hE.out.trans ((initsE_bad HX.out (by rw [HCE.out]; exact hz)).trans HCE.out)) hz)
            clear hz
            go_wp2
            go_ret
            exact ⟨ret_val (congrArg (Value.int .i64) HR.out).symm, hB1.out.trans (HW6.out.mono hB1.out.size)⟩
        · have hki : ¬ (k : Int) < (g.inits.length : Int) := by omega
          obtain rfl : k = g.inits.length := by omega
          have HT0 : Hid (initsE g.inits = 0) := Lib.hid (hE.out.trans (initsE_end _))
          clear hE
          obtain ⟨k0, k1, k2, k3, k4⟩ := (hA1.out.below' hW.out).fiveG
          go_wp2
          clear k0 k1 k2 k3 k4
          generalize hwq : wr = V3 at *
          clear hwq
          go_loopw [51] (fun i wr => ∃ k : Nat, k ≤ g.nodes.length ∧ i = .int .i64 (k : Int) ∧ Hid (nodesE g.nodes = nodesE (g.nodes.drop k)) ∧ Hid (Below W1.heap.size W1 wr)) (fun i _ => g.nodes.length - (intOf i).toNat)
          case atStart => exact ⟨0, Nat.zero_le _, rfl, Lib.hid rfl, hW⟩
          case round =>
            clear hW
            obtain ⟨k, hk, rfl, hE, hW⟩ := hrel
            by_cases hkl : k < g.nodes.length
            · have hki : (k : Int) < (g.nodes.length : Int) := by omega
              obtain ⟨x, hx⟩ : ∃ x, g.nodes[k]? = some x := ⟨_, List.getElem?_eq_getElem hkl⟩
              have hBw := hB1.out.trans (hW.out.mono hB1.out.size)
              obtain ⟨b, off, cap, vd, vx, hv, hb, c0, c1, c2, c3, c4, h3, h5⟩ := node_at HN.out.nodes hx
              obtain ⟨rfl, hle, rfl⟩ := Value.slice.inj hv
              clear hle hv h5
              obtain ⟨ad, cd, rfl⟩ := h3.is.form
              obtain ⟨ax, cx, rfl⟩ := h3.ia.form
              have c0 := (hBw.cell (p := ⟨b, off + k * 5, none⟩) hb).trans c0
              have c1 := (hBw.cell (p := ⟨b, off + k * 5 + 1, none⟩) hb).trans c1
              have c2 := (hBw.cell (p := ⟨b, off + k * 5 + 2, none⟩) hb).trans c2
              have c3 := (hBw.cell (p := ⟨b, off + k * 5 + 3, none⟩) hb).trans c3
              have c4 := (hBw.cell (p := ⟨b, off + k * 5 + 4, none⟩) hb).trans c4
              have HX := Lib.hid hx
              have HD := Lib.hid (h3.below hBw)
              have HGw := Lib.hid (HG.out.below hBw)
              clear hx h3 hBw
              go_wp2_with fail
              have HW2 : Hid (Below W1.heap.size W1 (wr.alloc (.cells #[.string x.op, .string x.name, .slice ad x.ins.length cd, .string x.out, .slice ax x.attrs.length cx] 47))) := Lib.hid (hW.out.alloc hW.out.size _)
              have HD2 : Hid (NodeN (wr.alloc (.cells #[.string x.op, .string x.name, .slice ad x.ins.length cd, .string x.out, .slice ax x.attrs.length cx] 47)) x (.slice ad x.ins.length cd) (.slice ax x.attrs.length cx)) := Lib.hid (HD.out.below ((Below.refl _ _).alloc (Nat.le_refl _) _))
              have HG2 : Hid (Glob (wr.alloc (.cells #[.string x.op, .string x.name, .slice ad x.ins.length cd, .string x.out, .slice ax x.attrs.length cx] 47))) := Lib.hid (HGw.out.below ((Below.refl _ _).alloc (Nat.le_refl _) _))
              generalize wr.alloc _ = W2 at HW2 HD2 HG2 ⊢
              have hx2 := scheck_any ⟨_, _, rfl, HD2.out⟩ HG2.out
              unfold Nd.val at hx2
              refine hx2.mono ?_
              rintro e w6 ⟨rfl, B6⟩
              have HW6 := Lib.hid (HW2.out.trans (B6.mono HW2.out.size))
              clear B6 HD2 HD HG2 HGw hx2 c0 c1 c2 c3 c4
              generalize hce : checkP x = ce
              have HCE := Lib.hid hce
              clear hce
              by_cases hz : ce = 0
              · have hzb : (ce != 0) = false := by simpa using hz
                have HN2 := Lib.hid (hE.out.trans (nodesE_next HX.out (HCE.out.trans hz)))
                clear hz
                go_wp2
                go_roundw
                case rel => exact ⟨k + 1, by omega, by go_num, HN2, HW6⟩
                case measure => simp [intOf]; omega
              · have hzb : (ce != 0) = true := by simpa using hz
                have HR := Lib.hid (parts_nodes HI0.out HT0.out (hE.out.trans ((nodesE_bad HX.out (by rw [HCE.out]; exact hz)).trans HCE.out)))
                clear hz
                go_wp2
                go_ret
                exact ⟨ret_val (congrArg (Value.int .i64) HR.out).symm, hB1.out.trans (HW6.out.mono hB1.out.size)⟩
            · have hki : ¬ (k : Int) < (g.nodes.length : Int) := by omega
              obtain rfl : k = g.nodes.length := by omega
              have HR := Lib.hid (parts_nodes HI0.out HT0.out (hE.out.trans (nodesE_end _)))
              go_wp2
              go_ret
              exact ⟨ret_val (congrArg (Value.int .i64) HR.out).symm, hB1.out.trans (hW.out.mono hB1.out.size)⟩

end Go.Proofs.YtlbhepfbogcipaaGreatDoor
