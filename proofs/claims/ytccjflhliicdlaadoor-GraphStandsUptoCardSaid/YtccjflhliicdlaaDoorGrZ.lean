/- The walk of the law GraphStands. -/
import Derived.Test.YtccjflhliicdlaaDoorGrX
import Derived.Test.YtccjflhliicdlaaDoorGrY
import Derived.BigQuiet
import Derived.Deep.QuietTactic
set_option linter.unusedVariables false
set_option linter.unusedSimpArgs false
namespace Go.Proofs.YtccjflhliicdlaaDoor
open Go.RowKit

/-- Nodes that lie as they lay in an earlier world. -/
def nodeR (w0 : World) (_ : World) (_ : Nat) (n : Nd) (s : Value × Value) : Prop := rdNodeG w0 (nodeC n s) n
abbrev NodesR (w0 : World) := RowO 41 5 nodeC (nodeR w0)
theorem NodesR.reads' {w0 w : World} {B : Nat} {l : List Nd} {v : Value} {ns : List (Value × Value)} (h : NodesR w0 w B l v ns) (hB : Below w0.heap.size w0 w) (hl : l.length ≤ 1048575) : SlIn 5 rdNodeG w v l :=
  RowO.reads h (fun _ _ => rfl) hl fun n s _ hn => rdNodeG_below hB _ _ hn
theorem nats_at {w : World} {v : Value} {l : List Nat} {n : Nat} (h : IntsIn w v (l.map fun (i : Nat) => (i : Int))) (hn : l.length = n) {k i : Nat} (hk : l[k]? = some i) : ∃ b off cap, v = .slice (some ⟨b, off, none⟩) n cap ∧ b < w.heap.size ∧ w.cell? ⟨b, off + k, none⟩ = some (.int .i64 (i : Int)) := by
  have hkl := (List.getElem?_eq_some_iff.1 hk).1
  obtain ⟨b, off, cap, hv, hb, hr, _⟩ := h.rows (k := k) (by rw [List.length_map]; exact hkl)
  refine ⟨b, off, cap, by rw [hv, List.length_map, hn], hb, ?_⟩
  have := hr k (by rw [List.length_map]; exact hkl)
  rw [this]
  simp [List.getD, hk]
theorem stood_orderL {g : Gr} (h : FineG g) : orderL (stood g) = List.range g.nodes.length := by rw [orderL_full (stands_plain h).1, (stands_plain h).2]

theorem bad_len2 {g : Gr} (h : orderE g ≠ 0) : (orderL g).length = 0 := by rw [orderL_bad rfl h]; rfl

attribute [local irreducible] orderE orderL work rdrs atF hasS namesG picked

set_option maxRecDepth 100000 in
set_option maxHeartbeats 4000000 in
theorem standslaw_any {w : World} {v : Value} {g : Gr} (h : GraphV w v g) (hG : Glob w) :
    Calls Tryd.prog 5 #[v] w fun e w' => e = .returned (.bool true) ∧ Below w.heap.size w w' := by
  obtain ⟨i0, hi, hz0, hz1, hz2⟩ := info_parts info_node
  have HO := Lib.hid (fun (W : World) (vi : Value) (h : GraphV W vi g) (hG : Glob W) => order_any h hG)
  have HO2 := Lib.hid (fun (W : World) (vi : Value) (h : GraphV W vi (stood g)) (hG : Glob W) => order_any h hG)
  have HC := Lib.hid (fun (W : World) (vi : Value) (h : GraphV W vi g) => gcopy_any h)
  have HL := Lib.hid (fun (W : World) (hG : Glob W) => glive_any hG)
  obtain ⟨vn, vi, vo, vt, rfl, hg⟩ := h
  obtain ⟨an, cn, rfl⟩ := hg.nodes.form
  have hln := hg.nodes.len
  have HN := Lib.hid hg
  have HGl := Lib.hid hG
  clear hg hG
  unfold Gr.val
  go_enter Tryd.func5, Tryd.ntmps5
  go_wp2_with fail
  have hB1 : Hid (Below w.heap.size w (w.alloc (Obj.cells #[Value.string g.name, .slice an g.nodes.length cn, vi, vo, vt] 26))) := Lib.hid ((Below.refl _ w).alloc (Nat.le_refl _) _)
  have hA1 := Lib.hid (BoxN.new w #[Value.string g.name, .slice an g.nodes.length cn, vi, vo, vt] 26)
  generalize w.alloc _ = W1 at hB1 hA1 ⊢
  have hGV : Hid (∀ W, Below W1.heap.size W1 W → GraphV W (.agg #[Value.string g.name, .slice an g.nodes.length cn, vi, vo, vt]) g) := Lib.hid fun W hW => ⟨_, _, _, _, rfl, HN.out.below (hB1.out.trans (hW.mono hB1.out.size))⟩
  refine (HO.out _ _ (hGV.out W1 (Below.refl _ _)) (HGl.out.below hB1.out)).mono ?_
  rintro e w5 ⟨v', rfl, ho, B5⟩
  have HW5 : Hid (Below W1.heap.size W1 w5) := Lib.hid B5
  have HR := Lib.hid ho
  clear B5 ho
  obtain ⟨al, cl, rfl⟩ := owns_form HR.out
  obtain ⟨k0, k1, k2, k3, k4⟩ := (hA1.out.below' HW5.out).fiveG
  generalize hce : orderE g = ce
  have HCE := Lib.hid hce
  clear hce
  by_cases hz : ce = 0
  · have hzb : (ce != 0) = false := by simpa using hz
    have HF := Lib.hid (fineG_of (HCE.out.trans hz))
    have hll : (orderL g).length = g.nodes.length := by rw [orderL_full (HCE.out.trans hz)]; exact HF.out.full
    have HOL : Hid (orderL g = work g) := Lib.hid (orderL_full (HCE.out.trans hz))
    have g1 := (great_iff.1 HF.out.great).1
    rw [hll] at HR ⊢
    clear hll hz
    have HI : Hid (IntsIn w5 (.slice al g.nodes.length cl) ((work g).map fun (i : Nat) => (i : Int))) := Lib.hid (by
      have h1 := HR.out
      rw [HOL.out] at h1
      have h2 := HF.out.full
      rw [← h2] at h1 ⊢
      exact nats_ints h1 (by omega) (fun i hi => by have := (work_good g).lt i hi; omega))
    clear HR
    go_wp2_with fail
    clear k0 k1 k2 k3 k4
    refine (HC.out _ _ (hGV.out w5 HW5.out)).mono ?_
    rintro e w6 ⟨wn, wi, wo, wt, rfl, ho, B6⟩
    have HO6 : Hid (GraphN w6 g wn wi wo wt) := Lib.hid (ho.reads HN.out)
    have HB6 : Hid (Below w5.heap.size w5 w6) := Lib.hid B6
    clear ho B6
    obtain ⟨an2, cn2, rfl⟩ := HO6.out.nodes.form
    obtain ⟨ai2, ci2, rfl⟩ := HO6.out.ins.form
    obtain ⟨ao2, co2, rfl⟩ := HO6.out.outs.form
    obtain ⟨at2, ct2, rfl⟩ := HO6.out.inits.form
    unfold Gr.val
    have HX8 := Lib.hid (BoxN.new w6 #[Value.string g.name, .slice none 0 0, .slice ai2 g.ins.length ci2, .slice ao2 g.outs.length co2, .slice at2 g.inits.length ct2] 26)
    have HB8 : Hid (Below w6.heap.size w6 (w6.alloc (.cells #[Value.string g.name, .slice none 0 0, .slice ai2 g.ins.length ci2, .slice ao2 g.outs.length co2, .slice at2 g.inits.length ct2] 26))) := Lib.hid ((Below.refl _ _).alloc (Nat.le_refl _) _)
    go_wp2_with fail
    generalize w6.alloc _ = W8 at HX8 HB8 ⊢
    have hs5 := HB6.out.size
    have hPL : (picked g).length = g.nodes.length := stood_len HF.out
    go_loopw [6] (fun i wr => ∃ (k : Nat) (nv : Value) (ns : List (Value × Value)), k ≤ g.nodes.length ∧ i = .int .i64 (k : Int) ∧ Hid (((picked g).take k).length = k) ∧ Hid (BoxN wr w6.heap.size #[Value.string g.name, nv, .slice ai2 g.ins.length ci2, .slice ao2 g.outs.length co2, .slice at2 g.inits.length ct2] 26) ∧ Hid (NodesR w wr (w6.heap.size + 1) ((picked g).take k) nv ns) ∧ Hid (Below w6.heap.size w6 wr)) (fun i _ => g.nodes.length - (intOf i).toNat)
    case atStart => exact ⟨0, .slice none 0 0, [], Nat.zero_le _, rfl, Lib.hid (by simp), HX8, Lib.hid (by rw [List.take_zero]; exact RowO.nil _ _), HB8⟩
    case round =>
      clear HX8 HB8
      obtain ⟨k, nv, ns, hk, rfl, hL, hX, hNo, hW⟩ := hrel
      obtain ⟨anv, cnv, env⟩ := owns_form hNo.out.row
      rw [hL.out] at env
      subst env
      have hW5 : Hid (Below w5.heap.size w5 wr) := Lib.hid (HB6.out.trans (hW.out.mono hs5))
      have hW1 : Hid (Below W1.heap.size W1 wr) := Lib.hid (HW5.out.trans (hW5.out.mono HW5.out.size))
      have hBw : Hid (Below w.heap.size w wr) := Lib.hid (hB1.out.trans (hW1.out.mono hB1.out.size))
      have hsw := hX.out.lt
      by_cases hkl : k < g.nodes.length
      · have hki : (k : Int) < (g.nodes.length : Int) := by omega
        obtain ⟨i, hi'⟩ : ∃ i, (work g)[k]? = some i := ⟨_, List.getElem?_eq_getElem (by rw [HF.out.full]; exact hkl)⟩
        have hil : i < g.nodes.length := (work_good g).lt i (List.mem_of_getElem? hi')
        obtain ⟨bl, ol, cl', hvl, hbl, cl0⟩ := nats_at HI.out HF.out.full hi'
        obtain ⟨rfl, _, rfl⟩ := Value.slice.inj hvl
        obtain ⟨x, hx⟩ : ∃ x, g.nodes[i]? = some x := ⟨_, List.getElem?_eq_getElem hil⟩
        obtain ⟨b, off, cap, vd, vx, hv, hb, c0, c1, c2, c3, c4, h3, h4, h5, h6⟩ := node_at HN.out.nodes hx
        obtain ⟨rfl, _, rfl⟩ := Value.slice.inj hv
        have hrd : nodeR w w 0 x (vd, vx) := ⟨vd, vx, rfl, h3, h4, h5, h6⟩
        obtain ⟨ad, cd, rfl⟩ := h3.is.form
        obtain ⟨ax, cx, rfl⟩ := h3.ia.form
        have HRD := Lib.hid hrd
        have HPk : Hid ((picked g).take (k + 1) = (picked g).take k ++ [x]) := Lib.hid (by rw [List.take_add_one, picked_at hi' hx]; rfl)
        have HS : Hid (∀ W', Below wr.heap.size wr W' → W'.cell? ⟨w.heap.size, 1, none⟩ = some (.slice (some ⟨b, off, none⟩) g.nodes.length cn) ∧ W'.cell? ⟨w6.heap.size, 1, none⟩ = some (.slice anv k cnv) ∧ W'.cell? ⟨bl, ol + k, none⟩ = some (.int .i64 (i : Int)) ∧ W'.cell? ⟨b, off + i * 5, none⟩ = some (.string x.op) ∧ W'.cell? ⟨b, off + i * 5 + 1, none⟩ = some (.string x.name) ∧ W'.cell? ⟨b, off + i * 5 + 2, none⟩ = some (.slice ad x.ins.length cd) ∧ W'.cell? ⟨b, off + i * 5 + 3, none⟩ = some (.string x.out) ∧ W'.cell? ⟨b, off + i * 5 + 4, none⟩ = some (.slice ax x.attrs.length cx)) := Lib.hid fun W' h => by
          have hB := hBw.out.trans (h.mono hBw.out.size)
          exact ⟨(hA1.out.below' (hW1.out.trans (h.mono hW1.out.size))).fiveG.2.1, (hX.out.below' h).fiveG.2.1, ((hW5.out.trans (h.mono hW5.out.size)).cell (p := ⟨bl, ol + k, none⟩) hbl).trans cl0, (hB.cell (p := ⟨b, off + i * 5, none⟩) hb).trans c0, (hB.cell (p := ⟨b, off + i * 5 + 1, none⟩) hb).trans c1, (hB.cell (p := ⟨b, off + i * 5 + 2, none⟩) hb).trans c2, (hB.cell (p := ⟨b, off + i * 5 + 3, none⟩) hb).trans c3, (hB.cell (p := ⟨b, off + i * 5 + 4, none⟩) hb).trans c4⟩
        have hi0 : ¬ (i : Int) < 0 := by omega
        have hi1 : (i : Int) < (g.nodes.length : Int) := by omega
        obtain ⟨s0, s1, s2, _⟩ := HS.out wr (Below.refl _ _)
        clear hv hvl hi' hx c0 c1 c2 c3 c4 cl0 h3 h4 h5 h6 hrd
        go_wp2_with fail
        go_quiet (fail)
        go_wp2_with fail
        clear s0 s1 s2
        refine wp_region_plan 11 [0, 1, 2, 3, 4, 5, 6, 7, 8, 9, 10] (fun W' => Below wr.heap.size wr W') (by kernel_rfl) (by kernel_rfl) (fun _ d _ _ _ h => by cases d <;> exact h) (below_dN (Below.refl _ _) _).drew ?_
        have B0 : Hid (Below wr.heap.size wr (wr.drewN nq).drew) := Lib.hid (below_dN (Below.refl _ _) _).drew
        generalize (wr.drewN nq).drew = wD at B0 ⊢
        repeat
          refine plan_read (v := ?_) rfl rfl (Or.inl ⟨by rfl, ?_⟩) ?_
          rotate_left
          · intro w' hSw
            obtain ⟨s0, s1, s2, s3, s4, s5, s6, s7⟩ := HS.out w' hSw
            go_simp
            try with_reducible rfl
          try simp only [Act.put, List.getElem_toArray, List.getElem_cons_zero, List.getElem_cons_succ, List.setIfInBounds_toArray, List.set_cons_zero, List.set_cons_succ]
        refine plan_act rfl rfl (fun K' hK => ?_)
        go_simp
        refine hK.out _ _ (B0.out.alloc B0.out.size _) ?_
        clear hK K'
        have HB7 : Hid (Below wr.heap.size wr (wD.alloc (.cells #[.string x.op, .string x.name, .slice ad x.ins.length cd, .string x.out, .slice ax x.attrs.length cx] 41))) := Lib.hid (B0.out.alloc B0.out.size _)
        have hsD := B0.out.size
        have HNo7 : Hid (NodesR w (wD.alloc (.cells #[.string x.op, .string x.name, .slice ad x.ins.length cd, .string x.out, .slice ax x.attrs.length cx] 41)) (w6.heap.size + 1) ((picked g).take k) (.slice anv k cnv) ns) := Lib.hid (RowO.keep hNo.out (keep_below (ts := [41]) HB7.out) (by decide) (fun _ _ h => h))
        have HRow7 : Hid ((wD.alloc (.cells #[.string x.op, .string x.name, .slice ad x.ins.length cd, .string x.out, .slice ax x.attrs.length cx] 41)).ownsRow (w6.heap.size + 1) 41 5 (.slice anv k cnv) k (rowG nodeC ((picked g).take k) ns)) := Lib.hid (by have := HNo7.out.row; rwa [hL.out] at this)
        have HX7 : Hid (BoxN (wD.alloc (.cells #[.string x.op, .string x.name, .slice ad x.ins.length cd, .string x.out, .slice ax x.attrs.length cx] 41)) w6.heap.size #[Value.string g.name, .slice anv k cnv, .slice ai2 g.ins.length ci2, .slice ao2 g.outs.length co2, .slice at2 g.inits.length ct2] 26) := Lib.hid (hX.out.below' HB7.out)
        refine plan_tail rfl ?_
        simp only [List.toList_toArray, List.drop_succ_cons, List.drop_zero]
        go_wp2_with (at_builtin; refine wpList_append_own _ rfl _ _ 22 rfl (w6.heap.size + 1) 41 i0 (.agg #[.string ⟨#[]⟩, .string ⟨#[]⟩, .slice none 0 0, .string ⟨#[]⟩, .slice none 0 0]) 5 96 Tryd.underlying22 hi hz0 hz1 hz2 rfl (by decide) _ _ _ rfl HRow7.out ⟨wD.heap.size, 0, none⟩ 1 1 (#[.string x.op, .string x.name, .slice ad x.ins.length cd, .string x.out, .slice ax x.attrs.length cx] : Array Value).toList rfl rfl (World.news_of_block (heap_alloc_new wD _)) ?A2 ?A3 ?A4 ?A5 ?_)
        case A2 => exact ⟨rfl, rfl, rfl, rfl, rfl⟩
        case A3 => unfold maxLen; omega
        case A4 => omega
        case A5 => simp; omega
        intro v' w9 hown' hgrow _
        obtain ⟨a9, c9, rfl⟩ := owns_form hown'
        have HX9 := Lib.hid (box_grown HX7.out hgrow (fun e => owns_box HRow7.out HX7.out (by decide) _ e rfl))
        have KC : KeepT [41] (w6.heap.size + 1) w9 (w9.setCell ⟨w6.heap.size, 1, none⟩ (.slice a9 (k + 1) c9)) := keep_set HX9.out (by decide)
        have HNo10 : Hid (NodesR w (w9.setCell ⟨w6.heap.size, 1, none⟩ (.slice a9 (k + 1) c9)) (w6.heap.size + 1) ((picked g).take (k + 1)) (.slice a9 (k + 1) c9) (ns ++ [(.slice ad x.ins.length cd, .slice ax x.attrs.length cx)])) := Lib.hid (by
          rw [HPk.out]
          have h9 : NodesR w w9 (w6.heap.size + 1) ((picked g).take k ++ [x]) (.slice a9 (k + 1) c9) (ns ++ [(.slice ad x.ins.length cd, .slice ax x.attrs.length cx)]) := RowO.push HNo7.out (by rw [hL.out]; exact hown') (fun _ _ h => h) HRD.out
          exact RowO.keep h9 KC (by decide) (fun _ _ h => h))
        have HX10 : Hid (BoxN (w9.setCell ⟨w6.heap.size, 1, none⟩ (.slice a9 (k + 1) c9)) w6.heap.size #[Value.string g.name, .slice a9 (k + 1) c9, .slice ai2 g.ins.length ci2, .slice ao2 g.outs.length co2, .slice at2 g.inits.length ct2] 26) := Lib.hid (HX9.out.set 1 (.slice a9 (k + 1) c9))
        have HW10 : Hid (Below w6.heap.size w6 (w9.setCell ⟨w6.heap.size, 1, none⟩ (.slice a9 (k + 1) c9))) := Lib.hid (((hW.out.trans (HB7.out.mono (by omega))).grown hgrow (by simp; omega) (fun y hy => by have := (HRow7.out.lt y hy).1; omega)).setCell (p := ⟨w6.heap.size, 1, none⟩) (Nat.le_refl _) _)
        have z5 := HX9.out.fiveG.2.1
        have z6 := HX9.out.frozen 1
        clear hown' hgrow KC
        go_wp2_with fail
        go_roundw
        case rel => exact ⟨k + 1, _, _, by omega, by go_num, Lib.hid (by rw [List.length_take]; omega), HX10, HNo10, HW10⟩
        case measure => simp [intOf]; omega
      · have hki : ¬ (k : Int) < (g.nodes.length : Int) := by omega
        obtain rfl : k = g.nodes.length := by omega
        have HNoF : Hid (SlIn 5 rdNodeG wr (.slice anv g.nodes.length cnv) (picked g)) := Lib.hid (by
          have := hNo.out
          rw [← hPL, List.take_length] at this
          rw [← hPL]
          exact NodesR.reads' this hBw.out (by omega))
        have HV : Hid (GraphV wr (.agg #[Value.string g.name, .slice anv g.nodes.length cnv, .slice ai2 g.ins.length ci2, .slice ao2 g.outs.length co2, .slice at2 g.inits.length ct2]) (stood g)) := Lib.hid ⟨_, _, _, _, rfl, HNoF.out, (HO6.out.below hW.out).ins, (HO6.out.below hW.out).outs, (HO6.out.below hW.out).inits⟩
        obtain ⟨q0, q1, q2, q3, q4⟩ := hX.out.fiveG
        go_wp2_with fail
        refine (HO2.out _ _ HV.out (HGl.out.below hBw.out)).mono ?_
        rintro e w8 ⟨v8, rfl, ho8, B8⟩
        rw [stood_orderL HF.out] at ho8
        rw [(stands_plain HF.out).1]
        have HI8 : Hid (IntsIn w8 v8 ((List.range g.nodes.length).map fun (i : Nat) => (i : Int))) := Lib.hid (nats_ints ho8 (by simp; omega) (fun i hi => by have := List.mem_range.1 hi; omega))
        have HB8 : Hid (Below w.heap.size w w8) := Lib.hid (hBw.out.trans (B8.mono hBw.out.size))
        rw [List.length_range] at ho8
        obtain ⟨a8, c8, rfl⟩ := owns_form ho8
        clear ho8 B8 q0 q1 q2 q3 q4
        have hlb : ((g.nodes.length : Int) != (g.nodes.length : Int)) = false := by simp
        go_wp2_with fail
        go_loopw [9] (fun i wr => ∃ (k : Nat), k ≤ g.nodes.length ∧ i = .int .i64 (k : Int) ∧ Hid (Below w8.heap.size w8 wr)) (fun i _ => g.nodes.length - (intOf i).toNat)
        case atStart => exact ⟨0, Nat.zero_le _, rfl, Lib.hid (Below.refl _ _)⟩
        case round =>
          obtain ⟨k, hk, rfl, hQ⟩ := hrel
          by_cases hkl : k < g.nodes.length
          · have hki : (k : Int) < (g.nodes.length : Int) := by omega
            obtain ⟨bl2, ol2, cl2, hvl, hbl2, cl0⟩ := nats_at (n := g.nodes.length) HI8.out (by simp) (k := k) (i := k) (by simp [hkl])
            obtain ⟨rfl, _, rfl⟩ := Value.slice.inj hvl
            have c0 := (hQ.out.cell (p := ⟨bl2, ol2 + k, none⟩) hbl2).trans cl0
            have hkb : ((k : Int) != (k : Int)) = false := by simp
            clear hvl cl0
            go_wp2_with fail
            go_roundw
            case rel => exact ⟨k + 1, by omega, by go_num, hQ⟩
            case measure => simp [intOf]; omega
          · have hki : ¬ (k : Int) < (g.nodes.length : Int) := by omega
            go_wp2_with fail
            have hb9 := Lib.hid (HB8.out.trans (hQ.out.mono HB8.out.size))
            refine (HL.out _ (HGl.out.below hb9.out)).mono ?_
            rintro e w10 ⟨rfl, B10⟩
            have HW10 : Hid (Below w.heap.size w w10) := Lib.hid (hb9.out.trans (B10.mono hb9.out.size))
            clear B10
            go_wp2
            go_ret
            exact ⟨rfl, HW10.out⟩
  · have hzb : (ce != 0) = true := by simpa using hz
    have hll := bad_len2 (g := g) (by rw [HCE.out]; exact hz)
    rw [hll]
    clear hll hz
    go_wp2_with fail
    have hb5 := Lib.hid (hB1.out.trans (HW5.out.mono hB1.out.size))
    refine (HL.out _ (HGl.out.below hb5.out)).mono ?_
    rintro e w7 ⟨rfl, B7⟩
    have HW7 : Hid (Below w.heap.size w w7) := Lib.hid (hb5.out.trans (B7.mono hb5.out.size))
    clear B7
    go_wp2
    go_ret
    exact ⟨rfl, HW7.out⟩

end Go.Proofs.YtccjflhliicdlaaDoor
