/- The walk of live.sorted. -/
import Derived.Test.YtlbhepfbogcipaaDoorLvQ
import Derived.Test.YtlbhepfbogcipaaDoorGrOw
import Derived.Test.YtlbhepfbogcipaaDoorGrE
set_option linter.unusedVariables false
set_option linter.unusedSimpArgs false
namespace Go.Proofs.YtlbhepfbogcipaaDoor
open Go.RowKit

/-- Nodes that lie as they lay in an earlier world. -/
def nodeR (w0 : World) (_ : World) (_ : Nat) (n : Nd) (s : Value × Value) : Prop := rdNodeG w0 (nodeC n s) n
abbrev NodesR (w0 : World) := RowO 48 5 nodeC (nodeR w0)
theorem NodesR.reads' {w0 w : World} {B : Nat} {l : List Nd} {v : Value} {ns : List (Value × Value)} (h : NodesR w0 w B l v ns) (hB : Below w0.heap.size w0 w) (hl : l.length ≤ 1048575) : SlIn 5 rdNodeG w v l :=
  RowO.reads h (fun _ _ => rfl) hl fun n s _ hn => rdNodeG_below hB _ _ hn
theorem nats_at {w : World} {v : Value} {l : List Nat} {n : Nat} (h : IntsIn w v (l.map fun (i : Nat) => (i : Int))) (hn : l.length = n) {k i : Nat} (hk : l[k]? = some i) : ∃ b off cap, v = .slice (some ⟨b, off, none⟩) n cap ∧ b < w.heap.size ∧ w.cell? ⟨b, off + k, none⟩ = some (.int .i64 (i : Int)) := by
  have hkl := (List.getElem?_eq_some_iff.1 hk).1
  obtain ⟨b, off, cap, hv, hb, hr, _⟩ := h.rows (k := k) (by rw [List.length_map]; exact hkl)
  refine ⟨b, off, cap, by rw [hv, List.length_map, hn], hb, ?_⟩
  have := hr k (by rw [List.length_map]; exact hkl)
  rw [this]
  simp [List.getD, hk]
theorem info_nodeL : (Tryd.prog.info? 48).map (fun i => (i.zero, i.size, i.bytes)) = some (some (.agg #[.string ⟨#[]⟩, .string ⟨#[]⟩, .slice none 0 0, .string ⟨#[]⟩, .slice none 0 0]), 5, 96) := by kernel_rfl

/-- A graph's nodes in the order of work. -/
def sortedL (g : Gr) : List Nd := if orderE g = 0 then picked g else []
theorem sortedL_good {g : Gr} (h : orderE g = 0) : sortedL g = picked g := if_pos h
theorem sortedL_bad {g : Gr} {x : Int} (h : orderE g = x) (hx : x ≠ 0) : sortedL g = [] := if_neg (by rw [h]; exact hx)
theorem sortedL_len {g : Gr} (h : orderE g = 0) : (sortedL g).length = g.nodes.length := by rw [sortedL_good h]; exact stood_len (fineG_of h)
theorem sortedL_le (g : Gr) : (sortedL g).length ≤ 1000 := by
  unfold sortedL
  split
  · rename_i h
    have hf := fineG_of h
    have e : (picked g).length = g.nodes.length := stood_len hf
    rw [e]
    exact (great_iff.1 hf.great).1
  · simp
def SortedV (w0 w : World) (g : Gr) (e : Ending) (w' : World) : Prop := ∃ v' ns, e = .returned (.tuple #[v', .int .i64 (orderE g)]) ∧ NodesR w0 w' w.heap.size (sortedL g) v' ns ∧ Below w.heap.size w w'

theorem SortedV.mk' {w0 w w' : World} {g : Gr} {x : Int} {v : Value} {ns : List (Value × Value)} (h : orderE g = x) (hs : NodesR w0 w' w.heap.size (sortedL g) v ns) (hB : Below w.heap.size w w') : SortedV w0 w g (.returned (.tuple #[v, .int .i64 x])) w' := ⟨v, ns, by rw [h], hs, hB⟩
theorem NodesR.base {w0 w : World} {B B' : Nat} {l : List Nd} {v : Value} {ns : List (Value × Value)} (h : NodesR w0 w B' l v ns) (hb : B ≤ B') : NodesR w0 w B l v ns := ⟨h.len, owns_base h.row hb, h.att⟩
theorem nats_intsL {w : World} {B : Nat} {v : Value} {l : List Nat} (h : w.ownsRow B 3 1 v l.length (natsV l)) (hl : l.length ≤ 2000000) (hb : ∀ i ∈ l, i < 2000000) : IntsIn w v (l.map fun (i : Nat) => (i : Int)) := by
  refine IntsIn.of_owns (B := B) (t := 3) ?_ (by simp; omega) (fun z hz => ?_)
  · rw [List.length_map, List.map_map]; exact h
  · obtain ⟨i, hi, rfl⟩ := List.mem_map.1 hz
    have := hb i hi
    unfold InI; omega

attribute [local irreducible] orderE orderL work hasS namesG picked sortedL

set_option maxRecDepth 100000 in
set_option maxHeartbeats 4000000 in
theorem sorted_any {w0 w : World} {v : Value} {g : Gr} (h : GraphV w0 v g) (hB0 : Below w0.heap.size w0 w) (hG : Glob w) :
    Calls Tryd.prog 11 #[v] w fun e w' => SortedV w0 w g e w' := by
  obtain ⟨i0, hi, hz0, hz1, hz2⟩ := info_parts info_nodeL
  have HO := Lib.hid (fun (W : World) (vi : Value) (h : GraphV W vi g) (hG : Glob W) => order_any h hG)
  obtain ⟨vn, vi, vo, vt, rfl, hg⟩ := h
  obtain ⟨an, cn, rfl⟩ := hg.nodes.form
  have hln := hg.nodes.len
  have HN := Lib.hid hg
  have HGl := Lib.hid hG
  have H0 := Lib.hid hB0
  clear hg hG hB0
  unfold Gr.val
  go_enter Tryd.func11, Tryd.ntmps11
  go_wp2_with fail
  have hB1 : Hid (Below w.heap.size w (w.alloc (Obj.cells #[Value.string g.name, .slice an g.nodes.length cn, vi, vo, vt] 26))) := Lib.hid ((Below.refl _ w).alloc (Nat.le_refl _) _)
  have hA1 := Lib.hid (BoxN.new w #[Value.string g.name, .slice an g.nodes.length cn, vi, vo, vt] 26)
  generalize w.alloc _ = W1 at hB1 hA1 ⊢
  have hGV : Hid (∀ W, Below W1.heap.size W1 W → GraphV W (.agg #[Value.string g.name, .slice an g.nodes.length cn, vi, vo, vt]) g) := Lib.hid fun W hW => ⟨_, _, _, _, rfl, HN.out.below (H0.out.trans ((hB1.out.trans (hW.mono hB1.out.size)).mono H0.out.size))⟩
  refine (HO.out _ _ (hGV.out W1 (Below.refl _ _)) (HGl.out.below hB1.out)).mono ?_
  rintro e w5 ⟨v', rfl, ho, B5⟩
  have HW5 : Hid (Below W1.heap.size W1 w5) := Lib.hid B5
  have HR := Lib.hid ho
  clear B5 ho
  obtain ⟨al, cl, rfl⟩ := owns_form HR.out
  obtain ⟨k0, k1, k2, k3, k4⟩ := (hA1.out.below' HW5.out).fiveG
  generalize hce : orderE g = ce
  have HCE := Lib.hid hce
  clear hce
  have hb5 := Lib.hid (hB1.out.trans (HW5.out.mono hB1.out.size))
  by_cases hz : ce = 0
  · have hzb : (ce != 0) = false := by simpa using hz
    have hE0 := Lib.hid (HCE.out.trans hz)
    have HF := Lib.hid (fineG_of (HCE.out.trans hz))
    have hll : (orderL g).length = g.nodes.length := by rw [orderL_full (HCE.out.trans hz)]; exact HF.out.full
    have HOL : Hid (orderL g = work g) := Lib.hid (orderL_full (HCE.out.trans hz))
    have g1 := (great_iff.1 HF.out.great).1
    rw [hll] at HR ⊢
    clear hll hz
    have HI : Hid (IntsIn w5 (.slice al g.nodes.length cl) ((work g).map fun (i : Nat) => (i : Int))) := Lib.hid (by
      have h1 := HR.out
      rw [HOL.out] at h1
      have h2 := HF.out.full
      rw [← h2] at h1 ⊢
      exact nats_intsL h1 (by omega) (fun i hi => by have := (work_good g).lt i hi; omega))
    clear HR
    go_wp2_with fail
    clear k0 k1 k2 k3 k4
    have hPL : (picked g).length = g.nodes.length := stood_len HF.out
    go_loopw [6, 19] (fun ov i wr => ∃ (k : Nat) (ns : List (Value × Value)), k ≤ g.nodes.length ∧ i = .int .i64 (k : Int) ∧ Hid (((picked g).take k).length = k) ∧ Hid (NodesR w0 wr w5.heap.size ((picked g).take k) ov ns) ∧ Hid (Below w5.heap.size w5 wr)) (fun _ i _ => g.nodes.length - (intOf i).toNat)
    case atStart => exact ⟨0, [], Nat.zero_le _, rfl, Lib.hid (by simp), Lib.hid (by rw [List.take_zero]; exact RowO.nil _ _), Lib.hid (Below.refl _ _)⟩
    case round =>
      obtain ⟨k, ns, hk, rfl, hL, hNo, hW⟩ := hrel
      obtain ⟨anv, cnv, env⟩ := owns_form hNo.out.row
      rw [hL.out] at env
      subst env
      have hW1 : Hid (Below W1.heap.size W1 wr) := Lib.hid (HW5.out.trans (hW.out.mono HW5.out.size))
      have hBw : Hid (Below w.heap.size w wr) := Lib.hid (hB1.out.trans (hW1.out.mono hB1.out.size))
      have hsw := hW.out.size
      by_cases hkl : k < g.nodes.length
      · have hki : (k : Int) < (g.nodes.length : Int) := by omega
        obtain ⟨i, hi'⟩ : ∃ i, (work g)[k]? = some i := ⟨_, List.getElem?_eq_getElem (by rw [HF.out.full]; exact hkl)⟩
        have hil : i < g.nodes.length := (work_good g).lt i (List.mem_of_getElem? hi')
        obtain ⟨bl, ol, cl', hvl, hbl, cl0⟩ := nats_at HI.out HF.out.full hi'
        obtain ⟨rfl, _, rfl⟩ := Value.slice.inj hvl
        obtain ⟨x, hx⟩ : ∃ x, g.nodes[i]? = some x := ⟨_, List.getElem?_eq_getElem hil⟩
        obtain ⟨b, off, cap, vd, vx, hv, hb, c0, c1, c2, c3, c4, h3, h4, h5, h6⟩ := node_at HN.out.nodes hx
        obtain ⟨rfl, _, rfl⟩ := Value.slice.inj hv
        have hrd : nodeR w0 w 0 x (vd, vx) := ⟨vd, vx, rfl, h3, h4, h5, h6⟩
        obtain ⟨ad, cd, rfl⟩ := h3.is.form
        obtain ⟨ax, cx, rfl⟩ := h3.ia.form
        have HRD := Lib.hid hrd
        have HPk : Hid ((picked g).take (k + 1) = (picked g).take k ++ [x]) := Lib.hid (by rw [List.take_add_one, picked_at hi' hx]; rfl)
        have hB := H0.out.trans (hBw.out.mono H0.out.size)
        have s0 := (hA1.out.below' hW1.out).fiveG.2.1
        have cl0 := (hW.out.cell (p := ⟨bl, ol + k, none⟩) hbl).trans cl0
        have c0 := (hB.cell (p := ⟨b, off + i * 5, none⟩) hb).trans c0
        have c1 := (hB.cell (p := ⟨b, off + i * 5 + 1, none⟩) hb).trans c1
        have c2 := (hB.cell (p := ⟨b, off + i * 5 + 2, none⟩) hb).trans c2
        have c3 := (hB.cell (p := ⟨b, off + i * 5 + 3, none⟩) hb).trans c3
        have c4 := (hB.cell (p := ⟨b, off + i * 5 + 4, none⟩) hb).trans c4
        have hi0 : ¬ (i : Int) < 0 := by omega
        have hi1 : (i : Int) < (g.nodes.length : Int) := by omega
        have HB7 : Hid (Below wr.heap.size wr (wr.alloc (.cells #[.string x.op, .string x.name, .slice ad x.ins.length cd, .string x.out, .slice ax x.attrs.length cx] 48))) := Lib.hid ((Below.refl _ _).alloc (Nat.le_refl _) _)
        have HNo7 : Hid (NodesR w0 (wr.alloc (.cells #[.string x.op, .string x.name, .slice ad x.ins.length cd, .string x.out, .slice ax x.attrs.length cx] 48)) w5.heap.size ((picked g).take k) (.slice anv k cnv) ns) := Lib.hid (RowO.keep hNo.out (keep_below (ts := [48]) HB7.out) (by decide) (fun _ _ h => h))
        have HRow7 : Hid ((wr.alloc (.cells #[.string x.op, .string x.name, .slice ad x.ins.length cd, .string x.out, .slice ax x.attrs.length cx] 48)).ownsRow w5.heap.size 48 5 (.slice anv k cnv) k (rowG nodeC ((picked g).take k) ns)) := Lib.hid (by have := HNo7.out.row; rwa [hL.out] at this)
        clear hv hvl hi' hx h3 h4 h5 h6 hrd hB
        go_wp2_with (at_builtin; refine wpList_append_own _ rfl _ _ 22 rfl w5.heap.size 48 i0 (.agg #[.string ⟨#[]⟩, .string ⟨#[]⟩, .slice none 0 0, .string ⟨#[]⟩, .slice none 0 0]) 5 96 Tryd.underlying22 hi hz0 hz1 hz2 rfl (by decide) _ _ _ rfl HRow7.out ⟨wr.heap.size, 0, none⟩ 1 1 (#[.string x.op, .string x.name, .slice ad x.ins.length cd, .string x.out, .slice ax x.attrs.length cx] : Array Value).toList rfl rfl (World.news_of_block (heap_alloc_new wr _)) ?A2 ?A3 ?A4 ?A5 ?_)
        case A2 => exact ⟨rfl, rfl, rfl, rfl, rfl⟩
        case A3 => unfold maxLen; omega
        case A4 => omega
        case A5 => have := HB7.out.size; omega
        intro v' w9 hown' hgrow _
        obtain ⟨a9, c9, rfl⟩ := owns_form hown'
        have HNo10 : Hid (NodesR w0 w9 w5.heap.size ((picked g).take (k + 1)) (.slice a9 (k + 1) c9) (ns ++ [(.slice ad x.ins.length cd, .slice ax x.attrs.length cx)])) := Lib.hid (by
          rw [HPk.out]
          exact RowO.push HNo7.out (by rw [hL.out]; exact hown') (fun _ _ h => h) HRD.out)
        have HW10 : Hid (Below w5.heap.size w5 w9) := Lib.hid ((hW.out.trans (HB7.out.mono (by omega))).grown hgrow (by simp; omega) (fun y hy => by have := (HRow7.out.lt y hy).1; omega))
        clear hown' hgrow c0 c1 c2 c3 c4 cl0 s0
        go_wp2_with fail
        go_roundw
        case rel => exact ⟨k + 1, _, by omega, by go_num, Lib.hid (by rw [List.length_take]; omega), HNo10, HW10⟩
        case measure => simp [intOf]; omega
      · have hki : ¬ (k : Int) < (g.nodes.length : Int) := by omega
        obtain rfl : k = g.nodes.length := by omega
        have HNoF : Hid (NodesR w0 wr w.heap.size (sortedL g) (.slice anv g.nodes.length cnv) ns) := Lib.hid (by
          have := hNo.out
          rw [← hPL, List.take_length] at this
          rw [← hPL, sortedL_good hE0.out]
          exact this.base (by have := hb5.out.size; omega))
        go_wp2
        go_ret2
        exact SortedV.mk' hE0.out HNoF.out hBw.out
  · have hzb : (ce != 0) = true := by simpa using hz
    have HS0 := Lib.hid (sortedL_bad HCE.out hz)
    clear hz
    go_wp2
    go_ret2
    exact SortedV.mk' HCE.out (by rw [HS0.out]; exact RowO.nil _ _) hb5.out

end Go.Proofs.YtlbhepfbogcipaaDoor
