/- The walks of the reference's Sorted and reads (live). -/
import Derived.Test.YtlbhepfbogcipaaGreatDoorLvM1
import Derived.Test.YtlbhepfbogcipaaGreatDoorReg
import Derived.Test.YtlbhepfbogcipaaGreatDoorLvOr
import Derived.Test.YtlbhepfbogcipaaGreatDoorGrF
import Derived.BigRegion
import Derived.BigQuiet
import Derived.Deep.QuietTactic
set_option linter.unusedVariables false
set_option linter.unusedSimpArgs false
namespace Go.Proofs.YtlbhepfbogcipaaGreatDoor
open Go.RowKit

set_option maxRecDepth 100000
attribute [local irreducible] hasS

set_option maxHeartbeats 1000000 in
/-- THE REFERENCE's READS. -/
theorem lreads_any {w : World} {v : Value} {x : Nd} (s : ByteArray) (h : ∃ vin vat, v = x.val vin vat ∧ NodeN w x vin vat) :
    Calls Tryz.prog 22 #[v, .string s] w fun e w' => e = .returned (.bool (hasS x.ins s)) ∧ Below w.heap.size w w' := by
  obtain ⟨vin, vat, rfl, hn⟩ := h
  obtain ⟨a1, c1, rfl⟩ := hn.is.form
  have hlen := hn.is.len
  have HN := Lib.hid hn
  clear hn
  unfold Nd.val
  go_enter Tryz.func22, Tryz.ntmps22
  go_wp2_with fail
  have hB1 : Hid (Below w.heap.size w (w.alloc (Obj.cells #[Value.string x.op, .string x.name, .slice a1 x.ins.length c1, .string x.out, vat] 47))) := Lib.hid ((Below.refl _ w).alloc (Nat.le_refl _) _)
  have hA1 := Lib.hid (BoxN.new w #[Value.string x.op, .string x.name, .slice a1 x.ins.length c1, .string x.out, vat] 47)
  generalize w.alloc _ = W1 at hB1 hA1 ⊢
  go_loopw [5] (fun i wr => ∃ k : Nat, k ≤ x.ins.length ∧ i = .int .i64 (k : Int) ∧ Hid (Below W1.heap.size W1 wr) ∧ Hid (hasS (x.ins.take k) s = false)) (fun i _ => x.ins.length - (intOf i).toNat)
  case atStart => exact ⟨0, Nat.zero_le _, rfl, Lib.hid (Below.refl _ _), Lib.hid (by unfold hasS; simp)⟩
  case round =>
    obtain ⟨k, hk, rfl, hW, hT⟩ := hrel
    obtain ⟨k0, k1, k2, k3, k4⟩ := (hA1.out.below' hW.out).five
    by_cases hkl : k < x.ins.length
    · have hki : (k : Int) < (x.ins.length : Int) := by omega
      obtain ⟨y, hy⟩ : ∃ y, x.ins[k]? = some y := ⟨_, List.getElem?_eq_getElem hkl⟩
      obtain ⟨b, off, cap, hv, hb, hr⟩ := HN.out.is.rows k y hy
      obtain ⟨rfl, _, rfl⟩ := Value.slice.inj hv
      have hww := hB1.out.trans (hW.out.mono hB1.out.size)
      have c0 := (hww.cell (p := ⟨b, off + k, none⟩) hb).trans (hr k y hy)
      have HY := Lib.hid hy
      clear hy hv hr hww
      by_cases e : y = s
      · have heq : (y.toList == s.toList) = true := by rw [e]; simp
        have he : Hid (hasS x.ins s = true) := Lib.hid (by
          subst e
          unfold hasS
          rw [List.any_eq_true]
          exact ⟨_, List.mem_of_getElem? HY.out, by simp⟩)
        go_wp2
        go_ret
        exact ⟨ret_val (bool_val he.out.symm), hB1.out.trans (hW.out.mono hB1.out.size)⟩
      · have heq : (y.toList == s.toList) = false := by simpa using fun c => e (toList_inj c)
        have hT2 := Lib.hid (hasS_next hT.out HY.out e)
        go_wp2
        go_roundw
        case rel => exact ⟨k + 1, by omega, by go_num, hW, hT2⟩
        case measure => simp [intOf]; omega
    · have hki : ¬ (k : Int) < (x.ins.length : Int) := by omega
      obtain rfl : k = x.ins.length := by omega
      have he : Hid (hasS x.ins s = false) := Lib.hid (by have := hT.out; rwa [List.take_length] at this)
      go_wp2
      go_ret
      exact ⟨ret_val (bool_val he.out.symm), hB1.out.trans (hW.out.mono hB1.out.size)⟩

end Go.Proofs.YtlbhepfbogcipaaGreatDoor

set_option linter.unusedVariables false
set_option linter.unusedSimpArgs false
namespace Go.Proofs.YtlbhepfbogcipaaGreatDoor
open Go.RowKit

set_option maxRecDepth 100000

/-- The graph with its nodes in the order of work. -/
def sortedG (g : Gr) : Gr := ⟨g.name, sortedL g, g.ins, g.outs, g.inits⟩
def GZero : Value := .agg #[.string ⟨#[]⟩, .slice none 0 0, .slice none 0 0, .slice none 0 0, .slice none 0 0]
def RSortV (w : World) (g : Gr) (e : Ending) (w' : World) : Prop := ∃ h, e = .returned (.tuple #[h, .int .i64 (orderE g)]) ∧ Below w.heap.size w w' ∧ ((orderE g = 0 ∧ GraphV w' h (sortedG g)) ∨ (orderE g ≠ 0 ∧ h = GZero))
theorem RSortV.bad {w w' : World} {g : Gr} {x : Int} (h : orderE g = x) (hx : x ≠ 0) (hB : Below w.heap.size w w') : RSortV w g (.returned (.tuple #[.agg #[.string ⟨#[]⟩, .slice none 0 0, .slice none 0 0, .slice none 0 0, .slice none 0 0], .int .i64 x])) w' := ⟨GZero, by rw [h]; rfl, hB, Or.inr ⟨by rw [h]; exact hx, rfl⟩⟩
theorem RSortV.good {w w' : World} {g : Gr} {vn vn' vi vo vt : Value} (h : orderE g = 0) (hB : Below w.heap.size w w') (hn : SlIn 5 rdNodeG w' vn (sortedL g)) (hg : GraphN w' g vn' vi vo vt) : RSortV w g (.returned (.tuple #[.agg #[.string g.name, vn, vi, vo, vt], .int .i64 0])) w' := ⟨.agg #[.string g.name, vn, vi, vo, vt], by rw [h], hB, Or.inl ⟨h, vn, vi, vo, vt, rfl, ⟨hn, hg.ins, hg.outs, hg.inits⟩⟩⟩

attribute [local irreducible] orderE orderL work hasS namesG picked sortedL

set_option maxHeartbeats 4000000 in
theorem rsorted_any {w : World} {v : Value} {g : Gr} (h : GraphV w v g) :
    Calls Tryz.prog 21 #[v] w fun e w' => RSortV w g e w' := by
  obtain ⟨i0, hi, hz0, hz1, hz2⟩ := info_parts info_nodeL
  have HO := Lib.hid (fun (W : World) (vi : Value) (h : GraphV W vi g) => rgorder_any h)
  obtain ⟨vn, vi, vo, vt, rfl, hg⟩ := h
  obtain ⟨an, cn, rfl⟩ := hg.nodes.form
  obtain ⟨ai, ci, rfl⟩ := hg.ins.form
  obtain ⟨ao, co, rfl⟩ := hg.outs.form
  obtain ⟨at', ct, rfl⟩ := hg.inits.form
  have hln := hg.nodes.len
  have HN := Lib.hid hg
  clear hg
  unfold Gr.val
  go_enter Tryz.func21, Tryz.ntmps21
  go_wp2_with fail
  have hB1 : Hid (Below w.heap.size w ((w.alloc (Obj.cells #[Value.string g.name, .slice an g.nodes.length cn, .slice ai g.ins.length ci, .slice ao g.outs.length co, .slice at' g.inits.length ct] 26)).alloc (.cells #[.string ⟨#[]⟩, .slice none 0 0, .slice none 0 0, .slice none 0 0, .slice none 0 0] 26))) := Lib.hid (((Below.refl _ w).alloc (Nat.le_refl _) _).alloc (by simp) _)
  have hA1 : Hid (BoxN ((w.alloc (Obj.cells #[Value.string g.name, .slice an g.nodes.length cn, .slice ai g.ins.length ci, .slice ao g.outs.length co, .slice at' g.inits.length ct] 26)).alloc (.cells #[.string ⟨#[]⟩, .slice none 0 0, .slice none 0 0, .slice none 0 0, .slice none 0 0] 26)) w.heap.size #[Value.string g.name, .slice an g.nodes.length cn, .slice ai g.ins.length ci, .slice ao g.outs.length co, .slice at' g.inits.length ct] 26) := Lib.hid ((BoxN.new w _ _).below' ((Below.refl _ _).alloc (Nat.le_refl _) _))
  have hA2 : Hid (BoxN ((w.alloc (Obj.cells #[Value.string g.name, .slice an g.nodes.length cn, .slice ai g.ins.length ci, .slice ao g.outs.length co, .slice at' g.inits.length ct] 26)).alloc (.cells #[.string ⟨#[]⟩, .slice none 0 0, .slice none 0 0, .slice none 0 0, .slice none 0 0] 26)) (w.heap.size + 1) #[.string ⟨#[]⟩, .slice none 0 0, .slice none 0 0, .slice none 0 0, .slice none 0 0] 26) := Lib.hid (boxN_newL (by simp))
  have hs1 : Hid (((w.alloc (Obj.cells #[Value.string g.name, .slice an g.nodes.length cn, .slice ai g.ins.length ci, .slice ao g.outs.length co, .slice at' g.inits.length ct] 26)).alloc (.cells #[.string ⟨#[]⟩, .slice none 0 0, .slice none 0 0, .slice none 0 0, .slice none 0 0] 26)).heap.size = w.heap.size + 1 + 1) := Lib.hid (by simp)
  generalize World.alloc (w.alloc _) _ = W1 at hB1 hA1 hA2 hs1 ⊢
  have hGV : Hid (∀ W, Below W1.heap.size W1 W → GraphV W (.agg #[Value.string g.name, .slice an g.nodes.length cn, .slice ai g.ins.length ci, .slice ao g.outs.length co, .slice at' g.inits.length ct]) g) := Lib.hid fun W hW => ⟨_, _, _, _, rfl, HN.out.below (hB1.out.trans (hW.mono hB1.out.size))⟩
  refine (HO.out _ _ (hGV.out W1 (Below.refl _ _))).mono ?_
  rintro e w5 ⟨v', rfl, ho, B5⟩
  have HW5 : Hid (Below W1.heap.size W1 w5) := Lib.hid B5
  have HR := Lib.hid ho
  clear B5 ho
  obtain ⟨al, cl, rfl⟩ := owns_form HR.out
  have hA1' := Lib.hid (hA1.out.below' HW5.out)
  have hA2' := Lib.hid (hA2.out.below' HW5.out)
  obtain ⟨k0, k1, k2, k3, k4⟩ := hA1'.out.fiveG
  obtain ⟨z0, z1, z2, z3, z4⟩ := hA2'.out.fiveG
  obtain ⟨f0, f1, f2, f3, f4⟩ := hA2'.out.thaw5
  generalize hce : orderE g = ce
  have HCE := Lib.hid hce
  clear hce
  have hb5 := Lib.hid (hB1.out.trans (HW5.out.mono hB1.out.size))
  by_cases hz : ce = 0
  · have hzb : (ce != 0) = false := by simpa using hz
    have hE0 := Lib.hid (HCE.out.trans hz)
    have HF := Lib.hid (fineG_of (HCE.out.trans hz))
    have hll : (orderL g).length = g.nodes.length := by rw [orderL_full (HCE.out.trans hz)]; exact HF.out.full
    have HOL : Hid (orderL g = work g) := Lib.hid (orderL_full (HCE.out.trans hz))
    have g1 := (great_iff.1 HF.out.great).1
    rw [hll] at HR ⊢
    clear hll hz
    have HI : Hid (IntsIn w5 (.slice al g.nodes.length cl) ((work g).map fun (i : Nat) => (i : Int))) := Lib.hid (by
      have h1 := HR.out
      rw [HOL.out] at h1
      have h2 := HF.out.full
      rw [← h2] at h1 ⊢
      exact nats_intsL h1 (by omega) (fun i hi => by have := (work_good g).lt i hi; omega))
    clear HR
    go_wp2_with fail
    clear k0 k1 k2 k3 k4 z0 z1 z2 z3 z4 f0 f1 f2 f3 f4
    have HB6 : Hid (Below w5.heap.size w5 (w5.alloc (Obj.cells #[Value.string g.name, .slice none 0 0, .slice ai g.ins.length ci, .slice ao g.outs.length co, .slice at' g.inits.length ct] 26))) := Lib.hid ((Below.refl _ _).alloc (Nat.le_refl _) _)
    have HX6 : Hid (BoxN (w5.alloc (Obj.cells #[Value.string g.name, .slice none 0 0, .slice ai g.ins.length ci, .slice ao g.outs.length co, .slice at' g.inits.length ct] 26)) w5.heap.size #[Value.string g.name, .slice none 0 0, .slice ai g.ins.length ci, .slice ao g.outs.length co, .slice at' g.inits.length ct] 26) := Lib.hid (BoxN.new _ _ _)
    generalize w5.alloc _ = W6 at HB6 HX6 ⊢
    have hPL : (picked g).length = g.nodes.length := stood_len HF.out
    go_loopw [7] (fun i wr => ∃ (k : Nat) (ns : List (Value × Value)) (v : Value), k ≤ g.nodes.length ∧ i = .int .i64 (k : Int) ∧ Hid (((picked g).take k).length = k) ∧ Hid (BoxN wr w5.heap.size #[Value.string g.name, v, .slice ai g.ins.length ci, .slice ao g.outs.length co, .slice at' g.inits.length ct] 26) ∧ Hid (NodesR w wr (w5.heap.size + 1) ((picked g).take k) v ns) ∧ Hid (Below w5.heap.size w5 wr)) (fun i _ => g.nodes.length - (intOf i).toNat)
    case atStart => exact ⟨0, [], _, Nat.zero_le _, rfl, Lib.hid (by simp), HX6, Lib.hid (by rw [List.take_zero]; exact RowO.nil _ _), HB6⟩
    case round =>
      obtain ⟨k, ns, v, hk, rfl, hL, hX, hNo, hW⟩ := hrel
      obtain ⟨anv, cnv, env⟩ := owns_form hNo.out.row
      rw [hL.out] at env
      subst env
      have hBw : Hid (Below w.heap.size w wr) := Lib.hid (hb5.out.trans (hW.out.mono hb5.out.size))
      have hsw := hW.out.size
      by_cases hkl : k < g.nodes.length
      · have hki : (k : Int) < (g.nodes.length : Int) := by omega
        obtain ⟨i, hi'⟩ : ∃ i, (work g)[k]? = some i := ⟨_, List.getElem?_eq_getElem (by rw [HF.out.full]; exact hkl)⟩
        have hil : i < g.nodes.length := (work_good g).lt i (List.mem_of_getElem? hi')
        obtain ⟨bl, ol, cl', hvl, hbl, cl0⟩ := nats_at HI.out HF.out.full hi'
        obtain ⟨rfl, _, rfl⟩ := Value.slice.inj hvl
        obtain ⟨x, hx⟩ : ∃ x, g.nodes[i]? = some x := ⟨_, List.getElem?_eq_getElem hil⟩
        obtain ⟨b, off, cap, vd, vx, hv, hb, c0, c1, c2, c3, c4, h3, h4, h5, h6⟩ := node_at HN.out.nodes hx
        obtain ⟨rfl, _, rfl⟩ := Value.slice.inj hv
        have hrd : nodeR w w 0 x (vd, vx) := ⟨vd, vx, rfl, h3, h4, h5, h6⟩
        obtain ⟨ad, cd, rfl⟩ := h3.is.form
        obtain ⟨ax, cx, rfl⟩ := h3.ia.form
        have HRD := Lib.hid hrd
        have HPk : Hid ((picked g).take (k + 1) = (picked g).take k ++ [x]) := Lib.hid (by rw [List.take_add_one, picked_at hi' hx]; rfl)
        have HF' : Hid (∀ W', Below wr.heap.size wr W' → BoxN W' w5.heap.size #[Value.string g.name, .slice anv k cnv, .slice ai g.ins.length ci, .slice ao g.outs.length co, .slice at' g.inits.length ct] 26 ∧ W'.cell? ⟨w.heap.size, 1, none⟩ = some (.slice (some ⟨b, off, none⟩) g.nodes.length cn) ∧ W'.cell? ⟨bl, ol + k, none⟩ = some (.int .i64 (i : Int)) ∧ W'.cell? ⟨b, off + i * 5, none⟩ = some (.string x.op) ∧ W'.cell? ⟨b, off + i * 5 + 1, none⟩ = some (.string x.name) ∧ W'.cell? ⟨b, off + i * 5 + 2, none⟩ = some (.slice ad x.ins.length cd) ∧ W'.cell? ⟨b, off + i * 5 + 3, none⟩ = some (.string x.out) ∧ W'.cell? ⟨b, off + i * 5 + 4, none⟩ = some (.slice ax x.attrs.length cx)) := Lib.hid fun W' hW' => by
          have h5' := hW.out.trans (hW'.mono hsw)
          have hB := hb5.out.trans (h5'.mono hb5.out.size)
          exact ⟨hX.out.below' hW', (hA1'.out.below' h5').cell 1 rfl, (h5'.cell (p := ⟨bl, ol + k, none⟩) hbl).trans cl0, (hB.cell (p := ⟨b, off + i * 5, none⟩) hb).trans c0, (hB.cell (p := ⟨b, off + i * 5 + 1, none⟩) hb).trans c1, (hB.cell (p := ⟨b, off + i * 5 + 2, none⟩) hb).trans c2, (hB.cell (p := ⟨b, off + i * 5 + 3, none⟩) hb).trans c3, (hB.cell (p := ⟨b, off + i * 5 + 4, none⟩) hb).trans c4⟩
        have hi0 : ¬ (i : Int) < 0 := by omega
        have hi1 : (i : Int) < (g.nodes.length : Int) := by omega
        have hk0 : ¬ (k : Int) < 0 := by omega
        have HB7 : Hid (Below wr.heap.size wr (wr.alloc (.cells #[.string x.op, .string x.name, .slice ad x.ins.length cd, .string x.out, .slice ax x.attrs.length cx] 47)).drew) := Lib.hid ((Below.refl _ _).alloc (Nat.le_refl _) _).drew
        have HNo7 : Hid (NodesR w (wr.alloc (.cells #[.string x.op, .string x.name, .slice ad x.ins.length cd, .string x.out, .slice ax x.attrs.length cx] 47)).drew (w5.heap.size + 1) ((picked g).take k) (.slice anv k cnv) ns) := Lib.hid (RowO.keep hNo.out (keep_below (ts := [47]) HB7.out) (by decide) (fun _ _ h => h))
        have HRow7 : Hid ((wr.alloc (.cells #[.string x.op, .string x.name, .slice ad x.ins.length cd, .string x.out, .slice ax x.attrs.length cx] 47)).drew.ownsRow (w5.heap.size + 1) 47 5 (.slice anv k cnv) k (rowG nodeC ((picked g).take k) ns)) := Lib.hid (by have := HNo7.out.row; rwa [hL.out] at this)
        have HX7 : Hid (BoxN (wr.alloc (.cells #[.string x.op, .string x.name, .slice ad x.ins.length cd, .string x.out, .slice ax x.attrs.length cx] 47)).drew w5.heap.size #[Value.string g.name, .slice anv k cnv, .slice ai g.ins.length ci, .slice ao g.outs.length co, .slice at' g.inits.length ct] 26) := Lib.hid (hX.out.below' HB7.out)
        have HNews := Lib.hid (World.news_of_block (w := (wr.alloc (.cells #[.string x.op, .string x.name, .slice ad x.ins.length cd, .string x.out, .slice ax x.attrs.length cx] 47)).drew) (heap_alloc_new wr (.cells #[.string x.op, .string x.name, .slice ad x.ins.length cd, .string x.out, .slice ax x.attrs.length cx] 47)))
        have hs7 : Hid ((wr.alloc (.cells #[.string x.op, .string x.name, .slice ad x.ins.length cd, .string x.out, .slice ax x.attrs.length cx] 47)).drew.heap.size = wr.heap.size + 1) := Lib.hid (by simp)
        clear hv hvl hi' hx h3 h4 h5 h6 hrd c0 c1 c2 c3 c4 cl0
        have hsX := hX.out.lt
        go_wp2_with fail
        refine wp_region_plan 11 [0, 1, 2, 3, 4, 5, 6, 7, 8, 9, 10] (fun W' => Below wr.heap.size wr W') (by kernel_rfl) (by kernel_rfl) (fun _ d _ _ _ h => by cases d <;> exact h) (Below.refl _ _).drew ?_
        have B0 : Hid (Below wr.heap.size wr wr.drew) := Lib.hid (Below.refl _ _).drew
        repeat
          refine plan_read (v := ?_) rfl rfl (Or.inl ⟨by rfl, ?_⟩) ?_
          rotate_left
          · intro w' hSw
            obtain ⟨s1, s2, s3, s4, s5, s6, s7, s8⟩ := HF'.out w' hSw
            have s0 := s1.fiveG.2.1
            clear s1
            go_simp
            try with_reducible rfl
          try simp only [Act.put, List.getElem_toArray, List.getElem_cons_zero, List.getElem_cons_succ, List.setIfInBounds_toArray, List.set_cons_zero, List.set_cons_succ]
        refine plan_act rfl rfl (fun K' hK => ?_)
        go_simp
        refine hK.out _ _ (B0.out.alloc (Nat.le_refl _) _) ?_
        clear hK K'
        refine plan_tail rfl ?_
        simp only [List.toList_toArray, List.drop_succ_cons, List.drop_zero]
        go_wp2_with (at_builtin; refine wpList_append_own _ rfl _ _ 22 rfl (w5.heap.size + 1) 47 i0 (.agg #[.string ⟨#[]⟩, .string ⟨#[]⟩, .slice none 0 0, .string ⟨#[]⟩, .slice none 0 0]) 5 96 Tryz.underlying22 hi hz0 hz1 hz2 rfl (by decide) _ _ _ rfl HRow7.out ⟨wr.heap.size, 0, none⟩ 1 1 (#[.string x.op, .string x.name, .slice ad x.ins.length cd, .string x.out, .slice ax x.attrs.length cx] : Array Value).toList rfl rfl HNews.out ?A2 ?A3 ?A4 ?A5 ?_)
        case A2 => exact ⟨rfl, rfl, rfl, rfl, rfl⟩
        case A3 => unfold maxLen; omega
        case A4 => omega
        case A5 => have := hs7.out; omega
        intro v' w9 hown' hgrow _
        obtain ⟨a9, c9, rfl⟩ := owns_form hown'
        have HX9 : Hid (BoxN w9 w5.heap.size #[Value.string g.name, .slice anv k cnv, .slice ai g.ins.length ci, .slice ao g.outs.length co, .slice at' g.inits.length ct] 26) := Lib.hid (box_grown HX7.out hgrow (fun e => by have := (HRow7.out.lt _ e).1; omega))
        have HNo9 : Hid (NodesR w w9 (w5.heap.size + 1) ((picked g).take (k + 1)) (.slice a9 (k + 1) c9) (ns ++ [(.slice ad x.ins.length cd, .slice ax x.attrs.length cx)])) := Lib.hid (by
          rw [HPk.out]
          exact RowO.push HNo7.out (by rw [hL.out]; exact hown') (fun _ _ h => h) HRD.out)
        have HW9 : Hid (Below w5.heap.size w5 w9) := Lib.hid ((hW.out.trans (HB7.out.mono (by omega))).grown hgrow (by have := hs7.out; omega) (fun y hy => by have := (HRow7.out.lt y hy).1; omega))
        have HX10 : Hid (BoxN (w9.setCell ⟨w5.heap.size, 1, none⟩ (.slice a9 (k + 1) c9)) w5.heap.size #[Value.string g.name, .slice a9 (k + 1) c9, .slice ai g.ins.length ci, .slice ao g.outs.length co, .slice at' g.inits.length ct] 26) := Lib.hid (HX9.out.set 1 _)
        have HNo10 : Hid (NodesR w (w9.setCell ⟨w5.heap.size, 1, none⟩ (.slice a9 (k + 1) c9)) (w5.heap.size + 1) ((picked g).take (k + 1)) (.slice a9 (k + 1) c9) (ns ++ [(.slice ad x.ins.length cd, .slice ax x.attrs.length cx)])) := Lib.hid (RowO.keep HNo9.out (keep_set (ts := [47]) HX9.out (by decide)) (by decide) (fun _ _ h => h))
        have HW10 : Hid (Below w5.heap.size w5 (w9.setCell ⟨w5.heap.size, 1, none⟩ (.slice a9 (k + 1) c9))) := Lib.hid (HW9.out.setCell (Nat.le_refl _) _)
        have hL2 : Hid (((picked g).take (k + 1)).length = k + 1) := Lib.hid (by rw [List.length_take, hPL]; omega)
        have t0 := HX9.out.fiveG.2.1
        have t1 := HX9.out.thaw5.2.1
        clear hgrow hown' HX9 HNo9 HW9
        go_wp2_with fail
        go_roundw
        case rel => exact ⟨k + 1, _, _, by omega, by go_num, hL2, HX10, HNo10, HW10⟩
        case measure => simp [intOf]; omega
      · have hki : ¬ (k : Int) < (g.nodes.length : Int) := by omega
        obtain rfl : k = g.nodes.length := by omega
        have HX2 := hA2.out.below' (HW5.out.trans (hW.out.mono HW5.out.size))
        obtain ⟨z0, z1, z2, z3, z4⟩ := HX2.fiveG
        obtain ⟨f0, f1, f2, f3, f4⟩ := HX2.thaw5
        obtain ⟨y0, y1, y2, y3, y4⟩ := hX.out.fiveG
        have HP := HX2.put5 (.string g.name) (.slice anv g.nodes.length cnv) (.slice ai g.ins.length ci) (.slice ao g.outs.length co) (.slice at' g.inits.length ct)
        have HBz : Hid (Below w.heap.size w (put5 wr (w.heap.size + 1) (.string g.name) (.slice anv g.nodes.length cnv) (.slice ai g.ins.length ci) (.slice ao g.outs.length co) (.slice at' g.inits.length ct))) := Lib.hid (below_put5 hBw.out (by omega))
        have HNoz : Hid (NodesR w (put5 wr (w.heap.size + 1) (.string g.name) (.slice anv g.nodes.length cnv) (.slice ai g.ins.length ci) (.slice ao g.outs.length co) (.slice at' g.inits.length ct)) (w5.heap.size + 1) (sortedL g) (.slice anv g.nodes.length cnv) ns) := Lib.hid (by
          have := RowO.keep hNo.out (keep_put5 (ts := [47]) (B := w5.heap.size + 1) HX2 (by decide) (.string g.name) (.slice anv g.nodes.length cnv) (.slice ai g.ins.length ci) (.slice ao g.outs.length co) (.slice at' g.inits.length ct)) (by decide) (fun _ _ h => h)
          rw [← hPL, List.take_length, hPL] at this
          rw [sortedL_good hE0.out]
          exact this)
        unfold put5 at HP HBz HNoz
        have HP := Lib.hid HP
        clear HX2 hNo
        go_wp2_with fail
        clear z0 z1 z2 z3 z4 f0 f1 f2 f3 f4 y0 y1 y2 y3 y4
        generalize World.setCell _ _ _ = W7 at HP HBz HNoz ⊢
        obtain ⟨z0, z1, z2, z3, z4⟩ := HP.out.fiveG
        refine bodyPost_ret (v := .tuple #[.agg #[.string g.name, .slice anv g.nodes.length cnv, .slice ai g.ins.length ci, .slice ao g.outs.length co, .slice at' g.inits.length ct], .int .i64 0]) (by simp [results, Tryz.f21, go_sem, z0, z1, z2, z3, z4]) rfl ?_
        exact RSortV.good hE0.out HBz.out (NodesR.reads' HNoz.out HBz.out (by have := sortedL_le g; omega)) (HN.out.below HBz.out)
  · have hzb : (ce != 0) = true := by simpa using hz
    have HZ := Lib.hid hz
    clear hz
    have HP := hA2'.out.put5 (.string ⟨#[]⟩) (.slice none 0 0) (.slice none 0 0) (.slice none 0 0) (.slice none 0 0)
    have HBz : Hid (Below w.heap.size w (put5 w5 (w.heap.size + 1) (.string ⟨#[]⟩) (.slice none 0 0) (.slice none 0 0) (.slice none 0 0) (.slice none 0 0))) := Lib.hid (below_put5 hb5.out (by omega))
    unfold put5 at HP HBz
    have HP := Lib.hid HP
    go_wp2_with fail
    clear k0 k1 k2 k3 k4 z0 z1 z2 z3 z4 f0 f1 f2 f3 f4
    generalize World.setCell _ _ _ = W7 at HP HBz ⊢
    obtain ⟨z0, z1, z2, z3, z4⟩ := HP.out.fiveG
    refine bodyPost_ret (v := .tuple #[.agg #[.string ⟨#[]⟩, .slice none 0 0, .slice none 0 0, .slice none 0 0, .slice none 0 0], .int .i64 ce]) (by simp [results, Tryz.f21, go_sem, z0, z1, z2, z3, z4]) rfl ?_
    exact RSortV.bad HCE.out HZ.out HBz.out

end Go.Proofs.YtlbhepfbogcipaaGreatDoor

set_option linter.unusedVariables false
set_option linter.unusedSimpArgs false
namespace Go.Proofs.YtlbhepfbogcipaaGreatDoor
open Go.RowKit

set_option maxRecDepth 100000

/-- What out[a][b] holds ahead of the round of c. -/
def befC (l : List Nd) (a b c : Nat) : Bool := readsL l a b || (List.range c).any fun k => decide (a < k) && decide (k < b) && (befB l a k && befB l k b)
theorem befC_start {l : List Nd} {a b : Nat} : befC l a b (a + 1) = readsL l a b := by
  unfold befC
  have : ((List.range (a + 1)).any fun k => decide (a < k) && decide (k < b) && (befB l a k && befB l k b)) = false := by
    rw [List.any_eq_false]
    intro k hk
    rw [List.mem_range] at hk
    simp only [show ¬ a < k by omega, decide_false, Bool.false_and]
    decide
  rw [this, Bool.or_false]
theorem befC_next {l : List Nd} {a b c : Nat} (h1 : a < c) (h2 : c < b) : befC l a b (c + 1) = (befC l a b c || (befB l a c && befB l c b)) := by
  unfold befC
  rw [List.range_succ, List.any_append]
  simp [h1, h2, Bool.or_assoc]
theorem befC_true {l : List Nd} {a b c : Nat} (hb : b < l.length) (h : befC l a b c = true) : befB l a b = true := by
  rw [befB_ref]
  unfold befC at h
  rw [Bool.or_eq_true] at h ⊢
  refine h.imp id (fun h => ?_)
  rw [List.any_eq_true] at h ⊢
  obtain ⟨k, _, hk⟩ := h
  refine ⟨k, ?_, hk⟩
  simp only [Bool.and_eq_true, decide_eq_true_eq] at hk
  rw [List.mem_range]
  omega
theorem befC_end {l : List Nd} {a b : Nat} (hb : b < l.length) : befC l a b b = befB l a b := by
  rw [Bool.eq_iff_iff]
  refine ⟨befC_true hb, fun h => ?_⟩
  rw [befB_ref] at h
  unfold befC
  rw [Bool.or_eq_true] at h ⊢
  refine h.imp id (fun h => ?_)
  rw [List.any_eq_true] at h ⊢
  obtain ⟨k, _, hk⟩ := h
  refine ⟨k, ?_, hk⟩
  simp only [Bool.and_eq_true, decide_eq_true_eq] at hk
  rw [List.mem_range]
  omega
theorem reads_form {l : List Nd} {a b : Nat} {x y : Nd} (hab : a < b) (ha : l[a]? = some x) (hb : l[b]? = some y) : readsL l a b = hasS y.ins x.out := by
  unfold readsL
  rw [ha, hb]
  simp [hab]
/-- A row on the way: ahead of b what it shall hold, at b what it holds so far. -/
def rowQ (F : Nat → Nat → Bool) (i p : Nat) (x : Bool) (j : Nat) : Bool := if j = p then x else decide (j < p) && F i j
theorem rowQ_at {F : Nat → Nat → Bool} {i p : Nat} {x : Bool} : rowQ F i p x p = x := if_pos rfl
theorem rowQ_lt {F : Nat → Nat → Bool} {i p j : Nat} {x : Bool} (h : j < p) : rowQ F i p x j = F i j := by
  unfold rowQ; rw [if_neg (by omega), decide_eq_true h, Bool.true_and]
theorem rowQ_ne {F : Nat → Nat → Bool} {i p k : Nat} {x y : Bool} (h : k ≠ p) : rowQ F i p x k = rowQ F i p y k := by
  unfold rowQ; rw [if_neg h, if_neg h]
theorem rowQ_next {F : Nat → Nat → Bool} {i p j : Nat} : rowQ F i p (F i p) j = rowQ F i (p + 1) false j ∨ True := Or.inr trivial
theorem rowQ_step {F : Nat → Nat → Bool} {i p : Nat} (j : Nat) : rowQ F i (p + 1) false j = rowQ F i p (F i p) j := by
  unfold rowQ
  by_cases h1 : j = p
  · subst h1
    rw [if_neg (by omega), if_pos rfl, decide_eq_true (by omega), Bool.true_and]
  · by_cases h2 : j = p + 1
    · subst h2; rw [if_pos rfl, if_neg h1, decide_eq_false (by omega), Bool.false_and]
    · rw [if_neg h2, if_neg h1, show decide (j < p + 1) = decide (j < p) by rw [Bool.eq_iff_iff]; simp; omega]
theorem rowQ_first {l : List Nd} {i : Nat} (j : Nat) : rowQ (befB l) i (i + 1) false j = false := by
  unfold rowQ
  split
  · rfl
  · rename_i h
    cases hd : decide (j < i + 1) with
    | false => rfl
    | true =>
      cases e : befB l i j with
      | false => rfl
      | true => have := (bef_lt e).1; simp at hd; omega

def RBefV (w : World) (g : Gr) (e : Ending) (w' : World) : Prop := BeforeV w g e w'

attribute [local irreducible] orderE orderL work hasS namesG picked sortedL rdsL befB befC readsL rowQ

set_option maxHeartbeats 8000000 in
theorem rbefore_any {w : World} {v : Value} {g : Gr} (h : GraphV w v g) :
    Calls Tryz.prog 9 #[v] w fun e w' => BeforeV w g e w' := by
  have HS := Lib.hid (fun (W : World) (vi : Value) (h : GraphV W vi g) => rsorted_any h)
  have hms := run_make_nilsB
  have hmb := run_make_bools
  have HRd := Lib.hid (fun (W : World) (x : Nd) (s : ByteArray) (v1 v2 : Value) (h : NodeN W x v1 v2) => lreads_any (w := W) (x := x) s ⟨v1, v2, rfl, h⟩)
  obtain ⟨vn, vi, vo, vt, rfl, hg⟩ := h
  have HN := Lib.hid hg
  clear hg
  unfold Gr.val
  go_enter Tryz.func9, Tryz.ntmps9
  go_wp2_with fail
  have hB1 : Hid (Below w.heap.size w (w.alloc (Obj.cells #[Value.string g.name, vn, vi, vo, vt] 26))) := Lib.hid ((Below.refl _ w).alloc (Nat.le_refl _) _)
  generalize w.alloc _ = W1 at hB1 ⊢
  have hGV : Hid (GraphV W1 (.agg #[Value.string g.name, vn, vi, vo, vt]) g) := Lib.hid ⟨_, _, _, _, rfl, HN.out.below hB1.out⟩
  refine (HS.out _ _ hGV.out).mono ?_
  rintro e w2 ⟨hv, rfl, B2, hc2⟩
  have HB2 : Hid (Below w.heap.size w w2) := Lib.hid (hB1.out.trans (B2.mono hB1.out.size))
  clear B2 hB1 hGV
  generalize hce : orderE g = ce at hc2
  have HCE := Lib.hid hce
  clear hce
  rcases hc2 with ⟨hz, un, ui, uo, ut, rfl, hgs⟩ | ⟨hz, rfl⟩
  · have hzb : (ce != 0) = false := by simpa using hz
    have hE0 := Lib.hid (HCE.out.trans hz)
    subst hz
    obtain ⟨an, cn, hun⟩ := hgs.nodes.form
    obtain ⟨ai, ci, hui⟩ := hgs.ins.form
    obtain ⟨ao, co, huo⟩ := hgs.outs.form
    obtain ⟨at', ct, hut⟩ := hgs.inits.form
    have HNd := Lib.hid hgs.nodes
    subst hun hui huo hut
    have hnl : (sortedL g).length ≤ 1000 := sortedL_le g
    clear hgs
    unfold Gr.val
    unfold sortedG at HNd ⊢
    dsimp only at HNd ⊢
    have HBV : Hid (∀ W v', Below w.heap.size w W → TabB W v' (sortedL g).length (befB (sortedL g)) → BeforeV w g (.returned (.tuple #[v', .int .i64 0])) W) := Lib.hid fun W v' hB hT => BeforeV.good hE0.out hB hT
    generalize sortedL g = l at HNd HBV hnl ⊢
    have hmk := hms (w2.alloc (Obj.cells #[Value.string g.name, .slice an l.length cn, .slice ai g.ins.length ci, .slice ao g.outs.length co, .slice at' g.inits.length ct] 26)) l.length (by omega)
    rw [World.size_alloc] at hmk
    go_wp2_with fail
    have HB3 : Hid (Below w2.heap.size w2 (w2.alloc (Obj.cells #[Value.string g.name, .slice an l.length cn, .slice ai g.ins.length ci, .slice ao g.outs.length co, .slice at' g.inits.length ct] 26))) := Lib.hid ((Below.refl _ _).alloc (Nat.le_refl _) _)
    have HA3 : Hid (BoxN (w2.alloc (Obj.cells #[Value.string g.name, .slice an l.length cn, .slice ai g.ins.length ci, .slice ao g.outs.length co, .slice at' g.inits.length ct] 26)) w2.heap.size #[Value.string g.name, .slice an l.length cn, .slice ai g.ins.length ci, .slice ao g.outs.length co, .slice at' g.inits.length ct] 26) := Lib.hid (BoxN.new _ _ _)
    have hs3 : Hid ((w2.alloc (Obj.cells #[Value.string g.name, .slice an l.length cn, .slice ai g.ins.length ci, .slice ao g.outs.length co, .slice at' g.inits.length ct] 26)).heap.size = w2.heap.size + 1) := Lib.hid (by simp)
    generalize w2.alloc _ = W3 at HB3 HA3 hs3 ⊢
    rw [← hs3.out]
    have HR1 : Hid (BoolRows (W3.alloc (.cells (nilRows l.length).toArray 35)) W3.heap.size l.length (nilRows l.length) (befB l) l.length) := Lib.hid (BoolRows.new _ _ _)
    have HB4 : Hid (Below W3.heap.size W3 (W3.alloc (.cells (nilRows l.length).toArray 35))) := Lib.hid ((Below.refl _ W3).alloc (Nat.le_refl _) _)
    generalize W3.alloc _ = W4 at HR1 HB4 ⊢
    have HBw3 : Hid (Below w.heap.size w W3) := Lib.hid (HB2.out.trans (HB3.out.mono HB2.out.size))
    clear hmk hms
    go_loopw [8] (fun iv wr => ∃ (m : Nat) (rs : List Value), m ≤ l.length ∧ iv = .int .i64 ((m : Int) - 1) ∧ Hid (BoolRows wr W3.heap.size l.length rs (befB l) m) ∧ Hid (Below W3.heap.size W3 wr)) (fun iv _ => (intOf iv + 1).toNat)
    case atStart => exact ⟨l.length, _, Nat.le_refl _, rfl, HR1, HB4⟩
    case round =>
      clear HR1 HB4
      obtain ⟨m, rs, hm, rfl, hR, hW⟩ := hrel
      rcases Nat.eq_zero_or_pos m with rfl | hpos
      · have HT2 := Lib.hid hR.out.tab
        have HBz := Lib.hid (HBw3.out.trans (hW.out.mono HBw3.out.size))
        go_wp2
        go_ret2
        exact HBV.out _ _ HBz.out HT2.out
      · obtain ⟨i, rfl⟩ : ∃ i, m = i + 1 := ⟨m - 1, by omega⟩
        have ei : ((i + 1 : Nat) : Int) - 1 = (i : Int) := by omega
        rw [ei]
        have hii : (i : Int) < (l.length : Int) := by omega
        have hi0 : ¬ (i : Int) < 0 := by omega
        have hi1 : (0 : Int) ≤ (i : Int) := by omega
        have hmk := hmb wr l.length (by omega)
        have HB5 : Hid (Below W3.heap.size W3 (wr.alloc (.cells (doneCells l.length []) 4))) := Lib.hid (hW.out.alloc hW.out.size _)
        have HX5 : Hid (BoxN (wr.alloc (.cells (doneCells l.length []) 4)) W3.heap.size rs.toArray 35) := Lib.hid (hR.out.box.below' ((Below.refl _ _).alloc (Nat.le_refl _) _))
        have HD5 := Lib.hid (RowB.new wr l.length)
        have hne : wr.heap.size ≠ W3.heap.size := by have := hR.out.box.lt; omega
        obtain ⟨u0, hu0⟩ : ∃ u, rs[i]? = some u := ⟨_, List.getElem?_eq_getElem (by rw [hR.out.len]; omega)⟩
        have d0 := HX5.out.cell i (v := u0) (by rw [List.getElem?_toArray]; exact hu0)
        have f0 := HX5.out.frozen i
        have HW6 : Hid (Below W3.heap.size W3 ((wr.alloc (.cells (doneCells l.length []) 4)).setCell ⟨W3.heap.size, i, none⟩ (.slice (some ⟨wr.heap.size, 0, none⟩) l.length l.length))) := Lib.hid (HB5.out.setCell (p := ⟨W3.heap.size, i, none⟩) (Nat.le_refl _) _)
        have HX6 : Hid (BoxN ((wr.alloc (.cells (doneCells l.length []) 4)).setCell ⟨W3.heap.size, i, none⟩ (.slice (some ⟨wr.heap.size, 0, none⟩) l.length l.length)) W3.heap.size (rs.set i (.slice (some ⟨wr.heap.size, 0, none⟩) l.length l.length)).toArray 35) := Lib.hid (by have := HX5.out.set i (.slice (some ⟨wr.heap.size, 0, none⟩) l.length l.length); rwa [List.setIfInBounds_toArray] at this)
        have HD6 : Hid (RowB ((wr.alloc (.cells (doneCells l.length []) 4)).setCell ⟨W3.heap.size, i, none⟩ (.slice (some ⟨wr.heap.size, 0, none⟩) l.length l.length)) wr.heap.size l.length (rowQ (befB l) i (i + 1) false)) := Lib.hid ((HD5.out.keep (Below.heap_setCell _ _ _ _ hne)).congr fun j _ => (rowQ_first j).symm)
        have HK6 : Hid (∀ g, g < wr.heap.size → g ≠ W3.heap.size → ((wr.alloc (.cells (doneCells l.length []) 4)).setCell ⟨W3.heap.size, i, none⟩ (.slice (some ⟨wr.heap.size, 0, none⟩) l.length l.length)).heap[g]? = wr.heap[g]?) := Lib.hid fun g h1 h2 => (Below.heap_setCell _ _ _ _ h2).trans (((Below.refl _ wr).alloc (Nat.le_refl _) _).block g h1)
        go_wp2_with fail
        generalize hbx : wr.heap.size = b0 at *
        generalize World.setCell _ _ _ = W6 at HW6 HX6 HD6 HK6 ⊢
        have hRR : Hid (∀ r, i + 1 ≤ r → r < l.length → ∃ br, W6.cell? ⟨W3.heap.size, r, none⟩ = some (.slice (some ⟨br, 0, none⟩) l.length l.length) ∧ br < b0 ∧ RowB W6 br l.length (befB l r)) := Lib.hid fun r h1 h2 => by
          obtain ⟨br, e1, e2, e3⟩ := hR.out.row r h1 h2
          have hlt := e3.lt
          rw [hbx] at hlt
          exact ⟨br, HX6.out.cell r (by rw [List.getElem?_toArray, List.getElem?_set_ne (by omega)]; exact e1), by omega, e3.keep (HK6.out br hlt (by omega))⟩
        have hB0 : Hid (W6.cell? ⟨W3.heap.size, i, none⟩ = some (.slice (some ⟨b0, 0, none⟩) l.length l.length)) := Lib.hid (HX6.out.cell i (by rw [List.getElem?_toArray, List.getElem?_set_self (by rw [hR.out.len]; omega)]))
        have hsz : Hid (W3.heap.size < b0) := Lib.hid (by have := hR.out.box.lt; omega)
        clear HB5 HX5 HD5 hmk d0 f0 hu0
        generalize hwo : wr = V at *
        clear hwo
        go_loopw [9] (fun pv wq => ∃ p : Nat, i + 1 ≤ p ∧ p ≤ l.length ∧ pv = .int .i64 (p : Int) ∧ Hid (RowB wq b0 l.length (rowQ (befB l) i p false)) ∧ Hid (∀ g, g < b0 → wq.heap[g]? = W6.heap[g]?) ∧ Hid (Below W3.heap.size W3 wq)) (fun pv _ => l.length - (intOf pv).toNat)
        case atStart => exact ⟨i + 1, Nat.le_refl _, by omega, by go_num, HD6, Lib.hid (fun _ _ => rfl), HW6⟩
        case round =>
          clear HD6 HW6
          obtain ⟨p, hip, hp, rfl, hD, hKK, hQ⟩ := hrel
          by_cases hpl : p < l.length
          · have hpi : (p : Int) < (l.length : Int) := by omega
            have hp0 : ¬ (p : Int) < 0 := by omega
            obtain ⟨x, hx⟩ : ∃ x, l[i]? = some x := ⟨_, List.getElem?_eq_getElem (by omega)⟩
            obtain ⟨y, hy⟩ : ∃ y, l[p]? = some y := ⟨_, List.getElem?_eq_getElem hpl⟩
            obtain ⟨bn, on, cn', vin, vat, hvn, hbn, y0, y1, y2, y3, y4, hyN, _⟩ := node_at HNd.out hy
            obtain ⟨rfl, _, rfl⟩ := Value.slice.inj hvn
            obtain ⟨bn2, on2, cn2, _, _, hvn2, _, _, _, _, x3, _⟩ := node_at HNd.out hx
            obtain ⟨e2, -, -⟩ := Value.slice.inj hvn2
            obtain ⟨rfl, rfl⟩ : bn2 = bn ∧ on2 = on := by simpa using e2.symm
            obtain ⟨ad, cd, rfl⟩ := hyN.is.form
            obtain ⟨ax, cx, rfl⟩ := hyN.ia.form
            have HRF : Hid (hasS y.ins x.out = befC l i p (i + 1)) := Lib.hid (by rw [befC_start]; exact (reads_form (by omega) hx hy).symm)
            have hsq := hQ.out.size
            have hbl := hD.out.lt
            have hb3 := HB3.out.size
            have HF' : Hid (∀ W', Below wr.heap.size wr W' → W'.cell? ⟨W3.heap.size, i, none⟩ = some (.slice (some ⟨b0, 0, none⟩) l.length l.length) ∧ W'.cell? ⟨w2.heap.size, 1, none⟩ = some (.slice (some ⟨bn2, on2, none⟩) l.length cn) ∧ W'.cell? ⟨bn2, on2 + p * 5, none⟩ = some (.string y.op) ∧ W'.cell? ⟨bn2, on2 + p * 5 + 1, none⟩ = some (.string y.name) ∧ W'.cell? ⟨bn2, on2 + p * 5 + 2, none⟩ = some (.slice ad y.ins.length cd) ∧ W'.cell? ⟨bn2, on2 + p * 5 + 3, none⟩ = some (.string y.out) ∧ W'.cell? ⟨bn2, on2 + p * 5 + 4, none⟩ = some (.slice ax y.attrs.length cx) ∧ W'.cell? ⟨bn2, on2 + i * 5 + 3, none⟩ = some (.string x.out)) := Lib.hid fun W' hW' => by
              have h3 := hQ.out.trans (hW'.mono hsq)
              have hB := HB3.out.trans (h3.mono hb3)
              exact ⟨(hW'.cell (p := ⟨W3.heap.size, i, none⟩) (by have := hsz.out; show W3.heap.size < _; omega)).trans ((World.cell?_of_block (a := ⟨W3.heap.size, i, none⟩) (hKK.out _ hsz.out)).trans hB0.out), (HA3.out.below' h3).cell 1 rfl, (hB.cell (p := ⟨bn2, on2 + p * 5, none⟩) hbn).trans y0, (hB.cell (p := ⟨bn2, on2 + p * 5 + 1, none⟩) hbn).trans y1, (hB.cell (p := ⟨bn2, on2 + p * 5 + 2, none⟩) hbn).trans y2, (hB.cell (p := ⟨bn2, on2 + p * 5 + 3, none⟩) hbn).trans y3, (hB.cell (p := ⟨bn2, on2 + p * 5 + 4, none⟩) hbn).trans y4, (hB.cell (p := ⟨bn2, on2 + i * 5 + 3, none⟩) hbn).trans x3⟩
            have HC : Hid (∀ W', Below wr.heap.size wr W' → Calls Tryz.prog 22 #[.agg #[.string y.op, .string y.name, .slice ad y.ins.length cd, .string y.out, .slice ax y.attrs.length cx], .string x.out] W' fun e w' => e = .returned (.bool (hasS y.ins x.out)) ∧ Below W'.heap.size W' w') := Lib.hid fun W' hW' => by
              have := HRd.out W' y x.out _ _ (hyN.below (HB3.out.trans ((hQ.out.trans (hW'.mono hsq)).mono hb3)))
              unfold Nd.val at this
              exact this
            clear hx hy hvn hvn2 y0 y1 y2 y3 y4 x3 hyN e2
            go_wp2_with fail
            refine wp_region_plan 17 [0, 1, 2, 3, 4, 5, 6, 7, 8, 9, 10, 11, 12, 13, 14, 15, 16] (fun W' => Below wr.heap.size wr W') (by kernel_rfl) (by kernel_rfl) (fun _ d _ _ _ h => by cases d <;> exact h) (Below.refl _ _).drew ?_
            have B0 : Hid (Below wr.heap.size wr wr.drew) := Lib.hid (Below.refl _ _).drew
            repeat
              refine plan_read (v := ?_) rfl rfl (Or.inl ⟨by rfl, ?_⟩) ?_
              rotate_left
              · intro w' hSw
                obtain ⟨s1, s2, s3, s4, s5, s6, s7, s8⟩ := HF'.out w' hSw
                go_simp
                try with_reducible rfl
              try simp only [Act.put, List.getElem_toArray, List.getElem_cons_zero, List.getElem_cons_succ, List.setIfInBounds_toArray, List.set_cons_zero, List.set_cons_succ]
            refine plan_act rfl rfl (fun K' hK => ?_)
            go_simp
            refine (HC.out _ B0.out).mono ?_
            rintro e w8 ⟨rfl, B⟩
            have B1 := Lib.hid (B0.out.trans (B.mono B0.out.size))
            refine hK.out _ _ B1.out ?_
            clear hK K' B B0
            refine plan_tail rfl ?_
            simp only [List.toList_toArray, List.drop_succ_cons, List.drop_zero]
            have d0 := (hD.out.keep (B1.out.block b0 hbl)).cell hpl
            have f0 := (hD.out.keep (B1.out.block b0 hbl)).frozen p
            have HD9 : Hid (RowB (w8.setCell ⟨b0, p, none⟩ (.bool (hasS y.ins x.out))) b0 l.length (rowQ (befB l) i p (befC l i p (i + 1)))) := Lib.hid ((hD.out.keep (B1.out.block b0 hbl)).set (by rw [rowQ_at]; exact HRF.out.symm) (fun k hk => rowQ_ne hk))
            have HK9 : Hid (∀ g, g < b0 → (w8.setCell ⟨b0, p, none⟩ (.bool (hasS y.ins x.out))).heap[g]? = W6.heap[g]?) := Lib.hid fun g hg => (Below.heap_setCell _ _ _ _ (by show g ≠ b0; omega)).trans ((B1.out.block g (by omega)).trans (hKK.out g hg))
            have HQ9 : Hid (Below W3.heap.size W3 (w8.setCell ⟨b0, p, none⟩ (.bool (hasS y.ins x.out)))) := Lib.hid ((hQ.out.trans (B1.out.mono hsq)).setCell (p := ⟨b0, p, none⟩) (by have := hsz.out; show W3.heap.size ≤ b0; omega) _)
            clear HF' HC HRF
            go_wp2_with fail
            clear d0 f0 hbl hsq
            generalize World.setCell _ _ _ = W9 at HD9 HK9 HQ9 ⊢
            clear B1 hD hKK hQ
            go_loopw [10] (fun cv wq => ∃ c : Nat, i + 1 ≤ c ∧ c ≤ p ∧ cv = .int .i64 (c : Int) ∧ Hid (RowB wq b0 l.length (rowQ (befB l) i p (befC l i p c))) ∧ Hid (∀ g, g < b0 → wq.heap[g]? = W6.heap[g]?) ∧ Hid (Below W3.heap.size W3 wq)) (fun cv _ => p - (intOf cv).toNat)
            case atStart => exact ⟨i + 1, Nat.le_refl _, hip, by go_num, HD9, HK9, HQ9⟩
            case round =>
              clear HD9 HK9 HQ9
              obtain ⟨c, hic, hcp, rfl, hD, hKK, hQ⟩ := hrel
              have k0 : wr.cell? ⟨W3.heap.size, i, none⟩ = some (.slice (some ⟨b0, 0, none⟩) l.length l.length) := (World.cell?_of_block (a := ⟨W3.heap.size, i, none⟩) (hKK.out _ hsz.out)).trans hB0.out
              have d0 := hD.out.cell hpl
              rw [rowQ_at] at d0
              by_cases hcl : c < p
              · have hci : (c : Int) < (p : Int) := by omega
                obtain ⟨x0, hx0⟩ : ∃ x0, befC l i p c = x0 := ⟨_, rfl⟩
                rw [hx0] at d0
                have HX0 := Lib.hid hx0
                clear hx0
                cases x0 with
                | true =>
                  have HDn : Hid (RowB wr b0 l.length (rowQ (befB l) i (p + 1) false)) := Lib.hid (hD.out.congr fun j _ => by rw [rowQ_step, befC_true hpl HX0.out, HX0.out])
                  go_wp2_with fail
                  go_roundw
                  case rel => exact ⟨p + 1, by omega, by omega, by go_num, HDn, hKK, hQ⟩
                  case measure => simp [intOf]; omega
                | false =>
                  obtain ⟨br, e1, e2, e3⟩ := hRR.out c (by omega) (by omega)
                  have k1 : wr.cell? ⟨W3.heap.size, c, none⟩ = some (.slice (some ⟨br, 0, none⟩) l.length l.length) := (World.cell?_of_block (a := ⟨W3.heap.size, c, none⟩) (hKK.out _ hsz.out)).trans e1
                  have k2 := (e3.keep (hKK.out br e2)).cell hpl
                  have d1 := hD.out.cell (j := c) (by omega)
                  rw [rowQ_lt hcl] at d1
                  have f0 := hD.out.frozen p
                  have hc0 : ¬ (c : Int) < 0 := by omega
                  have hc1 : (c : Int) < (l.length : Int) := by omega
                  obtain ⟨y0, hy0⟩ : ∃ y0, befB l i c = y0 := ⟨_, rfl⟩
                  obtain ⟨z0, hz0⟩ : ∃ z0, befB l c p = z0 := ⟨_, rfl⟩
                  have HXn : Hid (befC l i p (c + 1) = (y0 && z0)) := Lib.hid (by rw [befC_next (by omega) hcl, HX0.out, hy0, hz0, Bool.false_or])
                  rw [hy0] at d1
                  rw [hz0] at k2
                  clear hy0 hz0 e1 e3
                  have HDn : ∀ z, (y0 && z0) = z → Hid (RowB (wr.setCell ⟨b0, p, none⟩ (.bool z)) b0 l.length (rowQ (befB l) i p (befC l i p (c + 1)))) := fun z hz => Lib.hid (hD.out.set (by rw [rowQ_at, HXn.out, hz]) (fun k hk => rowQ_ne hk))
                  have HKn : ∀ z, Hid (∀ g, g < b0 → (wr.setCell ⟨b0, p, none⟩ (.bool z)).heap[g]? = W6.heap[g]?) := fun z => Lib.hid fun g hg => (Below.heap_setCell _ _ _ _ (by show g ≠ b0; omega)).trans (hKK.out g hg)
                  have HQn : ∀ z, Hid (Below W3.heap.size W3 (wr.setCell ⟨b0, p, none⟩ (.bool z))) := fun z => Lib.hid (hQ.out.setCell (p := ⟨b0, p, none⟩) (by have := hsz.out; show W3.heap.size ≤ b0; omega) _)
                  have HDn := Lib.hid HDn
                  have HKn := Lib.hid HKn
                  have HQn := Lib.hid HQn
                  clear HXn
                  go_wp2_with fail
                  cases y0 <;> cases z0
                  all_goals
                    go_region
                    go_wp2_with fail
                    go_roundw
                    case rel => exact ⟨c + 1, by omega, by omega, by go_num, HDn.out _ rfl, HKn.out _, Lib.hid (HQn.out _).out.drew⟩
                    case measure => simp [intOf]; omega
              · have hci : ¬ (c : Int) < (p : Int) := by omega
                obtain rfl : c = p := by omega
                have HDn : Hid (RowB wr b0 l.length (rowQ (befB l) i (c + 1) false)) := Lib.hid (hD.out.congr fun j _ => by rw [rowQ_step, befC_end hpl])
                go_wp2_with fail
                go_roundw
                case rel => exact ⟨c + 1, by omega, by omega, by go_num, HDn, hKK, hQ⟩
                case measure => simp [intOf]; omega
          · have hpi : ¬ (p : Int) < (l.length : Int) := by omega
            obtain rfl : p = l.length := by omega
            have HNext : Hid (BoolRows wr W3.heap.size l.length (rs.set i (.slice (some ⟨b0, 0, none⟩) l.length l.length)) (befB l) i) := Lib.hid (by
              have := hR.out.next (W := wr) (by omega) (by rw [hbx]; exact (hKK.out _ hsz.out).trans HX6.out) (fun g h1 h2 => by rw [hbx] at h1; exact (hKK.out g (by omega)).trans (HK6.out g h1 h2)) (by rw [hbx]; exact hD.out.congr fun j hj => rowQ_lt hj)
              rwa [hbx] at this)
            go_wp2_with fail
            go_roundw
            case rel => exact ⟨i, _, by omega, by go_num, HNext, hQ⟩
            case measure => simp [intOf]
  · have hzb : (ce != 0) = true := by simpa using hz
    have HZ := Lib.hid hz
    clear hz
    unfold GZero
    go_wp2
    go_ret2
    exact BeforeV.bad HCE.out HZ.out (HB2.out.trans ((Below.refl _ _).alloc (Nat.le_refl _) _ |>.mono HB2.out.size))

end Go.Proofs.YtlbhepfbogcipaaGreatDoor

set_option linter.unusedVariables false
set_option linter.unusedSimpArgs false
namespace Go.Proofs.YtlbhepfbogcipaaGreatDoor
open Go.RowKit

set_option maxRecDepth 100000

theorem same_strG (a b : ByteArray) : (a.toList == b.toList) = decide (a = b) := by
  by_cases e : a = b
  · simp [e]
  · have : ¬ a.toList = b.toList := fun c => e (toList_inj c)
    simp [e, this]
theorem getD_nd {l : List Nd} {a : Nat} {x : Nd} (h : l[a]? = some x) : l.getD a Nd.zero = x := by simp [List.getD, h]
theorem done_out {l : List Nd} {outs : List Vl} {a b : Nat} {x : Nd} {v : Vl} (ha : l[a]? = some x) (hv : v ∈ outs) (h : v.name = x.out) : doneB l outs a b = false := by
  unfold doneB
  rw [getD_nd ha, show (outs.any fun v => decide (v.name = x.out)) = true from List.any_eq_true.2 ⟨v, hv, by simpa using h⟩]
  rfl
theorem done_late {l : List Nd} {outs : List Vl} {a b c : Nat} (h : readsL l a c = true) (hb : befB l c b = false) : doneB l outs a b = false := by
  unfold doneB
  have : ((rdsL l a).all fun r => befB l r b) = false := by
    rw [List.all_eq_false]
    exact ⟨c, mem_rdsL.2 h, by simp [hb]⟩
  rw [this, Bool.and_false, Bool.false_and]
theorem done_end {l : List Nd} {outs : List Vl} {a b : Nat} {x : Nd} (ha : l[a]? = some x) (h1 : ∀ v ∈ outs, v.name ≠ x.out) (h2 : ∀ c, readsL l a c = true → befB l c b = true) : doneB l outs a b = befB l a b := by
  unfold doneB
  have e1 : (outs.any fun v => decide (v.name = x.out)) = false := by
    rw [List.any_eq_false]; intro v hv; simpa using h1 v hv
  have e2 : ((rdsL l a).all fun r => befB l r b) = true := List.all_eq_true.2 fun r hr => h2 r (mem_rdsL.1 hr)
  rw [getD_nd ha, e1, e2]
  rfl

attribute [local irreducible] orderE orderL work hasS namesG picked sortedL rdsL befB befC readsL rowQ doneB

set_option maxHeartbeats 8000000 in
theorem rdone_any {w : World} {v t : Value} {h : Gr} {a b : Nat} (hg : GraphV w v h) (hT : TabB w t h.nodes.length (befB h.nodes)) (ha : a < h.nodes.length) (hb : b < h.nodes.length) (hl : h.nodes.length ≤ 1000)
    (hx : ∀ c x y, h.nodes[a]? = some x → h.nodes[c]? = some y → readsL h.nodes a c = hasS y.ins x.out) :
    Calls Tryz.prog 30 #[v, t, .int .i64 (a : Int), .int .i64 (b : Int)] w fun e w' => e = .returned (.bool (doneB h.nodes h.outs a b)) ∧ Below w.heap.size w w' := by
  have HRd := Lib.hid (fun (W : World) (x : Nd) (s : ByteArray) (v1 v2 : Value) (h : NodeN W x v1 v2) => lreads_any (w := W) (x := x) s ⟨v1, v2, rfl, h⟩)
  obtain ⟨vn, vi, vo, vt, rfl, hg⟩ := hg
  obtain ⟨an, cn, rfl⟩ := hg.nodes.form
  obtain ⟨ai, ci, rfl⟩ := hg.ins.form
  obtain ⟨ao, co, rfl⟩ := hg.outs.form
  obtain ⟨at', ct, rfl⟩ := hg.inits.form
  have hlo := hg.outs.len
  obtain ⟨bt, rfl, hbt, ht⟩ := hT.rows
  have HN := Lib.hid hg
  have HTt := Lib.hid ht
  have HX := Lib.hid hx
  clear hg hT ht hx
  have ha0 : ¬ (a : Int) < 0 := by omega
  have ha1 : (a : Int) < (h.nodes.length : Int) := by omega
  have hb0 : ¬ (b : Int) < 0 := by omega
  have hb1 : (b : Int) < (h.nodes.length : Int) := by omega
  obtain ⟨x, hxa⟩ : ∃ x, h.nodes[a]? = some x := ⟨_, List.getElem?_eq_getElem ha⟩
  obtain ⟨bn, on, cn', _, _, hvn, hbn, _, _, _, x3, _⟩ := node_at HN.out.nodes hxa
  obtain ⟨rfl, -, -⟩ := Value.slice.inj hvn
  have HXA := Lib.hid hxa
  have HX3 := Lib.hid x3
  clear hxa hvn x3
  unfold Gr.val
  go_enter Tryz.func30, Tryz.ntmps30
  go_wp2_with fail
  have hB1 : Hid (Below w.heap.size w (w.alloc (Obj.cells #[Value.string h.name, .slice (some ⟨bn, on, none⟩) h.nodes.length cn, .slice ai h.ins.length ci, .slice ao h.outs.length co, .slice at' h.inits.length ct] 26))) := Lib.hid ((Below.refl _ w).alloc (Nat.le_refl _) _)
  have hA1 : Hid (BoxN (w.alloc (Obj.cells #[Value.string h.name, .slice (some ⟨bn, on, none⟩) h.nodes.length cn, .slice ai h.ins.length ci, .slice ao h.outs.length co, .slice at' h.inits.length ct] 26)) w.heap.size #[Value.string h.name, .slice (some ⟨bn, on, none⟩) h.nodes.length cn, .slice ai h.ins.length ci, .slice ao h.outs.length co, .slice at' h.inits.length ct] 26) := Lib.hid (BoxN.new _ _ _)
  generalize w.alloc _ = W1 at hB1 hA1 ⊢
  go_loopw [9] (fun i wr => ∃ k : Nat, k ≤ h.outs.length ∧ i = .int .i64 (k : Int) ∧ Hid (Below W1.heap.size W1 wr) ∧ Hid (∀ j y, j < k → h.outs[j]? = some y → y.name ≠ x.out)) (fun i _ => h.outs.length - (intOf i).toNat)
  case atStart => exact ⟨0, Nat.zero_le _, rfl, Lib.hid (Below.refl _ _), Lib.hid (fun j y hj => absurd hj (by omega))⟩
  case round =>
    obtain ⟨k, hk, rfl, hW, hT⟩ := hrel
    have hww : Hid (Below w.heap.size w wr) := Lib.hid (hB1.out.trans (hW.out.mono hB1.out.size))
    obtain ⟨k0, k1, k2, k3, k4⟩ := (hA1.out.below' hW.out).fiveG
    have x3 := (hww.out.cell (p := ⟨bn, on + a * 5 + 3, none⟩) hbn).trans HX3.out
    by_cases hkl : k < h.outs.length
    · have hki : (k : Int) < (h.outs.length : Int) := by omega
      have hk0 : ¬ (k : Int) < 0 := by omega
      obtain ⟨y, hy⟩ : ∃ y, h.outs[k]? = some y := ⟨_, List.getElem?_eq_getElem hkl⟩
      obtain ⟨bo, oo, co', _, hvo, hbo, co0, _⟩ := value_at HN.out.outs hy
      obtain ⟨rfl, -, -⟩ := Value.slice.inj hvo
      have c0 := (hww.out.cell (p := ⟨bo, oo + k * 3, none⟩) hbo).trans co0
      have HY := Lib.hid hy
      clear hy hvo co0
      by_cases e : y.name = x.out
      · have heq : (y.name.toList == x.out.toList) = true := by rw [same_strG, decide_eq_true e]
        have hD : Hid (doneB h.nodes h.outs a b = false) := Lib.hid (done_out HXA.out (List.mem_of_getElem? HY.out) e)
        clear e
        go_wp2_with fail
        go_quiet (fail)
        go_wp2
        go_ret
        exact ⟨ret_val (bool_val hD.out.symm), below_dN hww.out _⟩
      · have heq : (y.name.toList == x.out.toList) = false := by rw [same_strG, decide_eq_false e]
        have hT2 : Hid (∀ j y, j < k + 1 → h.outs[j]? = some y → y.name ≠ x.out) := Lib.hid fun j z hj hz => by
          by_cases hjk : j = k
          · subst hjk
            obtain rfl := Option.some.inj (HY.out.symm.trans hz)
            exact e
          · exact hT.out j z (by omega) hz
        clear e
        go_wp2_with fail
        go_quiet (fail)
        go_wp2
        go_roundw
        case rel => exact ⟨k + 1, by omega, by go_num, Lib.hid (below_dN hW.out _), hT2⟩
        case measure => simp [intOf]; omega
    · have hki : ¬ (k : Int) < (h.outs.length : Int) := by omega
      obtain rfl : k = h.outs.length := by omega
      have HO : Hid (∀ v ∈ h.outs, v.name ≠ x.out) := Lib.hid fun v hv => by
        obtain ⟨j, hj⟩ := List.getElem?_of_mem hv
        exact hT.out j v (List.getElem?_eq_some_iff.1 hj).1 hj
      clear hT
      go_wp2_with fail
      clear k0 k1 k2 k3 k4 x3
      go_loopw [10] (fun i wr => ∃ c : Nat, c ≤ h.nodes.length ∧ i = .int .i64 (c : Int) ∧ Hid (Below W1.heap.size W1 wr) ∧ Hid (∀ j, j < c → readsL h.nodes a j = true → befB h.nodes j b = true)) (fun i _ => h.nodes.length - (intOf i).toNat)
      case atStart => exact ⟨0, Nat.zero_le _, rfl, hW, Lib.hid (fun j hj => absurd hj (by omega))⟩
      case round =>
        clear hW hww
        obtain ⟨c, hc, rfl, hW, hT⟩ := hrel
        have hww : Hid (Below w.heap.size w wr) := Lib.hid (hB1.out.trans (hW.out.mono hB1.out.size))
        obtain ⟨k0, k1, k2, k3, k4⟩ := (hA1.out.below' hW.out).fiveG
        by_cases hcl : c < h.nodes.length
        · have hci : (c : Int) < (h.nodes.length : Int) := by omega
          have hc0 : ¬ (c : Int) < 0 := by omega
          obtain ⟨y, hy⟩ : ∃ y, h.nodes[c]? = some y := ⟨_, List.getElem?_eq_getElem hcl⟩
          obtain ⟨bn2, on2, cn2, vin, vat, hvn2, hbn2, y0, y1, y2, y3, y4, hyN, _⟩ := node_at HN.out.nodes hy
          obtain ⟨e2, -, -⟩ := Value.slice.inj hvn2
          obtain ⟨rfl, rfl⟩ : bn2 = bn ∧ on2 = on := by simpa using e2.symm
          obtain ⟨ad, cd, rfl⟩ := hyN.is.form
          obtain ⟨ax, cx, rfl⟩ := hyN.ia.form
          have HRF : Hid (readsL h.nodes a c = hasS y.ins x.out) := Lib.hid (HX.out c x y HXA.out hy)
          obtain ⟨br, e3, e4, e5⟩ := HTt.out c hcl
          have HF' : Hid (∀ W', Below wr.heap.size wr W' → W'.cell? ⟨w.heap.size, 1, none⟩ = some (.slice (some ⟨bn2, on2, none⟩) h.nodes.length cn) ∧ W'.cell? ⟨bn2, on2 + c * 5, none⟩ = some (.string y.op) ∧ W'.cell? ⟨bn2, on2 + c * 5 + 1, none⟩ = some (.string y.name) ∧ W'.cell? ⟨bn2, on2 + c * 5 + 2, none⟩ = some (.slice ad y.ins.length cd) ∧ W'.cell? ⟨bn2, on2 + c * 5 + 3, none⟩ = some (.string y.out) ∧ W'.cell? ⟨bn2, on2 + c * 5 + 4, none⟩ = some (.slice ax y.attrs.length cx) ∧ W'.cell? ⟨bn2, on2 + a * 5 + 3, none⟩ = some (.string x.out) ∧ W'.cell? ⟨bt, c, none⟩ = some (.slice (some ⟨br, 0, none⟩) h.nodes.length h.nodes.length) ∧ W'.cell? ⟨br, b, none⟩ = some (.bool (befB h.nodes c b))) := Lib.hid fun W' hW' => by
            have h1 := hW.out.trans (hW'.mono hW.out.size)
            have hB := hB1.out.trans (h1.mono hB1.out.size)
            exact ⟨(hA1.out.below' h1).cell 1 rfl, (hB.cell (p := ⟨bn2, on2 + c * 5, none⟩) hbn).trans y0, (hB.cell (p := ⟨bn2, on2 + c * 5 + 1, none⟩) hbn).trans y1, (hB.cell (p := ⟨bn2, on2 + c * 5 + 2, none⟩) hbn).trans y2, (hB.cell (p := ⟨bn2, on2 + c * 5 + 3, none⟩) hbn).trans y3, (hB.cell (p := ⟨bn2, on2 + c * 5 + 4, none⟩) hbn).trans y4, (hB.cell (p := ⟨bn2, on2 + a * 5 + 3, none⟩) hbn).trans HX3.out, (hB.cell (p := ⟨bt, c, none⟩) hbt).trans e3, (hB.cell (p := ⟨br, b, none⟩) e4).trans (e5 b hb)⟩
          have HC : Hid (∀ W', Below wr.heap.size wr W' → Calls Tryz.prog 22 #[.agg #[.string y.op, .string y.name, .slice ad y.ins.length cd, .string y.out, .slice ax y.attrs.length cx], .string x.out] W' fun e w' => e = .returned (.bool (hasS y.ins x.out)) ∧ Below W'.heap.size W' w') := Lib.hid fun W' hW' => by
            have := HRd.out W' y x.out _ _ (hyN.below (hB1.out.trans ((hW.out.trans (hW'.mono hW.out.size)).mono hB1.out.size)))
            unfold Nd.val at this
            exact this
          clear hy hvn2 y0 y1 y2 y3 y4 hyN e2 e3 e4 e5
          go_wp2_with fail
          clear k0 k1 k2 k3 k4
          generalize hfb : befB h.nodes c b = fb at HF'
          have HFB := Lib.hid hfb
          clear hfb
          generalize hrb : hasS y.ins x.out = rb at HC HRF
          clear hrb
          cases rb with
          | true =>
            refine wp_region_plan 21 [0, 1, 2, 3, 4, 5, 6, 7, 8, 9, 10, 11, 12, 13, 14, 15, 16, 17, 18, 19, 20] (fun W' => Below wr.heap.size wr W') (by kernel_rfl) (by kernel_rfl) (fun _ d _ _ _ h => by cases d <;> exact h) (Below.refl _ _).drew ?_
            have B0 : Hid (Below wr.heap.size wr wr.drew) := Lib.hid (Below.refl _ _).drew
            repeat
              refine plan_read (v := ?_) rfl rfl (Or.inl ⟨by rfl, ?_⟩) ?_
              rotate_left
              · intro w' hSw
                obtain ⟨s1, s2, s3, s4, s5, s6, s7, s8, s9⟩ := HF'.out w' hSw
                go_simp
                try with_reducible rfl
              try simp only [Act.put, List.getElem_toArray, List.getElem_cons_zero, List.getElem_cons_succ, List.setIfInBounds_toArray, List.set_cons_zero, List.set_cons_succ]
            refine plan_act rfl rfl (fun K' hK => ?_)
            go_simp
            refine (HC.out _ B0.out).mono ?_
            rintro e w8 ⟨rfl, B⟩
            have B1 := Lib.hid (B0.out.trans (B.mono B0.out.size))
            refine hK.out _ _ B1.out ?_
            clear hK K' B B0
            cases fb with
            | false =>
              have hD : Hid (doneB h.nodes h.outs a b = false) := Lib.hid (done_late HRF.out HFB.out)
              repeat
                refine plan_read (v := ?_) rfl rfl (Or.inl ⟨by rfl, ?_⟩) ?_
                rotate_left
                · intro w' hSw
                  obtain ⟨s1, s2, s3, s4, s5, s6, s7, s8, s9⟩ := HF'.out w' hSw
                  go_simp
                  try with_reducible rfl
                try simp only [Act.put, List.getElem_toArray, List.getElem_cons_zero, List.getElem_cons_succ, List.setIfInBounds_toArray, List.set_cons_zero, List.set_cons_succ]
              refine plan_tail rfl ?_
              simp only [List.toList_toArray, List.drop_succ_cons, List.drop_zero]
              clear HF' HC HRF
              go_wp2_with fail
              go_ret
              exact ⟨ret_val (bool_val hD.out.symm), hB1.out.trans ((hW.out.trans (B1.out.mono hW.out.size)).mono hB1.out.size)⟩
            | true =>
              have hT2 : Hid (∀ j, j < c + 1 → readsL h.nodes a j = true → befB h.nodes j b = true) := Lib.hid fun j hj hr => by
                by_cases hjc : j = c
                · subst hjc; exact HFB.out
                · exact hT.out j (by omega) hr
              repeat
                refine plan_read (v := ?_) rfl rfl (Or.inl ⟨by rfl, ?_⟩) ?_
                rotate_left
                · intro w' hSw
                  obtain ⟨s1, s2, s3, s4, s5, s6, s7, s8, s9⟩ := HF'.out w' hSw
                  go_simp
                  try with_reducible rfl
                try simp only [Act.put, List.getElem_toArray, List.getElem_cons_zero, List.getElem_cons_succ, List.setIfInBounds_toArray, List.set_cons_zero, List.set_cons_succ]
              refine plan_tail rfl ?_
              simp only [List.toList_toArray, List.drop_succ_cons, List.drop_zero]
              clear HF' HC HRF
              go_wp2_with fail
              go_roundw
              case rel => exact ⟨c + 1, by omega, by go_num, Lib.hid (hW.out.trans (B1.out.mono hW.out.size)), hT2⟩
              case measure => simp [intOf]; omega
          | false =>
            have hT2 : Hid (∀ j, j < c + 1 → readsL h.nodes a j = true → befB h.nodes j b = true) := Lib.hid fun j hj hr => by
              by_cases hjc : j = c
              · subst hjc; rw [HRF.out] at hr; cases hr
              · exact hT.out j (by omega) hr
            refine wp_region_plan 21 [0, 1, 2, 3, 4, 5, 6, 7, 8, 9, 10, 11, 12, 13, 14, 15, 16, 17, 18, 19, 20] (fun W' => Below wr.heap.size wr W') (by kernel_rfl) (by kernel_rfl) (fun _ d _ _ _ h => by cases d <;> exact h) (Below.refl _ _).drew ?_
            have B0 : Hid (Below wr.heap.size wr wr.drew) := Lib.hid (Below.refl _ _).drew
            repeat
              refine plan_read (v := ?_) rfl rfl (Or.inl ⟨by rfl, ?_⟩) ?_
              rotate_left
              · intro w' hSw
                obtain ⟨s1, s2, s3, s4, s5, s6, s7, s8, s9⟩ := HF'.out w' hSw
                go_simp
                try with_reducible rfl
              try simp only [Act.put, List.getElem_toArray, List.getElem_cons_zero, List.getElem_cons_succ, List.setIfInBounds_toArray, List.set_cons_zero, List.set_cons_succ]
            refine plan_act rfl rfl (fun K' hK => ?_)
            go_simp
            refine (HC.out _ B0.out).mono ?_
            rintro e w8 ⟨rfl, B⟩
            have B1 := Lib.hid (B0.out.trans (B.mono B0.out.size))
            refine hK.out _ _ B1.out ?_
            clear hK K' B B0
            refine plan_read (v := ?_) rfl rfl (Or.inl ⟨by rfl, ?_⟩) ?_
            rotate_left
            · intro w' hSw
              go_simp
              try with_reducible rfl
            try simp only [Act.put, List.getElem_toArray, List.getElem_cons_zero, List.getElem_cons_succ, List.setIfInBounds_toArray, List.set_cons_zero, List.set_cons_succ]
            repeat
              refine plan_read (v := undef) rfl rfl (Or.inr ⟨by rfl, rfl⟩) ?_
              try simp only [Act.put, List.getElem_toArray, List.getElem_cons_zero, List.getElem_cons_succ, List.setIfInBounds_toArray, List.set_cons_zero, List.set_cons_succ]
            refine plan_tail rfl ?_
            simp only [List.toList_toArray, List.drop_succ_cons, List.drop_zero]
            clear HF' HC HRF
            go_wp2_with fail
            go_roundw
            case rel => exact ⟨c + 1, by omega, by go_num, Lib.hid (hW.out.trans (B1.out.mono hW.out.size)), hT2⟩
            case measure => simp [intOf]; omega
        · have hci : ¬ (c : Int) < (h.nodes.length : Int) := by omega
          obtain rfl : c = h.nodes.length := by omega
          have hD : Hid (doneB h.nodes h.outs a b = befB h.nodes a b) := Lib.hid (done_end HXA.out HO.out (fun j hr => hT.out j (readsL_lt hr).2 hr))
          obtain ⟨br, e3, e4, e5⟩ := HTt.out a ha
          have t1 := (hww.out.cell (p := ⟨bt, a, none⟩) hbt).trans e3
          have t2 := (hww.out.cell (p := ⟨br, b, none⟩) e4).trans (e5 b hb)
          clear e3 e5
          go_wp2
          go_ret
          exact ⟨ret_val (bool_val hD.out.symm), hww.out⟩

end Go.Proofs.YtlbhepfbogcipaaGreatDoor

set_option linter.unusedVariables false
set_option linter.unusedSimpArgs false
namespace Go.Proofs.YtlbhepfbogcipaaGreatDoor
open Go.RowKit

set_option maxRecDepth 100000

theorem ApartR.ok {w w' : World} {g : Gr} {a b : Nat} {x : Bool} (h : orderE g = 0) (hne : a ≠ b) (ha : a < (sortedL g).length) (hb : b < (sortedL g).length) (hx : (doneB (sortedL g) g.outs a b || doneB (sortedL g) g.outs b a) = x) (hB : Below w.heap.size w w') : ApartR w g (a : Int) (b : Int) (.returned (.tuple #[.bool x, .int .i64 0])) w' := by
  have e : apartE g (a : Int) (b : Int) = 0 := apartE_good h (by omega)
  refine ⟨?_, hB⟩
  unfold apartX
  rw [e, if_pos rfl, Int.toNat_natCast, Int.toNat_natCast, apart_ref hne, hx]
theorem reads_sorted {g : Gr} (h : orderE g = 0) (a c : Nat) (x y : Nd) (hx : (sortedL g)[a]? = some x) (hy : (sortedL g)[c]? = some y) : readsL (sortedL g) a c = hasS y.ins x.out := by
  rw [sortedL_good h] at hx hy ⊢
  exact readsL_picked (fineG_of h) hx hy

attribute [local irreducible] orderE orderL work hasS namesG picked sortedL rdsL befB befC readsL rowQ doneB apartB apartE apartX

set_option maxHeartbeats 8000000 in
theorem rapart_any {w : World} {v : Value} {g : Gr} {a b : Int} (h : GraphV w v g) (ha : InI a) (hb : InI b) :
    Calls Tryz.prog 12 #[v, .int .i64 a, .int .i64 b] w fun e w' => ApartR w g a b e w' := by
  have HS := Lib.hid (fun (W : World) (vi : Value) (h : GraphV W vi g) => rsorted_any h)
  have HBf := Lib.hid (fun (W : World) (vi : Value) (h : GraphV W vi g) => rbefore_any h)
  obtain ⟨vn, vi, vo, vt, rfl, hg⟩ := h
  obtain ⟨a1, c1, rfl⟩ := hg.nodes.form
  obtain ⟨a2, c2, rfl⟩ := hg.ins.form
  obtain ⟨a3, c3, rfl⟩ := hg.outs.form
  obtain ⟨a4, c4, rfl⟩ := hg.inits.form
  have HN := Lib.hid hg
  clear hg
  unfold Gr.val
  go_enter Tryz.func12, Tryz.ntmps12
  go_wp2_with fail
  have hB1 : Hid (Below w.heap.size w (w.alloc (Obj.cells #[Value.string g.name, .slice a1 g.nodes.length c1, .slice a2 g.ins.length c2, .slice a3 g.outs.length c3, .slice a4 g.inits.length c4] 26))) := Lib.hid ((Below.refl _ w).alloc (Nat.le_refl _) _)
  have hA1 : Hid (BoxN (w.alloc (Obj.cells #[Value.string g.name, .slice a1 g.nodes.length c1, .slice a2 g.ins.length c2, .slice a3 g.outs.length c3, .slice a4 g.inits.length c4] 26)) w.heap.size #[Value.string g.name, .slice a1 g.nodes.length c1, .slice a2 g.ins.length c2, .slice a3 g.outs.length c3, .slice a4 g.inits.length c4] 26) := Lib.hid (BoxN.new _ _ _)
  generalize w.alloc _ = W1 at hB1 hA1 ⊢
  have hGV : Hid (∀ W, Below W1.heap.size W1 W → GraphV W (.agg #[Value.string g.name, .slice a1 g.nodes.length c1, .slice a2 g.ins.length c2, .slice a3 g.outs.length c3, .slice a4 g.inits.length c4]) g) := Lib.hid fun W hW => ⟨_, _, _, _, rfl, HN.out.below (hB1.out.trans (hW.mono hB1.out.size))⟩
  refine (HS.out _ _ (hGV.out _ (Below.refl _ _))).mono ?_
  rintro e w2 ⟨hv, rfl, B2, hc2⟩
  have HB2 : Hid (Below W1.heap.size W1 w2) := Lib.hid B2
  have HBw2 : Hid (Below w.heap.size w w2) := Lib.hid (hB1.out.trans (B2.mono hB1.out.size))
  clear B2
  generalize hce : orderE g = ce at hc2
  have HCE := Lib.hid hce
  clear hce
  rcases hc2 with ⟨hz, un, ui, uo, ut, rfl, hgs⟩ | ⟨hz, rfl⟩
  · have hzb : (ce != 0) = false := by simpa using hz
    have hE0 := Lib.hid (HCE.out.trans hz)
    subst hz
    obtain ⟨an, cn, hun⟩ := hgs.nodes.form
    obtain ⟨ai, ci, hui⟩ := hgs.ins.form
    obtain ⟨ao, co, huo⟩ := hgs.outs.form
    obtain ⟨at', ct, hut⟩ := hgs.inits.form
    have HGS := Lib.hid hgs
    subst hun hui huo hut
    have hnl : (sortedL g).length ≤ 1000 := sortedL_le g
    clear hgs
    unfold Gr.val
    have el : (sortedG g).nodes = sortedL g := rfl
    have eo : (sortedG g).outs = g.outs := rfl
    unfold sortedG
    dsimp only
    have HB3 : Hid (Below w2.heap.size w2 (w2.alloc (Obj.cells #[Value.string g.name, .slice an (sortedL g).length cn, .slice ai g.ins.length ci, .slice ao g.outs.length co, .slice at' g.inits.length ct] 26))) := Lib.hid ((Below.refl _ _).alloc (Nat.le_refl _) _)
    have HA3 : Hid (BoxN (w2.alloc (Obj.cells #[Value.string g.name, .slice an (sortedL g).length cn, .slice ai g.ins.length ci, .slice ao g.outs.length co, .slice at' g.inits.length ct] 26)) w2.heap.size #[Value.string g.name, .slice an (sortedL g).length cn, .slice ai g.ins.length ci, .slice ao g.outs.length co, .slice at' g.inits.length ct] 26) := Lib.hid (BoxN.new _ _ _)
    have HGV3 : Hid (∀ W, Below w2.heap.size w2 W → GraphV W (.agg #[Value.string g.name, .slice an (sortedL g).length cn, .slice ai g.ins.length ci, .slice ao g.outs.length co, .slice at' g.inits.length ct]) (sortedG g)) := Lib.hid fun W hW => ⟨_, _, _, _, rfl, HGS.out.below hW⟩
    have HDn : Hid (∀ (W : World) (tv : Value) (i j : Nat), Below w2.heap.size w2 W → TabB W tv (sortedL g).length (befB (sortedL g)) → i < (sortedL g).length → j < (sortedL g).length → Calls Tryz.prog 30 #[.agg #[Value.string g.name, .slice an (sortedL g).length cn, .slice ai g.ins.length ci, .slice ao g.outs.length co, .slice at' g.inits.length ct], tv, .int .i64 (i : Int), .int .i64 (j : Int)] W fun e w' => e = .returned (.bool (doneB (sortedL g) g.outs i j)) ∧ Below W.heap.size W w') := Lib.hid fun W tv i j hW hT hi hj => rdone_any (h := sortedG g) (HGV3.out W hW) hT hi hj hnl (fun c x y hx hy => reads_sorted hE0.out i c x y hx hy)
    clear HGV3 HGS el eo
    have HBW3 : Hid (Below w.heap.size w (w2.alloc (Obj.cells #[Value.string g.name, .slice an (sortedL g).length cn, .slice ai g.ins.length ci, .slice ao g.outs.length co, .slice at' g.inits.length ct] 26))) := Lib.hid (HBw2.out.trans (HB3.out.mono HBw2.out.size))
    have HBad : Hid (∀ W, Below w.heap.size w W → (a = b ∨ min a b < 0 ∨ ((sortedL g).length : Int) ≤ max a b) → ApartR w g a b (.returned (.tuple #[.bool false, .int .i64 1])) W) := Lib.hid fun W hB hh => ApartR.bad (apartE_arg hE0.out hh) (by decide) hB
    have HOk : Hid (∀ (i j : Nat) W x, a = (i : Int) → b = (j : Int) → i ≠ j → i < (sortedL g).length → j < (sortedL g).length → (doneB (sortedL g) g.outs i j || doneB (sortedL g) g.outs j i) = x → Below w.heap.size w W → ApartR w g a b (.returned (.tuple #[.bool x, .int .i64 0])) W) := Lib.hid fun i j W x e1 e2 hne hi hj hx hB => by rw [e1, e2]; exact ApartR.ok hE0.out hne hi hj hx hB
    generalize hL : (sortedL g).length = n at *
    have HLn := Lib.hid hL
    clear hL
    have k1 := HA3.out.fiveG.2.1
    by_cases h0 : a < 0
    · have HH : Hid (a = b ∨ min a b < 0 ∨ (n : Int) ≤ max a b) := Lib.hid (by omega)
      go_wp2
      go_ret2
      exact HBad.out _ HBW3.out HH.out
    by_cases h1 : b < 0
    · have HH : Hid (a = b ∨ min a b < 0 ∨ (n : Int) ≤ max a b) := Lib.hid (by omega)
      go_wp2
      go_ret2
      exact HBad.out _ HBW3.out HH.out
    obtain ⟨i, rfl⟩ : ∃ i : Nat, a = (i : Int) := ⟨a.toNat, by omega⟩
    obtain ⟨j, rfl⟩ : ∃ j : Nat, b = (j : Int) := ⟨b.toNat, by omega⟩
    by_cases h2 : n ≤ i
    · have HH : Hid ((i : Int) = (j : Int) ∨ min (i : Int) (j : Int) < 0 ∨ (n : Int) ≤ max (i : Int) (j : Int)) := Lib.hid (by omega)
      have h2' : (n : Int) ≤ (i : Int) := by omega
      go_wp2
      go_ret2
      exact HBad.out _ HBW3.out HH.out
    by_cases h3 : n ≤ j
    · have HH : Hid ((i : Int) = (j : Int) ∨ min (i : Int) (j : Int) < 0 ∨ (n : Int) ≤ max (i : Int) (j : Int)) := Lib.hid (by omega)
      have h3' : (n : Int) ≤ (j : Int) := by omega
      go_wp2
      go_ret2
      exact HBad.out _ HBW3.out HH.out
    have h2' : ¬ (n : Int) ≤ (i : Int) := by omega
    have h3' : ¬ (n : Int) ≤ (j : Int) := by omega
    by_cases h4 : i = j
    · have HH : Hid ((i : Int) = (j : Int) ∨ min (i : Int) (j : Int) < 0 ∨ (n : Int) ≤ max (i : Int) (j : Int)) := Lib.hid (by omega)
      have h4' : (i == j) = true := by simpa using h4
      clear h4
      go_wp2
      go_ret2
      exact HBad.out _ HBW3.out HH.out
    have h4' : (i == j) = false := by simpa using h4
    have HIJ : Hid (i ≠ j ∧ i < n ∧ j < n) := Lib.hid ⟨h4, by omega, by omega⟩
    clear h4
    obtain ⟨q0, q1, q2, q3, q4⟩ := (hA1.out.below' (HB2.out.trans (HB3.out.mono HB2.out.size))).fiveG
    go_wp2_with fail
    clear q0 q1 q2 q3 q4 k1
    generalize w2.alloc _ = W3 at HB3 HA3 HBW3 ⊢
    refine (HBf.out _ _ (hGV.out _ (HB2.out.trans (HB3.out.mono HB2.out.size)))).mono ?_
    rintro e w4 hBV
    obtain ⟨tv, rfl, B4, hT⟩ := hBV.ok hE0.out
    rw [HLn.out] at hT
    have HB4 : Hid (Below w2.heap.size w2 w4) := Lib.hid (HB3.out.trans (B4.mono HB3.out.size))
    have HBW4 : Hid (Below w.heap.size w w4) := Lib.hid (HBw2.out.trans (HB4.out.mono HBw2.out.size))
    have HT := Lib.hid hT
    have HA4 := Lib.hid (HA3.out.below' B4)
    obtain ⟨bt, et, _⟩ := hT.rows
    subst et
    clear hT B4 hBV HBW3 HA3 HB3
    obtain ⟨y0, y1, y2, y3, y4⟩ := HA4.out.fiveG
    go_wp2_with fail
    clear y0 y1 y2 y3 y4
    refine (HDn.out _ _ i j HB4.out HT.out HIJ.out.2.1 HIJ.out.2.2).mono ?_
    rintro e w5 ⟨rfl, B5⟩
    have HB5 : Hid (Below w2.heap.size w2 w5) := Lib.hid (HB4.out.trans (B5.mono HB4.out.size))
    have HBW5 : Hid (Below w.heap.size w w5) := Lib.hid (HBW4.out.trans (B5.mono HBW4.out.size))
    have HT5 := Lib.hid (HT.out.below B5)
    have HA5 := Lib.hid (HA4.out.below' B5)
    clear B5 HT HA4 HB4
    generalize hd1 : doneB (sortedL g) g.outs i j = d1
    have HD1 := Lib.hid hd1
    clear hd1
    cases d1 with
    | true =>
      have HX : Hid ((doneB (sortedL g) g.outs i j || doneB (sortedL g) g.outs j i) = true) := Lib.hid (by rw [HD1.out]; rfl)
      go_wp2_with fail
      go_ret2
      exact HOk.out i j _ _ rfl rfl HIJ.out.1 HIJ.out.2.1 HIJ.out.2.2 HX.out HBW5.out
    | false =>
      obtain ⟨y0, y1, y2, y3, y4⟩ := HA5.out.fiveG
      go_wp2_with fail
      clear y0 y1 y2 y3 y4
      refine (HDn.out _ _ j i HB5.out HT5.out HIJ.out.2.2 HIJ.out.2.1).mono ?_
      rintro e w6 ⟨rfl, B6⟩
      have HX : Hid ((doneB (sortedL g) g.outs i j || doneB (sortedL g) g.outs j i) = doneB (sortedL g) g.outs j i) := Lib.hid (by rw [HD1.out]; rfl)
      have HBW6 : Hid (Below w.heap.size w w6) := Lib.hid (HBW5.out.trans (B6.mono HBW5.out.size))
      go_wp2_with fail
      go_ret2
      exact HOk.out i j _ _ rfl rfl HIJ.out.1 HIJ.out.2.1 HIJ.out.2.2 HX.out HBW6.out
  · have hzb : (ce != 0) = true := by simpa using hz
    have HZ := Lib.hid hz
    clear hz
    unfold GZero
    go_wp2
    go_ret2
    exact ApartR.bad (apartE_bad HCE.out HZ.out) HZ.out (HBw2.out.trans ((Below.refl _ _).alloc (Nat.le_refl _) _ |>.mono HBw2.out.size))

end Go.Proofs.YtlbhepfbogcipaaGreatDoor

set_option linter.unusedVariables false
set_option linter.unusedSimpArgs false
namespace Go.Proofs.YtlbhepfbogcipaaGreatDoor
open Go.RowKit

set_option maxRecDepth 100000

def bytesT (t : Int) : Int := if t = 7 then 8 else if t = 9 then 1 else 4
/-- How many bytes a value takes, and the error. -/
def widthP (t : Int) (dims : List Int) : Int × Int := if chk t 0 = false then (0, 5) else if (cnt dims).2 ≠ 0 then (0, (cnt dims).2) else (wrap64 (bytesT t * (cnt dims).1), 0)
theorem width_type {t : Int} {dims : List Int} (h : chk t 0 = false) : widthP t dims = (0, 5) := if_pos h
theorem width_dims {t : Int} {dims : List Int} (h : chk t 0 = true) (g : (cnt dims).2 ≠ 0) : widthP t dims = (0, (cnt dims).2) := by unfold widthP; rw [if_neg (by rw [h]; decide), if_pos g]
theorem width_good {t : Int} {dims : List Int} (h : chk t 0 = true) (g : (cnt dims).2 = 0) : widthP t dims = (wrap64 (bytesT t * (cnt dims).1), 0) := by unfold widthP; rw [if_neg (by rw [h]; decide), if_neg (fun c => c g)]
theorem bytes_8 {t : Int} (h : t = 7) : bytesT t = 8 := if_pos h
theorem bytes_1 {t : Int} (h : ¬ t = 7) (h9 : t = 9) : bytesT t = 1 := by unfold bytesT; rw [if_neg h, if_pos h9]
theorem bytes_4 {t : Int} (h : ¬ t = 7) (h9 : ¬ t = 9) : bytesT t = 4 := by unfold bytesT; rw [if_neg h, if_neg h9]
theorem cnt_in (dims : List Int) (h : (cnt dims).2 = 0) : 1 ≤ (cnt dims).1 ∧ (cnt dims).1 ≤ 65536 := by
  have key : ∀ (l : List Int) (n : Int), 1 ≤ n → n ≤ 65536 → (∀ d ∈ l, 1 ≤ d) → (cntLoop n l).2 = 0 → 1 ≤ (cntLoop n l).1 ∧ (cntLoop n l).1 ≤ 65536 := by
    intro l
    induction l with
    | nil => intro n h1 h2 _ _; exact ⟨h1, h2⟩
    | cons d l ih =>
      intro n h1 h2 hd h0
      unfold cntLoop at h0 ⊢
      split at h0
      · cases h0
      · rename_i hh
        rw [if_neg hh]
        exact ih _ (mul_pos' h1 (hd d (List.mem_cons_self ..))) (by omega) (fun e he => hd e (List.mem_cons_of_mem _ he)) h0
  cases hl : dims.any (fun d => decide (d < 1)) with
  | true => rw [cnt_low hl] at h; cases h
  | false =>
    by_cases hg : 6 < dims.length
    · rw [cnt_long hl hg] at h; cases h
    · rw [cnt_loop hl hg] at h ⊢
      refine key dims 1 (by omega) (by omega) (fun d hd => ?_) h
      have := List.any_eq_false.1 hl d hd
      simpa using this

attribute [local irreducible] cnt chk widthP bytesT

set_option maxHeartbeats 2000000 in
theorem rbytes_any (t : Int) (w : World) : Calls Tryz.prog 35 #[.int .i64 t] w fun e w' => e = .returned (.int .i64 (bytesT t)) ∧ w = w' := by
  go_enter Tryz.func35, Tryz.ntmps35
  by_cases h7 : t = 7
  · have e := Lib.hid (bytes_8 h7)
    have hb : (t == 7) = true := by simpa using h7
    clear h7
    go_wp2
    go_ret
    exact ⟨ret_val (int_val e.out.symm), rfl⟩
  · by_cases h9 : t = 9
    · have e := Lib.hid (bytes_1 h7 h9)
      have hb : (t == 7) = false := by simpa using h7
      have hb9 : (t == 9) = true := by simpa using h9
      clear h7 h9
      go_wp2
      go_ret
      exact ⟨ret_val (int_val e.out.symm), rfl⟩
    · have e := Lib.hid (bytes_4 h7 h9)
      have hb : (t == 7) = false := by simpa using h7
      have hb9 : (t == 9) = false := by simpa using h9
      clear h7 h9
      go_wp2
      go_ret
      exact ⟨ret_val (int_val e.out.symm), rfl⟩

def WidR (w : World) (t : Int) (dims : List Int) (e : Ending) (w' : World) : Prop := e = .returned (.tuple #[.int .i64 (widthP t dims).1, .int .i64 (widthP t dims).2]) ∧ Below w.heap.size w w'
theorem WidR.mk' {w w' : World} {t : Int} {dims : List Int} {x y : Int} (h : widthP t dims = (x, y)) (hB : Below w.heap.size w w') : WidR w t dims (.returned (.tuple #[.int .i64 x, .int .i64 y])) w' := ⟨by rw [h], hB⟩

set_option maxHeartbeats 4000000 in
theorem lwidth_any {w : World} (nm : ByteArray) (t : Int) (dims : List Int) {vd : Value} (hd : IntsIn w vd dims) :
    Calls Tryz.prog 13 #[.agg #[.string nm, .int .i64 t, vd]] w fun e w' => WidR w t dims e w' := by
  have HT := Lib.hid (check_any t 0 (by decide) (by decide))
  obtain ⟨ad, cd, rfl⟩ := hd.shape
  have HD := Lib.hid hd
  clear hd
  go_enter Tryz.func13, Tryz.ntmps13
  go_wp2_with fail
  have hB1 : Hid (Below w.heap.size w (w.alloc (Obj.cells #[Value.string nm, .int .i64 t, .slice ad dims.length cd] 42))) := Lib.hid ((Below.refl _ w).alloc (Nat.le_refl _) _)
  have hX1 := Lib.hid (BoxN.new w #[Value.string nm, .int .i64 t, .slice ad dims.length cd] 42)
  generalize w.alloc _ = W1 at hB1 hX1 ⊢
  obtain ⟨k0, k1, k2⟩ := hX1.out.threeG
  refine (HT.out _).mono ?_
  rintro e w2 ⟨rfl, rfl⟩
  cases ht : chk t 0 with
  | false =>
    have e := Lib.hid (width_type (dims := dims) ht)
    clear ht
    go_wp2
    go_ret2
    exact WidR.mk' e.out hB1.out
  | true =>
    have HTT := Lib.hid ht
    clear ht
    have HC := Lib.hid (count_any (HD.out.below hB1.out))
    have HG := Lib.hid (cnt_in dims)
    have HG2 := Lib.hid (fun h => width_good (t := t) (dims := dims) HTT.out h)
    have HG3 := Lib.hid (fun h => width_dims (t := t) (dims := dims) HTT.out h)
    generalize cnt dims = c at HC HG HG2 HG3
    obtain ⟨c, ce⟩ := c
    dsimp only at HC HG HG2 HG3
    go_wp2_with fail
    refine HC.out.mono ?_
    rintro e w2 ⟨rfl, B2⟩
    have HB2 : Hid (Below w.heap.size w w2) := Lib.hid (hB1.out.trans (B2.mono hB1.out.size))
    obtain ⟨k0, k1, k2⟩ := (hX1.out.below' B2).threeG
    clear B2
    by_cases hc : ce = 0
    · subst hc
      have hz : ((0 : Int) != 0) = false := rfl
      have h2 := HG.out rfl
      have e := Lib.hid (HG2.out rfl)
      by_cases h7 : t = 7
      · have hb : (t == 7) = true := by simpa using h7
        have e2 := Lib.hid (e.out.trans (by rw [bytes_8 h7]))
        clear h7
        go_wp2
        go_ret2
        exact WidR.mk' (by rw [e2.out]; congr 1; unfold wrap64; omega) HB2.out
      · by_cases h9 : t = 9
        · have e2 := Lib.hid (e.out.trans (by rw [bytes_1 h7 h9]))
          have hb : (t == 7) = false := by simpa using h7
          have hb9 : (t == 9) = true := by simpa using h9
          clear h7 h9
          go_wp2
          go_ret2
          exact WidR.mk' (by rw [e2.out]; congr 1; unfold wrap64; omega) HB2.out
        · have e2 := Lib.hid (e.out.trans (by rw [bytes_4 h7 h9]))
          have hb : (t == 7) = false := by simpa using h7
          have hb9 : (t == 9) = false := by simpa using h9
          clear h7 h9
          go_wp2
          go_ret2
          exact WidR.mk' (by rw [e2.out]; congr 1; unfold wrap64; omega) HB2.out
    · have hz : (ce != 0) = true := by simpa using hc
      have e := Lib.hid (HG3.out hc)
      clear hc
      go_wp2
      go_ret2
      exact WidR.mk' e.out HB2.out

set_option maxHeartbeats 4000000 in
theorem rwidth_any {w : World} (nm : ByteArray) (t : Int) (dims : List Int) {vd : Value} (hd : IntsIn w vd dims) :
    Calls Tryz.prog 14 #[.agg #[.string nm, .int .i64 t, vd]] w fun e w' => WidR w t dims e w' := by
  have HT := Lib.hid (fun W => rtyped_any t W)
  have HBy := Lib.hid (fun W => rbytes_any t W)
  obtain ⟨ad, cd, rfl⟩ := hd.shape
  have HD := Lib.hid hd
  clear hd
  go_enter Tryz.func14, Tryz.ntmps14
  go_wp2_with fail
  have hB1 : Hid (Below w.heap.size w (w.alloc (Obj.cells #[Value.string nm, .int .i64 t, .slice ad dims.length cd] 42))) := Lib.hid ((Below.refl _ w).alloc (Nat.le_refl _) _)
  have hX1 := Lib.hid (BoxN.new w #[Value.string nm, .int .i64 t, .slice ad dims.length cd] 42)
  generalize w.alloc _ = W1 at hB1 hX1 ⊢
  obtain ⟨k0, k1, k2⟩ := hX1.out.threeG
  refine (HT.out _).mono ?_
  rintro e w2 ⟨rfl, rfl⟩
  cases ht : chk t 0 with
  | false =>
    have e := Lib.hid (width_type (dims := dims) ht)
    clear ht
    go_wp2
    go_ret2
    exact WidR.mk' e.out hB1.out
  | true =>
    have HTT := Lib.hid ht
    clear ht
    have HC := Lib.hid (rcount_any (HD.out.below hB1.out))
    have HG := Lib.hid (cnt_in dims)
    have HG2 := Lib.hid (fun h => width_good (t := t) (dims := dims) HTT.out h)
    have HG3 := Lib.hid (fun h => width_dims (t := t) (dims := dims) HTT.out h)
    generalize cnt dims = c at HC HG HG2 HG3
    obtain ⟨c, ce⟩ := c
    dsimp only at HC HG HG2 HG3
    go_wp2_with fail
    refine HC.out.mono ?_
    rintro e w2 ⟨rfl, rfl⟩
    by_cases hc : ce = 0
    · subst hc
      have hz : ((0 : Int) != 0) = false := rfl
      have e := Lib.hid (HG2.out rfl)
      go_wp2_with fail
      refine (HBy.out _).mono ?_
      rintro e w2 ⟨rfl, rfl⟩
      generalize bytesT t = bt at *
      go_wp2
      go_ret2
      exact WidR.mk' (by rw [e.out, Int.mul_comm]) hB1.out
    · have hz : (ce != 0) = true := by simpa using hc
      have e := Lib.hid (HG3.out hc)
      clear hc
      go_wp2
      go_ret2
      exact WidR.mk' e.out hB1.out

end Go.Proofs.YtlbhepfbogcipaaGreatDoor
