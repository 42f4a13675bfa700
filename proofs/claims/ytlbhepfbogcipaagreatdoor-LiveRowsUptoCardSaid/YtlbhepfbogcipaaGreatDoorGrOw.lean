/- The walk of graph.Order. -/
import Derived.Test.YtlbhepfbogcipaaGreatDoorGrO
import Derived.Test.YtlbhepfbogcipaaGreatDoorSchCo
import Derived.WalkMore
set_option linter.unusedVariables false
set_option linter.unusedSimpArgs false
namespace Go.Proofs.YtlbhepfbogcipaaGreatDoor
open Go.RowKit Go.WideMaps Go.Maps

def lenV : Value → Nat
  | .slice _ l _ => l
  | _ => 0
abbrev natsV (l : List Nat) : List Value := l.map fun (i : Nat) => Value.int .i64 (i : Int)
/-- What Order gives. -/
def OrderV (w : World) (g : Gr) (e : Ending) (w' : World) : Prop := ∃ v', e = .returned (.tuple #[v', .int .i64 (orderE g)]) ∧ w'.ownsRow w.heap.size 3 1 v' (orderL g).length (natsV (orderL g)) ∧ Below w.heap.size w w'
theorem OrderV.bad {w w' : World} {g : Gr} {x : Int} (h : orderE g = x) (hx : x ≠ 0) (hB : Below w.heap.size w w') : OrderV w g (.returned (.tuple #[.slice none 0 0, .int .i64 x])) w' :=
  ⟨_, by rw [h], by rw [orderL_bad h hx]; exact World.ownsRow_nil _ _ _ _, hB⟩

theorem OrderV.good {w w' : World} {g : Gr} {B p : Nat} {v : Value} {out : List Nat} (h : orderE g = 0) (hw : work g = out) (hl : out.length = p) (hr : w'.ownsRow B 3 1 v p (natsV out)) (hb : w.heap.size ≤ B) (hB : Below w.heap.size w w') : OrderV w g (.returned (.tuple #[v, .int .i64 0])) w' :=
  ⟨_, by rw [h], by rw [orderL_full h, hw, hl]; exact owns_base hr hb, hB⟩
theorem work_start (g : Gr) : workF g (g.nodes.length - 0) [] = work g := rfl
theorem work_full {g : Gr} {out : List Nat} (h : workF g (g.nodes.length - g.nodes.length) out = work g) : work g = out := by
  rw [← h, Nat.sub_self]; rfl
theorem work_stuck {g : Gr} {out : List Nat} {f : Nat} (h : workF g f out = work g) (h2 : ∀ j, j < g.nodes.length → readyB g out j = false) : work g = out := by
  rw [← h]
  exact workF_stop f out (nextW_not h2)
theorem work_next {g : Gr} {out : List Nat} {p k : Nat} (hp : p < g.nodes.length) (h : workF g (g.nodes.length - p) out = work g) (hk : k < g.nodes.length) (hr : readyB g out k = true) (hl : ∀ j, j < k → readyB g out j = false) : workF g (g.nodes.length - (p + 1)) (out ++ [k]) = work g := by
  rw [← h]
  have e : g.nodes.length - p = (g.nodes.length - (p + 1)) + 1 := by omega
  rw [e, workF_step (nextW_of hk hr hl)]
theorem ready_lt {g : Gr} {out : List Nat} {k : Nat} (hl : ∀ j, j < k → readyB g out j = false) (h : readyB g out k = false) : ∀ j, j < k + 1 → readyB g out j = false := fun j hj => by
  by_cases e : j = k
  · rw [e]; exact h
  · exact hl j (by omega)
theorem readyS_none {g : Gr} {out : List Nat} {s : ByteArray} (h : maker g s = none) : readyS g out s = true ∧ mkI g s = -1 := by
  unfold readyS mkI; rw [h]; exact ⟨rfl, rfl⟩
theorem readyS_some {g : Gr} {out : List Nat} {s : ByteArray} {m : Nat} (h : maker g s = some m) : readyS g out s = out.contains m ∧ mkI g s = (m : Int) := by
  unfold readyS mkI; rw [h]; exact ⟨rfl, rfl⟩
theorem at_pick {l : List (ByteArray × Int)} {s : ByteArray} {c x : Int} (hat : (putAll l : DataW Unit).atKey (keyS s) (.lit (.int .i64 0)) = .lit (.int .i64 c)) (h : ((l.reverse.find? fun p => decide (p.1 = s)).map Prod.snd).getD 0 = x) : c = x := by
  rw [at_putAll, h] at hat
  injection hat with hat
  injection hat with _ hat
  exact hat.symm
theorem heap_alloc_at {W : World} {b : Nat} {cs : Array Value} {t : TypeId} (h : b = W.heap.size) : (W.alloc (.cells cs t)).heap[b]? = some (.cells cs t (0, 0)) := by
  subst h
  exact heap_alloc_new W _
theorem all_take {α : Type} {l : List α} {P : α → Bool} {j : Nat} {x : α} (h : (l.take j).all P = true) (hx : l[j]? = some x) (hp : P x = true) : (l.take (j + 1)).all P = true := by
  rw [List.take_add_one, List.all_append, h, hx]; simp [hp]

attribute [local irreducible] unlikeB namesG pairs namedB hasS orderE orderL work workF readyB readyS mkI maker nextW partsE doneCells

set_option maxRecDepth 100000 in
set_option maxHeartbeats 4000000 in
theorem order_any {w : World} {v : Value} {g : Gr} (h : GraphV w v g) (hG : Glob w) :
    Calls Tryz.prog 37 #[v] w fun e w' => OrderV w g e w' := by
  have hmb := run_make_bools
  obtain ⟨i0, hi, hz0, hz1, hz2⟩ := info_parts info_int
  have HParts := Lib.hid (fun (W : World) (vi : Value) (h : GraphV W vi g) (hG : Glob W) => parts_any h hG)
  have HMakers := Lib.hid (fun (W : World) (vi : Value) (h : GraphV W vi g) (hl : g.ins.length + g.inits.length + g.nodes.length ≤ 3000) => makers_any h hl)
  have HNamed := Lib.hid (fun (W : World) (vi : Value) (h : GraphV W vi g) (Bm n : Nat) (hm : MapS W Bm n (pairs g)) (hlo : g.outs.length ≤ 3000) => gnamed_any h hm hlo)
  obtain ⟨vn, vi, vo, vt, rfl, hg⟩ := h
  obtain ⟨an, cn, rfl⟩ := hg.nodes.form
  obtain ⟨ai, ci, rfl⟩ := hg.ins.form
  obtain ⟨ao, co, rfl⟩ := hg.outs.form
  obtain ⟨at', ct, rfl⟩ := hg.inits.form
  have hln := hg.nodes.len
  have hli := hg.ins.len
  have hlt := hg.inits.len
  have hlo := hg.outs.len
  have HN := Lib.hid hg
  have HGl := Lib.hid hG
  clear hg hG
  unfold Gr.val
  go_enter Tryz.func37, Tryz.ntmps37
  go_wp2_with fail
  have hB1 : Hid (Below w.heap.size w (w.alloc (Obj.cells #[Value.string g.name, Value.slice an g.nodes.length cn, Value.slice ai g.ins.length ci, Value.slice ao g.outs.length co, Value.slice at' g.inits.length ct] 26))) := Lib.hid ((Below.refl _ w).alloc (Nat.le_refl _) _)
  have hA1 := Lib.hid (BoxN.new w #[Value.string g.name, Value.slice an g.nodes.length cn, Value.slice ai g.ins.length ci, Value.slice ao g.outs.length co, Value.slice at' g.inits.length ct] 26)
  generalize w.alloc _ = W1 at hB1 hA1 ⊢
  obtain ⟨k0, k1, k2, k3, k4⟩ := hA1.out.fiveG
  go_step3
  have hGV : Hid (∀ W, Below W1.heap.size W1 W → GraphV W (.agg #[Value.string g.name, Value.slice an g.nodes.length cn, Value.slice ai g.ins.length ci, Value.slice ao g.outs.length co, Value.slice at' g.inits.length ct]) g) := Lib.hid fun W hW => ⟨_, _, _, _, rfl, HN.out.below (hB1.out.trans (hW.mono hB1.out.size))⟩
  cases hgr : tooGreat g with
  | true =>
    have HR := Lib.hid (order_great hgr)
    have hgr2 : ¬ (g.nodes.length ≤ 1000 ∧ g.ins.length + g.inits.length + g.nodes.length ≤ 3000 ∧ g.outs.length ≤ 3000) := fun c => by rw [great_iff.2 c] at hgr; cases hgr
    clear hgr
    by_cases p1 : g.nodes.length ≤ 1000
    · have q1 : ¬ (1000 : Int) < (g.nodes.length : Int) := by omega
      by_cases p2 : g.ins.length + g.inits.length + g.nodes.length ≤ 3000
      · have q2 : ¬ (3000 : Int) < (g.ins.length : Int) + (g.inits.length : Int) + (g.nodes.length : Int) := by omega
        have q3 : (3000 : Int) < (g.outs.length : Int) := by omega
        clear hgr2 p1 p2
        go_wp2
        go_ret2
        exact OrderV.bad HR.out (by decide) hB1.out
      · have q2 : (3000 : Int) < (g.ins.length : Int) + (g.inits.length : Int) + (g.nodes.length : Int) := by omega
        clear hgr2 p1 p2
        go_wp2
        go_ret2
        exact OrderV.bad HR.out (by decide) hB1.out
    · have q1 : (1000 : Int) < (g.nodes.length : Int) := by omega
      clear hgr2 p1
      go_wp2
      go_ret2
      exact OrderV.bad HR.out (by decide) hB1.out
  | false =>
    obtain ⟨g1, g2, g3⟩ := great_iff.1 hgr
    have HGr := Lib.hid hgr
    clear hgr
    have q1 : ¬ (1000 : Int) < (g.nodes.length : Int) := by omega
    have q2 : ¬ (3000 : Int) < (g.ins.length : Int) + (g.inits.length : Int) + (g.nodes.length : Int) := by omega
    have q3 : ¬ (3000 : Int) < (g.outs.length : Int) := by omega
    go_wp2_with fail
    have hx1 := HParts.out _ _ (hGV.out W1 (Below.refl _ _)) (HGl.out.below hB1.out)
    refine hx1.mono ?_
    rintro e w5 ⟨rfl, B5⟩
    have HW5 : Hid (Below W1.heap.size W1 w5) := Lib.hid B5
    clear B5 hx1 k0 k1 k2 k3 k4
    obtain ⟨k0, k1, k2, k3, k4⟩ := (hA1.out.below' HW5.out).fiveG
    generalize hce : partsE g = ce
    have HCE := Lib.hid hce
    clear hce
    by_cases hz : ce = 0
    · have hzb : (ce != 0) = false := by simpa using hz
      have HP0 : Hid (partsE g = 0) := Lib.hid (HCE.out.trans hz)
      clear hz HCE
      go_wp2_with fail
      have hx2 := HMakers.out _ _ (hGV.out w5 HW5.out) g2
      refine hx2.mono ?_
      rintro e w6 ⟨B6, ⟨hu, Bm, n, hle, rfl, hm⟩ | ⟨hu, rfl⟩⟩
      · have HW6 : Hid (Below W1.heap.size W1 w6) := Lib.hid (HW5.out.trans (B6.mono HW5.out.size))
        have HU := Lib.hid hu
        have HM := Lib.hid hm
        clear B6 hu hm hle hx2 k0 k1 k2 k3 k4
        obtain ⟨k0, k1, k2, k3, k4⟩ := (hA1.out.below' HW6.out).fiveG
        go_wp2_with fail
        have hx3 := HNamed.out _ _ (hGV.out w6 HW6.out) _ _ HM.out g3
        refine hx3.mono ?_
        rintro e w7 ⟨rfl, B7⟩
        have HW7 : Hid (Below W1.heap.size W1 w7) := Lib.hid (HW6.out.trans (B7.mono HW6.out.size))
        have HM7 := Lib.hid (HM.out.below B7)
        clear B7 hx3 k0 k1 k2 k3 k4
        obtain ⟨k0, k1, k2, k3, k4⟩ := (hA1.out.below' HW7.out).fiveG
        generalize hnb : namedB g = nb
        have HNB := Lib.hid hnb
        clear hnb
        cases nb with
        | false =>
          have HR := Lib.hid (order_named HGr.out HP0.out HU.out HNB.out)
          go_wp2
          go_ret2
          exact OrderV.bad HR.out (by decide) (hB1.out.trans (HW7.out.mono hB1.out.size))
        | true =>
          have hmk := hmb w7 g.nodes.length (by omega)
          go_wp2_with fail
          clear hmk hmb
          have HB8 : Hid (Below w7.heap.size w7 (w7.alloc (.cells (doneCells g.nodes.length []) 4))) := Lib.hid ((Below.refl _ _).alloc (Nat.le_refl _) _)
          have HD8 := Lib.hid (done_new w7 g.nodes.length)
          have HA7 := Lib.hid (hA1.out.below' HW7.out)
          have HN7 := Lib.hid (HN.out.below (hB1.out.trans (HW7.out.mono hB1.out.size)))
          have HW : Hid (Below w.heap.size w w7) := Lib.hid (hB1.out.trans (HW7.out.mono hB1.out.size))
          have hs8 : Hid ((w7.alloc (.cells (doneCells g.nodes.length []) 4)).heap.size = w7.heap.size + 1) := Lib.hid (by simp)
          generalize w7.alloc _ = W8 at HB8 HD8 hs8 ⊢
          clear HM HW5 HW6 HW7 hB1 hA1 hGV HN k0 k1 k2 k3 k4 HParts HMakers HNamed HGl
          go_step3
          go_wp2_with fail
          go_loopw [8] (fun ov wr => ∃ (out : List Nat) (p : Nat), p ≤ g.nodes.length ∧ Hid (out.length = p) ∧ Hid (Good g out) ∧ Hid (workF g (g.nodes.length - p) out = work g) ∧ Hid (DoneAt wr w7.heap.size g.nodes.length out) ∧ Hid (wr.ownsRow (w7.heap.size + 1) 3 1 ov p (natsV out)) ∧ Hid (Below w7.heap.size w7 wr) ∧ Hid (w7.heap.size + 1 ≤ wr.heap.size)) (fun ov _ => g.nodes.length - lenV ov)
          case atStart => exact ⟨[], 0, Nat.zero_le _, Lib.hid rfl, Lib.hid (Good.nil g), Lib.hid (work_start g), HD8, Lib.hid (World.ownsRow_nil _ _ _ _), HB8, Lib.hid (by rw [hs8.out]; exact Nat.le_refl _)⟩
          case round =>
            clear HB8 HD8 hs8
            obtain ⟨out, p, hp, hOL, hGo, hWk, hDn, hRow, hW, hS⟩ := hrel
            obtain ⟨ao', co', rfl⟩ := owns_form hRow.out
            obtain ⟨k0, k1, k2, k3, k4⟩ := (HA7.out.below' hW.out).fiveG
            by_cases hpl : p < g.nodes.length
            · have hpi : (p : Int) < (g.nodes.length : Int) := by omega
              go_wp2_with fail
              go_step3
              go_wp2_with fail
              go_step3
              go_wp2_with fail
              clear k0 k1 k2 k3 k4
              go_loopw [8, 69] (fun ov i wr => ∃ (k : Nat), k ≤ g.nodes.length ∧ ov = .slice ao' p co' ∧ i = .int .i64 (k : Int) ∧ Hid (∀ j, j < k → readyB g out j = false) ∧ Hid (DoneAt wr w7.heap.size g.nodes.length out) ∧ Hid (wr.ownsRow (w7.heap.size + 1) 3 1 (.slice ao' p co') p (natsV out)) ∧ Hid (Below w7.heap.size w7 wr) ∧ Hid (w7.heap.size + 1 ≤ wr.heap.size)) (fun _ i _ => g.nodes.length - (intOf i).toNat)
              case atStart => exact ⟨0, Nat.zero_le _, rfl, rfl, Lib.hid (fun j hj => by omega), hDn, hRow, hW, hS⟩
              case round =>
                clear hDn hRow hW hS
                obtain ⟨k, hk, rfl, rfl, hL, hDn, hRow, hW, hS⟩ := hrel
                by_cases hkl : k < g.nodes.length
                · have hki : (k : Int) < (g.nodes.length : Int) := by omega
                  obtain ⟨x, hx⟩ : ∃ x, g.nodes[k]? = some x := ⟨_, List.getElem?_eq_getElem hkl⟩
                  obtain ⟨b, off, cap, vd, vx, hv, hb, c0, c1, c2, c3, c4, h3, h4, h5, h6⟩ := node_at HN7.out.nodes hx
                  obtain ⟨rfl, hle, rfl⟩ := Value.slice.inj hv
                  clear hle hv h4 h5
                  have hil := h3.is.len
                  obtain ⟨ad, cd, rfl⟩ := h3.is.form
                  obtain ⟨ax, cx, rfl⟩ := h3.ia.form
                  have c0 := (hW.out.cell (p := ⟨b, off + k * 5, none⟩) hb).trans c0
                  have c1 := (hW.out.cell (p := ⟨b, off + k * 5 + 1, none⟩) hb).trans c1
                  have c2 := (hW.out.cell (p := ⟨b, off + k * 5 + 2, none⟩) hb).trans c2
                  have c3 := (hW.out.cell (p := ⟨b, off + k * 5 + 3, none⟩) hb).trans c3
                  have c4 := (hW.out.cell (p := ⟨b, off + k * 5 + 4, none⟩) hb).trans c4
                  have HX := Lib.hid hx
                  have HI := Lib.hid h3.is
                  have HS6 := Lib.hid h6
                  clear hx h3 h6
                  have HB2 : ∀ o, Below wr.heap.size wr (wr.alloc o) := fun o => (Below.refl _ _).alloc (Nat.le_refl _) _
                  have HW2 : Hid (Below w7.heap.size w7 (wr.alloc (.cells #[.string x.op, .string x.name, .slice ad x.ins.length cd, .string x.out, .slice ax x.attrs.length cx] 47))) := Lib.hid (hW.out.alloc hW.out.size _)
                  have HD2 : Hid (DoneAt (wr.alloc (.cells #[.string x.op, .string x.name, .slice ad x.ins.length cd, .string x.out, .slice ax x.attrs.length cx] 47)) w7.heap.size g.nodes.length out) := Lib.hid (hDn.out.keep ((HB2 _).block _ hDn.out.lt))
                  have HR2 : Hid ((wr.alloc (.cells #[.string x.op, .string x.name, .slice ad x.ins.length cd, .string x.out, .slice ax x.attrs.length cx] 47)).ownsRow (w7.heap.size + 1) 3 1 (.slice ao' p co') p (natsV out)) := Lib.hid (hRow.out.alloc _)
                  have HS2 : Hid (w7.heap.size + 1 ≤ (wr.alloc (.cells #[.string x.op, .string x.name, .slice ad x.ins.length cd, .string x.out, .slice ax x.attrs.length cx] 47)).heap.size) := Lib.hid (by have := hS.out; simp; omega)
                  have HX2 := Lib.hid (BoxN.new wr #[.string x.op, .string x.name, .slice ad x.ins.length cd, .string x.out, .slice ax x.attrs.length cx] 47)
                  have d0 := (HD2.out.cell hkl)
                  clear HB2
                  obtain ⟨bq, hbq⟩ : ∃ bq, out.contains k = bq := ⟨_, rfl⟩
                  rw [hbq] at d0
                  have HC := Lib.hid hbq
                  clear hbq
                  cases bq with
                  | true =>
                    have HL2 := Lib.hid (ready_lt hL.out (ready_done HC.out))
                    go_wp2
                    go_roundw
                    case rel => exact ⟨k + 1, by omega, rfl, by go_num, HL2, HD2, HR2, HW2, HS2⟩
                    case measure => simp [intOf]; omega
                  | false =>
                    go_wp2_with fail
                    generalize wr.alloc _ = W2 at HW2 HD2 HR2 HS2 HX2 d0 ⊢
                    clear c0 c1 c2 c3 c4 d0 HX2 hDn hRow hW hS
                    have hm := HM7.out.below HW2.out
                    unfold MapS at hm
                    have HM2 := Lib.hid hm
                    clear hm
                    go_loop [81] (fun i => ∃ j : Nat, j ≤ x.ins.length ∧ i = .int .i64 (j : Int) ∧ Hid ((x.ins.take j).all (readyS g out) = true)) (fun i => x.ins.length - (intOf i).toNat)
                    case atStart => exact ⟨0, Nat.zero_le _, rfl, Lib.hid (by simp)⟩
                    case round =>
                      obtain ⟨j, hj, rfl, hA⟩ := hrel
                      by_cases hjl : j < x.ins.length
                      · have hji : (j : Int) < (x.ins.length : Int) := by omega
                        obtain ⟨s, hs⟩ : ∃ s, x.ins[j]? = some s := ⟨_, List.getElem?_eq_getElem hjl⟩
                        obtain ⟨b2, off2, cap2, hv, hb2, hr2⟩ := HI.out.rows j s hs
                        obtain ⟨rfl, hle, rfl⟩ := Value.slice.inj hv
                        clear hle hv
                        have c0 := (HW2.out.cell (p := ⟨b2, off2 + j, none⟩) hb2).trans (hr2 j s hs)
                        have hkey := key_str (HS6.out s (List.mem_of_getElem? hs))
                        have hm := HM2.out
                        have hpick := pick_at HU.out (named_has HNB.out (List.mem_of_getElem? HX.out) (List.mem_of_getElem? hs))
                        have HSJ := Lib.hid hs
                        have HPK := Lib.hid hpick
                        clear hr2 hs hpick
                        cases hmk : maker g s with
                        | none =>
                          have hn2 := readyS_none (out := out) hmk
                          have HA2 := Lib.hid (all_take hA.out HSJ.out hn2.1)
                          have HP2 := Lib.hid (HPK.out.trans hn2.2)
                          clear hmk hn2 HPK
                          go_wp2_with (at_lookup; refine wpList_lookup_own_int _ rfl _ _ 80 rfl 9 3 .i64 keyed_str Tryz.underlying80 Tryz.underlying3 (zero_int _) Bm n _ rfl hm _ _ rfl hkey ?_; intro c hat hwc; obtain rfl := at_pick hat HP2.out)
                          go_round
                          case rel => exact ⟨j + 1, by omega, by go_num, HA2⟩
                          case measure => simp [intOf]; omega
                        | some m =>
                          have hmlt := maker_lt hmk
                          have hn2 := readyS_some (out := out) hmk
                          have HP2 := Lib.hid (HPK.out.trans hn2.2)
                          have HQ := Lib.hid hn2.1
                          have d1 := HD2.out.cell hmlt
                          clear hmk hn2 HPK
                          obtain ⟨bq, hbq⟩ : ∃ bq, out.contains m = bq := ⟨_, rfl⟩
                          rw [hbq] at d1
                          have HCm := Lib.hid hbq
                          clear hbq
                          cases bq with
                          | true =>
                            have HA2 := Lib.hid (all_take hA.out HSJ.out (HQ.out.trans HCm.out))
                            go_wp2_with (at_lookup; refine wpList_lookup_own_int _ rfl _ _ 80 rfl 9 3 .i64 keyed_str Tryz.underlying80 Tryz.underlying3 (zero_int _) Bm n _ rfl hm _ _ rfl hkey ?_; intro c hat hwc; obtain rfl := at_pick hat HP2.out)
                            go_round
                            case rel => exact ⟨j + 1, by omega, by go_num, HA2⟩
                            case measure => simp [intOf]; omega
                          | false =>
                            have HL2 := Lib.hid (ready_lt hL.out (ready_not HX.out (List.mem_of_getElem? HSJ.out) (HQ.out.trans HCm.out)))
                            go_wp2_with (at_lookup; refine wpList_lookup_own_int _ rfl _ _ 80 rfl 9 3 .i64 keyed_str Tryz.underlying80 Tryz.underlying3 (zero_int _) Bm n _ rfl hm _ _ rfl hkey ?_; intro c hat hwc; obtain rfl := at_pick hat HP2.out)
                            go_roundw
                            case rel => exact ⟨k + 1, by omega, rfl, by go_num, HL2, HD2, HR2, HW2, HS2⟩
                            case measure => simp [intOf]; omega
                      · have hji : ¬ (j : Int) < (x.ins.length : Int) := by omega
                        obtain rfl : j = x.ins.length := by omega
                        have HRk := Lib.hid (ready_yes HX.out HC.out (by have := hA.out; rwa [List.take_length] at this))
                        have HG3 := Lib.hid (hGo.out.push hkl HRk.out)
                        have HK3 := Lib.hid (work_next hpl hWk.out hkl HRk.out hL.out)
                        have f0 := HD2.out.frozen k
                        have d0 := HD2.out.cell hkl
                        have HD3 : Hid (DoneAt (W2.setCell ⟨w7.heap.size, k, none⟩ (.bool true)) w7.heap.size g.nodes.length (out ++ [k])) := Lib.hid (HD2.out.set hkl)
                        have HR3 : Hid ((W2.setCell ⟨w7.heap.size, k, none⟩ (.bool true)).ownsRow (w7.heap.size + 1) 3 1 (.slice ao' p co') p (natsV out)) := Lib.hid (owns_heap HR2.out fun g hg => Below.heap_setCell _ _ _ _ (by have := (HR2.out.lt g hg).1; simp; omega))
                        have HW3 : Hid (Below w7.heap.size w7 (W2.setCell ⟨w7.heap.size, k, none⟩ (.bool true))) := Lib.hid (HW2.out.setCell (p := ⟨w7.heap.size, k, none⟩) (Nat.le_refl _) _)
                        have HS3 : Hid (w7.heap.size + 1 ≤ (W2.setCell ⟨w7.heap.size, k, none⟩ (.bool true)).heap.size) := Lib.hid (by show _ ≤ (W2.heap.modify _ _).size; rw [Array.size_modify]; exact HS2.out)
                        have hs3 : Hid (W2.heap.size = (W2.setCell ⟨w7.heap.size, k, none⟩ (.bool true)).heap.size) := Lib.hid (by show _ = (W2.heap.modify _ _).size; rw [Array.size_modify])
                        go_wp2_with (at_builtin; generalize W2.setCell _ _ = W3 at HD3 HR3 HW3 HS3 hs3 ⊢; refine wpList_append_own _ rfl _ _ 40 rfl (w7.heap.size + 1) 3 i0 (.int .i64 0) 1 8 Tryz.underlying40 hi hz0 hz1 hz2 rfl (by decide) _ _ _ rfl (HR3.out.alloc _) ⟨W2.heap.size, 0, none⟩ 1 1 (#[.int .i64 (k : Int)] : Array Value).toList rfl rfl (World.news_of_block (heap_alloc_at hs3.out)) (by simp [Value.oneCell']) ?A3 ?A4 ?A5 ?_)
                        case A3 => unfold maxLen; omega
                        case A4 => omega
                        case A5 => have := HS3.out; simp; omega
                        intro v' w4 hown' hgrow _
                        obtain ⟨a4, c4', rfl⟩ := owns_form hown'
                        have hg0 : ∀ y, Value.ownBlock (.slice ao' p co') = some y → w7.heap.size + 1 ≤ y := fun y hy => (HR3.out.lt y hy).1
                        have HB5 : Hid (Below w7.heap.size w7 w4) := Lib.hid ((HW3.out.alloc (by have := HS3.out; omega) _).grown hgrow (by have := HS3.out; simp; omega) fun y hy => by have := hg0 y hy; omega)
                        have HD5 : Hid (DoneAt w4 w7.heap.size g.nodes.length (out ++ [k])) := Lib.hid (by
                          have h1 := HD3.out.keep (((Below.refl _ W3).alloc (Nat.le_refl _) (.cells #[.int .i64 (k : Int)] 3)).block _ HD3.out.lt)
                          exact h1.keep (hgrow.block _ h1.lt (fun e => by have := hg0 _ e.symm; omega)))
                        have HR5 : Hid (w4.ownsRow (w7.heap.size + 1) 3 1 (.slice a4 (p + 1) c4') (p + 1) (natsV (out ++ [k]))) := Lib.hid (by unfold natsV; rw [List.map_append]; exact hown')
                        have HS5 : Hid (w7.heap.size + 1 ≤ w4.heap.size) := Lib.hid HD5.out.lt
                        have HL5 : Hid ((out ++ [k]).length = p + 1) := Lib.hid (by rw [List.length_append, hOL.out]; rfl)
                        clear hown' hgrow hg0 HD2 HR2 HW2 HS2
                        go_wp2_with fail
                        rw [Exit.noGoto_exit]
                        go_wp2_with fail
                        go_roundw
                        case rel => exact ⟨out ++ [k], p + 1, by omega, HL5, HG3, HK3, HD5, HR5, HB5, HS5⟩
                        case measure => simp [lenV]; omega
                · have hki : ¬ (k : Int) < (g.nodes.length : Int) := by omega
                  obtain rfl : k = g.nodes.length := by omega
                  have hw : Hid (work g = out) := Lib.hid (work_stuck hWk.out hL.out)
                  have HR := Lib.hid (order_short HGr.out HP0.out HU.out HNB.out (by rw [hw.out, hOL.out]; omega))
                  go_wp2
                  go_ret2
                  exact OrderV.bad HR.out (by decide) (HW.out.trans (hW.out.mono HW.out.size))
            · have hpi : ¬ (p : Int) < (g.nodes.length : Int) := by omega
              obtain rfl : p = g.nodes.length := by omega
              have hw : Hid (work g = out) := Lib.hid (work_full hWk.out)
              have HR := Lib.hid (order_full HGr.out HP0.out HU.out HNB.out (by rw [hw.out, hOL.out]))
              go_wp2
              go_ret2
              exact OrderV.good HR.out hw.out hOL.out hRow.out (by have := HW.out.size; omega) (HW.out.trans (hW.out.mono HW.out.size))
      · have HW6 : Hid (Below W1.heap.size W1 w6) := Lib.hid (HW5.out.trans (B6.mono HW5.out.size))
        have HR := Lib.hid (order_like HGr.out HP0.out hu)
        clear B6 hu hx2
        go_wp2
        go_ret2
        exact OrderV.bad HR.out (by decide) (hB1.out.trans (HW6.out.mono hB1.out.size))
    · have hzb : (ce != 0) = true := by simpa using hz
      have HR := Lib.hid (order_parts HGr.out HCE.out hz)
      have HZ := Lib.hid hz
      clear hz
      go_wp2
      go_ret2
      exact OrderV.bad HR.out HZ.out (hB1.out.trans (HW5.out.mono hB1.out.size))

end Go.Proofs.YtlbhepfbogcipaaGreatDoor
