/- The walk of the law LiveOutputs. -/
import Derived.Test.YtlbhepfbogcipaaDoorLvY
import Derived.Test.YtlbhepfbogcipaaDoorLvOr
set_option linter.unusedVariables false
set_option linter.unusedSimpArgs false
namespace Go.Proofs.YtlbhepfbogcipaaDoor
open Go.RowKit

theorem apart_out {g : Gr} {i j : Nat} (hij : i < j) (h0 : orderE g = 0) (h : apartX g (i : Int) (j : Int) = true) {p : Nat} {x : Nd} (hp : (work g)[i]? = some p) (hx : g.nodes[p]? = some x) : ∀ v ∈ g.outs, v.name ≠ x.out := by
  unfold apartX at h
  split at h
  · unfold apartB at h
    rw [show min (i : Int).toNat (j : Int).toNat = i by omega, show max (i : Int).toNat (j : Int).toNat = j by omega] at h
    intro v hv
    have := doneB_out h hv
    rwa [sortedL_good h0, show (picked g).getD i Nd.zero = x by simp [List.getD, picked_at hp hx]] at this
  · cases h
theorem same_str (a b : ByteArray) : (a.toList == b.toList) = decide (a = b) := by
  by_cases e : a = b
  · simp [e]
  · have : ¬ a.toList = b.toList := fun c => e (toList_inj c)
    simp [e, this]

attribute [local irreducible] orderE orderL work hasS namesG picked sortedL rdsL befB doneB apartB apartE apartX

set_option maxRecDepth 100000 in
set_option maxHeartbeats 4000000 in
theorem loutputs_any {w : World} {v : Value} {g : Gr} (a b : Int) (h : GraphV w v g) (ha : InI a) (hb : InI b) (hG : Glob w) :
    Calls Tryd.prog 5 #[v, .int .i64 a, .int .i64 b] w fun e w' => e = .returned (.bool true) ∧ Below w.heap.size w w' := by
  have HS := Lib.hid (fun (W : World) (v : Value) (h : GraphV W v g) => lsmall_any h)
  have HO := Lib.hid (fun (W : World) (v : Value) (h : GraphV W v g) => rgorder_any h)
  have HA := Lib.hid (fun (W : World) (v : Value) (h : GraphV W v g) (hG : Glob W) => apart_any (a := a) (b := b) h hG ha hb)
  have HL := Lib.hid (fun (W : World) (hG : Glob W) => lalive_any hG)
  obtain ⟨vn, vi, vo, vt, rfl, hg⟩ := h
  obtain ⟨an, cn, rfl⟩ := hg.nodes.form
  obtain ⟨ai, ci, rfl⟩ := hg.ins.form
  obtain ⟨ao, co, rfl⟩ := hg.outs.form
  obtain ⟨at', ct, rfl⟩ := hg.inits.form
  have hlo := hg.outs.len
  have HN := Lib.hid hg
  have HGl := Lib.hid hG
  clear hg hG
  unfold Gr.val
  go_enter Tryd.func5, Tryd.ntmps5
  go_wp2_with fail
  have hB2 : Hid (Below w.heap.size w (w.alloc (Obj.cells #[Value.string g.name, .slice an g.nodes.length cn, .slice ai g.ins.length ci, .slice ao g.outs.length co, .slice at' g.inits.length ct] 26))) := Lib.hid ((Below.refl _ _).alloc (Nat.le_refl _) _)
  have hA2 : Hid (BoxN (w.alloc (Obj.cells #[Value.string g.name, .slice an g.nodes.length cn, .slice ai g.ins.length ci, .slice ao g.outs.length co, .slice at' g.inits.length ct] 26)) w.heap.size #[Value.string g.name, .slice an g.nodes.length cn, .slice ai g.ins.length ci, .slice ao g.outs.length co, .slice at' g.inits.length ct] 26) := Lib.hid (BoxN.new _ _ _)
  generalize w.alloc _ = W2 at hB2 hA2 ⊢
  have HB2 : Hid (Below w.heap.size w W2) := hB2
  have hGV : Hid (∀ W, Below W2.heap.size W2 W → GraphV W (.agg #[Value.string g.name, .slice an g.nodes.length cn, .slice ai g.ins.length ci, .slice ao g.outs.length co, .slice at' g.inits.length ct]) g) := Lib.hid fun W hW => ⟨_, _, _, _, rfl, HN.out.below (HB2.out.trans (hW.mono HB2.out.size))⟩
  refine (HS.out _ _ (hGV.out W2 (Below.refl _ _))).mono ?_
  rintro e w3 ⟨rfl, B3⟩
  have HB3 : Hid (Below W2.heap.size W2 w3) := Lib.hid B3
  have HG3 : Hid (Glob w3) := Lib.hid (HGl.out.below (HB2.out.trans (B3.mono HB2.out.size)))
  clear B3 HS
  generalize (decide (g.nodes.length ≤ 30) && decide (g.ins.length + g.inits.length + g.outs.length ≤ 60)) = sm
  obtain ⟨k0, k1, k2, k3, k4⟩ := (hA2.out.below' HB3.out).fiveG
  cases sm with
  | false =>
    go_wp2_with fail
    refine (HL.out _ HG3.out).mono ?_
    rintro e w6 ⟨rfl, B6⟩
    go_wp2
    go_ret
    exact ⟨rfl, HB2.out.trans ((HB3.out.trans (B6.mono HB3.out.size)).mono HB2.out.size)⟩
  | true =>
    by_cases hba : b ≤ a
    · go_wp2_with fail
      refine (HL.out _ HG3.out).mono ?_
      rintro e w6 ⟨rfl, B6⟩
      go_wp2
      go_ret
      exact ⟨rfl, HB2.out.trans ((HB3.out.trans (B6.mono HB3.out.size)).mono HB2.out.size)⟩
    have hab : ¬ b ≤ a := hba
    by_cases ha0 : a < 0
    · go_wp2_with fail
      refine (HL.out _ HG3.out).mono ?_
      rintro e w6 ⟨rfl, B6⟩
      go_wp2
      go_ret
      exact ⟨rfl, HB2.out.trans ((HB3.out.trans (B6.mono HB3.out.size)).mono HB2.out.size)⟩
    obtain ⟨i, rfl⟩ : ∃ i : Nat, a = (i : Int) := ⟨a.toNat, by omega⟩
    obtain ⟨j, rfl⟩ : ∃ j : Nat, b = (j : Int) := ⟨b.toNat, by omega⟩
    have hij : i < j := by omega
    have hij' : ¬ j ≤ i := by omega
    go_wp2_with fail
    clear k0 k1 k2 k3 k4
    refine (HO.out _ _ (hGV.out w3 HB3.out)).mono ?_
    rintro e w4 ⟨v4, rfl, ho, B4⟩
    have HB4 : Hid (Below W2.heap.size W2 w4) := Lib.hid (HB3.out.trans (B4.mono HB3.out.size))
    have HG4 : Hid (Glob w4) := Lib.hid (HG3.out.below B4)
    have HR := Lib.hid ho
    clear B4 ho
    obtain ⟨al, cl, rfl⟩ := owns_form HR.out
    obtain ⟨k0, k1, k2, k3, k4⟩ := (hA2.out.below' HB4.out).fiveG
    go_wp2_with fail
    clear k0 k1 k2 k3 k4
    refine (HA.out _ _ (hGV.out w4 HB4.out) HG4.out).mono ?_
    rintro e w5 ⟨rfl, B5⟩
    have HB5 : Hid (Below W2.heap.size W2 w5) := Lib.hid (HB4.out.trans (B5.mono HB4.out.size))
    have HG5 : Hid (Glob w5) := Lib.hid (HG4.out.below B5)
    have HR5 := Lib.hid (owns_below HR.out B5)
    have hx := apart_out (g := g) hij
    generalize hxx : apartX g (i : Int) (j : Int) = x
    generalize apartE g (i : Int) (j : Int) = ea
    rw [hxx] at hx
    have HX := Lib.hid hx
    clear hx hxx B5 HR HB4 HG4 HG3 HB3 HA HO
    generalize hce : orderE g = ce
    have HCE := Lib.hid hce
    clear hce
    by_cases hz : ce = 0
    · have hzb : (ce != 0) = false := by simpa using hz
      have hE0 := Lib.hid (HCE.out.trans hz)
      have HF := Lib.hid (fineG_of (HCE.out.trans hz))
      have HOL : Hid (orderL g = work g) := Lib.hid (orderL_full (HCE.out.trans hz))
      have hll : (orderL g).length = g.nodes.length := by rw [HOL.out]; exact HF.out.full
      have g1 := (great_iff.1 HF.out.great).1
      rw [hll] at HR5 ⊢
      clear hll hz
      have HI : Hid (IntsIn w5 (.slice al g.nodes.length cl) ((work g).map fun (i : Nat) => (i : Int))) := Lib.hid (by
        have h1 := HR5.out
        rw [HOL.out] at h1
        have h2 := HF.out.full
        rw [← h2] at h1 ⊢
        exact nats_intsL h1 (by omega) (fun i hi => by have := (work_good g).lt i hi; omega))
      clear HR5
      by_cases he : ea = 0
      · have heb : (ea != 0) = false := by simpa using he
        by_cases hjl : g.nodes.length ≤ j
        · go_wp2_with fail
          refine (HL.out _ HG5.out).mono ?_
          rintro e w6 ⟨rfl, B6⟩
          go_wp2
          go_ret
          exact ⟨rfl, HB2.out.trans ((HB5.out.trans (B6.mono HB5.out.size)).mono HB2.out.size)⟩
        have hjn : ¬ g.nodes.length ≤ j := hjl
        obtain ⟨p, hp⟩ : ∃ p, (work g)[i]? = some p := ⟨_, List.getElem?_eq_getElem (by rw [HF.out.full]; omega)⟩
        have hpl : p < g.nodes.length := (work_good g).lt p (List.mem_of_getElem? hp)
        obtain ⟨bl, ol, cl', hvl, hbl, cl0⟩ := nats_at HI.out HF.out.full hp
        obtain ⟨rfl, _, rfl⟩ := Value.slice.inj hvl
        obtain ⟨y, hy⟩ : ∃ y, g.nodes[p]? = some y := ⟨_, List.getElem?_eq_getElem hpl⟩
        obtain ⟨bn, on, cn', _, _, hvn, hbn, _, _, _, cn3, _⟩ := node_at HN.out.nodes hy
        obtain ⟨rfl, _, rfl⟩ := Value.slice.inj hvn
        have HY : Hid (∀ v ∈ g.outs, x = true → v.name ≠ y.out) := Lib.hid fun v hv hx => HX.out hE0.out hx hp hy v hv
        have HCl := Lib.hid cl0
        have HCn := Lib.hid cn3
        clear hp hvl cl0 hy hvn cn3 HX HI he hjl
        go_wp2_with fail
        have hi0 : ¬ (i : Int) < 0 := by omega
        have hi1 : (i : Int) < (g.nodes.length : Int) := by omega
        have hp0 : ¬ (p : Int) < 0 := by omega
        have hp1 : (p : Int) < (g.nodes.length : Int) := by omega
        go_loopw [11] (fun i wr => ∃ k : Nat, k ≤ g.outs.length ∧ i = .int .i64 (k : Int) ∧ Hid (Below w5.heap.size w5 wr)) (fun i _ => g.outs.length - (intOf i).toNat)
        case atStart => exact ⟨0, Nat.zero_le _, rfl, Lib.hid (Below.refl _ _)⟩
        case round =>
          obtain ⟨k, hk, rfl, hW⟩ := hrel
          have hBW : Hid (Below W2.heap.size W2 wr) := Lib.hid (HB5.out.trans (hW.out.mono HB5.out.size))
          obtain ⟨k0, k1, k2, k3, k4⟩ := (hA2.out.below' hBW.out).fiveG
          by_cases hkl : k < g.outs.length
          · have hki : (k : Int) < (g.outs.length : Int) := by omega
            have hk0 : ¬ (k : Int) < 0 := by omega
            obtain ⟨v, hv⟩ : ∃ v, g.outs[k]? = some v := ⟨_, List.getElem?_eq_getElem hkl⟩
            obtain ⟨bo, oo, co', _, hvo, hbo, co0, _⟩ := value_at HN.out.outs hv
            obtain ⟨rfl, _, rfl⟩ := Value.slice.inj hvo
            have HV : Hid (x = true → v.name ≠ y.out) := Lib.hid (HY.out v (List.mem_of_getElem? hv))
            have hww := HB2.out.trans (hBW.out.mono HB2.out.size)
            have c0 := (hww.cell (p := ⟨bo, oo + k * 3, none⟩) hbo).trans co0
            have c1 := (hW.out.cell (p := ⟨bl, ol + i, none⟩) hbl).trans HCl.out
            have c3 := (hww.cell (p := ⟨bn, on + p * 5 + 3, none⟩) hbn).trans HCn.out
            clear hv hvo co0 hww
            go_wp2_with fail
            by_cases e : v.name = y.out
            · have hxf : x = false := by
                cases x with
                | false => rfl
                | true => exact absurd e (HV.out rfl)
              subst hxf
              have heq : (v.name.toList == y.out.toList) = true := by rw [same_str, decide_eq_true e]
              go_quiet (fail)
              go_wp2_with fail
              go_roundw
              case rel => exact ⟨k + 1, by omega, by go_num, Lib.hid (below_dN hW.out _)⟩
              case measure => simp [intOf]; omega
            · have heq : (v.name.toList == y.out.toList) = false := by rw [same_str, decide_eq_false e]
              go_quiet (fail)
              go_wp2_with fail
              go_roundw
              case rel => exact ⟨k + 1, by omega, by go_num, Lib.hid (below_dN hW.out _)⟩
              case measure => simp [intOf]; omega
          · have hki : ¬ (k : Int) < (g.outs.length : Int) := by omega
            go_wp2_with fail
            refine (HL.out _ (HG5.out.below hW.out)).mono ?_
            rintro e w6 ⟨rfl, B6⟩
            go_wp2
            go_ret
            exact ⟨rfl, HB2.out.trans ((hBW.out.trans (B6.mono hBW.out.size)).mono HB2.out.size)⟩
      · have heb : (ea != 0) = true := by simpa using he
        go_wp2_with fail
        refine (HL.out _ HG5.out).mono ?_
        rintro e w6 ⟨rfl, B6⟩
        go_wp2
        go_ret
        exact ⟨rfl, HB2.out.trans ((HB5.out.trans (B6.mono HB5.out.size)).mono HB2.out.size)⟩
    · have hzb : (ce != 0) = true := by simpa using hz
      clear hz
      go_wp2_with fail
      refine (HL.out _ HG5.out).mono ?_
      rintro e w6 ⟨rfl, B6⟩
      go_wp2
      go_ret
      exact ⟨rfl, HB2.out.trans ((HB5.out.trans (B6.mono HB5.out.size)).mono HB2.out.size)⟩

end Go.Proofs.YtlbhepfbogcipaaDoor

