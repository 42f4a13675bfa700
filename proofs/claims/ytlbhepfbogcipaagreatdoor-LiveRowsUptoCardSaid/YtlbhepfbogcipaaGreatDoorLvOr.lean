/- The walks of the reference's parts, unlike and maker (of a graph), and of the law package's small. -/
import Derived.Test.YtlbhepfbogcipaaGreatDoorLvOs
import Derived.Test.YtlbhepfbogcipaaGreatDoorGrS
import Derived.Test.YtlbhepfbogcipaaGreatDoorGrW
import Derived.BigQuiet
import Derived.Deep.QuietTactic
import Derived.Test.YtlbhepfbogcipaaGreatDoorGrA
import Derived.Test.YtlbhepfbogcipaaGreatDoorGrOw
import Derived.Test.YtlbhepfbogcipaaGreatDoorReg
import Derived.Test.YtlbhepfbogcipaaGreatDoorSchNo
set_option linter.unusedVariables false
set_option linter.unusedSimpArgs false
namespace Go.Proofs.YtlbhepfbogcipaaGreatDoor
open Go.RowKit

attribute [local irreducible] insE initsE nodesE partsE chk cnt pbE checkP refP

set_option maxRecDepth 100000 in
set_option maxHeartbeats 4000000 in
theorem rgparts_any {w : World} {v : Value} {g : Gr} (h : GraphV w v g) :
    Calls Tryz.prog 56 #[v] w fun e w' => e = .returned (.int .i64 (partsE g)) ∧ Below w.heap.size w w' := by
  obtain ⟨vn, vi, vo, vt, rfl, hg⟩ := h
  obtain ⟨an, cn, rfl⟩ := hg.nodes.form
  obtain ⟨ai, ci, rfl⟩ := hg.ins.form
  obtain ⟨at', ct, rfl⟩ := hg.inits.form
  have hl1 := hg.nodes.len
  have hl2 := hg.ins.len
  have hl3 := hg.inits.len
  have HN := Lib.hid hg
  clear hg
  unfold Gr.val
  go_enter Tryz.func56, Tryz.ntmps56
  go_wp2_with fail
  have hB1 : Hid (Below w.heap.size w (w.alloc (Obj.cells #[Value.string g.name, Value.slice an g.nodes.length cn, Value.slice ai g.ins.length ci, vo, Value.slice at' g.inits.length ct] 26))) := Lib.hid ((Below.refl _ w).alloc (Nat.le_refl _) _)
  have hA1 := Lib.hid (BoxN.new w #[Value.string g.name, Value.slice an g.nodes.length cn, Value.slice ai g.ins.length ci, vo, Value.slice at' g.inits.length ct] 26)
  generalize w.alloc _ = W1 at hB1 hA1 ⊢
  go_loopw [3] (fun i wr => ∃ k : Nat, k ≤ g.ins.length ∧ i = .int .i64 (k : Int) ∧ Hid (insE g.ins = insE (g.ins.drop k)) ∧ Hid (Below W1.heap.size W1 wr)) (fun i _ => g.ins.length - (intOf i).toNat)
  case atStart => exact ⟨0, Nat.zero_le _, rfl, Lib.hid rfl, Lib.hid (Below.refl _ _)⟩
  case round =>
    obtain ⟨k, hk, rfl, hE, hW⟩ := hrel
    obtain ⟨k0, k1, k2, k3, k4⟩ := (hA1.out.below' hW.out).fiveG
    have hBw := Lib.hid (hB1.out.trans (hW.out.mono hB1.out.size))
    by_cases hkl : k < g.ins.length
    · have hki : (k : Int) < (g.ins.length : Int) := by omega
      obtain ⟨x, hx⟩ : ∃ x, g.ins[k]? = some x := ⟨_, List.getElem?_eq_getElem hkl⟩
      obtain ⟨b, off, cap, vd, hv, hb, c0, c1, c2, h1, h2, h3⟩ := value_at HN.out.ins hx
      obtain ⟨rfl, hle, rfl⟩ := Value.slice.inj hv
      clear hle hv
      have c1 := (hBw.out.cell (p := ⟨b, off + k * 3 + 1, none⟩) hb).trans c1
      have c2 := (hBw.out.cell (p := ⟨b, off + k * 3 + 2, none⟩) hb).trans c2
      have HX := Lib.hid hx
      have HD := Lib.hid (h3.below hBw.out)
      clear hx h3 h1 h2 c0
      go_wp2_with fail
      refine (rtyped_any x.typ _).mono ?_
      rintro e w5 ⟨rfl, rfl⟩
      cases hc : chk x.typ 0 with
      | false =>
        have HR := Lib.hid (parts_ins (hE.out.trans (insE_type HX.out hc)) (by decide))
        clear hc
        go_wp2
        go_ret
        exact ⟨ret_val (congrArg (Value.int .i64) HR.out).symm, hBw.out⟩
      | true =>
        have HCK := Lib.hid hc
        clear hc
        go_wp2_with fail
        refine (rcount_any HD.out).mono ?_
        rintro e w6 ⟨rfl, rfl⟩
        generalize hce : (cnt x.dims).2 = ce
        have HCE := Lib.hid hce
        clear hce
        by_cases hz : ce = 0
        · have hzb : (ce != 0) = false := by simpa using hz
          have HN2 := Lib.hid (hE.out.trans (insE_next HX.out HCK.out (HCE.out.trans hz)))
          clear hz
          go_wp2
          go_roundw
          case rel => exact ⟨k + 1, by omega, by go_num, HN2, hW⟩
          case measure => simp [intOf]; omega
        · have hzb : (ce != 0) = true := by simpa using hz
          have HR := Lib.hid (parts_ins (hE.out.trans ((insE_dims HX.out HCK.out (by rw [HCE.out]; exact hz)).trans HCE.out)) hz)
          clear hz
          go_wp2
          go_ret
          exact ⟨ret_val (congrArg (Value.int .i64) HR.out).symm, hBw.out⟩
    · have hki : ¬ (k : Int) < (g.ins.length : Int) := by omega
      obtain rfl : k = g.ins.length := by omega
      have HI0 : Hid (insE g.ins = 0) := Lib.hid (hE.out.trans (insE_end _))
      clear hE
      go_wp2_with fail
      clear k0 k1 k2 k3 k4 hBw
      generalize hwq : wr = V2 at *
      clear hwq
      go_loopw [6] (fun i wr => ∃ k : Nat, k ≤ g.inits.length ∧ i = .int .i64 (k : Int) ∧ Hid (initsE g.inits = initsE (g.inits.drop k)) ∧ Hid (Below W1.heap.size W1 wr)) (fun i _ => g.inits.length - (intOf i).toNat)
      case atStart => exact ⟨0, Nat.zero_le _, rfl, Lib.hid rfl, hW⟩
      case round =>
        clear hW
        obtain ⟨k, hk, rfl, hE, hW⟩ := hrel
        obtain ⟨k0, k1, k2, k3, k4⟩ := (hA1.out.below' hW.out).fiveG
        have hBw := Lib.hid (hB1.out.trans (hW.out.mono hB1.out.size))
        by_cases hkl : k < g.inits.length
        · have hki : (k : Int) < (g.inits.length : Int) := by omega
          obtain ⟨x, hx⟩ : ∃ x, g.inits[k]? = some x := ⟨_, List.getElem?_eq_getElem hkl⟩
          obtain ⟨b, off, cap, vd, vx, hv, hb, c0, c1, c2, c3, h1, h2, h3, h4⟩ := named_at HN.out.inits hx
          obtain ⟨rfl, hle, rfl⟩ := Value.slice.inj hv
          clear hle hv
          obtain ⟨ad, cd, rfl⟩ := h3.shape
          obtain ⟨ax, cx, rfl⟩ := h4.shape
          have c1 := (hBw.out.cell (p := ⟨b, off + k * 4 + 1, none⟩) hb).trans c1
          have c2 := (hBw.out.cell (p := ⟨b, off + k * 4 + 2, none⟩) hb).trans c2
          have c3 := (hBw.out.cell (p := ⟨b, off + k * 4 + 3, none⟩) hb).trans c3
          have HX := Lib.hid hx
          have HD := Lib.hid (h3.below hBw.out)
          have HE := Lib.hid (h4.below hBw.out)
          clear hx h3 h4 h1 h2 c0
          go_wp2_with fail
          refine (rpb_any x.typ x.dims x.data HD.out HE.out).mono ?_
          rintro e w6 ⟨rfl, B6⟩
          have HW6 : Hid (Below W1.heap.size W1 w6) := Lib.hid (hW.out.trans (B6.mono hW.out.size))
          clear B6 HD HE c1 c2 c3 k0 k1 k2 k3 k4
          generalize hce : pbE x.typ x.dims x.data = ce
          have HCE := Lib.hid hce
          clear hce
          by_cases hz : ce = 0
          · have hzb : (ce != 0) = false := by simpa using hz
            have HN2 := Lib.hid (hE.out.trans (initsE_next HX.out (HCE.out.trans hz)))
            clear hz
            go_wp2
            go_roundw
            case rel => exact ⟨k + 1, by omega, by go_num, HN2, HW6⟩
            case measure => simp [intOf]; omega
          · have hzb : (ce != 0) = true := by simpa using hz
            have HR := Lib.hid (parts_inits HI0.out (hE.out.trans ((initsE_bad HX.out (by rw [HCE.out]; exact hz)).trans HCE.out)) hz)
            clear hz
            go_wp2
            go_ret
            exact ⟨ret_val (congrArg (Value.int .i64) HR.out).symm, hB1.out.trans (HW6.out.mono hB1.out.size)⟩
        · have hki : ¬ (k : Int) < (g.inits.length : Int) := by omega
          obtain rfl : k = g.inits.length := by omega
          have HT0 : Hid (initsE g.inits = 0) := Lib.hid (hE.out.trans (initsE_end _))
          clear hE
          go_wp2_with fail
          clear k0 k1 k2 k3 k4 hBw
          generalize hwq : wr = V3 at *
          clear hwq
          go_loopw [8] (fun i wr => ∃ k : Nat, k ≤ g.nodes.length ∧ i = .int .i64 (k : Int) ∧ Hid (nodesE g.nodes = nodesE (g.nodes.drop k)) ∧ Hid (Below W1.heap.size W1 wr)) (fun i _ => g.nodes.length - (intOf i).toNat)
          case atStart => exact ⟨0, Nat.zero_le _, rfl, Lib.hid rfl, hW⟩
          case round =>
            clear hW
            obtain ⟨k, hk, rfl, hE, hW⟩ := hrel
            obtain ⟨k0, k1, k2, k3, k4⟩ := (hA1.out.below' hW.out).fiveG
            have hBw := Lib.hid (hB1.out.trans (hW.out.mono hB1.out.size))
            by_cases hkl : k < g.nodes.length
            · have hki : (k : Int) < (g.nodes.length : Int) := by omega
              obtain ⟨x, hx⟩ : ∃ x, g.nodes[k]? = some x := ⟨_, List.getElem?_eq_getElem hkl⟩
              obtain ⟨b, off, cap, vd, vx, hv, hb, c0, c1, c2, c3, c4, h3, h5⟩ := node_at HN.out.nodes hx
              obtain ⟨rfl, hle, rfl⟩ := Value.slice.inj hv
              clear hle hv h5
              have c0 := (hBw.out.cell (p := ⟨b, off + k * 5, none⟩) hb).trans c0
              have c1 := (hBw.out.cell (p := ⟨b, off + k * 5 + 1, none⟩) hb).trans c1
              have c2 := (hBw.out.cell (p := ⟨b, off + k * 5 + 2, none⟩) hb).trans c2
              have c3 := (hBw.out.cell (p := ⟨b, off + k * 5 + 3, none⟩) hb).trans c3
              have c4 := (hBw.out.cell (p := ⟨b, off + k * 5 + 4, none⟩) hb).trans c4
              have HX := Lib.hid hx
              have hx2 := rcheck_any ⟨_, _, rfl, h3.below hBw.out⟩
              unfold Nd.val at hx2
              have HX2 := Lib.hid hx2
              clear hx h3 hx2
              go_wp2_with fail
              refine HX2.out.mono ?_
              rintro e w6 ⟨rfl, B6⟩
              have HW6 : Hid (Below W1.heap.size W1 w6) := Lib.hid (hW.out.trans (B6.mono hW.out.size))
              clear B6 HX2 c0 c1 c2 c3 c4 k0 k1 k2 k3 k4
              rw [refP_checkP]
              generalize hce : checkP x = ce
              have HCE := Lib.hid hce
              clear hce
              by_cases hz : ce = 0
              · have hzb : (ce != 0) = false := by simpa using hz
                have HN2 := Lib.hid (hE.out.trans (nodesE_next HX.out (HCE.out.trans hz)))
                clear hz
                go_wp2
                go_roundw
                case rel => exact ⟨k + 1, by omega, by go_num, HN2, HW6⟩
                case measure => simp [intOf]; omega
              · have hzb : (ce != 0) = true := by simpa using hz
                have HR := Lib.hid (parts_nodes HI0.out HT0.out (hE.out.trans ((nodesE_bad HX.out (by rw [HCE.out]; exact hz)).trans HCE.out)))
                clear hz
                go_wp2
                go_ret
                exact ⟨ret_val (congrArg (Value.int .i64) HR.out).symm, hB1.out.trans (HW6.out.mono hB1.out.size)⟩
            · have hki : ¬ (k : Int) < (g.nodes.length : Int) := by omega
              obtain rfl : k = g.nodes.length := by omega
              have HR := Lib.hid (parts_nodes HI0.out HT0.out (hE.out.trans (nodesE_end _)))
              go_wp2
              go_ret
              exact ⟨ret_val (congrArg (Value.int .i64) HR.out).symm, hBw.out⟩

/-! ### maker, small -/

/-- The node that makes a name, as a number. -/
def mkN (g : Gr) (s : ByteArray) : Int := match maker g s with
  | none => -1
  | some k => (k : Int)
theorem mkN_hit {g : Gr} {s : ByteArray} {k : Nat} {x : Nd} (hx : g.nodes[k]? = some x) (h : x.out = s) (hn : ∀ j, j < k → ∀ y, g.nodes[j]? = some y → y.out ≠ s) : mkN g s = (k : Int) := by
  have : maker g s = some k := by
    unfold maker
    obtain ⟨hk, e⟩ := List.getElem?_eq_some_iff.1 hx
    rw [List.findIdx?_eq_some_iff_getElem]
    refine ⟨hk, by rw [e]; simpa using h, fun j hj => ?_⟩
    have := hn j hj _ (List.getElem?_eq_getElem (by omega))
    simpa using this
  unfold mkN
  rw [this]
theorem mkN_miss {g : Gr} {s : ByteArray} (hn : ∀ j, j < g.nodes.length → ∀ y, g.nodes[j]? = some y → y.out ≠ s) : mkN g s = -1 := by
  have : maker g s = none := by
    unfold maker
    rw [List.findIdx?_eq_none_iff]
    intro y hy
    obtain ⟨j, hj⟩ := List.getElem?_of_mem hy
    have := hn j (List.getElem?_eq_some_iff.1 hj).1 y hj
    simpa using this
  unfold mkN
  rw [this]

set_option maxRecDepth 100000 in
set_option maxHeartbeats 2000000 in
theorem rmaker_any {w : World} {v : Value} {g : Gr} (h : GraphV w v g) (s : ByteArray) :
    Calls Tryz.prog 60 #[v, .string s] w fun e w' => e = .returned (.int .i64 (mkN g s)) ∧ Below w.heap.size w w' := by
  obtain ⟨vn, vi, vo, vt, rfl, hg⟩ := h
  obtain ⟨an, cn, rfl⟩ := hg.nodes.form
  have hl1 := hg.nodes.len
  have HN := Lib.hid hg
  clear hg
  unfold Gr.val
  go_enter Tryz.func60, Tryz.ntmps60
  go_wp2_with fail
  have hB1 : Hid (Below w.heap.size w (w.alloc (Obj.cells #[Value.string g.name, Value.slice an g.nodes.length cn, vi, vo, vt] 26))) := Lib.hid ((Below.refl _ w).alloc (Nat.le_refl _) _)
  have hA1 := Lib.hid (BoxN.new w #[Value.string g.name, Value.slice an g.nodes.length cn, vi, vo, vt] 26)
  generalize w.alloc _ = W1 at hB1 hA1 ⊢
  have k1 := hA1.out.fiveG.2.1
  go_loop [5] (fun i => ∃ k : Nat, k ≤ g.nodes.length ∧ i = .int .i64 (k : Int) ∧ Hid (∀ j, j < k → ∀ y, g.nodes[j]? = some y → y.out ≠ s)) (fun i => g.nodes.length - (intOf i).toNat)
  case atStart => exact ⟨0, Nat.zero_le _, rfl, Lib.hid (fun j hj => by omega)⟩
  case round =>
    obtain ⟨k, hk, rfl, hT⟩ := hrel
    by_cases hkl : k < g.nodes.length
    · have hki : (k : Int) < (g.nodes.length : Int) := by omega
      obtain ⟨x, hx⟩ : ∃ x, g.nodes[k]? = some x := ⟨_, List.getElem?_eq_getElem hkl⟩
      obtain ⟨b, off, cap, vd, vx, hv, hb, c0, c1, c2, c3, c4, _⟩ := node_at HN.out.nodes hx
      obtain ⟨rfl, hle, rfl⟩ := Value.slice.inj hv
      have c3 := (hB1.out.cell (p := ⟨b, off + k * 5 + 3, none⟩) hb).trans c3
      have HX := Lib.hid hx
      clear hle hv c0 c1 c2 c4 hx
      by_cases he : x.out.toList = s.toList
      · have hb : (x.out.toList == s.toList) = true := by simpa using he
        have e : Hid (mkN g s = (k : Int)) := Lib.hid (mkN_hit HX.out (toList_inj he) hT.out)
        go_wp2
        go_ret
        exact ⟨ret_val (congrArg (Value.int .i64) e.out).symm, hB1.out⟩
      · have hb : (x.out.toList == s.toList) = false := by simpa using he
        have hT2 : Hid (∀ j, j < k + 1 → ∀ y, g.nodes[j]? = some y → y.out ≠ s) := Lib.hid (fun j hj y hy => by
          by_cases ej : j = k
          · subst ej
            obtain rfl := Option.some.inj (HX.out.symm.trans hy)
            exact str_ne he
          · exact hT.out j (by omega) y hy)
        go_wp2
        go_round
        case rel => exact ⟨k + 1, by omega, by go_num, hT2⟩
        case measure => simp [intOf]; omega
    · have hki : ¬ (k : Int) < (g.nodes.length : Int) := by omega
      obtain rfl : k = g.nodes.length := by omega
      have e : Hid (mkN g s = -1) := Lib.hid (mkN_miss hT.out)
      go_wp2
      go_ret
      exact ⟨ret_val (congrArg (Value.int .i64) e.out).symm, hB1.out⟩

end Go.Proofs.YtlbhepfbogcipaaGreatDoor

set_option linter.unusedVariables false
set_option linter.unusedSimpArgs false
namespace Go.Proofs.YtlbhepfbogcipaaGreatDoor
open Go.RowKit

/-! ### append(l, x...) of a row that another call may hold -/

theorem run_append_news {P : Program} {w : World} {t ty e : TypeId} {i : TypeInfo} {z : Value} {size bytes : Nat} (ht : P.underlying t = some (.slice e)) (hi : P.info? e = some i) (hz : i.zero = some z)
    (hsize : i.size = size) (hby : i.bytes = bytes) (hzs : z.cells.size = size) (hsz : 0 < size) {base n : Nat} {v : Value} {xs : List Value} (hown : w.ownsRow base e size v n xs) {xv : Value} {m : Nat} {news : List Value} (hx : NewsIn w xv m size bytes news)
    (h63 : n + m ≤ maxLen) (hbytes : (n + m) * bytes ≤ 140737488355328) (hbase : base ≤ w.heap.size) :
    ∃ v' w', (Builtin.append_ #[t, t] ty #[v, xv]).run P w = .ok v' w' ∧ w'.ownsRow base e size v' (n + m) (xs ++ news) ∧ w.grownBy w' v.ownBlock := by
  rcases hx with ⟨a0, cap, rfl, rfl, rfl⟩ | ⟨b, off, cap, rfl, hl, hn, h1, _, _⟩
  · cases a0 with
    | none =>
      refine ⟨v, w, ?_, by simpa using hown, ⟨rfl, rfl, rfl, Nat.le_refl _, fun _ _ _ => rfl⟩⟩
      rcases hown.2 with ⟨rfl, rfl⟩ | ⟨g, cp, cur, rfl, _, _, hnc, _⟩
      · simp [Builtin.append_, run_underlying ht, sizeOf, typeInfo, hi, Builtin.lenOf, Builtin.firstCells]
      · simp [Builtin.append_, run_underlying ht, sizeOf, typeInfo, hi, Builtin.lenOf, Builtin.firstCells, hnc, storeCells]
    | some ad =>
      obtain ⟨v', w', hr, h2, h3, _, h5⟩ := run_append_own_at (P := P) w base t ty e i z size bytes ht hi hz hsize hby hzs hsz v n xs hown ad 0 cap [] (by simp) (fun j u hu => by simp at hu) (fun u hu => by simp at hu) h63 hbytes hbase
      exact ⟨v', w', hr, h2, h3⟩
  · obtain ⟨v', w', hr, h2, h3, _, h5⟩ := run_append_own_at (P := P) w base t ty e i z size bytes ht hi hz hsize hby hzs hsz v n xs hown ⟨b, off, none⟩ m cap news hl hn h1 h63 hbytes hbase
    exact ⟨v', w', hr, h2, h3⟩

theorem wpList_append_news {P : Program} {w : World} {ops : Array Oper} {rest : List Oper} {o : Oper} {a : Act} {Q : Exit → Act → World → Prop} (hgd : o.guard = none) (s x : Operand) (t : TypeId)
    (ho : o.op = .call { callee := .builtin .append, args := #[s, x], argTypes := #[t, t] })
    {e : TypeId} {i : TypeInfo} {z : Value} {size bytes : Nat} (ht : P.underlying t = some (.slice e)) (hi : P.info? e = some i) (hz : i.zero = some z)
    (hsize : i.size = size) (hby : i.bytes = bytes) (hzs : z.cells.size = size) (hsz : 0 < size) {base n : Nat} {v : Value} {xs : List Value} {xv : Value} {m : Nat} {news : List Value} (hs : a.eval s = v) (hx : a.eval x = xv) (hown : w.ownsRow base e size v n xs) (hn : NewsIn w xv m size bytes news)
    (h63 : n + m ≤ maxLen) (hbytes : (n + m) * bytes ≤ 140737488355328) (hbase : base ≤ w.heap.size)
    (h : ∀ v' w', w'.ownsRow base e size v' (n + m) (xs ++ news) → w.grownBy w' v.ownBlock → wpList P ops Q rest (a.put o.dst v') w') : wpList P ops Q (o :: rest) a w := by
  refine wpList_plain hgd fun K hK => ?_
  obtain ⟨v', w', hr, h2, h3⟩ := run_append_news (P := P) (ty := o.type) ht hi hz hsize hby hzs hsz hown hn h63 hbytes hbase
  unfold Oper.wp execOp
  simp only [ho, resolve, invoke, builtin, Sem.run_bind, Sem.run_pure, Result.andThen_ok, List.map_toArray, List.map_cons, List.map_nil, hs, hx, hr]
  exact hK _ _ (h v' w' h2 h3)

/-! ### all names -/

theorem snoc_map {α : Type} {f : α → ByteArray} {l : List α} {k : Nat} {x : α} (b : List ByteArray) (h : l[k]? = some x) : b ++ (l.take (k + 1)).map f = (b ++ (l.take k).map f) ++ [f x] := by
  rw [List.take_add_one, h, List.map_append, List.append_assoc]; rfl
def StrR (w0 w : World) (v : Value) (p : Nat) (l : List ByteArray) : Prop := w.ownsRow w0.heap.size 9 1 v p (l.map Value.string) ∧ Below w0.heap.size w0 w
theorem StrR.push {w0 w w' : World} {v v' : Value} {p : Nat} {l : List ByteArray} {s : ByteArray} {o : Obj} (h : StrR w0 w v p l) (hr : w'.ownsRow w0.heap.size 9 1 v' (p + 1) (l.map Value.string ++ [.string s])) (hg : (w.alloc o).grownBy w' v.ownBlock) : StrR w0 w' v' (p + 1) (l ++ [s]) := by
  have hs := h.2.size
  exact ⟨by rw [List.map_append]; exact hr, (h.2.alloc hs _).grown hg (by simp; omega) fun y hy => (h.1.lt y hy).1⟩
theorem StrR.more {w0 w w' : World} {v v' : Value} {p m : Nat} {l ss : List ByteArray} (h : StrR w0 w v p l) (hr : w'.ownsRow w0.heap.size 9 1 v' (p + m) (l.map Value.string ++ ss.map Value.string)) (hg : w.grownBy w' v.ownBlock) : StrR w0 w' v' (p + m) (l ++ ss) :=
  ⟨by rw [List.map_append]; exact hr, h.2.grown hg h.2.size fun y hy => (h.1.lt y hy).1⟩


end Go.Proofs.YtlbhepfbogcipaaGreatDoor

set_option linter.unusedVariables false
set_option linter.unusedSimpArgs false
namespace Go.Proofs.YtlbhepfbogcipaaGreatDoor
open Go.RowKit

def nmA (g : Gr) : List ByteArray := [] ++ g.ins.map Vl.name
def nmB (g : Gr) : List ByteArray := nmA g ++ g.inits.map Nm.name
def nmC (g : Gr) : List ByteArray := nmB g ++ g.nodes.map Nd.out
theorem nmC_eq (g : Gr) : nmC g = namesG g := by unfold nmC nmB nmA namesG; rw [List.nil_append]

attribute [local irreducible] nmA nmB nmC StrR unlikeB

set_option maxRecDepth 100000 in
set_option maxHeartbeats 4000000 in
theorem rnames_any {w : World} {v : Value} {g : Gr} (h : GraphV w v g) (hM : g.ins.length + g.inits.length + g.nodes.length ≤ 3000) :
    Calls Tryz.prog 57 #[v] w fun e w' => ∃ v', e = .returned v' ∧ w'.ownsRow w.heap.size 9 1 v' (g.ins.length + g.inits.length + g.nodes.length) ((namesG g).map Value.string) ∧ Below w.heap.size w w' := by
  obtain ⟨i0, hi, hz0, hz1, hz2⟩ := info_parts info_string
  obtain ⟨vn, vi, vo, vt, rfl, hg⟩ := h
  obtain ⟨an, cn, rfl⟩ := hg.nodes.form
  obtain ⟨ai, ci, rfl⟩ := hg.ins.form
  obtain ⟨at', ct, rfl⟩ := hg.inits.form
  have HN := Lib.hid hg
  clear hg
  unfold Gr.val
  go_enter Tryz.func57, Tryz.ntmps57
  go_wp2_with fail
  have hB1 : Hid (Below w.heap.size w (w.alloc (Obj.cells #[Value.string g.name, Value.slice an g.nodes.length cn, Value.slice ai g.ins.length ci, vo, Value.slice at' g.inits.length ct] 26))) := Lib.hid ((Below.refl _ w).alloc (Nat.le_refl _) _)
  have hA1 := Lib.hid (BoxN.new w #[Value.string g.name, Value.slice an g.nodes.length cn, Value.slice ai g.ins.length ci, vo, Value.slice at' g.inits.length ct] 26)
  generalize w.alloc _ = W1 at hB1 hA1 ⊢
  go_loopw [3, 4] (fun ov i wr => ∃ k : Nat, k ≤ g.ins.length ∧ i = .int .i64 (k : Int) ∧ Hid (StrR W1 wr ov k (([] : List ByteArray) ++ (g.ins.take k).map Vl.name))) (fun _ i _ => g.ins.length - (intOf i).toNat)
  case atStart => exact ⟨0, Nat.zero_le _, rfl, Lib.hid (by unfold StrR; exact ⟨by simpa using World.ownsRow_nil _ _ _ _, Below.refl _ _⟩)⟩
  case round =>
    obtain ⟨k, hk, rfl, hR⟩ := hrel
    have hRB := Lib.hid (show Below W1.heap.size W1 wr from by have := hR.out; unfold StrR at this; exact this.2)
    have HRow := Lib.hid (show wr.ownsRow W1.heap.size 9 1 u3 _ ((([] : List ByteArray) ++ (g.ins.take k).map Vl.name).map Value.string) from by have := hR.out; unfold StrR at this; exact this.1)
    obtain ⟨av, cv, rfl⟩ := owns_form HRow.out
    obtain ⟨xs, hxs⟩ : ∃ xs, (([] : List ByteArray) ++ (g.ins.take k).map Vl.name).map Value.string = xs := ⟨_, rfl⟩
    rw [hxs] at HRow
    have HXS := Lib.hid hxs
    clear hxs
    obtain ⟨k0, k1, k2, k3, k4⟩ := (hA1.out.below' hRB.out).fiveG
    have hsz := hRB.out.size
    by_cases hkl : k < g.ins.length
    · have hki : (k : Int) < (g.ins.length : Int) := by omega
      obtain ⟨x, hx⟩ : ∃ x, g.ins[k]? = some x := ⟨_, List.getElem?_eq_getElem hkl⟩
      have hBw := hB1.out.trans (hRB.out.mono hB1.out.size)
      obtain ⟨b, off, cap, vd, hv, hb, c0, _⟩ := value_at HN.out.ins hx
      obtain ⟨rfl, _, rfl⟩ := Value.slice.inj hv
      have c0 := (hBw.cell (p := ⟨b, off + k * 3, none⟩) hb).trans c0
      have HS := Lib.hid (snoc_map (f := Vl.name) (([] : List ByteArray)) hx)
      clear hv hx hBw
      go_wp2_with (at_builtin; refine wpList_append_own _ rfl _ _ 44 rfl W1.heap.size 9 i0 (.string ⟨#[]⟩) 1 16 Tryz.underlying44 hi hz0 hz1 hz2 rfl (by decide) _ _ _ rfl (HRow.out.alloc _) ⟨wr.heap.size, 0, none⟩ 1 1 (#[.string x.name] : Array Value).toList rfl rfl (World.news_of_block (heap_alloc_new wr _)) (by simp [Value.oneCell']) ?A3 ?A4 ?A5 ?_)
      case A3 => unfold maxLen; omega
      case A4 => omega
      case A5 => first | omega | (simp; omega)
      intro v' w4 hown' hgrow _
      have HR4 : Hid (StrR W1 w4 v' (k + 1) (([] : List ByteArray) ++ (g.ins.take (k + 1)).map Vl.name)) := Lib.hid (by rw [HS.out]; rw [← HXS.out] at hown'; exact StrR.push hR.out hown' hgrow)
      clear hown' hgrow c0 k0 k1 k2 k3 k4
      go_wp2_with fail
      go_roundw
      case rel => exact ⟨k + 1, by omega, by go_num, HR4⟩
      case measure => simp [intOf]; omega
    · have hki : ¬ (k : Int) < (g.ins.length : Int) := by omega
      obtain rfl : k = g.ins.length := by omega
      have HE : Hid (StrR W1 wr _ g.ins.length (nmA g)) := Lib.hid (by have := hR.out; rw [List.take_length] at this; unfold nmA; exact this)
      go_wp2_with fail
      clear k0 k1 k2 k3 k4 hR hRB HRow hsz hki hkl hk
      generalize hwq : wr = V at *
      clear hwq
      go_loopw [3, 5] (fun ov i wr => ∃ k : Nat, k ≤ g.inits.length ∧ i = .int .i64 (k : Int) ∧ Hid (StrR W1 wr ov (g.ins.length + k) (nmA g ++ (g.inits.take k).map Nm.name))) (fun _ i _ => g.inits.length - (intOf i).toNat)
      case atStart => exact ⟨0, Nat.zero_le _, rfl, Lib.hid (by rw [List.take_zero, List.map_nil, List.append_nil, Nat.add_zero]; exact HE.out)⟩
      case round =>
        clear HE
        obtain ⟨k, hk, rfl, hR⟩ := hrel
        have hRB := Lib.hid (show Below W1.heap.size W1 wr from by have := hR.out; unfold StrR at this; exact this.2)
        have HRow := Lib.hid (show wr.ownsRow W1.heap.size 9 1 u3 _ ((nmA g ++ (g.inits.take k).map Nm.name).map Value.string) from by have := hR.out; unfold StrR at this; exact this.1)
        obtain ⟨av, cv, rfl⟩ := owns_form HRow.out
        obtain ⟨xs, hxs⟩ : ∃ xs, (nmA g ++ (g.inits.take k).map Nm.name).map Value.string = xs := ⟨_, rfl⟩
        rw [hxs] at HRow
        have HXS := Lib.hid hxs
        clear hxs
        obtain ⟨k0, k1, k2, k3, k4⟩ := (hA1.out.below' hRB.out).fiveG
        have hsz := hRB.out.size
        by_cases hkl : k < g.inits.length
        · have hki : (k : Int) < (g.inits.length : Int) := by omega
          obtain ⟨x, hx⟩ : ∃ x, g.inits[k]? = some x := ⟨_, List.getElem?_eq_getElem hkl⟩
          have hBw := hB1.out.trans (hRB.out.mono hB1.out.size)
          obtain ⟨b, off, cap, vd, vx, hv, hb, c0, _⟩ := named_at HN.out.inits hx
          obtain ⟨rfl, _, rfl⟩ := Value.slice.inj hv
          have c0 := (hBw.cell (p := ⟨b, off + k * 4, none⟩) hb).trans c0
          have HS := Lib.hid (snoc_map (f := Nm.name) (nmA g) hx)
          clear hv hx hBw
          go_wp2_with (at_builtin; refine wpList_append_own _ rfl _ _ 44 rfl W1.heap.size 9 i0 (.string ⟨#[]⟩) 1 16 Tryz.underlying44 hi hz0 hz1 hz2 rfl (by decide) _ _ _ rfl (HRow.out.alloc _) ⟨wr.heap.size, 0, none⟩ 1 1 (#[.string x.name] : Array Value).toList rfl rfl (World.news_of_block (heap_alloc_new wr _)) (by simp [Value.oneCell']) ?A3 ?A4 ?A5 ?_)
          case A3 => unfold maxLen; omega
          case A4 => omega
          case A5 => first | omega | (simp; omega)
          intro v' w4 hown' hgrow _
          have HR4 : Hid (StrR W1 w4 v' (g.ins.length + (k + 1)) (nmA g ++ (g.inits.take (k + 1)).map Nm.name)) := Lib.hid (by rw [HS.out]; rw [← HXS.out] at hown'; exact StrR.push hR.out hown' hgrow)
          clear hown' hgrow c0 k0 k1 k2 k3 k4
          go_wp2_with fail
          go_roundw
          case rel => exact ⟨k + 1, by omega, by go_num, HR4⟩
          case measure => simp [intOf]; omega
        · have hki : ¬ (k : Int) < (g.inits.length : Int) := by omega
          obtain rfl : k = g.inits.length := by omega
          have HE : Hid (StrR W1 wr _ (g.ins.length + g.inits.length) (nmB g)) := Lib.hid (by have := hR.out; rw [List.take_length] at this; unfold nmB; exact this)
          go_wp2_with fail
          clear k0 k1 k2 k3 k4 hR hRB HRow hsz hki hkl hk
          generalize hwq : wr = V at *
          clear hwq
          go_loopw [3, 6] (fun ov i wr => ∃ k : Nat, k ≤ g.nodes.length ∧ i = .int .i64 (k : Int) ∧ Hid (StrR W1 wr ov ((g.ins.length + g.inits.length) + k) (nmB g ++ (g.nodes.take k).map Nd.out))) (fun _ i _ => g.nodes.length - (intOf i).toNat)
          case atStart => exact ⟨0, Nat.zero_le _, rfl, Lib.hid (by rw [List.take_zero, List.map_nil, List.append_nil, Nat.add_zero]; exact HE.out)⟩
          case round =>
            clear HE
            obtain ⟨k, hk, rfl, hR⟩ := hrel
            have hRB := Lib.hid (show Below W1.heap.size W1 wr from by have := hR.out; unfold StrR at this; exact this.2)
            have HRow := Lib.hid (show wr.ownsRow W1.heap.size 9 1 u3 _ ((nmB g ++ (g.nodes.take k).map Nd.out).map Value.string) from by have := hR.out; unfold StrR at this; exact this.1)
            obtain ⟨av, cv, rfl⟩ := owns_form HRow.out
            obtain ⟨xs, hxs⟩ : ∃ xs, (nmB g ++ (g.nodes.take k).map Nd.out).map Value.string = xs := ⟨_, rfl⟩
            rw [hxs] at HRow
            have HXS := Lib.hid hxs
            clear hxs
            obtain ⟨k0, k1, k2, k3, k4⟩ := (hA1.out.below' hRB.out).fiveG
            have hsz := hRB.out.size
            by_cases hkl : k < g.nodes.length
            · have hki : (k : Int) < (g.nodes.length : Int) := by omega
              obtain ⟨x, hx⟩ : ∃ x, g.nodes[k]? = some x := ⟨_, List.getElem?_eq_getElem hkl⟩
              have hBw := hB1.out.trans (hRB.out.mono hB1.out.size)
              obtain ⟨b, off, cap, vd, vx, hv, hb, _, _, _, c0, _⟩ := node_at HN.out.nodes hx
              obtain ⟨rfl, _, rfl⟩ := Value.slice.inj hv
              have c0 := (hBw.cell (p := ⟨b, off + k * 5 + 3, none⟩) hb).trans c0
              have HS := Lib.hid (snoc_map (f := Nd.out) (nmB g) hx)
              clear hv hx hBw
              go_wp2_with (at_builtin; refine wpList_append_own _ rfl _ _ 44 rfl W1.heap.size 9 i0 (.string ⟨#[]⟩) 1 16 Tryz.underlying44 hi hz0 hz1 hz2 rfl (by decide) _ _ _ rfl (HRow.out.alloc _) ⟨wr.heap.size, 0, none⟩ 1 1 (#[.string x.out] : Array Value).toList rfl rfl (World.news_of_block (heap_alloc_new wr _)) (by simp [Value.oneCell']) ?A3 ?A4 ?A5 ?_)
              case A3 => unfold maxLen; omega
              case A4 => omega
              case A5 => first | omega | (simp; omega)
              intro v' w4 hown' hgrow _
              have HR4 : Hid (StrR W1 w4 v' ((g.ins.length + g.inits.length) + (k + 1)) (nmB g ++ (g.nodes.take (k + 1)).map Nd.out)) := Lib.hid (by rw [HS.out]; rw [← HXS.out] at hown'; exact StrR.push hR.out hown' hgrow)
              clear hown' hgrow c0 k0 k1 k2 k3 k4
              go_wp2_with fail
              go_roundw
              case rel => exact ⟨k + 1, by omega, by go_num, HR4⟩
              case measure => simp [intOf]; omega
            · have hki : ¬ (k : Int) < (g.nodes.length : Int) := by omega
              obtain rfl : k = g.nodes.length := by omega
              have HE : Hid (StrR W1 wr _ ((g.ins.length + g.inits.length) + g.nodes.length) (nmC g)) := Lib.hid (by have := hR.out; rw [List.take_length] at this; unfold nmC; exact this)
              go_wp2
              go_ret
              have h9 := HE.out
              unfold StrR at h9
              refine ⟨_, rfl, ?_, hB1.out.trans (h9.2.mono hB1.out.size)⟩
              have h10 := owns_base h9.1 hB1.out.size
              rwa [nmC_eq] at h10

set_option maxRecDepth 100000 in
set_option maxHeartbeats 2000000 in
theorem runlike_any {w : World} {v : Value} {l : List ByteArray} (h : StrsIn w v l) (hl : l.length ≤ 1048576) :
    Calls Tryz.prog 58 #[v] w fun e w' => e = .returned (.bool (unlikeB l)) ∧ Below w.heap.size w w' := by
  obtain ⟨a0, c0', rfl⟩ := h.form
  have H := Lib.hid h
  clear h
  go_enter Tryz.func58, Tryz.ntmps58
  go_wp2_with fail
  go_loopw [3] (fun i wr => ∃ k : Nat, k ≤ l.length ∧ i = .int .i64 (k : Int) ∧ Hid (unlikeB (l.take k) = true) ∧ Hid (Below w.heap.size w wr)) (fun i _ => l.length - (intOf i).toNat)
  case atStart => exact ⟨0, Nat.zero_le _, rfl, Lib.hid (by unfold unlikeB; simp), Lib.hid (Below.refl _ _)⟩
  case round =>
    obtain ⟨k, hk, rfl, hU, hW⟩ := hrel
    by_cases hkl : k < l.length
    · have hki : (k : Int) < (l.length : Int) := by omega
      obtain ⟨s, hs⟩ : ∃ s, l[k]? = some s := ⟨_, List.getElem?_eq_getElem hkl⟩
      obtain ⟨b, off, cap, hv, hb, hr⟩ := H.out.rows k s hs
      obtain ⟨rfl, _, rfl⟩ := Value.slice.inj hv
      have c0 := (hW.out.cell (p := ⟨b, off + k, none⟩) hb).trans (hr k s hs)
      have HSs := Lib.hid hs
      have HRr := Lib.hid hr
      have HSn : Hid (unlikeB (l.take (k + 1)) = (decide (s ≠ ⟨#[]⟩) && !hasS (l.take k) s)) := Lib.hid (by
        rw [List.take_add_one, hs]
        show unlikeB (l.take k ++ [s]) = _
        rw [unlike_snoc, hU.out, Bool.true_and])
      have HPre : Hid (unlikeB (l.take (k + 1)) = false → unlikeB l = false) := Lib.hid (fun hf => by
        have := unlike_pre (b := l.drop (k + 1)) hf
        rwa [List.take_append_drop] at this)
      clear hv hs hr
      by_cases he : s.toList = []
      · have heb : (s.toList == []) = true := by simpa using he
        have HR : Hid (unlikeB l = false) := Lib.hid (HPre.out (by
          rw [HSn.out]
          have : s = ⟨#[]⟩ := toList_inj (by rw [he, toList_nil'])
          simp [this]))
        go_wp2
        go_ret
        exact ⟨ret_val (bool_val HR.out.symm), hW.out⟩
      · have heb : (s.toList == []) = false := by simpa using he
        have HNe : Hid (s ≠ ⟨#[]⟩) := Lib.hid (fun c => he (by rw [c]; exact toList_nil'))
        go_wp2_with fail
        clear c0
        go_loopw [4] (fun i wr => ∃ j : Nat, j ≤ k ∧ i = .int .i64 (j : Int) ∧ Hid (hasS (l.take j) s = false) ∧ Hid (Below w.heap.size w wr)) (fun i _ => k - (intOf i).toNat)
        case atStart => exact ⟨0, Nat.zero_le _, rfl, Lib.hid (by unfold hasS; simp), hW⟩
        case round =>
          clear hW
          obtain ⟨j, hj, rfl, hT, hW⟩ := hrel
          by_cases hjl : j < k
          · have hji : (j : Int) < (k : Int) := by omega
            have hjl2 : (j : Int) < (l.length : Int) := by omega
            obtain ⟨t, ht⟩ : ∃ t, l[j]? = some t := ⟨_, List.getElem?_eq_getElem (by omega)⟩
            have c1 := (hW.out.cell (p := ⟨b, off + j, none⟩) hb).trans (HRr.out j t ht)
            have c0 := (hW.out.cell (p := ⟨b, off + k, none⟩) hb).trans (HRr.out k s HSs.out)
            have HTs := Lib.hid ht
            clear ht
            by_cases hx : t.toList = s.toList
            · have hxb : (t.toList == s.toList) = true := by simpa using hx
              have HR : Hid (unlikeB l = false) := Lib.hid (HPre.out (by
                rw [HSn.out]
                have h1 : hasS (l.take k) s = true := hasS_iff.2 (by
                  rw [← toList_inj hx]
                  refine List.mem_of_getElem? (i := j) ?_
                  rw [List.getElem?_take_of_lt hjl]
                  exact HTs.out)
                rw [h1]; simp))
              go_wp2_with fail
              go_quiet (fail)
              go_wp2
              go_ret
              exact ⟨ret_val (bool_val HR.out.symm), below_dN hW.out _⟩
            · have hxb : (t.toList == s.toList) = false := by simpa using hx
              have e := Lib.hid (hasS_next hT.out HTs.out (str_ne hx))
              go_wp2_with fail
              go_quiet (fail)
              go_wp2_with fail
              go_roundw
              case rel => exact ⟨j + 1, by omega, by go_num, e, Lib.hid (below_dN hW.out _)⟩
              case measure => simp [intOf]; omega
          · have hji : ¬ (j : Int) < (k : Int) := by omega
            obtain rfl : j = k := by omega
            have HU2 : Hid (unlikeB (l.take (j + 1)) = true) := Lib.hid (by rw [HSn.out, hT.out, decide_eq_true HNe.out]; rfl)
            go_wp2_with fail
            go_roundw
            case rel => exact ⟨j + 1, by omega, by go_num, HU2, hW⟩
            case measure => simp [intOf]; omega
    · have hki : ¬ (k : Int) < (l.length : Int) := by omega
      obtain rfl : k = l.length := by omega
      have HR : Hid (unlikeB l = true) := Lib.hid (by have := hU.out; rwa [List.take_length] at this)
      go_wp2
      go_ret
      exact ⟨ret_val (bool_val HR.out.symm), hW.out⟩

end Go.Proofs.YtlbhepfbogcipaaGreatDoor

set_option linter.unusedVariables false
set_option linter.unusedSimpArgs false
namespace Go.Proofs.YtlbhepfbogcipaaGreatDoor
open Go.RowKit

/-- Of the nodes from a number on the first that is ready. -/
def fN (g : Gr) (out : List Nat) (k : Nat) : Option Nat := ((List.range g.nodes.length).drop k).find? (readyB g out)
def optI : Option Nat → Int
  | none => -1
  | some i => (i : Int)
def idxI : Nat → Int
  | 0 => -1
  | m + 1 => (m : Int)
theorem fN_end (g : Gr) (out : List Nat) : fN g out g.nodes.length = none := by
  unfold fN
  rw [List.drop_eq_nil_of_le (by simp)]
  rfl
theorem fN_step {g : Gr} {out : List Nat} {m : Nat} (h : m < g.nodes.length) : fN g out m = if readyB g out m = true then some m else fN g out (m + 1) := by
  unfold fN
  rw [List.drop_eq_getElem_cons (by simpa using h), List.find?_cons]
  simp only [List.getElem_range]
  cases readyB g out m <;> rfl
theorem fN_zero (g : Gr) (out : List Nat) : fN g out 0 = nextW g out := by
  unfold fN nextW
  rw [List.drop_zero]
theorem ready_part {g : Gr} {out : List Nat} {m j : Nat} {x : Nd} (hx : g.nodes[m]? = some x) (h : (!out.contains m && (x.ins.take j).all (readyS g out)) = false) : readyB g out m = false := by
  rw [ready_form hx]
  cases hc : out.contains m with
  | true => rfl
  | false =>
    rw [hc] at h
    simp only [Bool.not_false, Bool.true_and] at h ⊢
    rw [← List.take_append_drop j x.ins, List.all_append, h, Bool.false_and]
theorem ready_whole {g : Gr} {out : List Nat} {m : Nat} {x : Nd} (hx : g.nodes[m]? = some x) : readyB g out m = (!out.contains m && (x.ins.take x.ins.length).all (readyS g out)) := by
  rw [List.take_length, ready_form hx]
theorem ready_more {g : Gr} {out : List Nat} {m j : Nat} {x : Nd} {s : ByteArray} (hs : x.ins[j]? = some s) (h : true = (!out.contains m && (x.ins.take j).all (readyS g out))) : readyS g out s = (!out.contains m && (x.ins.take (j + 1)).all (readyS g out)) := by
  have h1 := h.symm
  rw [Bool.and_eq_true] at h1
  rw [List.take_add_one, hs, List.all_append, h1.1, h1.2]
  simp
theorem mkN_none {g : Gr} {out : List Nat} {s : ByteArray} (h : maker g s = none) : readyS g out s = true ∧ mkN g s = -1 := by
  unfold readyS mkN; rw [h]; exact ⟨rfl, rfl⟩
theorem mkN_some {g : Gr} {out : List Nat} {s : ByteArray} {m : Nat} (h : maker g s = some m) : readyS g out s = out.contains m ∧ mkN g s = (m : Int) := by
  unfold readyS mkN; rw [h]; exact ⟨rfl, rfl⟩
theorem work_nextN {g : Gr} {out : List Nat} {p k : Nat} (hp : p < g.nodes.length) (h : workF g (g.nodes.length - p) out = work g) (hn : nextW g out = some k) : workF g (g.nodes.length - (p + 1)) (out ++ [k]) = work g := by
  rw [← h]
  have e : g.nodes.length - p = (g.nodes.length - (p + 1)) + 1 := by omega
  rw [e, workF_step hn]

attribute [local irreducible] work workF readyB readyS nextW doneCells fN mkN maker

set_option maxRecDepth 100000 in
set_option maxHeartbeats 4000000 in
theorem rwork_any {w : World} {v : Value} {g : Gr} (h : GraphV w v g) (hn : g.nodes.length ≤ 1000) :
    Calls Tryz.prog 51 #[v] w fun e w' => ∃ v', e = .returned v' ∧ w'.ownsRow w.heap.size 3 1 v' (work g).length (natsV (work g)) ∧ Below w.heap.size w w' := by
  have hmb := run_make_bools
  obtain ⟨i0, hi, hz0, hz1, hz2⟩ := info_parts info_int
  have HMk := Lib.hid (fun (W : World) (vi : Value) (s : ByteArray) (h : GraphV W vi g) => rmaker_any h s)
  obtain ⟨vn, vi, vo, vt, rfl, hg⟩ := h
  obtain ⟨an, cn, rfl⟩ := hg.nodes.form
  have HN := Lib.hid hg
  clear hg
  unfold Gr.val
  go_enter Tryz.func51, Tryz.ntmps51
  have hmk := hmb (w.alloc (Obj.cells #[Value.string g.name, .slice an g.nodes.length cn, vi, vo, vt] 26)) g.nodes.length (by omega)
  rw [World.size_alloc] at hmk
  go_wp2_with fail
  clear hmk hmb
  have HB8 : Hid (Below w.heap.size w ((w.alloc (Obj.cells #[Value.string g.name, .slice an g.nodes.length cn, vi, vo, vt] 26)).alloc (.cells (doneCells g.nodes.length []) 4))) := Lib.hid (((Below.refl _ w).alloc (Nat.le_refl _) _).alloc (by simp) _)
  have HA8 : Hid (BoxN ((w.alloc (Obj.cells #[Value.string g.name, .slice an g.nodes.length cn, vi, vo, vt] 26)).alloc (.cells (doneCells g.nodes.length []) 4)) w.heap.size #[Value.string g.name, .slice an g.nodes.length cn, vi, vo, vt] 26) := Lib.hid ((BoxN.new w _ _).below' ((Below.refl _ _).alloc (Nat.le_refl _) _))
  have HD8 : Hid (DoneAt ((w.alloc (Obj.cells #[Value.string g.name, .slice an g.nodes.length cn, vi, vo, vt] 26)).alloc (.cells (doneCells g.nodes.length []) 4)) (w.heap.size + 1) g.nodes.length []) := Lib.hid (by
    have h := done_new (w.alloc (Obj.cells #[Value.string g.name, .slice an g.nodes.length cn, vi, vo, vt] 26)) g.nodes.length
    rw [World.size_alloc] at h
    exact h)
  generalize (w.alloc _).alloc _ = W8 at HB8 HA8 HD8 ⊢
  have hGV : Hid (∀ W, Below (w.heap.size + 1) W8 W → GraphV W (.agg #[Value.string g.name, .slice an g.nodes.length cn, vi, vo, vt]) g) := Lib.hid fun W hW => ⟨_, _, _, _, rfl, HN.out.below (HB8.out.trans (hW.mono (by omega)))⟩
  go_loopw [3] (fun ov wr => ∃ (out : List Nat) (p : Nat), p ≤ g.nodes.length ∧ Hid (out.length = p) ∧ Hid (Good g out) ∧ Hid (workF g (g.nodes.length - p) out = work g) ∧ Hid (DoneAt wr (w.heap.size + 1) g.nodes.length out) ∧ Hid (wr.ownsRow ((w.heap.size + 1) + 1) 3 1 ov p (natsV out)) ∧ Hid (Below (w.heap.size + 1) W8 wr)) (fun ov _ => g.nodes.length - lenV ov)
  case atStart => exact ⟨[], 0, Nat.zero_le _, Lib.hid rfl, Lib.hid (Good.nil g), Lib.hid (work_start g), HD8, Lib.hid (World.ownsRow_nil _ _ _ _), Lib.hid (Below.refl _ _)⟩
  case round =>
    clear HD8
    obtain ⟨out, p, hp, hOL, hGo, hWk, hDn, hRow, hW⟩ := hrel
    obtain ⟨ao', co', rfl⟩ := owns_form hRow.out
    have k1 := (HA8.out.below (by omega) hW.out).fiveG.2.1
    go_wp2_with fail
    clear k1
    go_loopw [5, 6] (fun nx iv wr => ∃ (k : Nat) (z : Int), k ≤ g.nodes.length ∧ nx = .int .i64 z ∧ iv = .int .i64 (idxI k) ∧ Hid (z = optI (fN g out k)) ∧ Hid (DoneAt wr (w.heap.size + 1) g.nodes.length out) ∧ Hid (wr.ownsRow ((w.heap.size + 1) + 1) 3 1 (.slice ao' p co') p (natsV out)) ∧ Hid (Below (w.heap.size + 1) W8 wr)) (fun _ iv _ => (intOf iv + 1).toNat)
    case atStart => exact ⟨g.nodes.length, -1, Nat.le_refl _, rfl, by cases g.nodes.length with | zero => rfl | succ m => show _ = Value.int .i64 (m : Int); congr 1; omega, Lib.hid (by rw [fN_end]; rfl), hDn, hRow, hW⟩
    case round =>
      clear hDn hRow hW
      obtain ⟨k, z, hk, rfl, hiv, hZ, hDn, hRow, hW⟩ := hrel
      cases k with
      | zero =>
        obtain rfl := (show u6 = .int .i64 (-1) from hiv)
        have hZ2 : Hid (z = optI (nextW g out)) := Lib.hid (by have := hZ.out; rwa [fN_zero] at this)
        clear hZ
        cases hnx : nextW g out with
        | none =>
          have hz : z = -1 := by have := hZ2.out; rw [hnx] at this; exact this
          subst hz
          have hw : Hid (work g = out) := Lib.hid (work_stuck hWk.out (nextW_none hnx))
          clear hnx
          go_wp2
          go_ret
          refine ⟨_, rfl, ?_, HB8.out.trans (hW.out.mono (by omega))⟩
          rw [hw.out, hOL.out]
          exact owns_base hRow.out (by omega)
        | some i =>
          have hz : z = (i : Int) := by have := hZ2.out; rw [hnx] at this; exact this
          subst hz
          have hil := (nextW_some hnx).1
          have HG3 := Lib.hid (hGo.out.push hil (nextW_some hnx).2.1)
          have hp1 : p + 1 ≤ g.nodes.length := by have := HG3.out.len; rw [List.length_append, hOL.out] at this; simpa using this
          have HK3 := Lib.hid (work_nextN (by omega) hWk.out hnx)
          have f0 := hDn.out.frozen i
          have d0 := hDn.out.cell hil
          have hi0 : ¬ (i : Int) < 0 := by omega
          clear hnx
          have HD3 : Hid (DoneAt (wr.setCell ⟨w.heap.size + 1, i, none⟩ (.bool true)) (w.heap.size + 1) g.nodes.length (out ++ [i])) := Lib.hid (hDn.out.set hil)
          have HR3 : Hid ((wr.setCell ⟨w.heap.size + 1, i, none⟩ (.bool true)).ownsRow ((w.heap.size + 1) + 1) 3 1 (.slice ao' p co') p (natsV out)) := Lib.hid (owns_heap hRow.out fun y hy => Below.heap_setCell _ _ _ _ (by have := (hRow.out.lt y hy).1; simp; omega))
          have HW3 : Hid (Below (w.heap.size + 1) W8 (wr.setCell ⟨w.heap.size + 1, i, none⟩ (.bool true))) := Lib.hid (hW.out.setCell (p := ⟨w.heap.size + 1, i, none⟩) (Nat.le_refl _) _)
          have hs3 : Hid (wr.heap.size = (wr.setCell ⟨w.heap.size + 1, i, none⟩ (.bool true)).heap.size) := Lib.hid (by show _ = (wr.heap.modify _ _).size; rw [Array.size_modify])
          have hs4 : (w.heap.size + 1) + 1 ≤ wr.heap.size := hDn.out.lt
          go_wp2_with (at_builtin; generalize wr.setCell _ _ = W3 at HD3 HR3 HW3 hs3 ⊢; refine wpList_append_own _ rfl _ _ 40 rfl ((w.heap.size + 1) + 1) 3 i0 (.int .i64 0) 1 8 Tryz.underlying40 hi hz0 hz1 hz2 rfl (by decide) _ _ _ rfl (HR3.out.alloc _) ⟨wr.heap.size, 0, none⟩ 1 1 (#[.int .i64 (i : Int)] : Array Value).toList rfl rfl (World.news_of_block (heap_alloc_at hs3.out)) (by simp [Value.oneCell']) ?A3 ?A4 ?A5 ?_)
          case A3 => unfold maxLen; omega
          case A4 => omega
          case A5 => have := hs3.out; simp; omega
          intro v' w4 hown' hgrow _
          obtain ⟨a4, c4', rfl⟩ := owns_form hown'
          have hg0 : ∀ y, Value.ownBlock (.slice ao' p co') = some y → (w.heap.size + 1) + 1 ≤ y := fun y hy => (HR3.out.lt y hy).1
          have HB5 : Hid (Below (w.heap.size + 1) W8 w4) := Lib.hid ((HW3.out.alloc (by have := hs3.out; omega) _).grown hgrow (by have := hs3.out; simp; omega) fun y hy => by have := hg0 y hy; omega)
          have HD5 : Hid (DoneAt w4 (w.heap.size + 1) g.nodes.length (out ++ [i])) := Lib.hid (by
            have h1 := HD3.out.keep (((Below.refl _ W3).alloc (Nat.le_refl _) (.cells #[.int .i64 (i : Int)] 3)).block _ HD3.out.lt)
            exact h1.keep (hgrow.block _ h1.lt (fun e => by have := hg0 _ e.symm; omega)))
          have HR5 : Hid (w4.ownsRow ((w.heap.size + 1) + 1) 3 1 (.slice a4 (p + 1) c4') (p + 1) (natsV (out ++ [i]))) := Lib.hid (by unfold natsV; rw [List.map_append]; exact hown')
          have HL5 : Hid ((out ++ [i]).length = p + 1) := Lib.hid (by rw [List.length_append, hOL.out]; rfl)
          clear hown' hgrow hg0 d0 f0
          go_wp2_with fail
          go_roundw
          case rel => exact ⟨out ++ [i], p + 1, by omega, HL5, HG3, HK3, HD5, HR5, HB5⟩
          case measure => simp [lenV]; omega
      | succ m =>
        obtain rfl := (show u6 = .int .i64 (m : Int) from hiv)
        have hml : m < g.nodes.length := by omega
        have hmi : ¬ (m : Int) < 0 := by omega
        obtain ⟨x, hx⟩ : ∃ x, g.nodes[m]? = some x := ⟨_, List.getElem?_eq_getElem hml⟩
        obtain ⟨b, off, cap, vd, vx, hv, hb, c0, c1, c2, c3, c4, h3, h4, h5, h6⟩ := node_at HN.out.nodes hx
        obtain ⟨rfl, _, rfl⟩ := Value.slice.inj hv
        obtain ⟨ad, cd, rfl⟩ := h3.is.form
        have hxl := h3.is.len
        have HI := Lib.hid h3.is
        have HC2 := Lib.hid c2
        have HX := Lib.hid hx
        have HSt : Hid (fN g out m = if readyB g out m = true then some m else fN g out (m + 1)) := Lib.hid (fN_step hml)
        have d0 := hDn.out.cell hml
        obtain ⟨cb, hcb⟩ : ∃ cb, out.contains m = cb := ⟨_, rfl⟩
        rw [hcb] at d0
        have HCB := Lib.hid hcb
        clear hcb hv c0 c1 c2 c3 c4 h3 h4 h5 h6 hx
        go_wp2_with fail
        clear d0
        go_loopw [7, 8] (fun rv kv wr => ∃ (j : Nat) (rb : Bool), j ≤ x.ins.length ∧ rv = .bool rb ∧ kv = .int .i64 (j : Int) ∧ Hid (rb = (!out.contains m && (x.ins.take j).all (readyS g out))) ∧ Hid (DoneAt wr (w.heap.size + 1) g.nodes.length out) ∧ Hid (wr.ownsRow ((w.heap.size + 1) + 1) 3 1 (.slice ao' p co') p (natsV out)) ∧ Hid (Below (w.heap.size + 1) W8 wr)) (fun _ kv _ => x.ins.length - (intOf kv).toNat)
        case atStart => exact ⟨0, !cb, Nat.zero_le _, by first | rfl | simp, rfl, Lib.hid (by rw [HCB.out]; simp), hDn, hRow, hW⟩
        case round =>
          clear hDn hRow hW
          obtain ⟨j, rb, hj, rfl, rfl, hRB, hDn, hRow, hW⟩ := hrel
          have hBw := Lib.hid (HB8.out.trans (hW.out.mono (by omega : w.heap.size ≤ (w.heap.size + 1))))
          have q1 := (HA8.out.below (by omega) hW.out).fiveG.2.1
          have q2 := (hBw.out.cell (p := ⟨b, off + m * 5 + 2, none⟩) hb).trans HC2.out
          by_cases hjl : j < x.ins.length
          · have hji : (j : Int) < (x.ins.length : Int) := by omega
            cases rb with
            | true =>
              obtain ⟨s0, hs0⟩ : ∃ s, x.ins[j]? = some s := ⟨_, List.getElem?_eq_getElem hjl⟩
              obtain ⟨b2, off2, cap2, hv2, hb2, hr2⟩ := HI.out.rows j s0 hs0
              obtain ⟨rfl, _, rfl⟩ := Value.slice.inj hv2
              have HMore := Lib.hid (ready_more hs0 hRB.out)
              have cs0 := (hBw.out.cell (p := ⟨b2, off2 + j, none⟩) hb2).trans (hr2 j s0 hs0)
              have hb8 : b < wr.heap.size := by have := hBw.out.size; omega
              have hb9 : b2 < wr.heap.size := by have := hBw.out.size; omega
              have HS : Hid (∀ W', Below wr.heap.size wr W' → W'.cell? ⟨w.heap.size, 0, none⟩ = some (.string g.name) ∧ W'.cell? ⟨w.heap.size, 1, none⟩ = some (.slice (some ⟨b, off, none⟩) g.nodes.length cn) ∧ W'.cell? ⟨w.heap.size, 2, none⟩ = some vi ∧ W'.cell? ⟨w.heap.size, 3, none⟩ = some vo ∧ W'.cell? ⟨w.heap.size, 4, none⟩ = some vt ∧ W'.cell? ⟨b, off + m * 5 + 2, none⟩ = some (.slice (some ⟨b2, off2, none⟩) x.ins.length cd) ∧ W'.cell? ⟨b2, off2 + j, none⟩ = some (.string s0)) := Lib.hid fun W' h => by
                obtain ⟨u0, u1, u2, u3, u4⟩ := (HA8.out.below (by omega) (hW.out.trans (h.mono (by have := hDn.out.lt; omega)))).fiveG
                exact ⟨u0, u1, u2, u3, u4, (h.cell (p := ⟨b, off + m * 5 + 2, none⟩) hb8).trans q2, (h.cell (p := ⟨b2, off2 + j, none⟩) hb9).trans cs0⟩
              have HC : Hid (∀ W, Below wr.heap.size wr W → Calls Tryz.prog 60 #[.agg #[Value.string g.name, .slice (some ⟨b, off, none⟩) g.nodes.length cn, vi, vo, vt], .string s0] W fun e w' => e = .returned (.int .i64 (mkN g s0)) ∧ Below W.heap.size W w') := Lib.hid fun W h => HMk.out W _ s0 (hGV.out W (hW.out.trans (h.mono (by have := hDn.out.lt; omega))))
              clear hv2 hr2 hs0 cs0 hb8 hb9
              go_wp2_with fail
              clear q1 q2
              refine wp_region_plan 11 [0, 1, 2, 3, 4, 5, 6, 7, 8, 9, 10] (fun W' => Below wr.heap.size wr W') (by kernel_rfl) (by kernel_rfl) (fun _ d _ _ _ h => by cases d <;> exact h) (Below.refl _ _).drew ?_
              have B0 : Hid (Below wr.heap.size wr wr.drew) := Lib.hid (Below.refl _ _).drew
              generalize wr.drew = wD at B0 ⊢
              repeat
                refine plan_read (v := ?_) rfl rfl (Or.inl ⟨by rfl, ?_⟩) ?_
                rotate_left
                · intro w' hSw
                  obtain ⟨s0c, s1c, s2c, s3c, s4c, s5c, s6c⟩ := HS.out w' hSw
                  go_simp
                  try with_reducible rfl
                try simp only [Act.put, List.getElem_toArray, List.getElem_cons_zero, List.getElem_cons_succ, List.setIfInBounds_toArray, List.set_cons_zero, List.set_cons_succ]
              refine plan_act rfl rfl (fun K' hK => ?_)
              go_simp
              refine (HC.out _ B0.out).mono ?_
              rintro e w6 ⟨rfl, B6⟩
              have B1 : Hid (Below wr.heap.size wr w6) := Lib.hid (B0.out.trans (B6.mono B0.out.size))
              refine hK.out _ _ B1.out ?_
              clear hK K' B6
              refine plan_tail rfl ?_
              simp only [List.toList_toArray, List.drop_succ_cons, List.drop_zero]
              have HD6 := Lib.hid (hDn.out.keep (B1.out.block _ hDn.out.lt))
              have HR6 := Lib.hid (owns_below hRow.out B1.out)
              have HW6 := Lib.hid (hW.out.trans (B1.out.mono (by have := hDn.out.lt; omega)))
              cases hmk2 : maker g s0 with
              | none =>
                have h2 := mkN_none (out := out) hmk2
                rw [h2.2]
                have HB2 : Hid (true = (!out.contains m && (x.ins.take (j + 1)).all (readyS g out))) := Lib.hid (h2.1.symm.trans HMore.out)
                clear hmk2 h2
                go_wp2_with fail
                go_roundw
                case rel => exact ⟨j + 1, true, by omega, rfl, by go_num, HB2, HD6, HR6, HW6⟩
                case measure => first | (simp [intOf]; done) | (simp [intOf]; omega)
              | some q =>
                have h2 := mkN_some (out := out) hmk2
                have hql := maker_lt hmk2
                rw [h2.2]
                have d2 := HD6.out.cell hql
                obtain ⟨qb, hqb⟩ : ∃ qb, out.contains q = qb := ⟨_, rfl⟩
                rw [hqb] at d2
                have HB2 : Hid (qb = (!out.contains m && (x.ins.take (j + 1)).all (readyS g out))) := Lib.hid ((hqb.symm.trans h2.1.symm).trans HMore.out)
                have hq0 : ¬ (q : Int) < 0 := by omega
                clear hmk2 h2 hqb
                go_wp2_with fail
                go_roundw
                case rel => exact ⟨j + 1, qb, by omega, rfl, by go_num, HB2, HD6, HR6, HW6⟩
                case measure => first | (simp [intOf]; done) | (simp [intOf]; omega)
            | false =>
              have hR : Hid (readyB g out m = false) := Lib.hid (ready_part HX.out hRB.out.symm)
              have hZn : Hid (z = optI (fN g out m)) := Lib.hid (by rw [HSt.out, hR.out]; exact hZ.out)
              go_wp2_with fail
              go_roundw
              case rel => exact ⟨m, z, by omega, rfl, by cases m with | zero => rfl | succ q => show Value.int .i64 _ = Value.int .i64 (q : Int); congr 1; omega, hZn, hDn, hRow, hW⟩
              case measure => first | (simp [intOf]; done) | (simp [intOf]; omega)
          · have hji : ¬ (j : Int) < (x.ins.length : Int) := by omega
            obtain rfl : j = x.ins.length := by omega
            have hR : Hid (rb = readyB g out m) := Lib.hid (hRB.out.trans (ready_whole HX.out).symm)
            cases rb with
            | true =>
              have hZn : Hid ((m : Int) = optI (fN g out m)) := Lib.hid (by rw [HSt.out, ← hR.out]; rfl)
              go_wp2_with fail
              go_roundw
              case rel => exact ⟨m, (m : Int), by omega, rfl, by cases m with | zero => rfl | succ q => show Value.int .i64 _ = Value.int .i64 (q : Int); congr 1; omega, hZn, hDn, hRow, hW⟩
              case measure => first | (simp [intOf]; done) | (simp [intOf]; omega)
            | false =>
              have hZn : Hid (z = optI (fN g out m)) := Lib.hid (by rw [HSt.out, ← hR.out]; exact hZ.out)
              go_wp2_with fail
              go_roundw
              case rel => exact ⟨m, z, by omega, rfl, by cases m with | zero => rfl | succ q => show Value.int .i64 _ = Value.int .i64 (q : Int); congr 1; omega, hZn, hDn, hRow, hW⟩
              case measure => first | (simp [intOf]; done) | (simp [intOf]; omega)

end Go.Proofs.YtlbhepfbogcipaaGreatDoor

set_option linter.unusedVariables false
set_option linter.unusedSimpArgs false
namespace Go.Proofs.YtlbhepfbogcipaaGreatDoor
open Go.RowKit

set_option maxHeartbeats 1000000 in
theorem gamong_row (b off cap : Nat) (ss : List ByteArray) (hlen : ss.length * 16 ≤ 140737488351232) (x : ByteArray) (w : World) (hr : Hid (ReadsS w b off ss)) :
    Calls Tryz.prog 59 #[.string x, .slice (some ⟨b, off, none⟩) ss.length cap] w fun e w' => e = .returned (.bool (hasS ss x)) ∧ w = w' := by
  go_enter Tryz.func59, Tryz.ntmps59
  go_wp2
  go_loop [5] (fun i => ∃ k : Nat, k ≤ ss.length ∧ i = .int .i64 (k : Int) ∧ Hid (hasS (ss.take k) x = false)) (fun i => ss.length - (intOf i).toNat)
  case atStart => exact ⟨0, Nat.zero_le _, rfl, Lib.hid (by simp [hasS])⟩
  case round =>
    obtain ⟨k, hk, rfl, hT⟩ := hrel
    by_cases hkl : k < ss.length
    · have hki : (k : Int) < (ss.length : Int) := by omega
      obtain ⟨s, hs⟩ : ∃ s, ss[k]? = some s := ⟨_, List.getElem?_eq_getElem hkl⟩
      have c0 := hr.out k s hs
      have HSs := Lib.hid hs
      clear hs
      by_cases hx : s.toList = x.toList
      · have hb : (s.toList == x.toList) = true := by simpa using hx
        have e : Hid (hasS ss x = true) := Lib.hid (hasS_iff.2 (by rw [← toList_inj hx]; exact List.mem_of_getElem? HSs.out))
        go_wp2
        go_ret
        exact ⟨ret_val (bool_val e.out.symm), rfl⟩
      · have hb : (s.toList == x.toList) = false := by simpa using hx
        have e := Lib.hid (hasS_next hT.out HSs.out (str_ne hx))
        go_wp2
        go_round
        case rel => exact ⟨k + 1, by omega, by go_num, e⟩
        case measure => simp [intOf]; omega
    · have hki : ¬ (k : Int) < (ss.length : Int) := by omega
      obtain rfl : k = ss.length := by omega
      have e : Hid (hasS ss x = false) := Lib.hid (by have := hT.out; rwa [List.take_length] at this)
      go_wp2
      go_ret
      exact ⟨ret_val (bool_val e.out.symm), rfl⟩

theorem gamong_empty (a0 : Option Addr) (cap : Nat) (x : ByteArray) (w : World) :
    Calls Tryz.prog 59 #[.string x, .slice a0 0 cap] w fun e w' => e = .returned (.bool false) ∧ w = w' := by
  go_enter Tryz.func59, Tryz.ntmps59
  go_wp2
  go_rounds 1
  go_ret
  exact ⟨rfl, rfl⟩

theorem gamong_any {w : World} {v : Value} {ss : List ByteArray} (h : StrsIn w v ss) (x : ByteArray) :
    Calls Tryz.prog 59 #[.string x, v] w fun e w' => e = .returned (.bool (hasS ss x)) ∧ w = w' := by
  cases h with
  | empty a0 cap => exact gamong_empty a0 cap x w
  | row b off cap _ h0 hc hb hr hlen => exact gamong_row b off cap ss hlen x w (Lib.hid hr)

end Go.Proofs.YtlbhepfbogcipaaGreatDoor

set_option linter.unusedVariables false
set_option linter.unusedSimpArgs false
namespace Go.Proofs.YtlbhepfbogcipaaGreatDoor
open Go.RowKit

theorem order_noout {g : Gr} (h : tooGreat g = false) (h2 : partsE g = 0) (h3 : g.outs = []) : orderE g = 4 := by
  cases hu : unlikeB (namesG g) with
  | false => exact order_like h h2 hu
  | true => exact order_named h h2 hu (by unfold namedB; rw [decide_eq_false (fun c => c h3)]; simp)
theorem named_dup {g : Gr} (h : ¬ (g.outs.map (·.name)).Nodup) : namedB g = false := by unfold namedB; rw [decide_eq_false h]; simp
theorem dup_of {l : List ByteArray} {k : Nat} {s : ByteArray} (hs : l[k]? = some s) (h : s ∈ l.take k) : ¬ l.Nodup := fun hn => by
  obtain ⟨j, hj, e⟩ := List.mem_iff_getElem.1 h
  rw [List.getElem_take] at e
  obtain ⟨hk, e2⟩ := List.getElem?_eq_some_iff.1 hs
  have hjk : j < k := by simp at hj; omega
  have := (List.getElem_inj hn).1 (e.trans e2.symm)
  omega
theorem nodup_snoc {l : List ByteArray} {k : Nat} {s : ByteArray} (hs : l[k]? = some s) (hn : (l.take k).Nodup) (h : s ∉ l.take k) : (l.take (k + 1)).Nodup := by
  rw [List.take_add_one, hs]
  show (l.take k ++ [s]).Nodup
  rw [List.nodup_append]
  refine ⟨hn, by simp, fun a ha b hb => ?_⟩
  obtain rfl : b = s := by simpa using hb
  exact fun e => h (e ▸ ha)

attribute [local irreducible] unlikeB namesG pairs namedB hasS orderE orderL work workF readyB nextW partsE

set_option maxRecDepth 100000 in
set_option maxHeartbeats 4000000 in
theorem rgcheck_any {w : World} {v : Value} {g : Gr} (h : GraphV w v g) :
    Calls Tryz.prog 50 #[v] w fun e w' => e = .returned (.int .i64 (orderE g)) ∧ Below w.heap.size w w' := by
  obtain ⟨i0, hi, hz0, hz1, hz2⟩ := info_parts info_string
  have HParts := Lib.hid (fun (W : World) (vi : Value) (h : GraphV W vi g) => rgparts_any h)
  have HNames := Lib.hid (fun (W : World) (vi : Value) (h : GraphV W vi g) (hl : g.ins.length + g.inits.length + g.nodes.length ≤ 3000) => rnames_any h hl)
  have HUn := Lib.hid (fun (W : World) (vi : Value) (l : List ByteArray) (h : StrsIn W vi l) (hl : l.length ≤ 1048576) => runlike_any h hl)
  have HWork := Lib.hid (fun (W : World) (vi : Value) (h : GraphV W vi g) (hl : g.nodes.length ≤ 1000) => rwork_any h hl)
  have HAm := Lib.hid (fun (W : World) (vi : Value) (ss : List ByteArray) (s : ByteArray) (h : StrsIn W vi ss) => gamong_any h s)
  obtain ⟨vn, vi, vo, vt, rfl, hg⟩ := h
  obtain ⟨an, cn, rfl⟩ := hg.nodes.form
  obtain ⟨ai, ci, rfl⟩ := hg.ins.form
  obtain ⟨ao, co, rfl⟩ := hg.outs.form
  obtain ⟨at', ct, rfl⟩ := hg.inits.form
  have hln := hg.nodes.len
  have hli := hg.ins.len
  have hlt := hg.inits.len
  have hlo := hg.outs.len
  have HN := Lib.hid hg
  clear hg
  unfold Gr.val
  go_enter Tryz.func50, Tryz.ntmps50
  have hB1 : Hid (Below w.heap.size w (w.alloc (Obj.cells #[Value.string g.name, Value.slice an g.nodes.length cn, Value.slice ai g.ins.length ci, Value.slice ao g.outs.length co, Value.slice at' g.inits.length ct] 26))) := Lib.hid ((Below.refl _ w).alloc (Nat.le_refl _) _)
  have hA1 := Lib.hid (BoxN.new w #[Value.string g.name, Value.slice an g.nodes.length cn, Value.slice ai g.ins.length ci, Value.slice ao g.outs.length co, Value.slice at' g.inits.length ct] 26)
  obtain ⟨k0, k1, k2, k3, k4⟩ := hA1.out.fiveG
  cases hgr : tooGreat g with
  | true =>
    have HR := Lib.hid (order_great hgr)
    have hgr2 : ¬ (g.nodes.length ≤ 1000 ∧ g.ins.length + g.inits.length + g.nodes.length ≤ 3000 ∧ g.outs.length ≤ 3000) := fun c => by rw [great_iff.2 c] at hgr; cases hgr
    clear hgr
    by_cases p1 : g.nodes.length ≤ 1000
    · have q1 : ¬ (1000 : Int) < (g.nodes.length : Int) := by omega
      by_cases p2 : g.ins.length + g.inits.length + g.nodes.length ≤ 3000
      · have q2 : ¬ (3000 : Int) < (g.ins.length : Int) + (g.inits.length : Int) + (g.nodes.length : Int) := by omega
        have q3 : (3000 : Int) < (g.outs.length : Int) := by omega
        clear hgr2 p1 p2
        go_wp2
        go_ret
        exact ⟨ret_val (congrArg (Value.int .i64) HR.out).symm, hB1.out⟩
      · have q2 : (3000 : Int) < (g.ins.length : Int) + (g.inits.length : Int) + (g.nodes.length : Int) := by omega
        clear hgr2 p1 p2
        go_wp2
        go_ret
        exact ⟨ret_val (congrArg (Value.int .i64) HR.out).symm, hB1.out⟩
    · have q1 : (1000 : Int) < (g.nodes.length : Int) := by omega
      clear hgr2 p1
      go_wp2
      go_ret
      exact ⟨ret_val (congrArg (Value.int .i64) HR.out).symm, hB1.out⟩
  | false =>
    obtain ⟨g1, g2, g3⟩ := great_iff.1 hgr
    have HGr := Lib.hid hgr
    clear hgr
    have q1 : ¬ (1000 : Int) < (g.nodes.length : Int) := by omega
    have q2 : ¬ (3000 : Int) < (g.ins.length : Int) + (g.inits.length : Int) + (g.nodes.length : Int) := by omega
    have q3 : ¬ (3000 : Int) < (g.outs.length : Int) := by omega
    go_wp2_with fail
    clear k0 k1 k2 k3 k4
    generalize w.alloc _ = W1 at hB1 hA1 ⊢
    have hGV : Hid (∀ W, Below W1.heap.size W1 W → GraphV W (.agg #[Value.string g.name, Value.slice an g.nodes.length cn, Value.slice ai g.ins.length ci, Value.slice ao g.outs.length co, Value.slice at' g.inits.length ct]) g) := Lib.hid fun W hW => ⟨_, _, _, _, rfl, HN.out.below (hB1.out.trans (hW.mono hB1.out.size))⟩
    refine (HParts.out _ _ (hGV.out W1 (Below.refl _ _))).mono ?_
    rintro e w5 ⟨rfl, B5⟩
    have HW5 : Hid (Below W1.heap.size W1 w5) := Lib.hid B5
    clear B5
    obtain ⟨k0, k1, k2, k3, k4⟩ := (hA1.out.below' HW5.out).fiveG
    generalize hce : partsE g = ce
    have HCE := Lib.hid hce
    clear hce
    by_cases hz : ce = 0
    · have hzb : (ce != 0) = false := by simpa using hz
      have HP0 : Hid (partsE g = 0) := Lib.hid (HCE.out.trans hz)
      clear hz HCE
      go_wp2_with fail
      refine (HNames.out _ _ (hGV.out w5 HW5.out) g2).mono ?_
      rintro e w6 ⟨lv, rfl, hl6, B6⟩
      have HLen : Hid ((namesG g).length = g.ins.length + g.inits.length + g.nodes.length) := Lib.hid (by have := hl6.1; simpa using this)
      have HS6 : Hid (StrsIn w6 lv (namesG g)) := Lib.hid (StrsIn.own hl6 HLen.out (by omega))
      obtain ⟨al, cl, rfl⟩ := owns_form hl6
      have HW6 : Hid (Below W1.heap.size W1 w6) := Lib.hid (HW5.out.trans (B6.mono HW5.out.size))
      clear hl6 B6 k0 k1 k2 k3 k4
      obtain ⟨k0, k1, k2, k3, k4⟩ := (hA1.out.below' HW6.out).fiveG
      by_cases ho : g.outs = []
      · have hol : g.outs.length = 0 := by rw [ho]; rfl
        have HR := Lib.hid (order_noout HGr.out HP0.out ho)
        have hob : ((g.outs.length : Int) == 0) = true := by rw [hol]; rfl
        clear ho
        go_wp2
        go_ret
        exact ⟨ret_val (congrArg (Value.int .i64) HR.out).symm, hB1.out.trans (HW6.out.mono hB1.out.size)⟩
      have hob : ((g.outs.length : Int) == 0) = false := by
        rw [beq_eq_false_iff_ne]
        intro c
        exact ho (List.eq_nil_of_length_eq_zero (by omega))
      have hol : ¬ g.outs.length = 0 := fun c => ho (List.eq_nil_of_length_eq_zero c)
      have HNE := Lib.hid ho
      clear ho
      go_wp2_with fail
      refine (HUn.out _ _ _ HS6.out (by rw [HLen.out]; omega)).mono ?_
      rintro e w7 ⟨rfl, B7⟩
      have HW7 : Hid (Below W1.heap.size W1 w7) := Lib.hid (HW6.out.trans (B7.mono HW6.out.size))
      have HS7 := Lib.hid (HS6.out.below B7)
      clear B7 k0 k1 k2 k3 k4 HS6
      obtain ⟨k0, k1, k2, k3, k4⟩ := (hA1.out.below' HW7.out).fiveG
      have hBw := Lib.hid (hB1.out.trans (HW7.out.mono hB1.out.size))
      cases hu : unlikeB (namesG g) with
      | false =>
        have HR := Lib.hid (order_like HGr.out HP0.out hu)
        clear hu
        go_wp2
        go_ret
        exact ⟨ret_val (congrArg (Value.int .i64) HR.out).symm, hBw.out⟩
      | true =>
        have HU := Lib.hid hu
        clear hu
        go_wp2_with fail
        go_loop [5] (fun i => ∃ k : Nat, k ≤ g.nodes.length ∧ i = .int .i64 (k : Int) ∧ Hid (((g.nodes.take k).all fun n => n.ins.all fun s => hasS (namesG g) s) = true)) (fun i => g.nodes.length - (intOf i).toNat)
        case atStart => exact ⟨0, Nat.zero_le _, rfl, Lib.hid (by simp)⟩
        case round =>
          obtain ⟨k, hk, rfl, hE⟩ := hrel
          by_cases hkl : k < g.nodes.length
          · have hki : (k : Int) < (g.nodes.length : Int) := by omega
            obtain ⟨x, hx⟩ : ∃ x, g.nodes[k]? = some x := ⟨_, List.getElem?_eq_getElem hkl⟩
            obtain ⟨b, off, cap, vd, vx, hv, hb, c0, c1, c2, c3, c4, h3, _⟩ := node_at HN.out.nodes hx
            obtain ⟨rfl, _, rfl⟩ := Value.slice.inj hv
            obtain ⟨ad, cd, rfl⟩ := h3.is.form
            have hil := h3.is.len
            have c2 := (hBw.out.cell (p := ⟨b, off + k * 5 + 2, none⟩) hb).trans c2
            have HX := Lib.hid hx
            have HI := Lib.hid h3.is
            clear hv c0 c1 c3 c4 h3 hx
            go_wp2_with fail
            go_loop [6] (fun i => ∃ j : Nat, j ≤ x.ins.length ∧ i = .int .i64 (j : Int) ∧ Hid (((x.ins.take j).all fun s => hasS (namesG g) s) = true)) (fun i => x.ins.length - (intOf i).toNat)
            case atStart => exact ⟨0, Nat.zero_le _, rfl, Lib.hid (by simp)⟩
            case round =>
              obtain ⟨j, hj, rfl, hE2⟩ := hrel
              by_cases hjl : j < x.ins.length
              · have hji : (j : Int) < (x.ins.length : Int) := by omega
                obtain ⟨s, hs⟩ : ∃ s, x.ins[j]? = some s := ⟨_, List.getElem?_eq_getElem hjl⟩
                obtain ⟨b2, off2, cap2, hv, hb2, hr2⟩ := HI.out.rows j s hs
                obtain ⟨rfl, _, rfl⟩ := Value.slice.inj hv
                have c5 := (hBw.out.cell (p := ⟨b2, off2 + j, none⟩) hb2).trans (hr2 j s hs)
                have HSJ := Lib.hid hs
                clear hr2 hs hv
                go_wp2_with fail
                refine (HAm.out _ _ _ s HS7.out).mono ?_
                rintro e w8 ⟨rfl, rfl⟩
                cases hb' : hasS (namesG g) s with
                | false =>
                  have HR := Lib.hid (order_named HGr.out HP0.out HU.out (named_miss (List.mem_of_getElem? HX.out) (List.mem_of_getElem? HSJ.out) hb'))
                  clear hb'
                  go_wp2
                  go_ret
                  exact ⟨ret_val (congrArg (Value.int .i64) HR.out).symm, hBw.out⟩
                | true =>
                  have HN2 : Hid (((x.ins.take (j + 1)).all fun s => hasS (namesG g) s) = true) := Lib.hid (by rw [List.take_add_one, List.all_append, hE2.out, HSJ.out]; simp [hb'])
                  clear hb'
                  go_wp2_with fail
                  go_round
                  case rel => exact ⟨j + 1, by omega, by go_num, HN2⟩
                  case measure => simp [intOf]; omega
              · have hji : ¬ (j : Int) < (x.ins.length : Int) := by omega
                obtain rfl : j = x.ins.length := by omega
                have HN2 : Hid (((g.nodes.take (k + 1)).all fun n => n.ins.all fun s => hasS (namesG g) s) = true) := Lib.hid (by
                  have h2 := hE2.out
                  rw [List.take_length] at h2
                  rw [List.take_add_one, List.all_append, hE.out, HX.out]; simp only [Option.toList_some, List.all_cons, List.all_nil, Bool.and_true, Bool.true_and]; exact h2)
                go_wp2_with fail
                go_round
                case rel => exact ⟨k + 1, by omega, by go_num, HN2⟩
                case measure => simp [intOf]; omega
          · have hki : ¬ (k : Int) < (g.nodes.length : Int) := by omega
            obtain rfl : k = g.nodes.length := by omega
            have HE0 : Hid ((g.nodes.all fun n => n.ins.all fun s => hasS (namesG g) s) = true) := Lib.hid (by have := hE.out; rwa [List.take_length] at this)
            clear hE hki hkl hk
            go_wp2_with fail
            clear k0 k1 k2 k3 k4
            go_loopw [7, 8] (fun ov i wr => ∃ k : Nat, k ≤ g.outs.length ∧ i = .int .i64 (k : Int) ∧ Hid (((g.outs.take k).all fun v => hasS (namesG g) v.name) = true) ∧ Hid ((((g.outs.map (·.name)).take k)).Nodup) ∧ Hid (wr.ownsRow w7.heap.size 9 1 ov k (((g.outs.map (·.name)).take k).map Value.string)) ∧ Hid (Below w7.heap.size w7 wr)) (fun _ i _ => g.outs.length - (intOf i).toNat)
            case atStart => exact ⟨0, Nat.zero_le _, rfl, Lib.hid (by simp), Lib.hid (by simp), Lib.hid (by simpa using World.ownsRow_nil _ _ _ _), Lib.hid (Below.refl _ _)⟩
            case round =>
              obtain ⟨k, hk, rfl, hE, hND, hRow, hW⟩ := hrel
              obtain ⟨aw, cw, rfl⟩ := owns_form hRow.out
              have hW1 := Lib.hid (HW7.out.trans (hW.out.mono HW7.out.size))
              have hBr := Lib.hid (hB1.out.trans (hW1.out.mono hB1.out.size))
              obtain ⟨k0, k1, k2, k3, k4⟩ := (hA1.out.below' hW1.out).fiveG
              have hsz := hW.out.size
              by_cases hkl : k < g.outs.length
              · have hki : (k : Int) < (g.outs.length : Int) := by omega
                obtain ⟨x, hx⟩ : ∃ x, g.outs[k]? = some x := ⟨_, List.getElem?_eq_getElem hkl⟩
                obtain ⟨b, off, cap, vd, hv, hb, c0, _⟩ := value_at HN.out.outs hx
                obtain ⟨rfl, _, rfl⟩ := Value.slice.inj hv
                have c0 := (hBr.out.cell (p := ⟨b, off + k * 3, none⟩) hb).trans c0
                have hxm : (g.outs.map (·.name))[k]? = some x.name := by rw [List.getElem?_map, hx]; rfl
                have HX := Lib.hid hx
                have HXm := Lib.hid hxm
                have HSw : Hid (StrsIn wr (.slice aw k cw) ((g.outs.map (·.name)).take k)) := Lib.hid (StrsIn.own hRow.out (by simp; omega) (by omega))
                have HS8 := Lib.hid (HS7.out.below hW.out)
                have HT1 : Hid (((g.outs.map (·.name)).take (k + 1)) = ((g.outs.map (·.name)).take k) ++ [x.name]) := Lib.hid (by rw [List.take_add_one, hxm]; rfl)
                obtain ⟨xs, hxs⟩ : ∃ xs, ((g.outs.map (·.name)).take k).map Value.string = xs := ⟨_, rfl⟩
                rw [hxs] at hRow
                have HXS := Lib.hid hxs
                clear hv hx hxm hxs
                go_wp2_with fail
                refine (HAm.out _ _ _ x.name HS8.out).mono ?_
                rintro e w9 ⟨rfl, rfl⟩
                cases hb' : hasS (namesG g) x.name with
                | false =>
                  have HR := Lib.hid (order_named HGr.out HP0.out HU.out (named_out (List.mem_of_getElem? HX.out) hb'))
                  clear hb'
                  go_wp2
                  go_ret
                  exact ⟨ret_val (congrArg (Value.int .i64) HR.out).symm, hBr.out⟩
                | true =>
                  have HN2 : Hid (((g.outs.take (k + 1)).all fun v => hasS (namesG g) v.name) = true) := Lib.hid (by rw [List.take_add_one, List.all_append, hE.out, HX.out]; simp [hb'])
                  clear hb'
                  go_wp2_with fail
                  refine (HAm.out _ _ _ x.name HSw.out).mono ?_
                  rintro e w9 ⟨rfl, rfl⟩
                  cases hb2 : hasS ((g.outs.map (·.name)).take k) x.name with
                  | true =>
                    have HR := Lib.hid (order_named HGr.out HP0.out HU.out (named_dup (dup_of HXm.out (hasS_iff.1 hb2))))
                    clear hb2
                    go_wp2
                    go_ret
                    exact ⟨ret_val (congrArg (Value.int .i64) HR.out).symm, hBr.out⟩
                  | false =>
                    have HND : Hid ((((g.outs.map (·.name)).take (k + 1))).Nodup) := Lib.hid (nodup_snoc HXm.out hND.out (fun c => by have := hasS_iff.2 c; rw [hb2] at this; cases this))
                    clear hb2
                    go_wp2_with (at_builtin; refine wpList_append_own _ rfl _ _ 44 rfl w7.heap.size 9 i0 (.string ⟨#[]⟩) 1 16 Tryz.underlying44 hi hz0 hz1 hz2 rfl (by decide) _ _ _ rfl (hRow.out.alloc _) ⟨wr.heap.size, 0, none⟩ 1 1 (#[.string x.name] : Array Value).toList rfl rfl (World.news_of_block (heap_alloc_new wr _)) (by simp [Value.oneCell']) ?A3 ?A4 ?A5 ?_)
                    case A3 => unfold maxLen; omega
                    case A4 => omega
                    case A5 => first | omega | (simp; omega)
                    intro v' w4 hown' hgrow _
                    have HR4 : Hid (w4.ownsRow w7.heap.size 9 1 v' (k + 1) (((g.outs.map (·.name)).take (k + 1)).map Value.string)) := Lib.hid (by rw [HT1.out, List.map_append, HXS.out]; exact hown')
                    have HW4 : Hid (Below w7.heap.size w7 w4) := Lib.hid ((hW.out.alloc hsz _).grown hgrow (by simp; omega) fun y hy => (hRow.out.lt y hy).1)
                    clear hown' hgrow c0 k0 k1 k2 k3 k4
                    go_wp2_with fail
                    go_roundw
                    case rel => exact ⟨k + 1, by omega, by go_num, HN2, HND, HR4, HW4⟩
                    case measure => simp [intOf]; omega
              · have hki : ¬ (k : Int) < (g.outs.length : Int) := by omega
                obtain rfl : k = g.outs.length := by omega
                have HNB : Hid (namedB g = true) := Lib.hid (by
                  rw [named_end HE0.out (by have := hE.out; rwa [List.take_length] at this), decide_eq_true HNE.out, Bool.true_and, decide_eq_true_eq]
                  have := hND.out
                  rwa [List.take_of_length_le (by simp)] at this)
                have HS : Hid (∀ W', Below wr.heap.size wr W' → BoxN W' w.heap.size #[Value.string g.name, Value.slice an g.nodes.length cn, Value.slice ai g.ins.length ci, Value.slice ao g.outs.length co, Value.slice at' g.inits.length ct] 26) := Lib.hid fun W' h => hA1.out.below' (hW1.out.trans (h.mono hW1.out.size))
                have HC : Hid (∀ W, Below wr.heap.size wr W → Calls Tryz.prog 51 #[.agg #[Value.string g.name, Value.slice an g.nodes.length cn, Value.slice ai g.ins.length ci, Value.slice ao g.outs.length co, Value.slice at' g.inits.length ct]] W fun e w' => ∃ v', e = .returned v' ∧ w'.ownsRow W.heap.size 3 1 v' (work g).length (natsV (work g)) ∧ Below W.heap.size W w') := Lib.hid fun W h => HWork.out W _ (hGV.out W (hW1.out.trans (h.mono hW1.out.size))) g1
                go_wp2_with fail
                clear k0 k1 k2 k3 k4
                refine wp_region_plan 6 [0, 3, 4, 5, 1, 2] (fun W' => Below wr.heap.size wr W') (by kernel_rfl) (by kernel_rfl) (fun _ d _ _ _ h => by cases d <;> exact h) (Below.refl _ _).drew ?_
                have B0 : Hid (Below wr.heap.size wr wr.drew) := Lib.hid (Below.refl _ _).drew
                generalize wr.drew = wD at B0 ⊢
                repeat
                  refine plan_read (v := ?_) rfl rfl (Or.inl ⟨by rfl, ?_⟩) ?_
                  rotate_left
                  · intro w' hSw
                    obtain ⟨e0, e1, e2, e3, e4⟩ := (HS.out w' hSw).fiveG
                    go_simp
                    try with_reducible rfl
                  try simp only [Act.put, List.getElem_toArray, List.getElem_cons_zero, List.getElem_cons_succ, List.setIfInBounds_toArray, List.set_cons_zero, List.set_cons_succ]
                refine plan_act rfl rfl (fun K' hK => ?_)
                go_simp
                refine (HC.out _ B0.out).mono ?_
                rintro e w10 ⟨v', rfl, ho10, B10⟩
                obtain ⟨a10, c10, rfl⟩ := owns_form ho10
                have B1 : Hid (Below wr.heap.size wr w10) := Lib.hid (B0.out.trans (B10.mono B0.out.size))
                have hb10 : Hid (Below w.heap.size w w10) := Lib.hid (hBr.out.trans (B1.out.mono hBr.out.size))
                refine hK.out _ _ B1.out ?_
                clear hK K' B10 ho10
                repeat
                  refine plan_read (v := ?_) rfl rfl (Or.inl ⟨by rfl, ?_⟩) ?_
                  rotate_left
                  · intro w' hSw
                    go_simp
                    try with_reducible rfl
                  try simp only [Act.put, List.getElem_toArray, List.getElem_cons_zero, List.getElem_cons_succ, List.setIfInBounds_toArray, List.set_cons_zero, List.set_cons_succ]
                refine plan_tail rfl ?_
                simp only [List.toList_toArray, List.drop_succ_cons, List.drop_zero]
                obtain ⟨wl, hwl⟩ : ∃ wl, (work g).length = wl := ⟨_, rfl⟩
                rw [hwl]
                by_cases hz2 : wl = g.nodes.length
                · have HR := Lib.hid (order_full HGr.out HP0.out HU.out HNB.out (hwl.trans hz2))
                  have hzb2 : ((wl : Int) != (g.nodes.length : Int)) = false := by rw [hz2]; simp
                  clear hwl hz2
                  go_wp2
                  go_ret
                  exact ⟨ret_val (congrArg (Value.int .i64) HR.out).symm, hb10.out⟩
                · have HR := Lib.hid (order_short HGr.out HP0.out HU.out HNB.out (by rw [hwl]; exact hz2))
                  have hzb2 : ((wl : Int) != (g.nodes.length : Int)) = true := by
                    rw [bne_iff_ne]; omega
                  clear hwl hz2
                  go_wp2
                  go_ret
                  exact ⟨ret_val (congrArg (Value.int .i64) HR.out).symm, hb10.out⟩
    · have hzb : (ce != 0) = true := by simpa using hz
      have HR := Lib.hid (order_parts HGr.out HCE.out hz)
      clear hz
      go_wp2
      go_ret
      exact ⟨ret_val (congrArg (Value.int .i64) HR.out).symm, hB1.out.trans (HW5.out.mono hB1.out.size)⟩

set_option maxRecDepth 100000 in
set_option maxHeartbeats 1000000 in
theorem rgorder_any {w : World} {v : Value} {g : Gr} (h : GraphV w v g) :
    Calls Tryz.prog 39 #[v] w fun e w' => OrderV w g e w' := by
  have HCh := Lib.hid (fun (W : World) (vi : Value) (h : GraphV W vi g) => rgcheck_any h)
  have HWork := Lib.hid (fun (W : World) (vi : Value) (h : GraphV W vi g) (hl : g.nodes.length ≤ 1000) => rwork_any h hl)
  obtain ⟨vn, vi, vo, vt, rfl, hg⟩ := h
  have HN := Lib.hid hg
  clear hg
  unfold Gr.val
  go_enter Tryz.func39, Tryz.ntmps39
  go_wp2_with fail
  have hB1 : Hid (Below w.heap.size w (w.alloc (Obj.cells #[Value.string g.name, vn, vi, vo, vt] 26))) := Lib.hid ((Below.refl _ w).alloc (Nat.le_refl _) _)
  have hA1 := Lib.hid (BoxN.new w #[Value.string g.name, vn, vi, vo, vt] 26)
  generalize w.alloc _ = W1 at hB1 hA1 ⊢
  have hGV : Hid (∀ W, Below W1.heap.size W1 W → GraphV W (.agg #[Value.string g.name, vn, vi, vo, vt]) g) := Lib.hid fun W hW => ⟨_, _, _, _, rfl, HN.out.below (hB1.out.trans (hW.mono hB1.out.size))⟩
  refine (HCh.out _ _ (hGV.out W1 (Below.refl _ _))).mono ?_
  rintro e w5 ⟨rfl, B5⟩
  have HW5 : Hid (Below W1.heap.size W1 w5) := Lib.hid B5
  clear B5
  obtain ⟨k0, k1, k2, k3, k4⟩ := (hA1.out.below' HW5.out).fiveG
  generalize hce : orderE g = ce
  have HCE := Lib.hid hce
  clear hce
  by_cases hz : ce = 0
  · have hzb : (ce != 0) = false := by simpa using hz
    have HE0 : Hid (orderE g = 0) := Lib.hid (HCE.out.trans hz)
    have hl : g.nodes.length ≤ 1000 := by
      have h1 : tooGreat g = false := by
        cases e : tooGreat g with
        | false => rfl
        | true => exact absurd ((order_great e).symm.trans HE0.out) (by decide)
      exact (great_iff.1 h1).1
    clear hz
    go_wp2_with fail
    refine (HWork.out _ _ (hGV.out w5 HW5.out) hl).mono ?_
    rintro e w6 ⟨v', rfl, ho6, B6⟩
    have HR := Lib.hid ho6
    have HB : Hid (Below w.heap.size w w6) := Lib.hid (hB1.out.trans ((HW5.out.trans (B6.mono HW5.out.size)).mono hB1.out.size))
    have hs5 : w.heap.size ≤ w5.heap.size := by have h1 := hB1.out.size; have h2 := HW5.out.size; omega
    clear ho6 B6
    go_wp2
    go_ret2
    exact OrderV.good HE0.out rfl rfl HR.out hs5 HB.out
  · have hzb : (ce != 0) = true := by simpa using hz
    have HZ := Lib.hid hz
    clear hz
    go_wp2
    go_ret2
    exact OrderV.bad HCE.out HZ.out (hB1.out.trans (HW5.out.mono hB1.out.size))

end Go.Proofs.YtlbhepfbogcipaaGreatDoor
