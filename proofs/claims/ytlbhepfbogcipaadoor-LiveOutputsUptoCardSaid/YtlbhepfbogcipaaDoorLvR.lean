/- The walk of live.readers. -/
import Derived.Test.YtlbhepfbogcipaaDoorLvRp
import Derived.Deep.AppendLies
set_option linter.unusedVariables false
set_option linter.unusedSimpArgs false
namespace Go.Proofs.YtlbhepfbogcipaaDoor
open Go.RowKit Go.WideMaps Go.Maps

theorem MapS.grown {w w' : World} {b n : Nat} {l : List (ByteArray × Int)} {row : Option Nat} (h : MapS w b n l) (hg : w.grownBy w' row) (hne : some b ≠ row) : MapS w' b n l := World.ownsMap.kept h hg hne
theorem MapS.set {w : World} {b n : Nat} {l : List (ByteArray × Int)} (h : MapS w b n l) {a : Addr} (ha : b ≠ a.block) (u : Value) : MapS (w.setCell a u) b n l := World.ownsMap.setCell h ha u
theorem MapS.lt {w : World} {b n : Nat} {l : List (ByteArray × Int)} (h : MapS w b n l) : b < w.heap.size := World.ownsMap.lt h
theorem has_prL {H : Type} (l : List Nd) (i : Nat) (s : ByteArray) : Maps.has (putAll (prL l i) : DataW H) (keyS s) = (prL l i).any fun p => decide (p.1 = s) := has_putAll _ _
theorem IntRows.rd {w : World} {B n : Nat} {rs : List Value} {F : Nat → List Nat} (h : IntRows w B n rs F) {k : Nat} {r : Value} (hr : rs[k]? = some r) (hl : (F k).length ≤ 2000000) (hi : ∀ i ∈ F k, i < 2000000) : IntsIn w r ((F k).map fun (i : Nat) => (i : Int)) := by
  refine IntsIn.of_owns (B := B + 1) (t := 3) ?_ (by simp; omega) (fun z hz => ?_)
  · rw [List.length_map, List.map_map]; exact h.row k _ hr
  · obtain ⟨i, hm, rfl⟩ := List.mem_map.1 hz
    have := hi i hm
    unfold InI; omega

attribute [local irreducible] midR prL rdsL readsL

set_option maxRecDepth 100000 in
set_option maxHeartbeats 4000000 in
theorem lreaders_any {w : World} {v : Value} {l : List Nd} (h : SlIn 5 rdNodeG w v l) (hn : (l.map (·.out)).Nodup) (hlen : l.length ≤ 1000) :
    Calls Tryd.prog 13 #[v] w fun e w' => Below w.heap.size w w' ∧ ∃ v', e = .returned v' ∧ TabN w' v' l.length (rdsL l) := by
  have hmm := @run_makeMap Tryd.prog
  obtain ⟨i0, hi, hz0, hz1, hz2⟩ := info_parts info_int
  have HC := Lib.hid (fun (W : World) (vi : Value) (q : List Nat) (x : Nat) (h : IntsIn W vi (q.map fun (i : Nat) => (i : Int))) => containsN_any h x)
  have hms := run_make_nils
  obtain ⟨an, cn, rfl⟩ := h.form
  have HN := Lib.hid h
  have HU := Lib.hid hn
  clear h hn
  go_enter Tryd.func13, Tryd.ntmps13
  have hmk := hms (w.alloc (.map #[] 0)) l.length (by omega)
  have hM1 : MapS (w.alloc (.map #[] 0)) w.heap.size 0 [] := World.ownsMap_made w Tryd.prog 9 (plainElem (H := Unit) Tryd.prog 3)
  have HM1 := Lib.hid hM1
  have hB1 : Hid (Below w.heap.size w (w.alloc (.map #[] 0))) := Lib.hid ((Below.refl _ w).alloc (Nat.le_refl _) _)
  have hS1 : (w.alloc (.map #[] 0)).heap.size = w.heap.size + 1 := by simp
  go_wp2_with fail
  have HR2 : Hid (IntRows ((w.alloc (.map #[] 0)).alloc (.cells (nilRows l.length).toArray 40)) (w.heap.size + 1) l.length (nilRows l.length) (midR l 0 0)) := Lib.hid (by rw [← hS1]; exact IntRows.new _ _ (midR_start l))
  have HM2 : Hid (MapS ((w.alloc (.map #[] 0)).alloc (.cells (nilRows l.length).toArray 40)) w.heap.size 0 (prL l 0)) := Lib.hid (by rw [prL_zero]; exact HM1.out.below ((Below.refl _ _).alloc (Nat.le_refl _) _))
  have HB2 : Hid (Below w.heap.size w ((w.alloc (.map #[] 0)).alloc (.cells (nilRows l.length).toArray 40))) := Lib.hid (hB1.out.alloc hB1.out.size _)
  generalize (w.alloc (.map #[] 0)).alloc _ = W2 at HR2 HM2 HB2 ⊢
  clear hmk hM1 HM1 hB1 hS1 hmm hms
  go_loopw [17] (fun iv wr => ∃ (i : Nat) (rs : List Value), i ≤ l.length ∧ iv = .int .i64 (i : Int) ∧ Hid (IntRows wr (w.heap.size + 1) l.length rs (midR l i 0)) ∧ Hid (MapS wr w.heap.size i (prL l i)) ∧ Hid (Below w.heap.size w wr)) (fun iv _ => l.length - (intOf iv).toNat)
  case atStart => exact ⟨0, _, Nat.zero_le _, rfl, HR2, HM2, HB2⟩
  case round =>
    clear HR2 HM2 HB2
    obtain ⟨i, rs, hi', rfl, hR, hM, hW⟩ := hrel
    by_cases hil : i < l.length
    · have hii : (i : Int) < (l.length : Int) := by omega
      obtain ⟨x, hx⟩ : ∃ x, l[i]? = some x := ⟨_, List.getElem?_eq_getElem hil⟩
      obtain ⟨b, off, cap, vd, vx, hv, hb, c0, c1, c2, c3, c4, h3, h4, h5, h6⟩ := node_at HN.out hx
      obtain ⟨rfl, _, rfl⟩ := Value.slice.inj hv
      obtain ⟨ad, cd, rfl⟩ := h3.is.form
      obtain ⟨ax, cx, rfl⟩ := h3.ia.form
      have hB := hW.out
      have c0 := (hB.cell (p := ⟨b, off + i * 5, none⟩) hb).trans c0
      have c1 := (hB.cell (p := ⟨b, off + i * 5 + 1, none⟩) hb).trans c1
      have c2 := (hB.cell (p := ⟨b, off + i * 5 + 2, none⟩) hb).trans c2
      have c3 := (hB.cell (p := ⟨b, off + i * 5 + 3, none⟩) hb).trans c3
      have c4 := (hB.cell (p := ⟨b, off + i * 5 + 4, none⟩) hb).trans c4
      have HX := Lib.hid hx
      have HI := Lib.hid h3.is
      have HS5 := Lib.hid h5
      have HS6 := Lib.hid h6
      have hins := h3.is.len
      clear hv hx h3 h4 h5 h6 hB
      have HW3 : Hid (Below w.heap.size w (wr.alloc (.cells #[.string x.op, .string x.name, .slice ad x.ins.length cd, .string x.out, .slice ax x.attrs.length cx] 48))) := Lib.hid (hW.out.alloc hW.out.size _)
      have HA3 : Hid (Below wr.heap.size wr (wr.alloc (.cells #[.string x.op, .string x.name, .slice ad x.ins.length cd, .string x.out, .slice ax x.attrs.length cx] 48))) := Lib.hid ((Below.refl _ _).alloc (Nat.le_refl _) _)
      have HR3 := Lib.hid (hR.out.below HA3.out)
      have HM3 := Lib.hid (hM.out.below HA3.out)
      have HX3 := Lib.hid (BoxN.new wr #[.string x.op, .string x.name, .slice ad x.ins.length cd, .string x.out, .slice ax x.attrs.length cx] 48)
      have hs3 : Hid (w.heap.size + 1 < wr.heap.size) := Lib.hid hR.out.box.lt
      go_wp2_with fail
      generalize hbx : wr.heap.size = Bx at *
      generalize wr.alloc _ = W3 at HW3 HR3 HM3 HX3 HA3 ⊢
      clear hR hM hW HA3 c0 c1 c2 c3 c4
      obtain ⟨k0, k1, k2, k3, k4⟩ := HX3.out.fiveG
      go_wp2_with fail
      clear k0 k1 k2 k3 k4
      go_loopw [25] (fun jv wr => ∃ (j : Nat) (rs : List Value), j ≤ x.ins.length ∧ jv = .int .i64 (j : Int) ∧ Hid (IntRows wr (w.heap.size + 1) l.length rs (midR l i j)) ∧ Hid (MapS wr w.heap.size i (prL l i)) ∧ Hid (Below w.heap.size w wr) ∧ Hid (BoxN wr Bx #[.string x.op, .string x.name, .slice ad x.ins.length cd, .string x.out, .slice ax x.attrs.length cx] 48)) (fun jv _ => x.ins.length - (intOf jv).toNat)
      case atStart => exact ⟨0, _, Nat.zero_le _, rfl, HR3, HM3, HW3, HX3⟩
      case round =>
        obtain ⟨j, rs, hj, rfl, hR, hM, hW, hX⟩ := hrel
        by_cases hjl : j < x.ins.length
        · have hji : (j : Int) < (x.ins.length : Int) := by omega
          obtain ⟨s, hs⟩ : ∃ s, x.ins[j]? = some s := ⟨_, List.getElem?_eq_getElem hjl⟩
          obtain ⟨b2, off2, cap2, hv, hb2, hr2⟩ := HI.out.rows j s hs
          obtain ⟨rfl, _, rfl⟩ := Value.slice.inj hv
          have c5 := (hW.out.cell (p := ⟨b2, off2 + j, none⟩) hb2).trans (hr2 j s hs)
          have hkey := key_str (HS6.out s (List.mem_of_getElem? hs))
          have hm := hM.out
          unfold MapS at hm
          have HSJ := Lib.hid hs
          clear hv hr2 hs
          cases hhas : (prL l i).any (fun p => decide (p.1 = s)) with
          | false =>
            have hh : Maps.has (putAll (prL l i) : DataW Unit) (keyS s) = false := (has_prL _ _ _).trans hhas
            have HR' := Lib.hid (hR.out.eq (F' := midR l i (j + 1)) (fun k => midR_same HX.out HSJ.out (fun y hk hy => prL_miss hhas hk hy)))
            clear hhas
            go_wp2_with (at_lookup; refine wpList_lookup_own_ok_int _ rfl _ _ 60 rfl 9 3 .i64 keyed_str Tryd.underlying60 Tryd.underlying3 (zero_int _) w.heap.size i _ rfl hm _ _ rfl hkey ?_; intro c hat hwc)
            go_roundw
            case rel => exact ⟨j + 1, rs, by omega, by go_num, HR', hM, hW, hX⟩
            case measure => simp [intOf]; omega
          | true =>
            obtain ⟨k, y, hki, hy, hys, hpk⟩ := prL_hit hhas
            have hh : Maps.has (putAll (prL l i) : DataW Unit) (keyS s) = true := (has_prL _ _ _).trans hhas
            have HPK := Lib.hid hpk
            have HY := Lib.hid hy
            have HYS := Lib.hid hys
            have hkl : k < l.length := by omega
            obtain ⟨r, hr⟩ : ∃ r, rs[k]? = some r := ⟨_, List.getElem?_eq_getElem (by rw [hR.out.len]; exact hkl)⟩
            have HRr := Lib.hid hr
            have HI' := Lib.hid (hR.out.rd hr (by have := midR_len (l := l) (i := i) (j := j) (k := k); omega) (fun q hq => by have := midR_lt q hq; omega))
            obtain ⟨ar, cr, er⟩ := owns_form (hR.out.row k r hr)
            have d0 : wr.cell? ⟨w.heap.size + 1, k, none⟩ = some r := hR.out.box.cell k (by rw [List.getElem?_toArray]; exact hr)
            have hml := midR_len (l := l) (i := i) (j := j) (k := k)
            have HO : Hid (∀ a, a ≠ k → midR l i (j + 1) a = midR l i j a) := Lib.hid fun a ha => midR_same HX.out HSJ.out fun z hz hz2 e => ha (outs_one HU.out hz2 HY.out (e.trans HYS.out.symm))
            clear hhas hpk hy hys hr
            subst er
            have hk0 : ¬ (k : Int) < 0 := by omega
            have hk1 : (k : Int) < (l.length : Int) := by omega
            go_wp2_with (at_lookup; refine wpList_lookup_own_ok_int _ rfl _ _ 60 rfl 9 3 .i64 keyed_str Tryd.underlying60 Tryd.underlying3 (zero_int _) w.heap.size i _ rfl hm _ _ rfl hkey ?_; intro c hat hwc; obtain rfl := at_pick hat HPK.out)
            refine (HC.out _ _ (midR l i j k) i HI'.out).mono ?_
            rintro e w5 ⟨rfl, hw5⟩
            obtain rfl := hw5.symm
            obtain ⟨bq, hbq⟩ : ∃ bq, (midR l i j k).contains i = bq := ⟨_, rfl⟩
            have HCq := Lib.hid hbq
            rw [hbq]
            clear hbq
            cases bq with
            | true =>
              have HR' := Lib.hid (hR.out.eq (F' := midR l i (j + 1)) (fun a => by
                by_cases ha : a = k
                · rw [ha]; exact midR_had HX.out HSJ.out HY.out HCq.out
                · exact HO.out a ha))
              go_wp2_with fail
              go_roundw
              case rel => exact ⟨j + 1, rs, by omega, by go_num, HR', hM, hW, hX⟩
              case measure => simp [intOf]; omega
            | false =>
              have HNew := Lib.hid (midR_new HX.out HSJ.out HY.out hki HYS.out HCq.out)
              have HA4 : Hid (Below wr.heap.size wr (wr.alloc (.cells #[.int .i64 (i : Int)] 3))) := Lib.hid ((Below.refl _ _).alloc (Nat.le_refl _) _)
              have HR4 := Lib.hid (hR.out.below HA4.out)
              have HM4 := Lib.hid (hM.out.below HA4.out)
              have HX4 := Lib.hid (hX.out.below' HA4.out)
              have HRow4 := Lib.hid (HR4.out.row k _ HRr.out)
              have HW4 : Hid (Below w.heap.size w (wr.alloc (.cells #[.int .i64 (i : Int)] 3))) := Lib.hid (hW.out.alloc hW.out.size _)
              have hs4 := HW4.out.size
              have hs5 := HR4.out.box.lt
              go_wp2_with (at_builtin; refine wpList_append_lies _ rfl _ _ 40 rfl (w.heap.size + 1 + 1) 3 i0 (.int .i64 0) 1 8 Tryd.underlying40 hi hz0 hz1 hz2 rfl (by decide) _ _ _ rfl HRow4.out ⟨wr.heap.size, 0, none⟩ 1 1 (#[.int .i64 (i : Int)] : Array Value).toList rfl rfl (World.news_of_block (heap_alloc_new wr _)) (by simp [Value.oneCell']) (by decide) ?A3 ?A4 ?A5 _ rfl ?_)
              case A3 => unfold maxLen; omega
              case A4 => omega
              case A5 => omega
              intro gq cq w4 hown hgrow hat hlt
              have hnb : ∀ z, Value.ownBlock (.slice ar (midR l i j k).length cr) = some z → w.heap.size + 1 + 1 ≤ z := fun z hz => (HRow4.out.lt z hz).1
              have HBX := Lib.hid (box_grown HR4.out.box hgrow (fun e => by have := hnb _ e; omega))
              have HX5 := Lib.hid (box_grown HX4.out hgrow (fun e => owns_box HRow4.out HX4.out (by decide) _ e rfl))
              have HM5 := Lib.hid (HM4.out.grown hgrow (fun e => by have := hnb _ e.symm; omega))
              have HW5 : Hid (Below w.heap.size w w4) := Lib.hid (HW4.out.grown hgrow (by omega) (fun z hz => by have := hnb z hz; omega))
              have HR5 := Lib.hid (HR4.out.push (i := i) HRr.out hown hgrow (by rw [World.size_alloc]; exact hat) HNew.out HO.out)
              have f0 := HBX.out.frozen k
              have d1 : w4.cell? ⟨w.heap.size + 1, k, none⟩ = some (.slice ar (midR l i j k).length cr) := HBX.out.cell k (by rw [List.getElem?_toArray]; exact HRr.out)
              clear hown hgrow hat hlt hnb hm
              have hne : Bx ≠ w.heap.size + 1 := fun e => by have := hs3.out; omega
              have HX6 : Hid (BoxN (w4.setCell ⟨w.heap.size + 1, k, none⟩ (.slice (some ⟨gq, 0, none⟩) ((midR l i j k).length + 1) cq)) Bx _ 48) := Lib.hid ((Below.heap_setCell _ _ _ _ hne).trans HX5.out)
              have HM6 := Lib.hid (HM5.out.set (a := ⟨w.heap.size + 1, k, none⟩) (by simp) (.slice (some ⟨gq, 0, none⟩) ((midR l i j k).length + 1) cq))
              have HW6 : Hid (Below w.heap.size w (w4.setCell ⟨w.heap.size + 1, k, none⟩ (.slice (some ⟨gq, 0, none⟩) ((midR l i j k).length + 1) cq))) := Lib.hid (HW5.out.setCell (p := ⟨w.heap.size + 1, k, none⟩) (by simp) _)
              go_wp2_with fail
              go_roundw
              case rel => exact ⟨j + 1, _, by omega, by go_num, HR5, HM6, HW6, HX6⟩
              case measure => simp [intOf]; omega
        · have hji : ¬ (j : Int) < (x.ins.length : Int) := by omega
          obtain rfl : j = x.ins.length := by omega
          have hkey := key_str HS5.out
          have hval := plainElem_int (H := Unit) Tryd.underlying3 (wf_i64 (x := (i : Int)) (by unfold InI; omega))
          have hm := hM.out
          unfold MapS at hm
          obtain ⟨k0, k1, k2, k3, k4⟩ := hX.out.fiveG
          have HR' := Lib.hid (hR.out.eq (F' := midR l (i + 1) 0) (fun k => (midR_end HX.out k).symm))
          go_wp2_with (at_mapUpdate; refine wpList_mapUpdate_own _ rfl _ _ _ 60 rfl 9 3 keyed_str Tryd.underlying60 _ w.heap.size i _ rfl hm (by unfold maxLen; omega) _ _ _ rfl rfl hkey _ [] hval ?_; intro w1 hown1 hgrow1)
          have HM' : Hid (MapS w1 w.heap.size (i + 1) (prL l (i + 1))) := Lib.hid (by rw [prL_next HX.out]; unfold MapS; rw [putAll_snoc]; exact hown1)
          have HR1 := Lib.hid (HR'.out.keep (w' := w1) (fun b hb hl => hgrow1.block b hl (fun e => by have hq : b = w.heap.size := (by simpa using e); omega)))
          have HW1 : Hid (Below w.heap.size w w1) := Lib.hid (hW.out.grown hgrow1 hW.out.size (fun z hz => by have hq : w.heap.size = z := (by simpa using hz); omega))
          clear hown1 hgrow1
          go_wp2_with fail
          go_roundw
          case rel => exact ⟨i + 1, rs, by omega, by go_num, HR1, HM', HW1⟩
          case measure => simp [intOf]; omega
    · have hii : ¬ (i : Int) < (l.length : Int) := by omega
      obtain rfl : i = l.length := by omega
      have HT := Lib.hid ((hR.out.eq (F' := rdsL l) (fun k => (midR_full l k).symm)).tab (fun k => ⟨by rw [← midR_full]; have := midR_len (l := l) (i := l.length) (j := 0) (k := k); omega, fun r hr => by rw [← midR_full] at hr; have := midR_lt r hr; omega⟩))
      go_wp2
      go_ret
      exact ⟨hW.out, _, rfl, HT.out⟩

end Go.Proofs.YtlbhepfbogcipaaDoor
