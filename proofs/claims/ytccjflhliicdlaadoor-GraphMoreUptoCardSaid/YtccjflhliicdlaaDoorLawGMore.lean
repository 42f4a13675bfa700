/- The walk of the law GraphMore. -/
import Derived.Test.YtccjflhliicdlaaDoorGrF
import Derived.Test.YtccjflhliicdlaaDoorGrV
import Derived.Test.YtccjflhliicdlaaDoorGrY
import Derived.Test.YtccjflhliicdlaaDoorGrH
import Derived.Test.YtccjflhliicdlaaDoorSchRy
import Derived.BigQuiet
import Derived.Deep.QuietTactic
import Derived.Test.YtccjflhliicdlaaDoorSchX
import Derived.Test.YtccjflhliicdlaaDoorSchXn
import Derived.Deep.DeepWitnessRowRef
import Derived.ChangeMaps5
set_option linter.unusedVariables false
set_option linter.unusedSimpArgs false
namespace Go.Proofs.YtccjflhliicdlaaDoor
open Go.RowKit

theorem nats_intsJ {w : World} {B : Nat} {v : Value} {l : List Nat} (h : w.ownsRow B 3 1 v l.length (natsV l)) (hl : l.length ≤ 2000000) (hb : ∀ i ∈ l, i < 2000000) : IntsIn w v (l.map fun (i : Nat) => (i : Int)) := by
  refine IntsIn.of_owns (B := B) (t := 3) ?_ (by simp; omega) (fun z hz => ?_)
  · rw [List.length_map, List.map_map]; exact h
  · obtain ⟨i, hi, rfl⟩ := List.mem_map.1 hz
    have := hb i hi
    unfold InI; omega
theorem rsame_sameJ {w : World} {a b : Value} {xs : List Int} (h1 : IntsIn w a xs) (h2 : IntsIn w b xs) :
    Calls Tryd.prog 11 #[a, b] w fun e w' => e = .returned (.bool true) ∧ Below w.heap.size w w' := by
  have := rsame_any h1 h2
  rwa [decide_eq_true rfl] at this

/-- Values whose dimensions are the call's own, or lie as they lay in an earlier world. -/
def valA (w0 : World) (w' : World) (B : Nat) (y : Vl) (d : Value) : Prop := dimsO w' B y d ∨ IntsIn w0 d y.dims
abbrev ValsA (w0 : World) := RowO 46 3 valC (valA w0)
theorem ValsO.toA {w0 w : World} {B : Nat} {l : List Vl} {v : Value} {ds : List Value} (h : ValsO w B l v ds) : ValsA w0 w B l v ds := ⟨h.len, h.row, fun j x d h1 h2 => Or.inl (h.att j x d h1 h2)⟩
theorem valA_keep {w0 : World} {ts : List TypeId} {w w' : World} {B : Nat} (hk : KeepT ts B w w') (h1 : 3 ∈ ts) : ∀ x d, valA w0 w B x d → valA w0 w' B x d := fun x d h => h.imp (dims_keep hk h1 x d) id
theorem ValsA.reads' {w0 w : World} {B : Nat} {l : List Vl} {v : Value} {ds : List Value} (h : ValsA w0 w B l v ds) (hB : Below w0.heap.size w0 w) (hl : l.length ≤ 1048575) (hb : ∀ x ∈ l, x.name.size ≤ 1048576 ∧ InI x.typ ∧ x.dims.length * 8 ≤ 140737488351232 ∧ ∀ z ∈ x.dims, InI z) : SlIn 3 rdValue w v l :=
  RowO.reads h (fun _ _ => rfl) hl fun x d hx hd => by
    obtain ⟨b1, b2, b3⟩ := hb x hx
    refine ⟨d, rfl, b1, b2, ?_⟩
    rcases hd with hd | hd
    · exact IntsIn.of_owns hd b3.1 b3.2
    · exact hd.below hB
/-- Behind an append to another row of the same type. -/
theorem vals_apart {w w' : World} {B b z n : Nat} {l : List Vl} {v v2 : Value} {xs : List Value} (h : ∃ ds, ValsO w B l v ds) (hr : w.ownsRow b 46 z v2 n xs) (hg : w.grownBy w' v2.ownBlock) (ha : ApartV v2 v) : ∃ ds, ValsO w' B l v ds := by
  obtain ⟨ds, h⟩ := h
  refine ⟨ds, h.len, h.row.kept hg ?_, fun j x d h1 h2 => dims_keep (keep_grown (ts := [3]) hr hg (by decide)) (by decide) x d (h.att j x d h1 h2)⟩
  cases e : v.ownBlock with
  | none => exact Or.inl rfl
  | some y => exact Or.inr (fun c => ha y c.symm e)

theorem names_all {g : Gr} {s : ByteArray} (h : s ∈ namesG g) : s ∈ allN g := by
  unfold namesG at h
  unfold allN nmT nmO nmV
  rcases List.mem_append.1 h with h | h
  · rcases List.mem_append.1 h with h | h
    · simp only [List.nil_append, List.mem_append]
      exact Or.inl (Or.inl (Or.inl h))
    · simp only [List.nil_append, List.mem_append]
      exact Or.inl (Or.inr h)
  · obtain ⟨n, hn, e⟩ := List.mem_map.1 h
    refine List.mem_append_right _ (List.mem_flatMap.2 ⟨n, hn, ?_⟩)
    rw [← e]
    unfold nodeN
    simp
theorem not_names {g : Gr} {s : ByteArray} (h : hasS (allN g) s = false) : s ∉ namesG g := fun c => by
  have := hasS_iff.2 (names_all c)
  rw [h] at this; cases this
theorem more_orderL {g : Gr} {x : Vl} (h : orderE (more g x) = 0 ∧ work (more g x) = work g) : orderL (more g x) = work g := by rw [orderL_full h.1, h.2]

theorem orderL_ok {g : Gr} (h : g.nodes.length ≤ 1048575) : (orderL g).length ≤ 2000000 ∧ ∀ i ∈ orderL g, i < 2000000 := by
  unfold orderL
  by_cases e : orderE g = 0
  · rw [if_pos e]
    have hg := work_good g
    exact ⟨by have := hg.len; omega, fun i hi => by have := hg.lt i hi; omega⟩
  · rw [if_neg e]
    exact ⟨by simp, by simp⟩

attribute [local irreducible] orderE orderL work rdrs hasS allN allLen more chk cnt

set_option maxRecDepth 100000 in
set_option maxHeartbeats 4000000 in
theorem morelaw_any {w : World} {v xv vd : Value} {g : Gr} {x : Vl} (h : GraphV w v g) (hM : allLen g + 3 ≤ 1048576) (hx : xv = .agg #[.string x.name, .int .i64 x.typ, vd]) (hxn : x.name.size ≤ 1048576) (hxt : InI x.typ) (hxd : IntsIn w vd x.dims) (hG : Glob w) :
    Calls Tryd.prog 8 #[v, xv] w fun e w' => e = .returned (.bool true) ∧ Below w.heap.size w w' := by
  subst hx
  obtain ⟨i0, hi, hz0, hz1, hz2⟩ := info_parts info_value
  have HAl := Lib.hid (fun (W : World) (vi : Value) (h : GraphV W vi g) => gall_any h (by omega : allLen g ≤ 1048576))
  have HO := Lib.hid (fun (W : World) (vi : Value) (h : GraphV W vi g) (hG : Glob W) => order_any h hG)
  have HO2 := Lib.hid (fun (W : World) (vi : Value) (h : GraphV W vi (more g x)) (hG : Glob W) => order_any h hG)
  have HC := Lib.hid (fun (W : World) (vi : Value) (h : GraphV W vi g) => gcopy_any h)
  have HL := Lib.hid (fun (W : World) (hG : Glob W) => glive_any hG)
  obtain ⟨vn, vi, vo, vt, rfl, hg⟩ := h
  obtain ⟨an, cn, rfl⟩ := hg.nodes.form
  obtain ⟨ai, ci, rfl⟩ := hg.ins.form
  obtain ⟨at', ct, rfl⟩ := hg.inits.form
  obtain ⟨ad, cd, rfl⟩ := hxd.shape
  have hln := hg.nodes.len
  have hlt2 := hg.inits.len
  have hil : g.ins.length + 1 ≤ 1048575 := by unfold allLen at hM; omega
  have HN := Lib.hid hg
  have HGl := Lib.hid hG
  have HXD := Lib.hid hxd
  have HXB := Lib.hid (And.intro hxn (And.intro hxt hxd.wf))
  clear hg hG hxn hxt hxd
  unfold Gr.val
  go_enter Tryd.func8, Tryd.ntmps8
  go_wp2_with fail
  generalize hw1 : (w.alloc _).alloc _ = W1
  have hA1 : Hid (BoxN W1 w.heap.size #[Value.string g.name, .slice an g.nodes.length cn, .slice ai g.ins.length ci, vo, .slice at' g.inits.length ct] 26) := Lib.hid (by rw [← hw1]; exact (BoxN.new w _ _).below' ((Below.refl _ _).alloc (Nat.le_refl _) _))
  have hE1 : Hid (BoxN W1 (w.heap.size + 1) #[.string x.name, .int .i64 x.typ, .slice ad x.dims.length cd] 46) := Lib.hid (by
    have := BoxN.new (w.alloc (Obj.cells #[Value.string g.name, .slice an g.nodes.length cn, .slice ai g.ins.length ci, vo, .slice at' g.inits.length ct] 26)) #[.string x.name, .int .i64 x.typ, .slice ad x.dims.length cd] 46
    rw [World.size_alloc] at this
    rw [← hw1]; exact this)
  have hB1 : Hid (Below w.heap.size w W1) := Lib.hid (by rw [← hw1]; exact ((Below.refl _ w).alloc (Nat.le_refl _) _).alloc (by simp) _)
  clear hw1
  have hGV : Hid (∀ W, Below W1.heap.size W1 W → GraphV W (.agg #[Value.string g.name, .slice an g.nodes.length cn, .slice ai g.ins.length ci, vo, .slice at' g.inits.length ct]) g) := Lib.hid fun W hW => ⟨_, _, _, _, rfl, HN.out.below (hB1.out.trans (hW.mono hB1.out.size))⟩
  refine (HAl.out _ _ (hGV.out W1 (Below.refl _ _))).mono ?_
  rintro e w3 ⟨lv, rfl, hl3, B3⟩
  have HLen : Hid ((allN g).length = allLen g) := Lib.hid (by have := hl3.1; simpa using this)
  have HS3 : Hid (StrsIn w3 lv (allN g)) := Lib.hid (StrsIn.own hl3 HLen.out (by omega))
  obtain ⟨al, cl, rfl⟩ := owns_form hl3
  have HW3 : Hid (Below W1.heap.size W1 w3) := Lib.hid B3
  clear hl3 B3 HAl
  go_wp2_with fail
  have hlive : ∀ (W : World), Hid (Below w.heap.size w W) → Hid (Calls Tryd.prog 14 #[] W fun e w' => e = .returned (.bool true) ∧ Below w.heap.size w w') := fun W hB => Lib.hid ((HL.out W (HGl.out.below hB.out)).mono fun e w' h => ⟨h.1, hB.out.trans (h.2.mono hB.out.size)⟩)
  have HLive := Lib.hid hlive
  clear hlive HL
  go_loopw [6] (fun i wr => ∃ (k : Nat), k ≤ allLen g ∧ i = .int .i64 (k : Int) ∧ Hid (hasS ((allN g).take k) x.name = false) ∧ Hid (Below w3.heap.size w3 wr)) (fun i _ => allLen g - (intOf i).toNat)
  case atStart => exact ⟨0, Nat.zero_le _, rfl, Lib.hid (by unfold hasS; simp), Lib.hid (Below.refl _ _)⟩
  case round =>
    obtain ⟨k, hk, rfl, hT, hW⟩ := hrel
    have hW1 := Lib.hid (HW3.out.trans (hW.out.mono HW3.out.size))
    have hBw := Lib.hid (hB1.out.trans (hW1.out.mono hB1.out.size))
    by_cases hkl : k < allLen g
    · have hki : (k : Int) < (allLen g : Int) := by omega
      obtain ⟨s, hs⟩ : ∃ s, (allN g)[k]? = some s := ⟨_, List.getElem?_eq_getElem (by rw [HLen.out]; exact hkl)⟩
      obtain ⟨b, off, cap, hv, hb, hr⟩ := HS3.out.rows k s hs
      rw [HLen.out] at hv
      obtain ⟨rfl, _, rfl⟩ := Value.slice.inj hv
      have c0 := (hW.out.cell (p := ⟨b, off + k, none⟩) hb).trans (hr k s hs)
      have e0 := (hE1.out.below' hW1.out).threeG.1
      have HSs := Lib.hid hs
      clear hv hr hs
      by_cases hx : s.toList = x.name.toList
      · have hxb : (s.toList == x.name.toList) = true := by simpa using hx
        go_wp2_with fail
        go_quiet (fail)
        go_wp2_with fail
        refine (HLive.out _ (Lib.hid (below_dN hBw.out _))).out.mono ?_
        rintro e w7 ⟨rfl, B7⟩
        have HB7 := Lib.hid B7
        clear B7
        go_wp2
        go_ret
        exact ⟨rfl, HB7.out⟩
      · have hxb : (s.toList == x.name.toList) = false := by simpa using hx
        have e := Lib.hid (hasS_next hT.out HSs.out (str_ne hx))
        go_wp2_with fail
        go_quiet (fail)
        go_wp2_with fail
        go_roundw
        case rel => exact ⟨k + 1, by omega, by go_num, e, Lib.hid (below_dN hW.out _)⟩
        case measure => simp [intOf]; omega
    · have hki : ¬ (k : Int) < (allLen g : Int) := by omega
      obtain rfl : k = allLen g := by omega
      have HNo : Hid (x.name ∉ namesG g) := Lib.hid (not_names (by have := hT.out; rwa [← HLen.out, List.take_length] at this))
      have HWr := hW1
      obtain ⟨k0, k1, k2, k3, k4⟩ := (hA1.out.below' hW1.out).fiveG
      go_wp2_with fail
      refine (HO.out _ _ (hGV.out wr hW1.out) (HGl.out.below hBw.out)).mono ?_
      rintro e w5 ⟨v5, rfl, ho5, B5⟩
      have HR5 := Lib.hid ho5
      have HW5 : Hid (Below W1.heap.size W1 w5) := Lib.hid (hW1.out.trans (B5.mono hW1.out.size))
      clear B5 ho5 k0 k1 k2 k3 k4 hW hT hW1 hBw HS3 HW3
      obtain ⟨a5, c5, rfl⟩ := owns_form HR5.out
      obtain ⟨k0, k1, k2, k3, k4⟩ := (hA1.out.below' HW5.out).fiveG
      go_wp2_with fail
      clear k0 k1 k2 k3 k4
      refine (HC.out _ _ (hGV.out w5 HW5.out)).mono ?_
      rintro e w6 ⟨wn, wi, wo, wt, rfl, ho, B6⟩
      have HO6 := Lib.hid ho
      have HG6 : Hid (GraphN w6 g wn wi wo wt) := Lib.hid (ho.reads HN.out)
      have HW6 : Hid (Below W1.heap.size W1 w6) := Lib.hid (HW5.out.trans (B6.mono HW5.out.size))
      have HR6 := Lib.hid (owns_below HR5.out B6)
      have hs56 := B6.size
      clear ho B6 HR5
      obtain ⟨an2, cn2, rfl⟩ := HG6.out.nodes.form
      obtain ⟨ai2, ci2, rfl⟩ := HG6.out.ins.form
      obtain ⟨ao2, co2, rfl⟩ := HG6.out.outs.form
      obtain ⟨at2, ct2, rfl⟩ := HG6.out.inits.form
      unfold Gr.val
      have HB7 : Hid (Below w6.heap.size w6 (w6.alloc (.cells #[Value.string g.name, .slice an2 g.nodes.length cn2, .slice ai2 g.ins.length ci2, .slice ao2 g.outs.length co2, .slice at2 g.inits.length ct2] 26))) := Lib.hid ((Below.refl _ _).alloc (Nat.le_refl _) _)
      have HB8 : Hid (Below w6.heap.size w6 ((w6.alloc (.cells #[Value.string g.name, .slice an2 g.nodes.length cn2, .slice ai2 g.ins.length ci2, .slice ao2 g.outs.length co2, .slice at2 g.inits.length ct2] 26)).alloc (.cells #[.string x.name, .int .i64 x.typ, .slice ad x.dims.length cd] 46))) := Lib.hid (HB7.out.alloc HB7.out.size _)
      have HX7 := Lib.hid (BoxN.new w6 #[Value.string g.name, .slice an2 g.nodes.length cn2, .slice ai2 g.ins.length ci2, .slice ao2 g.outs.length co2, .slice at2 g.inits.length ct2] 26)
      have HX8 : Hid (BoxN ((w6.alloc (.cells #[Value.string g.name, .slice an2 g.nodes.length cn2, .slice ai2 g.ins.length ci2, .slice ao2 g.outs.length co2, .slice at2 g.inits.length ct2] 26)).alloc (.cells #[.string x.name, .int .i64 x.typ, .slice ad x.dims.length cd] 46)) w6.heap.size #[Value.string g.name, .slice an2 g.nodes.length cn2, .slice ai2 g.ins.length ci2, .slice ao2 g.outs.length co2, .slice at2 g.inits.length ct2] 26) := Lib.hid (HX7.out.below' ((Below.refl _ _).alloc (Nat.le_refl _) _))
      have hE7 : Hid (BoxN (w6.alloc (.cells #[Value.string g.name, .slice an2 g.nodes.length cn2, .slice ai2 g.ins.length ci2, .slice ao2 g.outs.length co2, .slice at2 g.inits.length ct2] 26)) (w.heap.size + 1) #[.string x.name, .int .i64 x.typ, .slice ad x.dims.length cd] 46) := Lib.hid ((hE1.out.below' HW6.out).below' HB7.out)
      obtain ⟨ds, hds⟩ := HO6.out.ins
      have HIns8 : Hid (ValsA w ((w6.alloc (.cells #[Value.string g.name, .slice an2 g.nodes.length cn2, .slice ai2 g.ins.length ci2, .slice ao2 g.outs.length co2, .slice at2 g.inits.length ct2] 26)).alloc (.cells #[.string x.name, .int .i64 x.typ, .slice ad x.dims.length cd] 46)) w5.heap.size g.ins (.slice ai2 g.ins.length ci2) ds) := Lib.hid (ValsO.toA (vals_below hds HB8.out))
      clear hds
      have HRow8 : Hid (((w6.alloc (.cells #[Value.string g.name, .slice an2 g.nodes.length cn2, .slice ai2 g.ins.length ci2, .slice ao2 g.outs.length co2, .slice at2 g.inits.length ct2] 26)).alloc (.cells #[.string x.name, .int .i64 x.typ, .slice ad x.dims.length cd] 46)).ownsRow w5.heap.size 46 3 (.slice ai2 g.ins.length ci2) g.ins.length (rowG valC g.ins ds)) := Lib.hid HIns8.out.row
      have hR8 : Hid (((w6.alloc (.cells #[Value.string g.name, .slice an2 g.nodes.length cn2, .slice ai2 g.ins.length ci2, .slice ao2 g.outs.length co2, .slice at2 g.inits.length ct2] 26)).alloc (.cells #[.string x.name, .int .i64 x.typ, .slice ad x.dims.length cd] 46)).ownsRow w.heap.size 3 1 (.slice a5 (orderL g).length c5) (orderL g).length (natsV (orderL g))) := Lib.hid (by
        have hsw : w.heap.size ≤ wr.heap.size := by have h1 := HW5.out.size; have h2 := hB1.out.size; have := HWr.out.size; omega
        exact owns_below (owns_base HR6.out hsw) HB8.out)
      have z2 := HX7.out.fiveG.2.2.1
      obtain ⟨e0, e1, e2⟩ := hE7.out.threeG
      go_wp2_with (at_builtin; refine wpList_append_own _ rfl _ _ 23 rfl w5.heap.size 46 i0 (.agg #[.string ⟨#[]⟩, .int .i64 0, .slice none 0 0]) 3 48 Tryd.underlying23 hi hz0 hz1 hz2 rfl (by decide) _ _ _ rfl HRow8.out ⟨w6.heap.size + 1, 0, none⟩ 1 1 (#[.string x.name, .int .i64 x.typ, .slice ad x.dims.length cd] : Array Value).toList rfl rfl (World.news_of_block (heap_alloc_at (by simp))) ?A2 ?A3 ?A4 ?A5 ?_)
      case A2 => exact ⟨rfl, rfl, rfl⟩
      case A3 => unfold maxLen; omega
      case A4 => omega
      case A5 => simp; omega
      intro v' w9 hown' hgrow _
      obtain ⟨a9, c9, rfl⟩ := owns_form hown'
      have KB : KeepT [3, 2, 9, 76, 41, 51] w5.heap.size _ w9 := keep_grown HRow8.out hgrow (by decide)
      have KB0 : KeepT [3, 2, 9, 76, 41, 51] w.heap.size _ w9 := keep_grown HRow8.out hgrow (by decide)
      have HX9 := Lib.hid (box_grown HX8.out hgrow (fun e => owns_box HRow8.out HX8.out (by decide) _ e rfl))
      have KC : KeepT [3, 2, 9, 76, 41, 46, 51] w5.heap.size w9 (w9.setCell ⟨w6.heap.size, 2, none⟩ (.slice a9 (g.ins.length + 1) c9)) := keep_set HX9.out (by decide)
      have KC0 : KeepT [3, 2, 9, 76, 41, 46, 51] w.heap.size w9 (w9.setCell ⟨w6.heap.size, 2, none⟩ (.slice a9 (g.ins.length + 1) c9)) := keep_set HX9.out (by decide)
      have hsz0 : W1.heap.size ≤ w5.heap.size := HW5.out.size
      have HB10 : Hid (Below W1.heap.size W1 (w9.setCell ⟨w6.heap.size, 2, none⟩ (.slice a9 (g.ins.length + 1) c9))) := Lib.hid (((HW6.out.trans (HB8.out.mono HW6.out.size)).grown hgrow (by have := HW6.out.size; simp; omega) (fun y hy => by have := (HRow8.out.lt y hy).1; omega)).setCell (p := ⟨w6.heap.size, 2, none⟩) HW6.out.size _)
      have HX10 : Hid (BoxN (w9.setCell ⟨w6.heap.size, 2, none⟩ (.slice a9 (g.ins.length + 1) c9)) w6.heap.size #[Value.string g.name, .slice an2 g.nodes.length cn2, .slice a9 (g.ins.length + 1) c9, .slice ao2 g.outs.length co2, .slice at2 g.inits.length ct2] 26) := Lib.hid (HX9.out.set 2 _)
      have hbw10 : Below w.heap.size w (w9.setCell ⟨w6.heap.size, 2, none⟩ (.slice a9 (g.ins.length + 1) c9)) := hB1.out.trans (HB10.out.mono hB1.out.size)
      have HIns10 : Hid (SlIn 3 rdValue (w9.setCell ⟨w6.heap.size, 2, none⟩ (.slice a9 (g.ins.length + 1) c9)) (.slice a9 (g.ins.length + 1) c9) (g.ins ++ [x])) := Lib.hid (by
        have h9 : ValsA w w9 w5.heap.size (g.ins ++ [x]) (.slice a9 (g.ins.length + 1) c9) (ds ++ [.slice ad x.dims.length cd]) := RowO.push HIns8.out hown' (valA_keep KB (by decide)) (Or.inr HXD.out)
        have h10 : ValsA w (w9.setCell ⟨w6.heap.size, 2, none⟩ (.slice a9 (g.ins.length + 1) c9)) w5.heap.size (g.ins ++ [x]) (.slice a9 (g.ins.length + 1) c9) (ds ++ [.slice ad x.dims.length cd]) := RowO.keep h9 KC (by decide) (valA_keep KC (by decide))
        refine ValsA.reads' h10 hbw10 (by rw [List.length_append]; exact hil) (fun y hy => ?_)
        rcases List.mem_append.1 hy with hy | hy
        · exact value_bounds HN.out.ins y hy
        · obtain rfl : y = x := by simpa using hy
          exact ⟨HXB.out.1, HXB.out.2.1, HXB.out.2.2⟩)
      have HV10 : Hid (GraphV (w9.setCell ⟨w6.heap.size, 2, none⟩ (.slice a9 (g.ins.length + 1) c9)) (.agg #[Value.string g.name, .slice an2 g.nodes.length cn2, .slice a9 (g.ins.length + 1) c9, .slice ao2 g.outs.length co2, .slice at2 g.inits.length ct2]) (more g x)) := Lib.hid (by
        obtain ⟨ns, hns, _⟩ := HO6.out.nodes
        obtain ⟨ts, hts⟩ := HO6.out.inits
        have n10 := nodes_keep (nodes_keep (nodes_keep hns (keep_below (ts := [3, 2, 9, 76, 41, 46, 51]) HB8.out) (by decide) (by decide) (by decide) (by decide) (by decide)) KB (by decide) (by decide) (by decide) (by decide) (by decide)) KC (by decide) (by decide) (by decide) (by decide) (by decide)
        have t10 := nameds_keep (nameds_keep (nameds_keep hts (keep_below (ts := [3, 2, 9, 76, 41, 46, 51]) HB8.out) (by decide) (by decide) (by decide)) KB (by decide) (by decide) (by decide)) KC (by decide) (by decide) (by decide)
        obtain ⟨es, o10⟩ := vals_keep (vals_apart (vals_keep HO6.out.outs (keep_below (ts := [3, 2, 9, 76, 41, 46, 51]) HB8.out) (by decide) (by decide)) HRow8.out hgrow HO6.out.io) KC (by decide) (by decide)
        unfold more
        exact ⟨_, _, _, _, by unfold Gr.val; rfl, ⟨NodesO.reads' n10 HN.out.nodes, HIns10.out, ValsO.reads' o10 HN.out.outs, NamedsO.reads' t10 HN.out.inits⟩⟩)
      have HI10 : Hid (IntsIn (w9.setCell ⟨w6.heap.size, 2, none⟩ (.slice a9 (g.ins.length + 1) c9)) (.slice a5 (orderL g).length c5) ((orderL g).map fun (i : Nat) => (i : Int))) := Lib.hid (nats_intsJ (owns_keep (owns_keep hR8.out KB0 (Nat.le_refl _) (by decide)) KC0 (Nat.le_refl _) (by decide)) (orderL_ok hln).1 (orderL_ok hln).2)
      have z5 := HX9.out.fiveG.2.2.1
      have z6 := HX9.out.frozen 2
      obtain ⟨y0, y1, y2, y3, y4⟩ := HX10.out.fiveG
      clear hown' hgrow KB KB0 KC KC0 z2 e0 e1 e2 hbw10 HIns8 HIns10 HRow8 HX8 HX7 hE7 HB7 HB8 hR8 HR6
      go_wp2_with fail
      clear z5 z6 y0 y1 y2 y3 y4
      generalize World.setCell _ _ _ = W10 at HB10 HX10 HV10 HI10 ⊢
      have hbw10 := Lib.hid (hB1.out.trans (HB10.out.mono hB1.out.size))
      refine (HO2.out _ _ HV10.out (HGl.out.below hbw10.out)).mono ?_
      rintro e w11 ⟨v11, rfl, ho11, B11⟩
      have HB11 : Hid (Below W1.heap.size W1 w11) := Lib.hid (HB10.out.trans (B11.mono HB10.out.size))
      have HI11 := Lib.hid (HI10.out.below B11)
      have HR11 := Lib.hid ho11
      obtain ⟨a11, c11, rfl⟩ := owns_form ho11
      have hbw11 := Lib.hid (hB1.out.trans (HB11.out.mono hB1.out.size))
      clear ho11 B11 HI10 HV10 HX10 HB10 hbw10
      obtain ⟨e0, e1, e2⟩ := (hE1.out.below' HB11.out).threeG
      go_wp2_with fail
      refine (rcount_any (HXD.out.below hbw11.out)).mono ?_
      rintro e w12 ⟨rfl, rfl⟩
      obtain ⟨k0, k1, k2, k3, k4⟩ := (hA1.out.below' HB11.out).fiveG
      generalize hce : orderE g = ce
      have HCE := Lib.hid hce
      clear hce
      by_cases hz : ce = 0
      · have hzb : (ce != 0) = false := by simpa using hz
        have HFG := Lib.hid (fineG_of (HCE.out.trans hz))
        clear hz
        by_cases hn0 : x.name.toList = []
        · have hnb : (x.name.toList == []) = true := by simpa using hn0
          go_wp2_with fail
          refine (HLive.out _ hbw11).out.mono ?_
          rintro e wz ⟨rfl, Bz⟩
          have HBz := Lib.hid Bz
          clear Bz
          go_wp2
          go_ret
          exact ⟨rfl, HBz.out⟩
        · have hnb : (x.name.toList == []) = false := by simpa using hn0
          have HN0 : Hid (x.name ≠ ⟨#[]⟩) := Lib.hid (fun c => hn0 (by rw [c]; exact toList_nil'))
          go_wp2_with fail
          refine (rtyped_any x.typ _).mono ?_
          rintro e w13 ⟨rfl, rfl⟩
          generalize hcc : chk x.typ 0 = cc
          have HCC := Lib.hid hcc
          clear hcc
          cases cc with
          | false =>
            go_wp2_with fail
            refine (HLive.out _ hbw11).out.mono ?_
            rintro e wz ⟨rfl, Bz⟩
            have HBz := Lib.hid Bz
            clear Bz
            go_wp2
            go_ret
            exact ⟨rfl, HBz.out⟩
          | true =>
            generalize hcn : (cnt x.dims).2 = cn'
            have HCN := Lib.hid hcn
            clear hcn
            by_cases hq : cn' = 0
            · have hqb : (cn' != 0) = false := by simpa using hq
              have HQ := Lib.hid (HCN.out.trans hq)
              clear hq
              by_cases hlen : g.ins.length + g.inits.length + g.nodes.length < 3000
              · have q2 : ¬ (3000 : Int) ≤ (g.ins.length : Int) + (g.inits.length : Int) + (g.nodes.length : Int) := by omega
                have HP := Lib.hid (more_plain HFG.out HNo.out HN0.out HCC.out HQ.out hlen)
                have HOL := Lib.hid (more_orderL HP.out)
                have HOG : Hid (orderL g = work g) := Lib.hid (orderL_full (by rw [HCE.out]; simpa using hzb))
                rw [HP.out.1]
                go_wp2_with fail
                have HI12 : Hid (IntsIn w11 (.slice a11 (orderL (more g x)).length c11) ((orderL g).map fun (i : Nat) => (i : Int))) := Lib.hid (by
                  have h1 := HR11.out
                  rw [HOL.out, ← HOG.out] at h1 ⊢
                  exact nats_intsJ h1 (orderL_ok hln).1 (orderL_ok hln).2)
                refine (rsame_sameJ HI11.out HI12.out).mono ?_
                rintro e w13 ⟨rfl, B13⟩
                have hbw13 : Hid (Below w.heap.size w w13) := Lib.hid (hbw11.out.trans (B13.mono hbw11.out.size))
                clear B13
                go_wp2_with fail
                refine (HLive.out _ hbw13).out.mono ?_
                rintro e wz ⟨rfl, Bz⟩
                have HBz := Lib.hid Bz
                clear Bz
                go_wp2
                go_ret
                exact ⟨rfl, HBz.out⟩
              · have q2 : (3000 : Int) ≤ (g.ins.length : Int) + (g.inits.length : Int) + (g.nodes.length : Int) := by omega
                go_wp2_with fail
                refine (HLive.out _ hbw11).out.mono ?_
                rintro e wz ⟨rfl, Bz⟩
                have HBz := Lib.hid Bz
                clear Bz
                go_wp2
                go_ret
                exact ⟨rfl, HBz.out⟩
            · have hqb : (cn' != 0) = true := by simpa using hq
              go_wp2_with fail
              refine (HLive.out _ hbw11).out.mono ?_
              rintro e wz ⟨rfl, Bz⟩
              have HBz := Lib.hid Bz
              clear Bz
              go_wp2
              go_ret
              exact ⟨rfl, HBz.out⟩
      · have hzb : (ce != 0) = true := by simpa using hz
        go_wp2_with fail
        refine (HLive.out _ hbw11).out.mono ?_
        rintro e wz ⟨rfl, Bz⟩
        have HBz := Lib.hid Bz
        clear Bz
        go_wp2
        go_ret
        exact ⟨rfl, HBz.out⟩

end Go.Proofs.YtccjflhliicdlaaDoor

namespace Go.Proofs.YtccjflhliicdlaaDoor
namespace graphMore
open Go.ChangeShapes Go.WideShapes Go.ChangeAt Go.RowKit Go.ChangeMaps

set_option linter.unusedVariables false
set_option maxRecDepth 100000

theorem reads (os : Os) {H : Type} (enc : TypeId × Value → H) : ∃ places, DataW.whole enc Tryd.prog ((World.laidAll Tryd.prog os laids).forCall (fun _ _ => 0) ⟨#[], #[.agg #[.string ⟨#[]⟩, .slice none 0 0, .slice none 0 0, .slice none 0 0, .slice none 0 0], .agg #[.string ⟨#[]⟩, .int .i64 0, .slice none 0 0]], []⟩).memory Tryd.f8.params.toList Rows.graphMoreSpec.vars false (#[.agg #[.string ⟨#[]⟩, .slice none 0 0, .slice none 0 0, .slice none 0 0, .slice none 0 0], .agg #[.string ⟨#[]⟩, .int .i64 0, .slice none 0 0]] : Array Value).toList 8 = some ([.agg [.lit (.string []), .nil, .nil, .nil, .nil], .agg [.lit (.string []), .lit (.int .i64 0), .nil]], [], places) :=
  ⟨[], by kernel_rfl⟩

set_option maxHeartbeats 1000000 in
theorem lifted (os : Os) (started : os.Started) (H : Type) (enc : TypeId × Value → H) (F : Stop.Interp) :
    ReturnsInHanded {} Tryd.checked os 8 .any ((Rows.OpenSpec.upto Rows.graphMoreSpec).preRow enc Tryd.prog Tryd.f8 Rows.graphMoreUptoRow.domain false Rows.graphMoreUptoRow.laid) (((Rows.OpenSpec.upto Rows.graphMoreSpec).at F).post enc Tryd.prog Tryd.f8 false true false false) := by
  obtain ⟨places, hx⟩ := reads os enc
  refine returnsInHanded_of_row (C := Tryd.checked) (s := (Rows.OpenSpec.upto Rows.graphMoreSpec)) own started (by kernel_rfl) Tryd.func8
    (witness_row_atRef (enc := enc) (C := Tryd.checked) false (World.laidAll Tryd.prog os laids) #[.agg #[.string ⟨#[]⟩, .slice none 0 0, .slice none 0 0, .slice none 0 0, .slice none 0 0], .agg #[.string ⟨#[]⟩, .int .i64 0, .slice none 0 0]] (World.laidAll_os _ _ _) (by kernel_rfl) (by kernel_rfl) (by kernel_rfl)
      (OpenSpec.preRow_of_cond 8 hx (by kernel_rfl) (fun k hk => by cases hk; kernel_rfl) (by kernel_rfl) (laid_met os _))) ?_
  intro W base args ds gs before hval0 hW _ hcond hsz0 hL hSh _
  have hG : Glob W := glob_of hL hSh
  have hsz : (DataW.weightsEach Tryd.prog (Tryd.f8.params.toList ++ Rows.graphMoreSpec.plain.varTypes Tryd.prog) (ds ++ gs)).all (· ≤ reachBytes) = true := hsz0
  have hval : ∀ (j : Nat) t v, Tryd.f8.params[j]? = some t → args[j]? = some v → Value.okWide Tryd.prog W .any base t v := hval0
  have hW' : DataW.Whole enc Tryd.prog Tryd.f8.params.toList Rows.graphMoreSpec.vars false W args.toList ds gs before := hW
  obtain ⟨p, q, hA0, hV, rfl, hfz, hnd⟩ := hW
  have hA : DataW.TrodAll enc Tryd.prog W 0 (fun _ => true) true Tryd.f8.params.toList args.toList ds p := hA0
  rw [Tryd.params8] at hA hval hsz
  obtain ⟨v0, vs0, d0, ds0, p0, q0, hargs, rfl, rfl, h0, r0⟩ := trodAll_cons hA
  obtain ⟨v1, vs1, d1, ds1, p1, q1, rfl, rfl, rfl, h1, r1⟩ := trodAll_cons r0
  obtain ⟨rfl, rfl, rfl⟩ := trodAll_nil r1
  obtain rfl : args = #[v0, v1] := by cases args; simp_all
  obtain ⟨rfl, rfl⟩ := trodVars_none hV
  have hbulk : Rows.uptoBulkAll [d0, d1] ≤ 1048576 := by
    have := of_decide_eq_true (hcond _ rfl)
    simpa using this
  simp only [Rows.uptoBulkAll] at hbulk
  have hw : ∀ (j : Nat) t d, [26, 46][j]? = some t → [d0, d1][j]? = some d → ∀ n ∈ d.weights Tryd.prog t, n ≤ reachBytes := by
    intro j t d ht hd n hn
    have := List.all_eq_true.1 hsz n (DataW.weights_mem_each (j := j) (t := t) (d := d) (by
      match j, ht with
      | 0, h => simpa using h
      | 1, h => simpa using h) (by
      match j, hd with
      | 0, h => simpa using h
      | 1, h => simpa using h) n hn)
    simpa using this
  simp only [List.append_nil] at hW'
  have hlt : ∀ x ∈ p0 ++ p1, x.block < W.heap.size := fun x hx => by simpa using hW'.lt x (by simpa using hx)
  obtain ⟨gr0, i0, m0⟩ := open_graphM (hval 0 26 v0 rfl rfl) h0 (fun y hy => hlt y (by simp [hy])) (show Rows.uptoBulk d0 ≤ 1048576 by omega)
  obtain ⟨x1, vd1, ev1, z1, t1, i1⟩ := open_value (hval 1 46 v1 rfl rfl) h1 (fun y hy => hlt y (by simp [hy])) (show Rows.uptoBulk d1 ≤ 1048576 by omega)
  clear hA0 hval0
  refine (morelaw_any  i0 (by have := bulk_pos d1; omega) ev1 z1 t1 i1 hG).mono fun e W' ⟨he, hnx⟩ => ?_
  subst he
  refine ⟨_, rfl, _, _, _, [], _, [], hW', (trodAll_cons_mk (shut_bool Tryd.underlying4 _) trodAll_mk0), (trodAll_cons_mk (Below.trod laidOut (by kernel_rfl) (of_decide_eq_true (by kernel_rfl)) h0 hnx (fun x hx => hlt x (by simp [hx]))) (trodAll_cons_mk (Below.trod laidOut (by kernel_rfl) (of_decide_eq_true (by kernel_rfl)) h1 hnx (fun x hx => hlt x (by simp [hx]))) trodAll_mk0)), rfl, hnx.frame _, fun h => by cases h⟩

theorem over : Rows.graphMoreUptoRow.holds Tryd.pinned (Rows.OpenSpec.upto Rows.graphMoreSpec) :=
  OpenClaim.holds_of_cond 8 Tryd.f8 rfl rfl rfl rfl rfl rfl rfl ⟨rfl, rfl, rfl, rfl, rfl⟩ rfl rfl rfl rfl rfl (by kernel_rfl) Tryd.func8 (by kernel_rfl)
    (of_decide_eq_true (by kernel_rfl)) (by unfold Func.isWrapper; first | (rw [if_pos (by decide +kernel)]; kernel_rfl) | (rw [if_neg (by decide +kernel)]; exact ⟨rfl, rfl⟩))
    (fun os started H enc _ F => by rw [OpenClaim.pre_eq_preRow]; exact lifted os started H enc F)

theorem plain (f : FuncId) (fn : Func) (hf : Tryd.pinned.checked.prog.funcNamed "mandrel/mandrellaw07.GraphMore" = some f) (hfn : Tryd.pinned.checked.prog.funcs[f]? = some fn) :
    false = Tryd.pinned.checked.prog.looks [] ∧ ∀ (j : Nat) t, fn.params[j]? = some t → Tryd.pinned.checked.prog.wantsStandIn t = false := by
  obtain rfl : f = 8 := Option.some.inj ((show Tryd.prog.funcNamed "mandrel/mandrellaw07.GraphMore" = some 8 by kernel_rfl).symm.trans hf) |>.symm
  obtain rfl : fn = Tryd.f8 := (Option.some.inj (Tryd.func8.symm.trans hfn)).symm
  refine ⟨by kernel_rfl, fun j t ht => ?_⟩
  rw [Tryd.params8] at ht
  have hm : t ∈ [26, 46] := by simpa using Array.mem_of_getElem? ht
  have hall : ([26, 46].all fun u => !Tryd.prog.wantsStandIn u) = true := by kernel_rfl
  exact (show Tryd.prog.wantsStandIn t = false by simpa using List.all_eq_true.1 hall t hm)

/-- The card. -/
theorem proved : Rows.GraphMoreUptoCardSaid :=
  Claim7.holds_tied_plain_at .later [] _ _ _ _ over (fun _ h => by cases h) (by kernel_rfl) (fun _ h => by cases h) graphMoreUpto_row_tie rfl ⟨rfl, rfl⟩ (by kernel_rfl) rfl plain (by kernel_rfl)
#print axioms proved

end graphMore
end Go.Proofs.YtccjflhliicdlaaDoor
