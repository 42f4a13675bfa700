/- The walks of graph.Check and of the law package's two and live. -/
import Derived.Test.YtccjflhliicdlaaDoorGrOw
import Derived.Test.YtccjflhliicdlaaDoorGrL
import Derived.Test.YtccjflhliicdlaaDoorSchLg
import Derived.Test.YtccjflhliicdlaaDoorSchSm
set_option linter.unusedVariables false
set_option linter.unusedSimpArgs false
namespace Go.Proofs.YtccjflhliicdlaaDoor
open Go.RowKit

attribute [local irreducible] orderE orderL work rdrs

set_option maxRecDepth 100000 in
set_option maxHeartbeats 1000000 in
theorem gcheck_any {w : World} {v : Value} {g : Gr} (h : GraphV w v g) (hG : Glob w) :
    Calls Tryd.prog 16 #[v] w fun e w' => e = .returned (.int .i64 (orderE g)) ∧ Below w.heap.size w w' := by
  have HO := Lib.hid (fun (W : World) (vi : Value) (h : GraphV W vi g) (hG : Glob W) => order_any h hG)
  obtain ⟨vn, vi, vo, vt, rfl, hg⟩ := h
  have HN := Lib.hid hg
  have HGl := Lib.hid hG
  clear hg hG
  unfold Gr.val
  go_enter Tryd.func16, Tryd.ntmps16
  go_wp2_with fail
  have hB1 : Hid (Below w.heap.size w (w.alloc (Obj.cells #[Value.string g.name, vn, vi, vo, vt] 26))) := Lib.hid ((Below.refl _ w).alloc (Nat.le_refl _) _)
  have hx := HO.out _ _ ⟨vn, vi, vo, vt, rfl, HN.out.below hB1.out⟩ (HGl.out.below hB1.out)
  unfold Gr.val at hx
  refine hx.mono ?_
  rintro e w5 ⟨v', rfl, ho, B5⟩
  clear hx ho
  have HB := Lib.hid (hB1.out.trans (B5.mono hB1.out.size))
  clear B5
  go_wp2
  go_ret
  exact ⟨rfl, HB.out⟩

/-- Rows whose cells lie in a block of their own. -/
theorem slin_box {α : Type} {sz : Nat} {R : Rd α} {w : World} {b : Nat} {cs : Array Value} {t : TypeId} (h : BoxN w b cs t) (xs : List α) (n : Nat) (hn : xs.length = n) (h0 : xs ≠ [])
    (hr : ∀ (j : Nat) x, xs[j]? = some x → ∃ c : List Value, c.length = sz ∧ R w c x ∧ ∀ (i : Nat) u, c[i]? = some u → cs[j * sz + i]? = some u) (hl : xs.length ≤ 1000) : SlIn sz R w (.slice (some ⟨b, 0, none⟩) n n) xs := by
  subst hn
  refine .row b 0 _ xs h0 (Nat.le_refl _) h.lt (fun j x hj => ?_) (by omega)
  obtain ⟨c, h1, h2, h3⟩ := hr j x hj
  refine ⟨c, h1, h2, fun i u hu => ?_⟩
  rw [Nat.zero_add]
  exact h.cell _ (h3 i u hu)
theorem value_box {w : World} {b : Nat} {nm : ByteArray} (h : BoxN w b #[.string nm, .int .i64 1, .slice none 0 0] 46) (hs : nm.size ≤ 1000) : SlIn 3 rdValue w (.slice (some ⟨b, 0, none⟩) 1 1) [⟨nm, 1, []⟩] :=
  slin_box h _ 1 rfl (by simp) (fun j x hj => by
    cases j with
    | zero =>
      obtain rfl := Option.some.inj hj
      exact ⟨_, rfl, ⟨_, rfl, by show nm.size ≤ _; omega, by show InI 1; unfold InI; decide, .empty _ _⟩, fun i u hu => by simpa using hu⟩
    | succ j => simp at hj) (by simp)
theorem mem_one {s i : ByteArray} (hs : s ∈ [i]) (h : i.size ≤ 1000) : s.size ≤ 1048576 := by
  obtain rfl : s = i := by simpa using hs
  omega
theorem nodes_box {w : World} {b : Nat} {o1 o2 n1 n2 i1 i2 : ByteArray} {v1 v2 : Value} (h : BoxN w b #[.string o1, .string ⟨#[]⟩, v1, .string n1, .slice none 0 0, .string o2, .string ⟨#[]⟩, v2, .string n2, .slice none 0 0] 41)
    (h1 : StrsIn w v1 [i1]) (h2 : StrsIn w v2 [i2]) (s1 : n1.size ≤ 1000) (s2 : n2.size ≤ 1000) (s3 : i1.size ≤ 1000) (s4 : i2.size ≤ 1000) :
    SlIn 5 rdNodeG w (.slice (some ⟨b, 0, none⟩) 2 2) [⟨o1, ⟨#[]⟩, [i1], n1, []⟩, ⟨o2, ⟨#[]⟩, [i2], n2, []⟩] :=
  slin_box h _ 2 rfl (by simp) (fun j x hj => by
    match j with
    | 0 =>
      obtain rfl := Option.some.inj hj
      exact ⟨[.string o1, .string ⟨#[]⟩, v1, .string n1, .slice none 0 0], rfl, ⟨_, _, rfl, ⟨h1, .empty _ _⟩, by simp, by show n1.size ≤ _; omega, fun s hs => mem_one hs s3⟩, fun i u hu => by
        match i, hu with
        | 0, hu => simpa using hu
        | 1, hu => simpa using hu
        | 2, hu => simpa using hu
        | 3, hu => simpa using hu
        | 4, hu => simpa using hu
        | i + 5, hu => simp at hu⟩
    | 1 =>
      obtain rfl := Option.some.inj hj
      exact ⟨[.string o2, .string ⟨#[]⟩, v2, .string n2, .slice none 0 0], rfl, ⟨_, _, rfl, ⟨h2, .empty _ _⟩, by simp, by show n2.size ≤ _; omega, fun s hs => mem_one hs s4⟩, fun i u hu => by
        match i, hu with
        | 0, hu => simpa using hu
        | 1, hu => simpa using hu
        | 2, hu => simpa using hu
        | 3, hu => simpa using hu
        | 4, hu => simpa using hu
        | i + 5, hu => simp at hu⟩
    | j + 2 => simp at hj) (by simp)

theorem BoxN.new' {W : World} {b : Nat} {cs : Array Value} {t : TypeId} (h : b = W.heap.size) : BoxN (W.alloc (.cells cs t)) b cs t := by
  subst h
  exact BoxN.new W cs t
theorem stepB {W : World} {b : Nat} {cs : Array Value} {t : TypeId} (o : Obj) (h : BoxN W b cs t) : BoxN (W.alloc o) b cs t := h.below' ((Below.refl _ _).alloc (Nat.le_refl _) _)
def twoW (w : World) (x : ByteArray) : World := (((((w.alloc (.cells #[.string ⟨#[]⟩, .slice (some ⟨w.heap.size + 1 + 1 + 1 + 1 + 1, 0, none⟩) 2 2, .slice (some ⟨w.heap.size + 1, 0, none⟩) 1 1, .slice (some ⟨w.heap.size + 1 + 1, 0, none⟩) 1 1, .slice none 0 0] 26)).alloc (.cells #[.string gx, .int .i64 1, .slice none 0 0] 46)).alloc (.cells #[.string gy, .int .i64 1, .slice none 0 0] 46)).alloc (.cells #[.string gz] 9)).alloc (.cells #[.string x] 9)).alloc (.cells #[.string opReluG, .string ⟨#[]⟩, .slice (some ⟨w.heap.size + 1 + 1 + 1, 0, none⟩) 1 1, .string gy, .slice none 0 0, .string opNegG, .string ⟨#[]⟩, .slice (some ⟨w.heap.size + 1 + 1 + 1 + 1, 0, none⟩) 1 1, .string gz, .slice none 0 0] 41)

theorem two_graph (w : World) {x : ByteArray} (hx : x.size ≤ 1000) : GraphV (twoW w x) (.agg #[.string ⟨#[]⟩, .slice (some ⟨w.heap.size + 1 + 1 + 1 + 1 + 1, 0, none⟩) 2 2, .slice (some ⟨w.heap.size + 1, 0, none⟩) 1 1, .slice (some ⟨w.heap.size + 1 + 1, 0, none⟩) 1 1, .slice none 0 0]) (gTwo x) ∧ Below w.heap.size w (twoW w x) ∧ BoxN (twoW w x) w.heap.size #[.string ⟨#[]⟩, .slice (some ⟨w.heap.size + 1 + 1 + 1 + 1 + 1, 0, none⟩) 2 2, .slice (some ⟨w.heap.size + 1, 0, none⟩) 1 1, .slice (some ⟨w.heap.size + 1 + 1, 0, none⟩) 1 1, .slice none 0 0] 26 := by
  have b0 : BoxN (twoW w x) w.heap.size #[.string ⟨#[]⟩, .slice (some ⟨w.heap.size + 1 + 1 + 1 + 1 + 1, 0, none⟩) 2 2, .slice (some ⟨w.heap.size + 1, 0, none⟩) 1 1, .slice (some ⟨w.heap.size + 1 + 1, 0, none⟩) 1 1, .slice none 0 0] 26 := by
    unfold twoW
    exact (stepB _ (stepB _ (stepB _ (stepB _ (stepB _ (BoxN.new' (by simp)))))))
  have b1 : BoxN (twoW w x) (w.heap.size + 1) #[.string gx, .int .i64 1, .slice none 0 0] 46 := by
    unfold twoW
    exact (stepB _ (stepB _ (stepB _ (stepB _ (BoxN.new' (by simp))))))
  have b2 : BoxN (twoW w x) (w.heap.size + 1 + 1) #[.string gy, .int .i64 1, .slice none 0 0] 46 := by
    unfold twoW
    exact (stepB _ (stepB _ (stepB _ (BoxN.new' (by simp)))))
  have b3 : BoxN (twoW w x) (w.heap.size + 1 + 1 + 1) #[.string gz] 9 := by
    unfold twoW
    exact (stepB _ (stepB _ (BoxN.new' (by simp))))
  have b4 : BoxN (twoW w x) (w.heap.size + 1 + 1 + 1 + 1) #[.string x] 9 := by
    unfold twoW
    exact (stepB _ (BoxN.new' (by simp)))
  have b5 : BoxN (twoW w x) (w.heap.size + 1 + 1 + 1 + 1 + 1) #[.string opReluG, .string ⟨#[]⟩, .slice (some ⟨w.heap.size + 1 + 1 + 1, 0, none⟩) 1 1, .string gy, .slice none 0 0, .string opNegG, .string ⟨#[]⟩, .slice (some ⟨w.heap.size + 1 + 1 + 1 + 1, 0, none⟩) 1 1, .string gz, .slice none 0 0] 41 := by
    unfold twoW
    exact (BoxN.new' (by simp))
  have one : ∀ (b : Nat) (s : ByteArray), BoxN (twoW w x) b #[.string s] 9 → StrsIn (twoW w x) (.slice (some ⟨b, 0, none⟩) 1 1) [s] := fun b s h =>
    .row b 0 1 [s] (by simp) (by simp) h.lt (fun j t hj => by
      cases j with
      | zero => obtain rfl := Option.some.inj hj; exact h.cell 0 rfl
      | succ j => simp at hj) (by simp)
  refine ⟨⟨_, _, _, _, rfl, ?_, ?_, ?_, .empty _ _⟩, ?_, b0⟩
  · exact nodes_box b5 (one _ _ b3) (one _ _ b4) (by decide) (by decide) (by decide) hx
  · exact value_box b1 (by decide)
  · exact value_box b2 (by decide)
  · exact ((((((Below.refl _ w).alloc (Nat.le_refl _) _).alloc (by simp) _).alloc (by simp; omega) _).alloc (by simp; omega) _).alloc (by simp; omega) _).alloc (by simp; omega) _

set_option maxRecDepth 100000 in
set_option maxHeartbeats 2000000 in
theorem two_any (w : World) (b : Bool) :
    Calls Tryd.prog 32 #[.bool b] w fun e w' => ∃ v, e = .returned v ∧ GraphV w' v (gTwo (if b = true then gy else gx)) ∧ Below w.heap.size w w' := by
  have H1 := two_graph w (x := gy) (by decide)
  have H2 := two_graph w (x := gx) (by decide)
  unfold twoW gx gy gz opReluG opNegG at H1 H2
  have H1 := Lib.hid H1
  have H2 := Lib.hid H2
  cases b with
  | true =>
    go_enter Tryd.func32, Tryd.ntmps32
    go_wp2
    obtain ⟨k0, k1, k2, k3, k4⟩ := H1.out.2.2.fiveG
    refine bodyPost_ret (v := .agg #[.string ⟨#[]⟩, .slice (some ⟨w.heap.size + 1 + 1 + 1 + 1 + 1, 0, none⟩) 2 2, .slice (some ⟨w.heap.size + 1, 0, none⟩) 1 1, .slice (some ⟨w.heap.size + 1 + 1, 0, none⟩) 1 1, .slice none 0 0]) (by simp [results, Tryd.f32, go_sem, k0, k1, k2, k3, k4]) rfl ?_
    exact ⟨_, rfl, H1.out.1, H1.out.2.1⟩
  | false =>
    go_enter Tryd.func32, Tryd.ntmps32
    go_wp2
    obtain ⟨k0, k1, k2, k3, k4⟩ := H2.out.2.2.fiveG
    refine bodyPost_ret (v := .agg #[.string ⟨#[]⟩, .slice (some ⟨w.heap.size + 1 + 1 + 1 + 1 + 1, 0, none⟩) 2 2, .slice (some ⟨w.heap.size + 1, 0, none⟩) 1 1, .slice (some ⟨w.heap.size + 1 + 1, 0, none⟩) 1 1, .slice none 0 0]) (by simp [results, Tryd.f32, go_sem, k0, k1, k2, k3, k4]) rfl ?_
    exact ⟨_, rfl, H2.out.1, H2.out.2.1⟩

theorem ints_new (w : World) (zs : List Int) (cs : Array Value) (hcs : cs = (zs.map (Value.int .i64)).toArray) (n : Nat) (hn : zs.length = n) (h0 : zs ≠ []) (hl : n ≤ 1000) (hw : ∀ z ∈ zs, InI z) : IntsIn (w.alloc (.cells cs 3)) (.slice (some ⟨w.heap.size, 0, none⟩) n n) zs := by
  subst hn hcs
  have hc := World.alloc_heap_new w (Obj.cells (zs.map (Value.int .i64)).toArray 3)
  exact .row w.heap.size 0 zs.length zs h0 (Nat.le_refl _) (by simp) (fun j hj => by
    rw [World.cell?, hc]
    simp [hj, List.getD, List.getElem?_eq_getElem hj]) (by omega) hw

theorem nats_ints {w : World} {B : Nat} {v : Value} {l : List Nat} (h : w.ownsRow B 3 1 v l.length (natsV l)) (hl : l.length ≤ 1000000) (hb : ∀ i ∈ l, i < 1000000) : IntsIn w v (l.map fun (i : Nat) => (i : Int)) := by
  refine IntsIn.of_owns (B := B) (t := 3) ?_ (by simp; omega) (fun z hz => ?_)
  · rw [List.length_map, List.map_map]; exact h
  · obtain ⟨i, hi, rfl⟩ := List.mem_map.1 hz
    have := hb i hi
    unfold InI; omega

theorem inI_10 : ∀ z ∈ ([1, 0] : List Int), InI z := by
  intro z hz
  have h : z = 1 ∨ z = 0 := by simpa using hz
  unfold InI; omega
theorem inI_1 : ∀ z ∈ ([1] : List Int), InI z := by
  intro z hz
  have h : z = 1 := by simpa using hz
  unfold InI; omega

set_option maxRecDepth 100000 in
set_option maxHeartbeats 2000000 in
theorem glive_any {w : World} (hG : Glob w) :
    Calls Tryd.prog 14 #[] w fun e w' => e = .returned (.bool true) ∧ Below w.heap.size w w' := by
  have HOrd := Lib.hid (fun (W : World) (v : Value) (h : GraphV W v (gTwo gx)) (hG : Glob W) => order_any h hG)
  have HChk := Lib.hid (fun (W : World) (v : Value) (h : GraphV W v (gTwo gy)) (hG : Glob W) => gcheck_any h hG)
  have HRd := Lib.hid (fun (W : World) (v : Value) (h : GraphV W v (gTwo gx)) => readers_any h gx)
  have HTwo := Lib.hid (fun (W : World) (b : Bool) => two_any W b)
  have HSm := Lib.hid (fun (W : World) (a b : Value) (xs ys : List Int) (h1 : IntsIn W a xs) (h2 : IntsIn W b ys) => rsame_any h1 h2)
  have HGl := Lib.hid hG
  clear hG
  go_enter Tryd.func14, Tryd.ntmps14
  go_wp2_with fail
  refine (HTwo.out w false).mono ?_
  rintro e w1 ⟨v1, rfl, hv1, B1⟩
  have HV1 := Lib.hid hv1
  have HB1 : Hid (Below w.heap.size w w1) := Lib.hid B1
  clear hv1 B1
  go_wp2_with fail
  refine (HOrd.out _ _ HV1.out (HGl.out.below HB1.out)).mono ?_
  rintro e w2 ⟨v2, rfl, ho2, B2⟩
  have HI2 : Hid (IntsIn w2 v2 [1, 0]) := Lib.hid (by
    have e : orderL (gTwo gx) = [1, 0] := by rw [orderL_full two_order.1, two_order.2]
    rw [e] at ho2
    exact nats_ints ho2 (by decide) (by decide))
  have HB2 : Hid (Below w.heap.size w w2) := Lib.hid (HB1.out.trans (B2.mono HB1.out.size))
  rw [two_order.1]
  clear ho2 B2 HV1
  go_wp2_with fail
  refine (HTwo.out w2 false).mono ?_
  rintro e w3 ⟨v3, rfl, hv3, B3⟩
  have HV3 := Lib.hid hv3
  have HI3 := Lib.hid (HI2.out.below B3)
  have HB3 : Hid (Below w.heap.size w w3) := Lib.hid (HB2.out.trans (B3.mono HB2.out.size))
  clear hv3 B3 HI2
  go_wp2_with fail
  have hr := HRd.out _ _ HV3.out
  unfold gx at hr
  refine hr.mono ?_
  rintro e w4 ⟨B4, v4, rfl, ho4⟩
  have HI4 := Lib.hid (HI3.out.below B4)
  have HJ4 : Hid (IntsIn w4 v4 [1]) := Lib.hid (by
    have e : rdrs (gTwo gx) gx (gTwo gx).nodes.length = [1] := two_reads
    unfold gx at e
    rw [e] at ho4
    exact nats_ints ho4 (by decide) (by decide))
  have HB4 : Hid (Below w.heap.size w w4) := Lib.hid (HB3.out.trans (B4.mono HB3.out.size))
  clear ho4 B4 HI3 hr HV3
  obtain ⟨a2, c2, rfl⟩ := HI4.out.shape
  obtain ⟨a4, c4, rfl⟩ := HJ4.out.shape
  go_wp2_with fail
  have HI5 := Lib.hid (ints_new w4 [1, 0] _ rfl 2 rfl (by simp) (by decide) inI_10)
  have HB5 : Hid (Below w4.heap.size w4 (w4.alloc (.cells #[.int .i64 1, .int .i64 0] 3))) := Lib.hid ((Below.refl _ _).alloc (Nat.le_refl _) _)
  refine (HSm.out _ _ _ [1, 0] [1, 0] (HI4.out.below HB5.out) HI5.out).mono ?_
  rintro e w5 ⟨rfl, B5⟩
  rw [decide_eq_true rfl]
  have HB6 : Hid (Below w.heap.size w w5) := Lib.hid (HB4.out.trans ((HB5.out.trans (B5.mono HB5.out.size)).mono HB4.out.size))
  have HJ5 := Lib.hid (HJ4.out.below (HB5.out.trans (B5.mono HB5.out.size)))
  clear B5 HB5 HI5 HI4 HJ4
  go_wp2_with fail
  refine (HTwo.out w5 true).mono ?_
  rintro e w6 ⟨v6, rfl, hv6, B6⟩
  have HV6 := Lib.hid hv6
  have HJ6 := Lib.hid (HJ5.out.below B6)
  have HB7 : Hid (Below w.heap.size w w6) := Lib.hid (HB6.out.trans (B6.mono HB6.out.size))
  clear hv6 B6 HJ5
  go_wp2_with fail
  refine (HChk.out _ _ HV6.out (HGl.out.below HB7.out)).mono ?_
  rintro e w7 ⟨rfl, B7⟩
  rw [two_turned]
  have HJ7 := Lib.hid (HJ6.out.below B7)
  have HB8 : Hid (Below w.heap.size w w7) := Lib.hid (HB7.out.trans (B7.mono HB7.out.size))
  clear B7 HJ6 HV6
  go_wp2_with fail
  have HI8 := Lib.hid (ints_new w7 [1] _ rfl 1 rfl (by simp) (by decide) inI_1)
  have HB9 : Hid (Below w7.heap.size w7 (w7.alloc (.cells #[.int .i64 1] 3))) := Lib.hid ((Below.refl _ _).alloc (Nat.le_refl _) _)
  refine (HSm.out _ _ _ [1] [1] (HJ7.out.below HB9.out) HI8.out).mono ?_
  rintro e w8 ⟨rfl, B8⟩
  rw [decide_eq_true rfl]
  have HB10 : Hid (Below w.heap.size w w8) := Lib.hid (HB8.out.trans ((HB9.out.trans (B8.mono HB9.out.size)).mono HB8.out.size))
  clear B8 HB9 HI8 HJ7
  go_wp2
  go_ret
  exact ⟨rfl, HB10.out⟩

end Go.Proofs.YtccjflhliicdlaaDoor
