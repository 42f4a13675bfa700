/- What alive asks of a small graph; the walk of small; the walk of alive. -/
import Derived.Test.YtlbhepfbogcipaaDoorLvX
set_option linter.unusedVariables false
set_option linter.unusedSimpArgs false
namespace Go.Proofs.YtlbhepfbogcipaaDoor
open Go.RowKit

def lx : ByteArray := ⟨#[120]⟩
def la : ByteArray := ⟨#[97]⟩
def lb : ByteArray := ⟨#[98]⟩
def lc : ByteArray := ⟨#[99]⟩
def lNeg : ByteArray := ⟨#[78, 101, 103]⟩
/-- Three nodes one behind the other. -/
def gAl : Gr := ⟨⟨#[]⟩, [⟨lNeg, ⟨#[]⟩, [lx], la, []⟩, ⟨lNeg, ⟨#[]⟩, [la], lb, []⟩, ⟨lNeg, ⟨#[]⟩, [lb], lc, []⟩], [⟨lx, 1, []⟩], [⟨lc, 1, []⟩], []⟩

theorem al_order : orderE gAl = 0 := by decide +kernel
theorem al_len : (sortedL gAl).length = 3 := by decide +kernel
theorem al_02 : befB (sortedL gAl) 0 2 = true := by decide +kernel
theorem al_20 : befB (sortedL gAl) 2 0 = false := by decide +kernel
theorem al_apE2 : apartE gAl 0 2 = 0 := by decide +kernel
theorem al_apE1 : apartE gAl 0 1 = 0 := by decide +kernel
theorem al_ap2 : apartX gAl 0 2 = true := by decide +kernel
theorem al_ap1 : apartX gAl 0 1 = false := by decide +kernel

/-- Rows whose cells lie in a block of their own. -/
theorem slin_boxL {α : Type} {sz : Nat} {R : Rd α} {w : World} {b : Nat} {cs : Array Value} {t : TypeId} (h : BoxN w b cs t) (xs : List α) (n : Nat) (hn : xs.length = n) (h0 : xs ≠ [])
    (hr : ∀ (j : Nat) x, xs[j]? = some x → ∃ c : List Value, c.length = sz ∧ R w c x ∧ ∀ (i : Nat) u, c[i]? = some u → cs[j * sz + i]? = some u) (hl : xs.length ≤ 1000) : SlIn sz R w (.slice (some ⟨b, 0, none⟩) n n) xs := by
  subst hn
  refine .row b 0 _ xs h0 (Nat.le_refl _) h.lt (fun j x hj => ?_) (by omega)
  obtain ⟨c, h1, h2, h3⟩ := hr j x hj
  refine ⟨c, h1, h2, fun i u hu => ?_⟩
  rw [Nat.zero_add]
  exact h.cell _ (h3 i u hu)
theorem value_boxL {w : World} {b : Nat} {nm : ByteArray} (h : BoxN w b #[.string nm, .int .i64 1, .slice none 0 0] 44) (hs : nm.size ≤ 1000) : SlIn 3 rdValue w (.slice (some ⟨b, 0, none⟩) 1 1) [⟨nm, 1, []⟩] :=
  slin_boxL h _ 1 rfl (by simp) (fun j x hj => by
    cases j with
    | zero =>
      obtain rfl := Option.some.inj hj
      exact ⟨_, rfl, ⟨_, rfl, by show nm.size ≤ _; omega, by show InI 1; unfold InI; decide, .empty _ _⟩, fun i u hu => by simpa using hu⟩
    | succ j => simp at hj) (by simp)
theorem mem_oneL {s i : ByteArray} (hs : s ∈ [i]) (h : i.size ≤ 1000) : s.size ≤ 1048576 := by
  obtain rfl : s = i := by simpa using hs
  omega
theorem nodes_boxL {w : World} {b : Nat} {o n1 n2 n3 i1 i2 i3 : ByteArray} {v1 v2 v3 : Value} (h : BoxN w b #[.string o, .string ⟨#[]⟩, v1, .string n1, .slice none 0 0, .string o, .string ⟨#[]⟩, v2, .string n2, .slice none 0 0, .string o, .string ⟨#[]⟩, v3, .string n3, .slice none 0 0] 48)
    (h1 : StrsIn w v1 [i1]) (h2 : StrsIn w v2 [i2]) (h3 : StrsIn w v3 [i3]) (s1 : n1.size ≤ 1000) (s2 : n2.size ≤ 1000) (s3 : n3.size ≤ 1000) (s4 : i1.size ≤ 1000) (s5 : i2.size ≤ 1000) (s6 : i3.size ≤ 1000) :
    SlIn 5 rdNodeG w (.slice (some ⟨b, 0, none⟩) 3 3) [⟨o, ⟨#[]⟩, [i1], n1, []⟩, ⟨o, ⟨#[]⟩, [i2], n2, []⟩, ⟨o, ⟨#[]⟩, [i3], n3, []⟩] :=
  slin_boxL h _ 3 rfl (by simp) (fun j x hj => by
    match j with
    | 0 =>
      obtain rfl := Option.some.inj hj
      exact ⟨[.string o, .string ⟨#[]⟩, v1, .string n1, .slice none 0 0], rfl, ⟨_, _, rfl, ⟨h1, .empty _ _⟩, by simp, by show n1.size ≤ _; omega, fun s hs => mem_oneL hs s4⟩, fun i u hu => by
        match i, hu with
        | 0, hu => simpa using hu
        | 1, hu => simpa using hu
        | 2, hu => simpa using hu
        | 3, hu => simpa using hu
        | 4, hu => simpa using hu
        | i + 5, hu => simp at hu⟩
    | 1 =>
      obtain rfl := Option.some.inj hj
      exact ⟨[.string o, .string ⟨#[]⟩, v2, .string n2, .slice none 0 0], rfl, ⟨_, _, rfl, ⟨h2, .empty _ _⟩, by simp, by show n2.size ≤ _; omega, fun s hs => mem_oneL hs s5⟩, fun i u hu => by
        match i, hu with
        | 0, hu => simpa using hu
        | 1, hu => simpa using hu
        | 2, hu => simpa using hu
        | 3, hu => simpa using hu
        | 4, hu => simpa using hu
        | i + 5, hu => simp at hu⟩
    | 2 =>
      obtain rfl := Option.some.inj hj
      exact ⟨[.string o, .string ⟨#[]⟩, v3, .string n3, .slice none 0 0], rfl, ⟨_, _, rfl, ⟨h3, .empty _ _⟩, by simp, by show n3.size ≤ _; omega, fun s hs => mem_oneL hs s6⟩, fun i u hu => by
        match i, hu with
        | 0, hu => simpa using hu
        | 1, hu => simpa using hu
        | 2, hu => simpa using hu
        | 3, hu => simpa using hu
        | 4, hu => simpa using hu
        | i + 5, hu => simp at hu⟩
    | j + 3 => simp at hj) (by simp)
theorem boxN_newL {W : World} {b : Nat} {cs : Array Value} {t : TypeId} (h : b = W.heap.size) : BoxN (W.alloc (.cells cs t)) b cs t := by
  subst h
  exact BoxN.new W cs t
theorem stepBL {W : World} {b : Nat} {cs : Array Value} {t : TypeId} (o : Obj) (h : BoxN W b cs t) : BoxN (W.alloc o) b cs t := h.below' ((Below.refl _ _).alloc (Nat.le_refl _) _)
def aliveW (w : World) : World := (((((((w.alloc (.cells #[.string lx, .int .i64 1, .slice none 0 0] 44)).alloc (.cells #[.string lc, .int .i64 1, .slice none 0 0] 44)).alloc (.cells #[.string lx] 9)).alloc (.cells #[.string la] 9)).alloc (.cells #[.string lb] 9)).alloc (.cells #[.string lNeg, .string ⟨#[]⟩, .slice (some ⟨w.heap.size + 1 + 1, 0, none⟩) 1 1, .string la, .slice none 0 0, .string lNeg, .string ⟨#[]⟩, .slice (some ⟨w.heap.size + 1 + 1 + 1, 0, none⟩) 1 1, .string lb, .slice none 0 0, .string lNeg, .string ⟨#[]⟩, .slice (some ⟨w.heap.size + 1 + 1 + 1 + 1, 0, none⟩) 1 1, .string lc, .slice none 0 0] 48)).alloc (.cells #[.string ⟨#[]⟩, .slice (some ⟨w.heap.size + 1 + 1 + 1 + 1 + 1, 0, none⟩) 3 3, .slice (some ⟨w.heap.size, 0, none⟩) 1 1, .slice (some ⟨w.heap.size + 1, 0, none⟩) 1 1, .slice none 0 0] 26))

theorem alive_graph (w : World) : GraphV (aliveW w) (.agg #[.string ⟨#[]⟩, .slice (some ⟨w.heap.size + 1 + 1 + 1 + 1 + 1, 0, none⟩) 3 3, .slice (some ⟨w.heap.size, 0, none⟩) 1 1, .slice (some ⟨w.heap.size + 1, 0, none⟩) 1 1, .slice none 0 0]) gAl ∧ Below w.heap.size w (aliveW w) ∧ BoxN (aliveW w) (w.heap.size + 1 + 1 + 1 + 1 + 1 + 1) #[.string ⟨#[]⟩, .slice (some ⟨w.heap.size + 1 + 1 + 1 + 1 + 1, 0, none⟩) 3 3, .slice (some ⟨w.heap.size, 0, none⟩) 1 1, .slice (some ⟨w.heap.size + 1, 0, none⟩) 1 1, .slice none 0 0] 26 := by
  have b0 : BoxN (aliveW w) (w.heap.size) #[.string lx, .int .i64 1, .slice none 0 0] 44 := by
    unfold aliveW
    exact stepBL _ (stepBL _ (stepBL _ (stepBL _ (stepBL _ (stepBL _ (boxN_newL (by simp)))))))
  have b1 : BoxN (aliveW w) (w.heap.size + 1) #[.string lc, .int .i64 1, .slice none 0 0] 44 := by
    unfold aliveW
    exact stepBL _ (stepBL _ (stepBL _ (stepBL _ (stepBL _ (boxN_newL (by simp))))))
  have b2 : BoxN (aliveW w) (w.heap.size + 1 + 1) #[.string lx] 9 := by
    unfold aliveW
    exact stepBL _ (stepBL _ (stepBL _ (stepBL _ (boxN_newL (by simp)))))
  have b3 : BoxN (aliveW w) (w.heap.size + 1 + 1 + 1) #[.string la] 9 := by
    unfold aliveW
    exact stepBL _ (stepBL _ (stepBL _ (boxN_newL (by simp))))
  have b4 : BoxN (aliveW w) (w.heap.size + 1 + 1 + 1 + 1) #[.string lb] 9 := by
    unfold aliveW
    exact stepBL _ (stepBL _ (boxN_newL (by simp)))
  have b5 : BoxN (aliveW w) (w.heap.size + 1 + 1 + 1 + 1 + 1) #[.string lNeg, .string ⟨#[]⟩, .slice (some ⟨w.heap.size + 1 + 1, 0, none⟩) 1 1, .string la, .slice none 0 0, .string lNeg, .string ⟨#[]⟩, .slice (some ⟨w.heap.size + 1 + 1 + 1, 0, none⟩) 1 1, .string lb, .slice none 0 0, .string lNeg, .string ⟨#[]⟩, .slice (some ⟨w.heap.size + 1 + 1 + 1 + 1, 0, none⟩) 1 1, .string lc, .slice none 0 0] 48 := by
    unfold aliveW
    exact stepBL _ (boxN_newL (by simp))
  have b6 : BoxN (aliveW w) (w.heap.size + 1 + 1 + 1 + 1 + 1 + 1) #[.string ⟨#[]⟩, .slice (some ⟨w.heap.size + 1 + 1 + 1 + 1 + 1, 0, none⟩) 3 3, .slice (some ⟨w.heap.size, 0, none⟩) 1 1, .slice (some ⟨w.heap.size + 1, 0, none⟩) 1 1, .slice none 0 0] 26 := by
    unfold aliveW
    exact boxN_newL (by simp)
  have one : ∀ (b : Nat) (s : ByteArray), BoxN (aliveW w) b #[.string s] 9 → StrsIn (aliveW w) (.slice (some ⟨b, 0, none⟩) 1 1) [s] := fun b s h =>
    .row b 0 1 [s] (by simp) (by simp) h.lt (fun j t hj => by
      cases j with
      | zero => obtain rfl := Option.some.inj hj; exact h.cell 0 rfl
      | succ j => simp at hj) (by simp)
  refine ⟨⟨_, _, _, _, rfl, ?_, ?_, ?_, .empty _ _⟩, ?_, b6⟩
  · exact nodes_boxL b5 (one _ _ b2) (one _ _ b3) (one _ _ b4) (by decide) (by decide) (by decide) (by decide) (by decide) (by decide)
  · exact value_boxL b0 (by decide)
  · exact value_boxL b1 (by decide)
  · exact (((((((Below.refl _ w).alloc (Nat.le_refl _) _).alloc (by simp) _).alloc (by simp; omega) _).alloc (by simp; omega) _).alloc (by simp; omega) _).alloc (by simp; omega) _).alloc (by simp; omega) _

theorem BeforeV.ok {w w' : World} {g : Gr} {e : Ending} (h : BeforeV w g e w') (h0 : orderE g = 0) : ∃ v', e = .returned (.tuple #[v', .int .i64 0]) ∧ Below w.heap.size w w' ∧ TabB w' v' (sortedL g).length (befB (sortedL g)) := by
  obtain ⟨v', rfl, hB, ⟨_, hT⟩ | ⟨hn, _⟩⟩ := h
  · exact ⟨v', by rw [h0], hB, hT⟩
  · exact absurd h0 hn

attribute [local irreducible] orderE orderL work hasS namesG picked sortedL rdsL befB doneB apartB apartE apartX

theorem alive_before {w : World} {v : Value} (h : GraphV w v gAl) (hG : Glob w) :
    Calls Tryd.prog 8 #[v] w fun e w' => ∃ v', e = .returned (.tuple #[v', .int .i64 0]) ∧ Below w.heap.size w w' ∧ TabB w' v' 3 (befB (sortedL gAl)) := by
  refine (before_any h hG).mono ?_
  intro e w' h
  have := h.ok al_order
  rwa [al_len] at this
theorem alive_apart {w : World} {v : Value} (h : GraphV w v gAl) (hG : Glob w) :
    Calls Tryd.prog 9 #[v, .int .i64 0, .int .i64 2] w fun e w' => e = .returned (.tuple #[.bool true, .int .i64 0]) ∧ Below w.heap.size w w' := by
  refine (apart_any h hG (by unfold InI; decide) (by unfold InI; decide)).mono ?_
  rintro e w' ⟨rfl, hB⟩
  rw [al_ap2, al_apE2]
  exact ⟨rfl, hB⟩
theorem alive_not {w : World} {v : Value} (h : GraphV w v gAl) (hG : Glob w) :
    Calls Tryd.prog 9 #[v, .int .i64 0, .int .i64 1] w fun e w' => e = .returned (.tuple #[.bool false, .int .i64 0]) ∧ Below w.heap.size w w' := by
  refine (apart_any h hG (by unfold InI; decide) (by unfold InI; decide)).mono ?_
  rintro e w' ⟨rfl, hB⟩
  rw [al_ap1, al_apE1]
  exact ⟨rfl, hB⟩

set_option maxRecDepth 100000 in
set_option maxHeartbeats 2000000 in
theorem lalive_any {w : World} (hG : Glob w) :
    Calls Tryd.prog 7 #[] w fun e w' => e = .returned (.bool true) ∧ Below w.heap.size w w' := by
  have H := alive_graph w
  unfold aliveW lx la lb lc lNeg at H
  have HH := Lib.hid H
  have HGl := Lib.hid hG
  have HBf := Lib.hid (fun (W : World) (v : Value) (h : GraphV W v gAl) (hG : Glob W) => alive_before h hG)
  have HA2 := Lib.hid (fun (W : World) (v : Value) (h : GraphV W v gAl) (hG : Glob W) => alive_apart h hG)
  have HA1 := Lib.hid (fun (W : World) (v : Value) (h : GraphV W v gAl) (hG : Glob W) => alive_not h hG)
  clear H hG
  go_enter Tryd.func7, Tryd.ntmps7
  go_wp2_with fail
  have HG1 := Lib.hid HH.out.1
  have HB1 := Lib.hid HH.out.2.1
  have HX1 := Lib.hid HH.out.2.2
  clear HH
  generalize hW : World.alloc _ _ = W1 at HG1 HB1 HX1 ⊢
  clear hW
  refine (HBf.out _ _ HG1.out (HGl.out.below HB1.out)).mono ?_
  rintro e w2 ⟨v2, rfl, B2, hT2⟩
  obtain ⟨b2, rfl, hb2, ht2⟩ := hT2.rows
  have HB2 : Hid (Below W1.heap.size W1 w2) := Lib.hid B2
  have HT2 := Lib.hid hT2
  obtain ⟨k0, k1, k2, k3, k4⟩ := (HX1.out.below' HB2.out).fiveG
  clear B2 hT2 hb2 ht2
  go_wp2_with fail
  clear k0 k1 k2 k3 k4
  refine (HA2.out _ _ (HG1.out.below HB2.out) (HGl.out.below (HB1.out.trans (HB2.out.mono HB1.out.size)))).mono ?_
  rintro e w3 ⟨rfl, B3⟩
  have HB3 : Hid (Below W1.heap.size W1 w3) := Lib.hid (HB2.out.trans (B3.mono HB2.out.size))
  have HT3 := Lib.hid (HT2.out.below B3)
  clear B3 HT2 HB2
  obtain ⟨k0, k1, k2, k3, k4⟩ := (HX1.out.below' HB3.out).fiveG
  go_wp2_with fail
  clear k0 k1 k2 k3 k4
  refine (HA1.out _ _ (HG1.out.below HB3.out) (HGl.out.below (HB1.out.trans (HB3.out.mono HB1.out.size)))).mono ?_
  rintro e w4 ⟨rfl, B4⟩
  have HB4 : Hid (Below W1.heap.size W1 w4) := Lib.hid (HB3.out.trans (B4.mono HB3.out.size))
  obtain ⟨bb, hv, _, ht⟩ := (HT3.out.below B4).rows
  obtain ⟨rfl⟩ : b2 = bb := by simpa using (Value.slice.inj hv).1
  obtain ⟨r0, c0, _, d0⟩ := ht 0 (by decide)
  obtain ⟨r2, c2, _, d2⟩ := ht 2 (by decide)
  have d02 := d0 2 (by decide)
  have d20 := d2 0 (by decide)
  rw [al_02] at d02
  rw [al_20] at d20
  clear d0 d2 ht hv B4 HT3 HB3
  go_wp2
  go_ret
  exact ⟨rfl, HB1.out.trans (HB4.out.mono HB1.out.size)⟩

set_option maxHeartbeats 2000000 in
theorem lsmall_any {w : World} {v : Value} {g : Gr} (h : GraphV w v g) :
    Calls Tryd.prog 6 #[v] w fun e w' => e = .returned (.bool (decide (g.nodes.length ≤ 30) && decide (g.ins.length + g.inits.length + g.outs.length ≤ 60))) ∧ Below w.heap.size w w' := by
  obtain ⟨vn, vi, vo, vt, rfl, hg⟩ := h
  obtain ⟨an, cn, rfl⟩ := hg.nodes.form
  obtain ⟨ai, ci, rfl⟩ := hg.ins.form
  obtain ⟨ao, co, rfl⟩ := hg.outs.form
  obtain ⟨at', ct, rfl⟩ := hg.inits.form
  have l1 := hg.nodes.len
  have l2 := hg.ins.len
  have l3 := hg.outs.len
  have l4 := hg.inits.len
  clear hg
  unfold Gr.val
  have hB := Lib.hid ((Below.refl w.heap.size w).alloc (Nat.le_refl _) (.cells #[Value.string g.name, .slice an g.nodes.length cn, .slice ai g.ins.length ci, .slice ao g.outs.length co, .slice at' g.inits.length ct] 26))
  go_enter Tryd.func6, Tryd.ntmps6
  by_cases h1 : g.nodes.length ≤ 30
  · have h1' : decide (g.nodes.length ≤ 30) = true := decide_eq_true h1
    go_wp2
    go_ret
    refine ⟨ret_val (bool_val ?_), hB.out⟩
    go_light
    simp only [h1', Bool.true_and]
    rw [Bool.eq_iff_iff]
    simp
    omega
  · have h1' : decide (g.nodes.length ≤ 30) = false := decide_eq_false h1
    go_wp2
    go_ret
    exact ⟨ret_val (bool_val (by first | rfl | simp [h1'])), hB.out⟩

end Go.Proofs.YtlbhepfbogcipaaDoor
