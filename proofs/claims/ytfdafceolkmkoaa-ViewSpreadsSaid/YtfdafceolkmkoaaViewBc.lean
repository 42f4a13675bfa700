/- The walks of shape.Broadcast and of the reference's Broadcast. Printed by gen_bcast.py. -/
import Derived.Test.YtfdafceolkmkoaaViewVo
set_option linter.unusedVariables false
namespace Go.Proofs.Ytfdafceolkmkoaa
open Go.RowKit Vw

/-- The dimension at a place from the back. -/
def bk (zs : List Int) (i : Nat) : Int := if zs.length ≤ i then 1 else zs.getD (zs.length - 1 - i) 0

def outL (a b : List Int) : List Int := (List.range (max a.length b.length)).map fun j => max (bk a (max a.length b.length - 1 - j)) (bk b (max a.length b.length - 1 - j))
def Co1 (a b : List Int) (i : Nat) : Prop := bk a i = bk b i ∨ bk a i = 1 ∨ bk b i = 1
def Co (a b : List Int) (k : Nat) : Prop := ∀ i, i < k → Co1 a b i
instance (a b : List Int) (k : Nat) : Decidable (Co a b k) := by unfold Co Co1; infer_instance

/-- What comes out of Broadcast. -/
def bcO (a b : List Int) : Int × List Int := if (cnt a).2 ≠ 0 then ((cnt a).2, []) else if (cnt b).2 ≠ 0 then ((cnt b).2, []) else if Co a b (max a.length b.length) then (if (cnt (outL a b)).2 ≠ 0 then ((cnt (outL a b)).2, []) else (0, outL a b)) else (4, [])

theorem outL_length (a b : List Int) : (outL a b).length = max a.length b.length := by simp [outL]
theorem outL_get {a b : List Int} {j : Nat} (h : j < max a.length b.length) : (outL a b).getD j 0 = max (bk a (max a.length b.length - 1 - j)) (bk b (max a.length b.length - 1 - j)) := by
  simp [outL, List.getD, h]
theorem outL_comm (a b : List Int) : outL a b = outL b a := by
  unfold outL
  rw [Nat.max_comm]
  apply List.map_congr_left
  intro j _
  exact Int.max_comm _ _
theorem Co.comm {a b : List Int} {k : Nat} (h : Co a b k) : Co b a k := fun i hi => by
  rcases h i hi with h | h | h
  · exact Or.inl h.symm
  · exact Or.inr (Or.inr h)
  · exact Or.inr (Or.inl h)
theorem bk_inI {zs : List Int} (h : ∀ z ∈ zs, InI z) (i : Nat) : InI (bk zs i) := by
  unfold bk
  by_cases h1 : zs.length ≤ i
  · rw [if_pos h1]; constructor <;> decide
  · rw [if_neg h1]; exact getD_inI h _
theorem outL_inI {a b : List Int} (ha : ∀ z ∈ a, InI z) (hb : ∀ z ∈ b, InI z) : ∀ z ∈ outL a b, InI z := by
  intro z hz
  obtain ⟨j, _, rfl⟩ := List.mem_map.1 hz
  have h1 := bk_inI ha (max a.length b.length - 1 - j)
  have h2 := bk_inI hb (max a.length b.length - 1 - j)
  unfold InI at *
  omega
theorem bk_pos {zs : List Int} (h : Pos zs) (i : Nat) : 1 ≤ bk zs i := by
  unfold bk
  by_cases h1 : zs.length ≤ i
  · rw [if_pos h1]; omega
  · rw [if_neg h1]; exact h _ (getD_mem (by omega))
theorem bk_out {zs : List Int} {i : Nat} (h : zs.length ≤ i) : bk zs i = 1 := by unfold bk; rw [if_pos h]
theorem bk_in {zs : List Int} {i : Nat} (h : i < zs.length) : bk zs i = zs.getD (zs.length - 1 - i) 0 := by unfold bk; rw [if_neg (by omega)]

/-- A longer list of dimensions, so far. -/
def BcTo (L S : List Int) (i : Nat) (xs : List Int) : Prop := xs.length = L.length ∧ (∀ j, j < L.length - S.length + i → xs.getD j 0 = (outL L S).getD j 0) ∧ (∀ j, L.length - S.length + i ≤ j → xs.getD j 0 = L.getD j 0)

theorem BcTo.len {L S xs : List Int} {i : Nat} (h : BcTo L S i xs) : xs.length = L.length := h.1
theorem BcTo.here {L S xs : List Int} {i : Nat} (h : BcTo L S i xs) : xs.getD (L.length - S.length + i) 0 = L.getD (L.length - S.length + i) 0 := h.2.2 _ (Nat.le_refl _)
theorem BcTo.zero {L S : List Int} (hL : Pos L) (hl : S.length ≤ L.length) : BcTo L S 0 L := by
  refine ⟨rfl, fun j hj => ?_, fun j _ => rfl⟩
  have hm : max L.length S.length = L.length := by omega
  rw [outL_get (by omega), hm, bk_in (by omega), bk_out (zs := S) (by omega), show L.length - 1 - (L.length - 1 - j) = j by omega]
  have := hL _ (getD_mem (zs := L) (k := j) (by omega))
  omega
/-- A round's two dimensions. -/
theorem bc_pair {L S : List Int} {i : Nat} (hl : S.length ≤ L.length) (hi : i < S.length) : (outL L S).getD (L.length - S.length + i) 0 = max (L.getD (L.length - S.length + i) 0) (S.getD i 0) ∧ (Co1 L S (S.length - 1 - i) ↔ (L.getD (L.length - S.length + i) 0 = S.getD i 0 ∨ L.getD (L.length - S.length + i) 0 = 1 ∨ S.getD i 0 = 1)) := by
  have hm : max L.length S.length = L.length := by omega
  have e1 : bk L (S.length - 1 - i) = L.getD (L.length - S.length + i) 0 := by rw [bk_in (by omega), show L.length - 1 - (S.length - 1 - i) = L.length - S.length + i by omega]
  have e2 : bk S (S.length - 1 - i) = S.getD i 0 := by rw [bk_in (by omega), show S.length - 1 - (S.length - 1 - i) = i by omega]
  refine ⟨?_, by unfold Co1; rw [e1, e2]⟩
  rw [outL_get (by omega), hm, show L.length - 1 - (L.length - S.length + i) = S.length - 1 - i by omega, e1, e2]
theorem BcTo.put {L S xs : List Int} {i : Nat} (h : BcTo L S i xs) (hl : S.length ≤ L.length) (hi : i < S.length) (h1 : L.getD (L.length - S.length + i) 0 = 1) (h2 : 1 ≤ S.getD i 0) : BcTo L S (i + 1) (xs.set (L.length - S.length + i) (S.getD i 0)) := by
  refine ⟨by rw [List.length_set]; exact h.1, fun j hj => ?_, fun j hj => ?_⟩
  · by_cases e : j = L.length - S.length + i
    · subst e
      rw [(bc_pair hl hi).1, h1]
      have : (xs.set (L.length - S.length + i) (S.getD i 0)).getD (L.length - S.length + i) 0 = S.getD i 0 := by
        have hlt : L.length - S.length + i < xs.length := by have := h.1; omega
        simp [List.getD, hlt]
      rw [this]; omega
    · have : (xs.set (L.length - S.length + i) (S.getD i 0)).getD j 0 = xs.getD j 0 := by simp [List.getD, List.getElem?_set_ne (Ne.symm e)]
      rw [this]; exact h.2.1 j (by omega)
  · have : (xs.set (L.length - S.length + i) (S.getD i 0)).getD j 0 = xs.getD j 0 := by simp [List.getD, List.getElem?_set_ne (show L.length - S.length + i ≠ j by omega)]
    rw [this]; exact h.2.2 j (by omega)
theorem BcTo.stay {L S xs : List Int} {i : Nat} (h : BcTo L S i xs) (hl : S.length ≤ L.length) (hi : i < S.length) (hL : 1 ≤ L.getD (L.length - S.length + i) 0) (h1 : S.getD i 0 = 1 ∨ S.getD i 0 = L.getD (L.length - S.length + i) 0) : BcTo L S (i + 1) xs := by
  refine ⟨h.1, fun j hj => ?_, fun j hj => h.2.2 j (by omega)⟩
  by_cases e : j = L.length - S.length + i
  · subst e
    rw [(bc_pair hl hi).1, h.here]
    rcases h1 with h1 | h1 <;> rw [h1] <;> omega
  · exact h.2.1 j (by omega)
theorem BcTo.all {L S xs : List Int} (h : BcTo L S S.length xs) (hl : S.length ≤ L.length) : xs = outL L S := by
  refine List.ext_getElem (by rw [h.1, outL_length]; omega) fun j h1 h2 => ?_
  have := h.2.1 j (by have := h.1; omega)
  simpa [List.getD, List.getElem?_eq_getElem h1, List.getElem?_eq_getElem h2] using this
/-- The shorter one's rounds, so far. -/
def CoS (L S : List Int) (i : Nat) : Prop := ∀ k, k < i → Co1 L S (S.length - 1 - k)
theorem CoS.zero (L S : List Int) : CoS L S 0 := fun k hk => by omega
theorem CoS.next {L S : List Int} {i : Nat} (h : CoS L S i) (g : Co1 L S (S.length - 1 - i)) : CoS L S (i + 1) := fun k hk => by
  by_cases e : k = i
  · subst e; exact g
  · exact h k (by omega)
theorem CoS.all {L S : List Int} (h : CoS L S S.length) (n : Nat) : Co L S n := fun i hi => by
  by_cases h1 : i < S.length
  · have := h (S.length - 1 - i) (by omega)
    rwa [show S.length - 1 - (S.length - 1 - i) = i by omega] at this
  · exact Or.inr (Or.inr (bk_out (by omega)))

theorem Fresh.at {B : Nat} {w : World} {a : Option Addr} {n c j : Nat} {xs : List Int} (h : Fresh B w (.slice a n c) xs) (hn : xs.length = n) (hj : j < n) : ∃ g, a = some ⟨g, 0, none⟩ ∧ B ≤ g ∧ w.cell? ⟨g, j, none⟩ = some (.int .i64 (xs.getD j 0)) ∧ w.frozen? ⟨g, j, none⟩ = false ∧ ∀ x, Fresh B (w.setCell ⟨g, j, none⟩ (.int .i64 x)) (.slice a n c) (xs.set j x) := by
  subst hn
  obtain ⟨g, cap, e, hB, hc, hr⟩ := h.rowC (fun e => by rw [e] at hj; simp at hj)
  simp only [Value.slice.injEq, true_and] at e
  obtain ⟨rfl, rfl⟩ := e
  refine ⟨g, rfl, hB, hr.cell hj, hr.frozen j, fun x => ?_⟩
  have := (hr.set j x).fresh (B := B) (cap := c) hB (by rw [List.length_set]; exact hc)
  rwa [List.length_set] at this

def BOut (w : World) (o : Int × List Int) (e : Ending) (w' : World) : Prop :=
  Below w.heap.size w w' ∧ ((o.1 ≠ 0 ∧ e = .returned (.tuple #[.slice none 0 0, .int .i64 o.1])) ∨ (o.1 = 0 ∧ ∃ v, e = .returned (.tuple #[v, .int .i64 0]) ∧ Fresh w.heap.size w' v o.2))

attribute [local irreducible] cnt outL Co1 Co BcTo CoS bk

set_option maxRecDepth 100000 in
set_option maxHeartbeats 2000000 in
theorem at_any {w : World} (v : Value) (zs : List Int) (i : Nat) (h : IntsIn w v zs) (hl : zs.length ≤ 6) (hi : i ≤ 6) :
    Calls Try.prog 56 #[v, .int .i64 (i : Int)] w fun e w' => e = .returned (.int .i64 (bk zs i)) ∧ w = w' := by
  obtain ⟨a1, c1, rfl⟩ := h.form
  have H := Lib.hid h.rows.2
  clear h
  by_cases hk : zs.length ≤ i
  · have hki : (zs.length : Int) ≤ (i : Int) := by omega
    rw [bk_out hk]
    go_enter Try.func56, Try.ntmps56
    go_wp2_with fail
    go_ret
    exact ⟨rfl, rfl⟩
  · have hki : (i : Int) < (zs.length : Int) := by omega
    obtain ⟨p, hp⟩ : ∃ p : Nat, p = zs.length - 1 - i := ⟨_, rfl⟩
    have hpi : (zs.length : Int) - 1 - (i : Int) = (p : Int) := by omega
    have hpl : (p : Int) < (zs.length : Int) := by omega
    obtain ⟨b, o, rfl, hb, hr⟩ := H.out p (by omega)
    have hcx := hr p (by omega)
    rw [bk_in (by omega), ← hp]
    clear hp
    generalize zs.getD p 0 = z at *
    go_enter Try.func56, Try.ntmps56
    go_wp2_with fail
    go_ret
    exact ⟨rfl, rfl⟩

theorem fresh_base {B B' : Nat} {w : World} {v : Value} {zs : List Int} (h : Fresh B w v zs) (hB : B' ≤ B) : Fresh B' w v zs := by
  rcases h with h | ⟨g, cap, cur, e, hg, r⟩
  · exact Or.inl h
  · exact Or.inr ⟨g, cap, cur, e, by omega, r⟩
theorem fresh_drewN {B : Nat} {w : World} {v : Value} {zs : List Int} (h : Fresh B w v zs) (q : Nat) : Fresh B (w.drewN q) v zs := h
theorem co_at {a b : List Int} {n i : Nat} (h : Co a b n) (hi : i < n) : Co1 a b i := by unfold Co at h; exact h i hi

/-- Two lists of dimensions, the first ones of which may be. -/
def Two (xa xb : List Int) (k : Nat) : Prop := (1 ≤ k → (cnt xa).2 = 0) ∧ (2 ≤ k → (cnt xb).2 = 0)

set_option maxRecDepth 100000 in
set_option maxHeartbeats 8000000 in
theorem broadcast_any {w : World} {va vb : Value} {xa xb : List Int} (ha : IntsIn w va xa) (hb0 : IntsIn w vb xb) : Calls Try.prog 46 #[va, vb] w (BOut w (bcO xa xb)) := by
  obtain ⟨a1, c1, rfl⟩ := ha.form
  obtain ⟨a2, c2, rfl⟩ := hb0.form
  have Ixa := Lib.hid ha
  have Ixb := Lib.hid hb0
  have HRxa := Lib.hid ha.rows.2
  have HRxb := Lib.hid hb0.rows.2
  clear ha hb0
  obtain ⟨W1, hW1⟩ : ∃ W1, Hid (w.alloc (.cells #[.slice a1 xa.length c1, .slice a2 xb.length c2] 22) = W1) := ⟨_, Lib.hid rfl⟩
  have b1 : Hid (Below w.heap.size w W1) := Lib.hid (by rw [← hW1.out]; exact (Below.refl _ w).alloc (Nat.le_refl _) _)
  have hblk : W1.heap[w.heap.size]? = some (.cells #[.slice a1 xa.length c1, .slice a2 xb.length c2] 22 (0, 0)) := by rw [← hW1.out]; exact World.alloc_heap_new w _
  have q0 : W1.cell? ⟨w.heap.size, 0, none⟩ = some (.slice a1 xa.length c1) := by simp [World.cell?, hblk]
  have q1 : W1.cell? ⟨w.heap.size, 1, none⟩ = some (.slice a2 xb.length c2) := by simp [World.cell?, hblk]
  have E1 : Hid ((cnt xa).2 ≠ 0 → bcO xa xb = ((cnt xa).2, [])) := Lib.hid fun h => by unfold bcO; rw [if_pos h]
  have E2 : Hid ((cnt xa).2 = 0 → (cnt xb).2 ≠ 0 → bcO xa xb = ((cnt xb).2, [])) := Lib.hid fun h g => by unfold bcO; rw [if_neg (by rw [h]; decide), if_pos g]
  clear hblk
  go_enter Try.func46, Try.ntmps46
  go_wp2_with fail
  rw [hW1.out]
  go_loop [20] (fun i => ∃ k : Nat, k ≤ 2 ∧ i = .int .i64 (k : Int) ∧ Hid (Two xa xb k)) (fun i => 2 - (intOf i).toNat)
  case atStart => exact ⟨0, Nat.zero_le _, rfl, Lib.hid ⟨fun h => by omega, fun h => by omega⟩⟩
  case round =>
    obtain ⟨k, hk, rfl, h2⟩ := hrel
    rcases (match k, hk with | 0, _ => Or.inl rfl | 1, _ => Or.inr (Or.inl rfl) | 2, _ => Or.inr (Or.inr rfl) : k = 0 ∨ k = 1 ∨ k = 2) with e | e | e
    · subst e
      go_wp2_with fail
      refine (count_any (Ixa.out.below b1.out)).mono ?_
      rintro e _ ⟨rfl, rfl⟩
      by_cases hce : (cnt xa).2 = 0
      · have HT : Hid (Two xa xb 1) := Lib.hid ⟨fun _ => hce, fun h => by omega⟩
        rw [hce]
        clear hce
        go_wp2_with fail
        go_round
        case rel => exact ⟨1, by omega, rfl, HT⟩
        case measure => simp [intOf]
      · have NX := Lib.hid (E1.out hce)
        have HNE := Lib.hid hce
        generalize (cnt xa).2 = ce at *
        have hb1 : (ce != 0) = true := by simpa using hce
        clear hce
        go_wp2_with fail
        go_ret2
        rw [NX.out]
        exact ⟨b1.out, Or.inl ⟨HNE.out, rfl⟩⟩
    · subst e
      go_wp2_with fail
      refine (count_any (Ixb.out.below b1.out)).mono ?_
      rintro e _ ⟨rfl, rfl⟩
      by_cases hce : (cnt xb).2 = 0
      · have HT : Hid (Two xa xb 2) := Lib.hid ⟨fun _ => h2.out.1 (by omega), fun _ => hce⟩
        rw [hce]
        clear hce
        go_wp2_with fail
        go_round
        case rel => exact ⟨2, by omega, rfl, HT⟩
        case measure => simp [intOf]
      · have NX := Lib.hid (E2.out (h2.out.1 (by omega)) hce)
        have HNE := Lib.hid hce
        generalize (cnt xb).2 = ce at *
        have hb1 : (ce != 0) = true := by simpa using hce
        clear hce
        go_wp2_with fail
        go_ret2
        rw [NX.out]
        exact ⟨b1.out, Or.inl ⟨HNE.out, rfl⟩⟩
    · subst e
      have HA := Lib.hid (h2.out.1 (by omega))
      have HB := Lib.hid (h2.out.2 (by omega))
      have HPxa := Lib.hid (cnt_pos HA.out)
      have HPxb := Lib.hid (cnt_pos HB.out)
      have hl1 := (cnt_good HA.out).2.1
      have hl2 := (cnt_good HB.out).2.1
      clear E1 E2 q0 q1
      by_cases hlt : xa.length < xb.length
      · have hlti : (xa.length : Int) < (xb.length : Int) := by omega
        have E3 : Hid (¬ Co xb xa (max xb.length xa.length) → bcO xa xb = (4, [])) := Lib.hid fun h => by unfold bcO; rw [if_neg (by rw [HA.out]; decide), if_neg (by rw [HB.out]; decide), if_neg (fun g => h (by rw [Nat.max_comm]; exact g.comm))]
        have E4 : Hid (Co xb xa (max xb.length xa.length) → (cnt (outL xb xa)).2 ≠ 0 → bcO xa xb = ((cnt (outL xb xa)).2, [])) := Lib.hid fun g h => by unfold bcO; rw [if_neg (by rw [HA.out]; decide), if_neg (by rw [HB.out]; decide), if_pos (by rw [Nat.max_comm]; exact g.comm), outL_comm, if_pos h]
        have E5 : Hid (Co xb xa (max xb.length xa.length) → (cnt (outL xb xa)).2 = 0 → bcO xa xb = (0, outL xb xa)) := Lib.hid fun g h => by unfold bcO; rw [if_neg (by rw [HA.out]; decide), if_neg (by rw [HB.out]; decide), if_pos (by rw [Nat.max_comm]; exact g.comm), outL_comm, if_neg (by rw [h]; decide)]
        have hLS : xa.length ≤ xb.length := by omega
        obtain ⟨ah, hah⟩ : ∃ ah : Nat, ah = xb.length - xa.length := ⟨_, rfl⟩
        have hsub : (xb.length : Int) - (xa.length : Int) = (ah : Int) := by omega
        have HAH := Lib.hid hah
        clear hah
        go_wp2_with fail
        refine (clone_any (Ixb.out.below b1.out)).mono ?_
        rintro e w2 ⟨v, rfl, hf, B2⟩
        obtain ⟨a5, c5, rfl⟩ := hf.form
        have b2 := Lib.hid (b1.out.trans (B2.mono b1.out.size))
        have hf2 : Hid (Fresh w.heap.size w2 (.slice a5 xb.length c5) xb) := Lib.hid (fresh_base hf b1.out.size)
        clear hf B2
        go_wp2_with fail
        go_loopw [49] (fun i wr => ∃ k : Nat, k ≤ xa.length ∧ i = .int .i64 (k : Int) ∧ Hid (CoS xb xa k) ∧ Hid (∃ xs, Fresh w.heap.size wr (.slice a5 xb.length c5) xs ∧ BcTo xb xa k xs) ∧ Hid (Below w.heap.size w wr)) (fun i _ => xa.length - (intOf i).toNat)
        case atStart => exact ⟨0, Nat.zero_le _, rfl, Lib.hid (CoS.zero _ _), Lib.hid ⟨_, hf2.out, BcTo.zero HPxb.out hLS⟩, b2⟩
        case round =>
          obtain ⟨k, hk, rfl, hco, hx, hb⟩ := hrel
          obtain ⟨xs, hfr, hbc⟩ := hx.out
          by_cases hkl : k < xa.length
          · have hki : (k : Int) < (xa.length : Int) := by omega
            obtain ⟨p, hp⟩ : ∃ p : Nat, p = ah + k := ⟨_, rfl⟩
            have hpi : (ah : Int) + (k : Int) = (p : Int) := by omega
            have hpL : p < xb.length := by have := HAH.out; omega
            have hpl : (p : Int) < (xb.length : Int) := by omega
            have hpe : xb.length - xa.length + k = p := by rw [← HAH.out, hp]
            have hpair := bc_pair hLS hkl
            have hput := hbc.put hLS hkl
            have hstay := hbc.stay hLS hkl
            have hhere := hbc.here
            rw [hpe] at hpair hput hstay hhere
            obtain ⟨g, rfl, hBg, hcell, hfz, hst⟩ := hfr.at hbc.len hpL
            obtain ⟨b, o, rfl, hbb, hrd⟩ := HRxa.out k hkl
            have hcx := (hb.out.cell (p := ⟨b, o + k, none⟩) hbb).trans (hrd k hkl)
            rw [hhere] at hcell
            have d1 := HPxb.out _ (getD_mem hpL)
            have s1 := HPxa.out _ (getD_mem hkl)
            have HCN := Lib.hid hco.out.next
            have HPR := Lib.hid hpair.2
            have HCO := Lib.hid (fun (h : ¬ Co1 xb xa (xa.length - 1 - k)) (g : Co xb xa (max xb.length xa.length)) => h (co_at g (by omega)))
            clear hpair hp hpe hhere
            generalize xb.getD p 0 = d at *
            generalize xa.getD k 0 = s at *
            by_cases hd1 : d = 1
            · have HPT := Lib.hid (hput hd1 s1)
              have HNX := Lib.hid (HCN.out (HPR.out.2 (Or.inr (Or.inl hd1))))
              have hsf := Lib.hid (hst s)
              have hbs : Hid (Below w.heap.size w (wr.setCell ⟨g, p, none⟩ (.int .i64 s))) := Lib.hid (hb.out.setCell (p := ⟨g, p, none⟩) hBg _)
              clear hput hstay hfr hbc hx hst hBg
              subst hd1
              go_wp2
              go_roundw
              case rel => exact ⟨k + 1, by omega, by go_num, HNX, Lib.hid ⟨_, hsf.out, HPT.out⟩, hbs⟩
              case measure => simp [intOf]; omega
            · have b1' : (d == 1) = false := by simpa using hd1
              by_cases hs1 : s = 1
              · have b2' : (s != 1) = false := by simp [hs1]
                have HST := Lib.hid (hstay d1 (Or.inl hs1))
                have HNX := Lib.hid (HCN.out (HPR.out.2 (Or.inr (Or.inr hs1))))
                have hfr2 := Lib.hid hfr
                clear hput hstay hfr hbc hx hst hBg hd1 hs1
                go_wp2
                go_quiet (fail)
                go_wp2
                go_roundw
                case rel => exact ⟨k + 1, by omega, by go_num, HNX, Lib.hid ⟨_, fresh_drewN hfr2.out _, HST.out⟩, Lib.hid (below_drewN hb.out _)⟩
                case measure => simp [intOf]; omega
              · have b2' : (s != 1) = true := by simpa using hs1
                by_cases hsd : s = d
                · have b3' : (s != d) = false := by simp [hsd]
                  have HST := Lib.hid (hstay d1 (Or.inr hsd))
                  have HNX := Lib.hid (HCN.out (HPR.out.2 (Or.inl hsd.symm)))
                  have hfr2 := Lib.hid hfr
                  clear hput hstay hfr hbc hx hst hBg hd1 hs1 hsd
                  go_wp2
                  go_quiet (fail)
                  go_wp2
                  go_roundw
                  case rel => exact ⟨k + 1, by omega, by go_num, HNX, Lib.hid ⟨_, fresh_drewN hfr2.out _, HST.out⟩, Lib.hid (below_drewN hb.out _)⟩
                  case measure => simp [intOf]; omega
                · have b3' : (s != d) = true := by simpa using hsd
                  have NO := Lib.hid (E3.out (HCO.out (fun h => by rcases HPR.out.1 h with h | h | h; exact hsd h.symm; exact hd1 h; exact hs1 h)))
                  clear hput hstay hfr hbc hx hst hBg hd1 hs1 hsd
                  go_wp2
                  go_quiet (fail)
                  go_wp2
                  go_ret2
                  rw [NO.out]
                  exact ⟨below_drewN hb.out _, Or.inl ⟨by decide, rfl⟩⟩
          · obtain rfl : k = xa.length := by omega
            have hxe := hbc.all hLS
            subst hxe
            have HCA := Lib.hid (hco.out.all (max xb.length xa.length))
            have hol : Hid ((outL xb xa).length = xb.length) := Lib.hid hbc.len
            have io : Hid (IntsIn wr (.slice a5 xb.length c5) (outL xb xa)) := Lib.hid (hfr.ints (by rw [hol.out]; omega) (outL_inI Ixb.out.wf.2 Ixa.out.wf.2))
            have hfr2 := Lib.hid hfr
            have HE4 := Lib.hid (E4.out HCA.out)
            have HE5 := Lib.hid (E5.out HCA.out)
            clear hfr hbc hx
            go_wp2_with fail
            refine (count_any io.out).mono ?_
            rintro e _ ⟨rfl, rfl⟩
            by_cases hce : (cnt (outL xb xa)).2 = 0
            · have NX := Lib.hid (HE5.out hce)
              rw [hce]
              clear hce
              go_wp2_with fail
              go_ret2
              rw [NX.out]
              exact ⟨hb.out, Or.inr ⟨rfl, _, rfl, hfr2.out⟩⟩
            · have NX := Lib.hid (HE4.out hce)
              have HNE := Lib.hid hce
              generalize (cnt (outL xb xa)).2 = ce at *
              have hb1 : (ce != 0) = true := by simpa using hce
              clear hce
              go_wp2_with fail
              go_ret2
              rw [NX.out]
              exact ⟨hb.out, Or.inl ⟨HNE.out, rfl⟩⟩
      · have hlti : ¬ (xa.length : Int) < (xb.length : Int) := by omega
        have E3 : Hid (¬ Co xa xb (max xa.length xb.length) → bcO xa xb = (4, [])) := Lib.hid fun h => by unfold bcO; rw [if_neg (by rw [HA.out]; decide), if_neg (by rw [HB.out]; decide), if_neg h]
        have E4 : Hid (Co xa xb (max xa.length xb.length) → (cnt (outL xa xb)).2 ≠ 0 → bcO xa xb = ((cnt (outL xa xb)).2, [])) := Lib.hid fun g h => by unfold bcO; rw [if_neg (by rw [HA.out]; decide), if_neg (by rw [HB.out]; decide), if_pos g, if_pos h]
        have E5 : Hid (Co xa xb (max xa.length xb.length) → (cnt (outL xa xb)).2 = 0 → bcO xa xb = (0, outL xa xb)) := Lib.hid fun g h => by unfold bcO; rw [if_neg (by rw [HA.out]; decide), if_neg (by rw [HB.out]; decide), if_pos g, if_neg (by rw [h]; decide)]
        have hLS : xb.length ≤ xa.length := by omega
        obtain ⟨ah, hah⟩ : ∃ ah : Nat, ah = xa.length - xb.length := ⟨_, rfl⟩
        have hsub : (xa.length : Int) - (xb.length : Int) = (ah : Int) := by omega
        have HAH := Lib.hid hah
        clear hah
        go_wp2_with fail
        refine (clone_any (Ixa.out.below b1.out)).mono ?_
        rintro e w2 ⟨v, rfl, hf, B2⟩
        obtain ⟨a5, c5, rfl⟩ := hf.form
        have b2 := Lib.hid (b1.out.trans (B2.mono b1.out.size))
        have hf2 : Hid (Fresh w.heap.size w2 (.slice a5 xa.length c5) xa) := Lib.hid (fresh_base hf b1.out.size)
        clear hf B2
        go_wp2_with fail
        go_loopw [49] (fun i wr => ∃ k : Nat, k ≤ xb.length ∧ i = .int .i64 (k : Int) ∧ Hid (CoS xa xb k) ∧ Hid (∃ xs, Fresh w.heap.size wr (.slice a5 xa.length c5) xs ∧ BcTo xa xb k xs) ∧ Hid (Below w.heap.size w wr)) (fun i _ => xb.length - (intOf i).toNat)
        case atStart => exact ⟨0, Nat.zero_le _, rfl, Lib.hid (CoS.zero _ _), Lib.hid ⟨_, hf2.out, BcTo.zero HPxa.out hLS⟩, b2⟩
        case round =>
          obtain ⟨k, hk, rfl, hco, hx, hb⟩ := hrel
          obtain ⟨xs, hfr, hbc⟩ := hx.out
          by_cases hkl : k < xb.length
          · have hki : (k : Int) < (xb.length : Int) := by omega
            obtain ⟨p, hp⟩ : ∃ p : Nat, p = ah + k := ⟨_, rfl⟩
            have hpi : (ah : Int) + (k : Int) = (p : Int) := by omega
            have hpL : p < xa.length := by have := HAH.out; omega
            have hpl : (p : Int) < (xa.length : Int) := by omega
            have hpe : xa.length - xb.length + k = p := by rw [← HAH.out, hp]
            have hpair := bc_pair hLS hkl
            have hput := hbc.put hLS hkl
            have hstay := hbc.stay hLS hkl
            have hhere := hbc.here
            rw [hpe] at hpair hput hstay hhere
            obtain ⟨g, rfl, hBg, hcell, hfz, hst⟩ := hfr.at hbc.len hpL
            obtain ⟨b, o, rfl, hbb, hrd⟩ := HRxb.out k hkl
            have hcx := (hb.out.cell (p := ⟨b, o + k, none⟩) hbb).trans (hrd k hkl)
            rw [hhere] at hcell
            have d1 := HPxa.out _ (getD_mem hpL)
            have s1 := HPxb.out _ (getD_mem hkl)
            have HCN := Lib.hid hco.out.next
            have HPR := Lib.hid hpair.2
            have HCO := Lib.hid (fun (h : ¬ Co1 xa xb (xb.length - 1 - k)) (g : Co xa xb (max xa.length xb.length)) => h (co_at g (by omega)))
            clear hpair hp hpe hhere
            generalize xa.getD p 0 = d at *
            generalize xb.getD k 0 = s at *
            by_cases hd1 : d = 1
            · have HPT := Lib.hid (hput hd1 s1)
              have HNX := Lib.hid (HCN.out (HPR.out.2 (Or.inr (Or.inl hd1))))
              have hsf := Lib.hid (hst s)
              have hbs : Hid (Below w.heap.size w (wr.setCell ⟨g, p, none⟩ (.int .i64 s))) := Lib.hid (hb.out.setCell (p := ⟨g, p, none⟩) hBg _)
              clear hput hstay hfr hbc hx hst hBg
              subst hd1
              go_wp2
              go_roundw
              case rel => exact ⟨k + 1, by omega, by go_num, HNX, Lib.hid ⟨_, hsf.out, HPT.out⟩, hbs⟩
              case measure => simp [intOf]; omega
            · have b1' : (d == 1) = false := by simpa using hd1
              by_cases hs1 : s = 1
              · have b2' : (s != 1) = false := by simp [hs1]
                have HST := Lib.hid (hstay d1 (Or.inl hs1))
                have HNX := Lib.hid (HCN.out (HPR.out.2 (Or.inr (Or.inr hs1))))
                have hfr2 := Lib.hid hfr
                clear hput hstay hfr hbc hx hst hBg hd1 hs1
                go_wp2
                go_quiet (fail)
                go_wp2
                go_roundw
                case rel => exact ⟨k + 1, by omega, by go_num, HNX, Lib.hid ⟨_, fresh_drewN hfr2.out _, HST.out⟩, Lib.hid (below_drewN hb.out _)⟩
                case measure => simp [intOf]; omega
              · have b2' : (s != 1) = true := by simpa using hs1
                by_cases hsd : s = d
                · have b3' : (s != d) = false := by simp [hsd]
                  have HST := Lib.hid (hstay d1 (Or.inr hsd))
                  have HNX := Lib.hid (HCN.out (HPR.out.2 (Or.inl hsd.symm)))
                  have hfr2 := Lib.hid hfr
                  clear hput hstay hfr hbc hx hst hBg hd1 hs1 hsd
                  go_wp2
                  go_quiet (fail)
                  go_wp2
                  go_roundw
                  case rel => exact ⟨k + 1, by omega, by go_num, HNX, Lib.hid ⟨_, fresh_drewN hfr2.out _, HST.out⟩, Lib.hid (below_drewN hb.out _)⟩
                  case measure => simp [intOf]; omega
                · have b3' : (s != d) = true := by simpa using hsd
                  have NO := Lib.hid (E3.out (HCO.out (fun h => by rcases HPR.out.1 h with h | h | h; exact hsd h.symm; exact hd1 h; exact hs1 h)))
                  clear hput hstay hfr hbc hx hst hBg hd1 hs1 hsd
                  go_wp2
                  go_quiet (fail)
                  go_wp2
                  go_ret2
                  rw [NO.out]
                  exact ⟨below_drewN hb.out _, Or.inl ⟨by decide, rfl⟩⟩
          · obtain rfl : k = xb.length := by omega
            have hxe := hbc.all hLS
            subst hxe
            have HCA := Lib.hid (hco.out.all (max xa.length xb.length))
            have hol : Hid ((outL xa xb).length = xa.length) := Lib.hid hbc.len
            have io : Hid (IntsIn wr (.slice a5 xa.length c5) (outL xa xb)) := Lib.hid (hfr.ints (by rw [hol.out]; omega) (outL_inI Ixa.out.wf.2 Ixb.out.wf.2))
            have hfr2 := Lib.hid hfr
            have HE4 := Lib.hid (E4.out HCA.out)
            have HE5 := Lib.hid (E5.out HCA.out)
            clear hfr hbc hx
            go_wp2_with fail
            refine (count_any io.out).mono ?_
            rintro e _ ⟨rfl, rfl⟩
            by_cases hce : (cnt (outL xa xb)).2 = 0
            · have NX := Lib.hid (HE5.out hce)
              rw [hce]
              clear hce
              go_wp2_with fail
              go_ret2
              rw [NX.out]
              exact ⟨hb.out, Or.inr ⟨rfl, _, rfl, hfr2.out⟩⟩
            · have NX := Lib.hid (HE4.out hce)
              have HNE := Lib.hid hce
              generalize (cnt (outL xa xb)).2 = ce at *
              have hb1 : (ce != 0) = true := by simpa using hce
              clear hce
              go_wp2_with fail
              go_ret2
              rw [NX.out]
              exact ⟨hb.out, Or.inl ⟨HNE.out, rfl⟩⟩

end Go.Proofs.Ytfdafceolkmkoaa
