/- The walk of view.places' function, second part: the iterator's contract. -/
import Derived.Test.YtfdafceolkmkoaaViewJ
import Derived.Sort.QuietIn
set_option linter.unusedVariables false
namespace Go.Proofs.Ytfdafceolkmkoaa
open Go.RowKit Go.Shelf Vw

attribute [local go_sem] Oper.semAt_some
attribute [local irreducible] crd plc zeros pr nxt places

theorem nxt_nil : nxt [] [] = none := by unfold nxt; rfl
theorem zeros_nil : zeros [] = [] := by unfold zeros; rfl
theorem zeros_cons {d : Int} {ds : List Int} : zeros (d :: ds) = 0 :: zeros ds := by rw [zeros]

/-- A slice whose cells lie below a number of blocks. -/
def RowsAt (w0 : World) (a : Option Addr) (zs : List Int) : Prop := ∀ m, m < zs.length → ∃ b o, a = some ⟨b, o, none⟩ ∧ b < w0.heap.size ∧ Reads w0 b o zs

theorem IntsIn.rows {w : World} {a : Option Addr} {n c : Nat} {zs : List Int} (h : IntsIn w (.slice a n c) zs) : n = zs.length ∧ RowsAt w a zs := by
  cases h with
  | empty a0 cap => exact ⟨rfl, fun m hm => by simp at hm⟩
  | row b off cap _ h0 hc hb hr hlen hw => exact ⟨rfl, fun m _ => ⟨b, off, rfl, hb, hr⟩⟩

set_option maxRecDepth 100000 in
set_option maxHeartbeats 4000000 in
theorem places_walk (n : Nat) (hn : 1 ≤ n) (l : Nat) (w0 : World) (bv B : Nat) (off : Int) (a1 a2 : Option Addr) (c1 c2 : Nat) (ds ss : List Int)
    (hd : Hid (RowsAt w0 a1 ds)) (hs : Hid (RowsAt w0 a2 ss)) (hss : ss.length = ds.length) (hlen : ds.length ≤ 6) (hD : Hid (∀ d ∈ ds, 1 ≤ d ∧ d ≤ 65536)) (hS : Hid (∀ s ∈ ss, 0 ≤ s ∧ s ≤ 65536)) (ho0 : 0 ≤ off) (ho1 : off ≤ 65535)
    (J Jx : List Int → World → Prop) (hJ : Hid (AbC B J)) (hJx : Hid (AbC B Jx))
    (hY : Hid (∀ pre x W1, J pre W1 → B < W1.heap.size → (∃ rest, places off ds ss (pr ds).toNat = pre ++ x :: rest) → YieldAt Fence.wide (n - 1) Try.prog l #[.int .i64 x] W1 fun e W' =>
      (e = .returned (.bool true) ∧ J (pre ++ [x]) W' ∧ Keep w0.heap.size bv B W1 W') ∨ (e = .returned (.bool false) ∧ Jx (pre ++ [x]) W')))
    (W : World) (hW : W.heap.size = B) (hbv : bv < B) (hw0 : w0.heap.size ≤ B) (hst : Stands w0 bv off a1 a2 c1 c2 ds.length W) (h0 : J [] W) :
    CallsIn Fence.wide n Try.prog 55 #[.func (.yield l) #[] #[], .pointer (some ⟨bv, 0, none⟩)] W fun e W' => (∃ v, e = .returned v) ∧ (J (places off ds ss (pr ds).toNat) W' ∨ ∃ pre, Jx pre W') := by
  have hpos : Hid (Pos ds) := Lib.hid fun d hd' => (hD.out d hd').1
  have hP := Lib.hid (pr_pos hpos.out)
  have hmk := fun w => run_make_ints w ds.length (by omega)
  have b0 : W.cell? ⟨bv, 0, none⟩ = some (.int .i64 off) := by simp [World.cell?, hst.box]
  have b1 : W.cell? ⟨bv, 1, none⟩ = some (.slice a1 ds.length c1) := by simp [World.cell?, hst.box]
  have hst0 : Hid (St w0 bv B off a1 a2 c1 c2 ds.length J [] (crd ds 0) (W.alloc (.cells (intCells (List.replicate ds.length 0)) 3))) := Lib.hid ⟨⟨(Below.heap_alloc W _ bv (by omega)).trans hst.box, hst.below.alloc (by omega) _⟩,
    by rw [crd_zero, zeros_rep, ← hW]; exact RowAt.new W _, hJ.out _ _ _ none h0 (World.grownBy_alloc W _ none) (fun r e => by cases e)⟩
  have b0' : (W.alloc (.cells (intCells (List.replicate ds.length 0)) 3)).cell? ⟨bv, 0, none⟩ = some (.int .i64 off) := hst0.out.box0
  refine callsIn_of_wp Try.func55 rfl trivial ?_ rfl
  simp only [Try.ntmps55, List.size_toArray, List.length_cons, List.length_nil, Nat.reduceAdd, Nat.reduceSub, Array.replicate_succ, Array.replicate_zero, List.push_toArray, List.append_toArray, List.nil_append, List.cons_append]
  gi_wp2
  gi_loopw [4] (fun p wr => ∃ k : Nat, Hid ((k : Int) < pr ds) ∧ p = .int .i64 (off + plc ss (crd ds (k : Int))) ∧ Hid (St w0 bv B off a1 a2 c1 c2 ds.length J (places off ds ss k) (crd ds (k : Int)) wr)) (fun _ wr => left B ds wr)
  case atStart => exact ⟨0, Lib.hid (by have := hP.out; omega), by simp [crd_zero, plc_zeros], Lib.hid (by simpa [places] using hst0.out)⟩
  case round =>
    obtain ⟨k, hk, rfl, st⟩ := hrel
    have hkP := hk.out
    obtain ⟨fn, tmps, assign, body, hy, hR⟩ := hY.out (places off ds ss k) (off + plc ss (crd ds (k : Int))) wr st.out.2.2 st.out.2.1.lt (places_part off ds ss (by omega))
    gi_wp2
    refine hR.mono ?_
    rintro e W3 (⟨rfl, hJ3, hk3⟩ | ⟨rfl, hJx3⟩)
    · have st3 : Hid (St w0 bv B off a1 a2 c1 c2 ds.length J (places off ds ss (k + 1)) (crd ds (k : Int)) W3) := Lib.hid ⟨⟨hk3.2.1.trans st.out.1.box, st.out.1.below.trans hk3.1⟩, st.out.2.1.keep hk3.2.2, by rw [places_next]; exact hJ3⟩
      have hcl : (crd ds (k : Int)).length = ds.length := crd_length
      have hnx := Lib.hid (nxt_crd (ds := ds) (k := (k : Int)) hpos.out (by omega) hkP)
      have hcr := Lib.hid (crd_range (ds := ds) (k := (k : Int)) hpos.out (by omega) hkP)
      have hdS : Hid (nxt (ds.drop ds.length) ((crd ds (k : Int)).drop ds.length) = none) := Lib.hid (by rw [List.drop_length, List.drop_eq_nil_of_le (by omega)]; exact nxt_nil)
      have eT : (crd ds (k : Int)).take ds.length = crd ds (k : Int) := List.take_of_length_le (by omega)
      have eS : ss.take ds.length = ss := List.take_of_length_le (by omega)
      have st4 : Hid (St w0 bv B off a1 a2 c1 c2 ds.length J (places off ds ss (k + 1)) ((crd ds (k : Int)).take ds.length ++ zeros (ds.drop ds.length)) W3) := Lib.hid (by rw [eT, List.drop_length, zeros_nil, List.append_nil]; exact st3.out)
      have eP : Hid (off + plc ss (crd ds (k : Int)) = off + plc (ss.take ds.length) ((crd ds (k : Int)).take ds.length)) := Lib.hid (by rw [eT, eS])
      have hL := Lib.hid (left_eq (B := B) (ds := ds) hpos.out (by omega) hkP st.out.2.1)
      clear hR hy st hk3 hJ3 st3 eT eS
      generalize hc : crd ds (k : Int) = c at *
      obtain ⟨wo, hwo⟩ : ∃ wo, wo = W3 := ⟨_, rfl⟩
      subst hwo
      gi_wp2
      gi_loopw [4, 5] (fun p i wr => ∃ (m : Nat) (q : Int), m ≤ ds.length ∧ Hid (q = (m : Int) - 1) ∧ p = .int .i64 (off + plc (ss.take m) (c.take m)) ∧ i = .int .i64 q ∧ Hid (nxt (ds.drop m) (c.drop m) = none) ∧ Hid (St w0 bv B off a1 a2 c1 c2 ds.length J (places off ds ss (k + 1)) (c.take m ++ zeros (ds.drop m)) wr)) (fun _ i _ => (intOf i + 1).toNat)
      case atStart => exact ⟨ds.length, (ds.length : Int) - 1, Nat.le_refl _, Lib.hid rfl, by rw [eP.out], by go_num, hdS, st4⟩
      case round =>
        obtain ⟨m, q, hm, hq, rfl, rfl, hno, sti⟩ := hrel
        rcases (match m with | 0 => Or.inl rfl | i + 1 => Or.inr ⟨i, rfl⟩ : m = 0 ∨ ∃ i, m = i + 1) with e0 | ⟨i, e0⟩
        · subst e0
          obtain rfl : q = -1 := hq.out
          have hend : Hid ((k : Int) + 1 = pr ds) := Lib.hid (by
            have h1 := hnx.out
            have h2 : nxt ds c = none := hno.out
            rw [h2] at h1
            by_cases g : (k : Int) + 1 < pr ds
            · rw [if_pos g] at h1; cases h1
            · omega)
          gi_wp2
          refine bodyPost_ret (results_none rfl _ _ _) rfl ?_
          refine ⟨⟨_, rfl⟩, .inl ?_⟩
          have e1 : (pr ds).toNat = k + 1 := by have := hend.out; omega
          rw [e1]; exact sti.out.2.2
        · subst e0
          obtain rfl : q = (i : Int) := by have := hq.out; omega
          have hi : i < ds.length := by omega
          have hic : i < c.length := by omega
          have his : i < ss.length := by omega
          obtain ⟨bd, od, rfl, hbd, hrd⟩ := hd.out i hi
          obtain ⟨bs, os, rfl, hbs, hrs⟩ := hs.out i his
          have x1 : wr.cell? ⟨B, i, none⟩ = some (.int .i64 (c.getD i 0)) := by rw [sti.out.2.1.cell (by simp; omega), take_get hic]
          have f1 : wr.frozen? ⟨B, i, none⟩ = false := sti.out.2.1.frozen i
          have sta := sti.out.set hJ.out (by omega) hw0 i (c.getD i 0 + 1)
          rw [take_set hic] at sta
          have xi := sta.2.1.cell (j := i) (by simp; omega)
          rw [here_get (by omega)] at xi
          have xf := sta.2.1.frozen i
          have y0 := sta.box0
          have y1 := sta.box1
          have y2 := sta.box2
          have yd := (sta.1.below.cell (p := ⟨bd, od + i, none⟩) hbd).trans (hrd i hi)
          have ys := (sta.1.below.cell (p := ⟨bs, os + i, none⟩) hbs).trans (hrs i his)
          have cd := hcr.out i hi
          have dd := hD.out _ (getD_mem hi)
          have sd := hS.out _ (getD_mem his)
          have eH : Hid (nxt (ds.drop i) (c.drop i) = if c.getD i 0 + 1 < ds.getD i 0 then some ((c.getD i 0 + 1) :: zeros (ds.drop (i + 1))) else none) := Lib.hid (nxt_here hcl hi hno.out)
          have eT := Lib.hid (plc_take (ss := ss) (c := c) (i := i) his hic)
          have eH2 := Lib.hid (plc_here (ss := ss) (c := c) (ds := ds.drop (i + 1)) (i := i) (x := c.getD i 0 + 1) his (by omega))
          have bnd := plc_bound (ss := ss.take i) (cs := c.take i) (fun s hs' => hS.out s (List.mem_of_mem_take hs')) (fun x hx' => by
            obtain ⟨j, hj, rfl⟩ := List.getElem_of_mem hx'
            have hj' : j < ds.length := by simp at hj; omega
            have h1 := hcr.out j hj'
            have h2 := hD.out _ (getD_mem hj')
            rw [show c.getD j 0 = (c.take i)[j] by simp [List.getD, List.getElem?_eq_getElem (show j < c.length by omega)]] at h1
            omega)
          have hll : ((c.take i).length : Int) ≤ 6 := by simp; omega
          have stBk : Hid (c.getD i 0 + 1 < ds.getD i 0 → (k : Int) + 1 < pr ds ∧ crd ds ((k : Int) + 1) = c.take i ++ (c.getD i 0 + 1) :: zeros (ds.drop (i + 1))) := Lib.hid fun h => by
            have h1 := hnx.out
            have h3 := eH.out
            rw [if_pos h] at h3
            rw [nxt_at hcl (by omega) h3] at h1
            by_cases g : (k : Int) + 1 < pr ds
            · rw [if_pos g] at h1
              exact ⟨g, (Option.some.inj h1).symm⟩
            · rw [if_neg g] at h1; cases h1
          have m0 : 0 ≤ c.getD i 0 * ss.getD i 0 := Int.mul_nonneg cd.1 sd.1
          have m1 : c.getD i 0 * ss.getD i 0 ≤ 65536 * 65536 := Int.mul_le_mul (by omega) sd.2 sd.1 (by decide)
          have m2 : (c.getD i 0 + 1) * ss.getD i 0 = c.getD i 0 * ss.getD i 0 + ss.getD i 0 := by rw [Int.add_mul]; omega
          rw [eT.out]
          have hk3 : Hid (c.getD i 0 + 1 < ds.getD i 0 → (k : Int) + 1 < pr ds ∧ off + (plc (ss.take i) (c.take i) + c.getD i 0 * ss.getD i 0) + ss.getD i 0 = off + plc ss (crd ds ((k + 1 : Nat) : Int)) ∧ St w0 bv B off (some ⟨bd, od, none⟩) (some ⟨bs, os, none⟩) c1 c2 ds.length J (places off ds ss (k + 1)) (crd ds ((k + 1 : Nat) : Int)) (wr.setCell ⟨B, i, none⟩ (.int .i64 (c.getD i 0 + 1)))) := Lib.hid fun h => by
            obtain ⟨g1, g2⟩ := stBk.out h
            rw [show ((k + 1 : Nat) : Int) = (k : Int) + 1 by omega, g2, eH2.out]
            exact ⟨g1, by omega, sta⟩
          have hk4 : Hid (¬ c.getD i 0 + 1 < ds.getD i 0 → nxt (ds.drop i) (c.drop i) = none) := Lib.hid fun h => by rw [eH.out, if_neg h]
          have eZ : Hid (zeros (ds.drop i) = 0 :: zeros (ds.drop (i + 1))) := Lib.hid (by rw [drop_next hi]; exact zeros_cons)
          have HS := Lib.hid sta
          clear sti sta stBk eH eT eH2 hno hcr hnx
          generalize hpl : plc (ss.take i) (c.take i) = pl at *
          have HP := Lib.hid hpl
          clear hpl
          generalize c.getD i 0 = ci at *
          generalize ss.getD i 0 = si at *
          generalize ds.getD i 0 = di at *
          generalize ci * si = mm at *
          by_cases hlt : ci + 1 < di
          · gi_wp2
            gi_quiet (fail)
            gi_wp2
            go_roundw
            case rel =>
              obtain ⟨g1, g2, g3⟩ := hk3.out hlt
              exact ⟨k + 1, Lib.hid (by omega), by rw [g2], Lib.hid (g3.drewN hJ.out _)⟩
            case measure =>
              obtain ⟨g1, g2, g3⟩ := hk3.out hlt
              rw [hL.out, left_eq (k := ((k + 1 : Nat) : Int)) hpos.out (by omega) (by omega) (g3.drewN hJ.out _).2.1]
              omega
          · gi_wp2
            gi_quiet (fail)
            gi_wp2
            gi_quiet (fail)
            gi_wp2
            go_roundw
            case rel =>
              exact ⟨i, (i : Int) - 1, by omega, Lib.hid rfl, by rw [HP.out]; refine int_val ?_; omega, by go_num, Lib.hid (hk4.out hlt), Lib.hid (by rw [eZ.out]; exact (HS.out.drewN hJ.out _).set0 hJ.out (by omega) hw0 (by omega) 0)⟩
            case measure => simp [intOf]
    · gi_wp2
      refine bodyPost_ret (results_none rfl _ _ _) rfl ?_
      exact ⟨⟨_, rfl⟩, .inr ⟨_, hJx3⟩⟩

end Go.Proofs.Ytfdafceolkmkoaa
