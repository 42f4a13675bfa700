/- The walk of the reference's Check of a node. -/
import Derived.Test.YtijeblfhkkfjgaaDoorSchRw
import Derived.Test.YtijeblfhkkfjgaaDoorSchRt
import Derived.Test.YtijeblfhkkfjgaaDoorSchRy
import Derived.Test.YtijeblfhkkfjgaaDoorSchQ
set_option linter.unusedVariables false
set_option linter.unusedSimpArgs false
namespace Go.Proofs.YtijeblfhkkfjgaaDoor
open Go.RowKit

/-- A node's error, as the reference says. -/
def refP (n : Nd) : Int :=
  if (refOf n.op).ok = false then 5
  else if (n.ins.length : Int) < (refOf n.op).least then 4
  else if (refOf n.op).most < (n.ins.length : Int) then 4
  else if n.out = ⟨#[]⟩ then 5
  else if hasS n.ins ⟨#[]⟩ = true then 5
  else if rattrsE n.attrs ((refOf n.op).forms ++ [thenF]) ≠ 0 then rattrsE n.attrs ((refOf n.op).forms ++ [thenF])
  else if (thenE n.attrs).2 ≠ 0 then (thenE n.attrs).2
  else if n.op = ⟨#[67, 111, 110, 115, 116, 97, 110, 116]⟩ then pbE ((findA n.attrs ⟨#[118, 97, 108, 117, 101]⟩ 4).getD At.zero).typ ((findA n.attrs ⟨#[118, 97, 108, 117, 101]⟩ 4).getD At.zero).dims ((findA n.attrs ⟨#[118, 97, 108, 117, 101]⟩ 4).getD At.zero).data
  else 0

section
variable {n : Nd}
theorem refP_none (h : (refOf n.op).ok = false) : refP n = 5 := by unfold refP; rw [if_pos h]
theorem refP_least (h : (refOf n.op).ok = true) (g : (n.ins.length : Int) < (refOf n.op).least) : refP n = 4 := by unfold refP; rw [if_neg (by rw [h]; decide), if_pos g]
theorem refP_most (h : (refOf n.op).ok = true) (g : ¬ (n.ins.length : Int) < (refOf n.op).least) (m : (refOf n.op).most < (n.ins.length : Int)) : refP n = 4 := by unfold refP; rw [if_neg (by rw [h]; decide), if_neg g, if_pos m]
structure FineR (n : Nd) : Prop where
  h : (refOf n.op).ok = true
  g : ¬ (n.ins.length : Int) < (refOf n.op).least
  m : ¬ (refOf n.op).most < (n.ins.length : Int)
theorem refP_out (h : FineR n) (o : n.out = ⟨#[]⟩) : refP n = 5 := by unfold refP; rw [if_neg (by rw [h.h]; decide), if_neg h.g, if_neg h.m, if_pos o]
theorem refP_ins (h : FineR n) (o : ¬ n.out = ⟨#[]⟩) (i : hasS n.ins ⟨#[]⟩ = true) : refP n = 5 := by unfold refP; rw [if_neg (by rw [h.h]; decide), if_neg h.g, if_neg h.m, if_neg o, if_pos i]
structure FineS (n : Nd) : Prop extends FineR n where
  o : ¬ n.out = ⟨#[]⟩
  i : hasS n.ins ⟨#[]⟩ = false
theorem refP_attrs (h : FineS n) (a : rattrsE n.attrs ((refOf n.op).forms ++ [thenF]) ≠ 0) : refP n = rattrsE n.attrs ((refOf n.op).forms ++ [thenF]) := by
  unfold refP; rw [if_neg (by rw [h.h]; decide), if_neg h.g, if_neg h.m, if_neg h.o, if_neg (by rw [h.i]; decide), if_pos a]
theorem refP_then (h : FineS n) (a : rattrsE n.attrs ((refOf n.op).forms ++ [thenF]) = 0) (t : (thenE n.attrs).2 ≠ 0) : refP n = (thenE n.attrs).2 := by
  unfold refP; rw [if_neg (by rw [h.h]; decide), if_neg h.g, if_neg h.m, if_neg h.o, if_neg (by rw [h.i]; decide), if_neg (fun c => c a), if_pos t]
theorem refP_const (h : FineS n) (a : rattrsE n.attrs ((refOf n.op).forms ++ [thenF]) = 0) (t : (thenE n.attrs).2 = 0) (c : n.op = ⟨#[67, 111, 110, 115, 116, 97, 110, 116]⟩) :
    refP n = pbE ((findA n.attrs ⟨#[118, 97, 108, 117, 101]⟩ 4).getD At.zero).typ ((findA n.attrs ⟨#[118, 97, 108, 117, 101]⟩ 4).getD At.zero).dims ((findA n.attrs ⟨#[118, 97, 108, 117, 101]⟩ 4).getD At.zero).data := by
  unfold refP; rw [if_neg (by rw [h.h]; decide), if_neg h.g, if_neg h.m, if_neg h.o, if_neg (by rw [h.i]; decide), if_neg (fun c => c a), if_neg (fun c => c t), if_pos c]
theorem refP_end (h : FineS n) (a : rattrsE n.attrs ((refOf n.op).forms ++ [thenF]) = 0) (t : (thenE n.attrs).2 = 0) (c : ¬ n.op = ⟨#[67, 111, 110, 115, 116, 97, 110, 116]⟩) : refP n = 0 := by
  unfold refP; rw [if_neg (by rw [h.h]; decide), if_neg h.g, if_neg h.m, if_neg h.o, if_neg (by rw [h.i]; decide), if_neg (fun c => c a), if_neg (fun c => c t), if_neg c]
end

attribute [local irreducible] refOf rattrsE thenE findA pbE hasS refP

set_option maxRecDepth 100000 in
set_option maxHeartbeats 3000000 in
theorem rcheck_any {w : World} {v : Value} {n : Nd} (h : NodeV w v n) :
    Calls Tryd.prog 15 #[v] w fun e w' => e = .returned (.int .i64 (refP n)) ∧ Below w.heap.size w w' := by
  obtain ⟨vin, vat, rfl, hn⟩ := h
  obtain ⟨a1, c1, rfl⟩ := hn.is.form
  obtain ⟨a2, c2, rfl⟩ := hn.ia.form
  have hil := hn.is.len
  have HN := Lib.hid hn
  clear hn
  unfold Nd.val
  go_enter Tryd.func15, Tryd.ntmps15
  go_wp2_with fail
  have hB1 : Hid (Below w.heap.size w (w.alloc (Obj.cells #[Value.string n.op, Value.string n.name, Value.slice a1 n.ins.length c1, Value.string n.out, Value.slice a2 n.attrs.length c2] 25))) := Lib.hid ((Below.refl _ w).alloc (Nat.le_refl _) _)
  have hA1 := Lib.hid (BoxN.new w #[Value.string n.op, Value.string n.name, Value.slice a1 n.ins.length c1, Value.string n.out, Value.slice a2 n.attrs.length c2] 25)
  generalize w.alloc _ = W1 at hB1 hA1 ⊢
  refine (rof_any n.op _).mono ?_
  rintro e w2 ⟨B2, vf, rfl, hf⟩
  have HF := Lib.hid hf
  obtain ⟨ao, rfl, hx1, hx2, hx3⟩ := hf.parts
  clear hx1 hx2 hx3
  have HB2 := Lib.hid (hB1.out.trans (B2.mono hB1.out.size))
  have HA2 := Lib.hid (hA1.out.below' B2)
  obtain ⟨k0, k1, k2, k3, k4⟩ := HA2.out.five
  clear hf B2 hB1 hA1
  cases hok : (refOf n.op).ok with
  | false =>
    have HR := Lib.hid (refP_none hok)
    clear hok
    go_wp2
    go_ret
    exact ⟨ret_val (congrArg (Value.int .i64) HR.out).symm, HB2.out⟩
  | true =>
    have HOK := Lib.hid hok
    clear hok
    by_cases hl : (n.ins.length : Int) < (refOf n.op).least
    · have HR := Lib.hid (refP_least HOK.out hl)
      go_wp2
      go_ret
      exact ⟨ret_val (congrArg (Value.int .i64) HR.out).symm, HB2.out⟩
    · by_cases hm : (refOf n.op).most < (n.ins.length : Int)
      · have HR := Lib.hid (refP_most HOK.out hl hm)
        go_wp2
        go_ret
        exact ⟨ret_val (congrArg (Value.int .i64) HR.out).symm, HB2.out⟩
      · have HFR : Hid (FineR n) := Lib.hid ⟨HOK.out, hl, hm⟩
        cases ho : (n.out.toList == ([] : List UInt8)) with
        | true =>
          have HR := Lib.hid (refP_out HFR.out (empty_of ho))
          go_wp2
          go_ret
          exact ⟨ret_val (congrArg (Value.int .i64) HR.out).symm, HB2.out⟩
        | false =>
          have HO := Lib.hid (empty_not ho)
          go_wp2_with fail
          refine (ramong_any (HN.out.is.below HB2.out) _).mono ?_
          rintro e w3 ⟨rfl, rfl⟩
          cases hi : hasS n.ins ⟨#[]⟩ with
          | true =>
            have HR := Lib.hid (refP_ins HFR.out HO.out hi)
            clear hi
            go_wp2
            go_ret
            exact ⟨ret_val (congrArg (Value.int .i64) HR.out).symm, HB2.out⟩
          | false =>
            have HFS : Hid (FineS n) := Lib.hid { HFR.out with o := HO.out, i := hi }
            clear hi
            go_wp2_with fail
            refine (rattrs_any ⟨_, _, rfl, HN.out.below HB2.out⟩ HF.out).mono ?_
            rintro e w4 ⟨rfl, B4⟩
            have HB4 := Lib.hid (HB2.out.trans (B4.mono HB2.out.size))
            have HA4 := Lib.hid (HA2.out.below' B4)
            clear k0 k1 k2 k3 k4 B4 HA2 HF
            obtain ⟨k0, k1, k2, k3, k4⟩ := HA4.out.five
            generalize hre : rattrsE n.attrs ((refOf n.op).forms ++ [thenF]) = re
            have HRE := Lib.hid hre
            clear hre
            by_cases he : re = 0
            · have heb : (re != 0) = false := by simpa using he
              have HEZ := Lib.hid (HRE.out.trans he)
              clear he
              go_wp2_with fail
              refine (rthen_any ⟨_, _, rfl, HN.out.below HB4.out⟩).mono ?_
              rintro e w5 ⟨B5, vt, rfl, -⟩
              have HB5 := Lib.hid (HB4.out.trans (B5.mono HB4.out.size))
              have HA5 := Lib.hid (HA4.out.below' B5)
              clear k0 k1 k2 k3 k4 B5 HA4
              obtain ⟨k0, k1, k2, k3, k4⟩ := HA5.out.five
              generalize hte : (thenE n.attrs).2 = te
              have HTE := Lib.hid hte
              clear hte
              by_cases ht : te = 0
              · have htb : (te == 0) = true := by simpa using ht
                have HTZ := Lib.hid (HTE.out.trans ht)
                clear ht
                cases hcb : (n.op.toList == ([67, 111, 110, 115, 116, 97, 110, 116] : List UInt8)) with
                | true =>
                  have HR := Lib.hid (refP_const HFS.out HEZ.out HTZ.out (lit_eq hcb))
                  go_wp2_with fail
                  refine (rvalue_any ⟨_, _, rfl, HN.out.below HB5.out⟩).mono ?_
                  rintro e w6 ⟨B6, vd, vx, rfl, hvd, hvx⟩
                  have HB6 := Lib.hid (HB5.out.trans (B6.mono HB5.out.size))
                  clear B6
                  go_wp2_with fail
                  refine (rpb_any _ _ _ hvd hvx).mono ?_
                  rintro e w7 ⟨rfl, B7⟩
                  have HB7 := Lib.hid (HB6.out.trans (B7.mono HB6.out.size))
                  clear B7 hvd hvx
                  go_wp2
                  go_ret
                  exact ⟨ret_val (congrArg (Value.int .i64) HR.out).symm, HB7.out⟩
                | false =>
                  have HR := Lib.hid (refP_end HFS.out HEZ.out HTZ.out (lit_ne hcb))
                  go_wp2
                  go_ret
                  exact ⟨ret_val (congrArg (Value.int .i64) (HR.out.trans (HTZ.out.symm.trans HTE.out))).symm, HB5.out⟩
              · have htb : (te == 0) = false := by simpa using ht
                have HR := Lib.hid ((refP_then HFS.out HEZ.out (by rw [HTE.out]; exact ht)).trans HTE.out)
                clear ht
                go_wp2
                go_ret
                exact ⟨ret_val (congrArg (Value.int .i64) HR.out).symm, HB5.out⟩
            · have heb : (re != 0) = true := by simpa using he
              have HR := Lib.hid ((refP_attrs HFS.out (by rw [HRE.out]; exact he)).trans HRE.out)
              clear he
              go_wp2
              go_ret
              exact ⟨ret_val (congrArg (Value.int .i64) HR.out).symm, HB4.out⟩

end Go.Proofs.YtijeblfhkkfjgaaDoor
