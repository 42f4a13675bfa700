/- The walks of (infer.maker).typ at Add and the like. -/
import Derived.Test.YtagiipecfdmceaaGreatDoorInM2s
set_option linter.unusedVariables false
set_option linter.unusedSimpArgs false
namespace Go.Proofs.YtagiipecfdmceaaGreatDoor
open Go.RowKit

set_option maxRecDepth 100000

attribute [local irreducible] typS typD alB Fl.bin Fl.un

end Go.Proofs.YtagiipecfdmceaaGreatDoor

set_option linter.unusedVariables false
set_option linter.unusedSimpArgs false
namespace Go.Proofs.YtagiipecfdmceaaGreatDoor
open Go.RowKit

set_option maxRecDepth 100000

attribute [local irreducible] typS typD alB Fl.bin Fl.un

set_option maxHeartbeats 4000000 in
theorem typ_ReduceSum {w : World} {v : Value} {n : Nd} {x : Vl} {ins : List Vl} (h : MkV w v n ins) (hi : ins[0]? = some x) (hl : n.op.toList = [82, 101, 100, 117, 99, 101, 83, 117, 109]) :
    Calls Tryz.prog 28 #[v] w fun e w' => TyR (typS x.typ x.typ) e ∧ Below w.heap.size w w' := by
  obtain ⟨vin, vat, vv, rfl, hm⟩ := h
  obtain ⟨a1, c1, rfl⟩ := hm.node.is.form
  obtain ⟨a2, c2, rfl⟩ := hm.node.ia.form
  obtain ⟨a3, c3, rfl⟩ := hm.ins.form
  have HM := Lib.hid hm
  obtain ⟨bx, ox, rfl, g0⟩ := typ_at hm.ins hi
  have hlen : 0 < ins.length := (List.getElem?_eq_some_iff.1 hi).1
  clear hm hi
  have HY := Lib.hid (fun (W : World) => rule_yes W)
  have HNo := Lib.hid (fun (W : World) => rule_no W)
  have q0 : (n.op.toList == ([67, 111, 110, 115, 116, 97, 110, 116] : List UInt8)) = false := by rw [hl]; decide
  have q1 : (n.op.toList == ([73, 100, 101, 110, 116, 105, 116, 121] : List UInt8)) = false := by rw [hl]; decide
  have q2 : (n.op.toList == ([78, 101, 103] : List UInt8)) = false := by rw [hl]; decide
  have q3 : (n.op.toList == ([65, 98, 115] : List UInt8)) = false := by rw [hl]; decide
  have q4 : (n.op.toList == ([78, 111, 116] : List UInt8)) = false := by rw [hl]; decide
  have q5 : (n.op.toList == ([82, 101, 108, 117] : List UInt8)) = false := by rw [hl]; decide
  have q6 : (n.op.toList == ([83, 113, 114, 116] : List UInt8)) = false := by rw [hl]; decide
  have q7 : (n.op.toList == ([70, 108, 111, 111, 114] : List UInt8)) = false := by rw [hl]; decide
  have q8 : (n.op.toList == ([69, 120, 112] : List UInt8)) = false := by rw [hl]; decide
  have q9 : (n.op.toList == ([83, 105, 103, 109, 111, 105, 100] : List UInt8)) = false := by rw [hl]; decide
  have q10 : (n.op.toList == ([84, 97, 110, 104] : List UInt8)) = false := by rw [hl]; decide
  have q11 : (n.op.toList == ([69, 113, 117, 97, 108] : List UInt8)) = false := by rw [hl]; decide
  have q12 : (n.op.toList == ([76, 101, 115, 115] : List UInt8)) = false := by rw [hl]; decide
  have q13 : (n.op.toList == ([71, 114, 101, 97, 116, 101, 114] : List UInt8)) = false := by rw [hl]; decide
  have q14 : (n.op.toList == ([65, 100, 100] : List UInt8)) = false := by rw [hl]; decide
  have q15 : (n.op.toList == ([83, 117, 98] : List UInt8)) = false := by rw [hl]; decide
  have q16 : (n.op.toList == ([77, 117, 108] : List UInt8)) = false := by rw [hl]; decide
  have q17 : (n.op.toList == ([68, 105, 118] : List UInt8)) = false := by rw [hl]; decide
  have q18 : (n.op.toList == ([77, 97, 120] : List UInt8)) = false := by rw [hl]; decide
  have q19 : (n.op.toList == ([77, 105, 110] : List UInt8)) = false := by rw [hl]; decide
  have q20 : (n.op.toList == ([65, 110, 100] : List UInt8)) = false := by rw [hl]; decide
  have q21 : (n.op.toList == ([79, 114] : List UInt8)) = false := by rw [hl]; decide
  have q22 : (n.op.toList == ([88, 111, 114] : List UInt8)) = false := by rw [hl]; decide
  have q23 : (n.op.toList == ([87, 104, 101, 114, 101] : List UInt8)) = false := by rw [hl]; decide
  have q24 : (n.op.toList == ([67, 97, 115, 116] : List UInt8)) = false := by rw [hl]; decide
  have q25 : (n.op.toList == ([82, 101, 100, 117, 99, 101, 83, 117, 109] : List UInt8)) = true := by rw [hl]; decide
  clear hl
  have g1 := cell_alloc g0 (.cells #[.string n.op, .string n.name, .slice a1 n.ins.length c1, .string n.out, .slice a2 n.attrs.length c2, .slice (some ⟨bx, ox, none⟩) ins.length c3] 61)
  have HB1 := Lib.hid ((Below.refl w.heap.size w).alloc (Nat.le_refl _) (.cells #[.string n.op, .string n.name, .slice a1 n.ins.length c1, .string n.out, .slice a2 n.attrs.length c2, .slice (some ⟨bx, ox, none⟩) ins.length c3] 61))
  have HA1 : Hid (BoxN (w.alloc (.cells #[.string n.op, .string n.name, .slice a1 n.ins.length c1, .string n.out, .slice a2 n.attrs.length c2, .slice (some ⟨bx, ox, none⟩) ins.length c3] 61)) w.heap.size #[.string n.op, .string n.name, .slice a1 n.ins.length c1, .string n.out, .slice a2 n.attrs.length c2, .slice (some ⟨bx, ox, none⟩) ins.length c3] 61) := Lib.hid (BoxN.new _ _ _)
  by_cases ht : x.typ = 6 ∨ x.typ = 7 ∨ x.typ = 1
  · have E : Hid (typS x.typ x.typ = (0, x.typ)) := Lib.hid (by unfold typS; exact if_pos ht)
    have d6 : (x.typ == 6) = decide (x.typ = 6) := rfl
    have d7 : (x.typ == 7) = decide (x.typ = 7) := rfl
    have d1 : (x.typ == 1) = decide (x.typ = 1) := rfl
    generalize x.typ = tt at *
    rcases ht with rfl | rfl | rfl
    all_goals
      go_enter Tryz.func28, Tryz.ntmps28
      go_wp2_with fail
      refine (HY.out _).mono ?_
      rintro e w' ⟨rfl, rfl⟩
      go_wp2
      go_ret
      exact ⟨TyR.yes E.out, HB1.out⟩
  · have E : Hid (typS x.typ x.typ = (4, 0)) := Lib.hid (by unfold typS; exact if_neg ht)
    have d6 : (x.typ == 6) = false := by simp; omega
    have d7 : (x.typ == 7) = false := by simp; omega
    have d1 : (x.typ == 1) = false := by simp; omega
    clear ht
    go_enter Tryz.func28, Tryz.ntmps28
    go_wp2_with fail
    refine (HNo.out _).mono ?_
    rintro e w' ⟨rfl, rfl⟩
    exact ⟨rfl, TyR.no E.out, HB1.out⟩

set_option maxHeartbeats 4000000 in
theorem typ_ReduceMax {w : World} {v : Value} {n : Nd} {x : Vl} {ins : List Vl} (h : MkV w v n ins) (hi : ins[0]? = some x) (hl : n.op.toList = [82, 101, 100, 117, 99, 101, 77, 97, 120]) :
    Calls Tryz.prog 28 #[v] w fun e w' => TyR (typS x.typ x.typ) e ∧ Below w.heap.size w w' := by
  obtain ⟨vin, vat, vv, rfl, hm⟩ := h
  obtain ⟨a1, c1, rfl⟩ := hm.node.is.form
  obtain ⟨a2, c2, rfl⟩ := hm.node.ia.form
  obtain ⟨a3, c3, rfl⟩ := hm.ins.form
  have HM := Lib.hid hm
  obtain ⟨bx, ox, rfl, g0⟩ := typ_at hm.ins hi
  have hlen : 0 < ins.length := (List.getElem?_eq_some_iff.1 hi).1
  clear hm hi
  have HY := Lib.hid (fun (W : World) => rule_yes W)
  have HNo := Lib.hid (fun (W : World) => rule_no W)
  have q0 : (n.op.toList == ([67, 111, 110, 115, 116, 97, 110, 116] : List UInt8)) = false := by rw [hl]; decide
  have q1 : (n.op.toList == ([73, 100, 101, 110, 116, 105, 116, 121] : List UInt8)) = false := by rw [hl]; decide
  have q2 : (n.op.toList == ([78, 101, 103] : List UInt8)) = false := by rw [hl]; decide
  have q3 : (n.op.toList == ([65, 98, 115] : List UInt8)) = false := by rw [hl]; decide
  have q4 : (n.op.toList == ([78, 111, 116] : List UInt8)) = false := by rw [hl]; decide
  have q5 : (n.op.toList == ([82, 101, 108, 117] : List UInt8)) = false := by rw [hl]; decide
  have q6 : (n.op.toList == ([83, 113, 114, 116] : List UInt8)) = false := by rw [hl]; decide
  have q7 : (n.op.toList == ([70, 108, 111, 111, 114] : List UInt8)) = false := by rw [hl]; decide
  have q8 : (n.op.toList == ([69, 120, 112] : List UInt8)) = false := by rw [hl]; decide
  have q9 : (n.op.toList == ([83, 105, 103, 109, 111, 105, 100] : List UInt8)) = false := by rw [hl]; decide
  have q10 : (n.op.toList == ([84, 97, 110, 104] : List UInt8)) = false := by rw [hl]; decide
  have q11 : (n.op.toList == ([69, 113, 117, 97, 108] : List UInt8)) = false := by rw [hl]; decide
  have q12 : (n.op.toList == ([76, 101, 115, 115] : List UInt8)) = false := by rw [hl]; decide
  have q13 : (n.op.toList == ([71, 114, 101, 97, 116, 101, 114] : List UInt8)) = false := by rw [hl]; decide
  have q14 : (n.op.toList == ([65, 100, 100] : List UInt8)) = false := by rw [hl]; decide
  have q15 : (n.op.toList == ([83, 117, 98] : List UInt8)) = false := by rw [hl]; decide
  have q16 : (n.op.toList == ([77, 117, 108] : List UInt8)) = false := by rw [hl]; decide
  have q17 : (n.op.toList == ([68, 105, 118] : List UInt8)) = false := by rw [hl]; decide
  have q18 : (n.op.toList == ([77, 97, 120] : List UInt8)) = false := by rw [hl]; decide
  have q19 : (n.op.toList == ([77, 105, 110] : List UInt8)) = false := by rw [hl]; decide
  have q20 : (n.op.toList == ([65, 110, 100] : List UInt8)) = false := by rw [hl]; decide
  have q21 : (n.op.toList == ([79, 114] : List UInt8)) = false := by rw [hl]; decide
  have q22 : (n.op.toList == ([88, 111, 114] : List UInt8)) = false := by rw [hl]; decide
  have q23 : (n.op.toList == ([87, 104, 101, 114, 101] : List UInt8)) = false := by rw [hl]; decide
  have q24 : (n.op.toList == ([67, 97, 115, 116] : List UInt8)) = false := by rw [hl]; decide
  have q25 : (n.op.toList == ([82, 101, 100, 117, 99, 101, 83, 117, 109] : List UInt8)) = false := by rw [hl]; decide
  have q26 : (n.op.toList == ([82, 101, 100, 117, 99, 101, 77, 97, 120] : List UInt8)) = true := by rw [hl]; decide
  clear hl
  have g1 := cell_alloc g0 (.cells #[.string n.op, .string n.name, .slice a1 n.ins.length c1, .string n.out, .slice a2 n.attrs.length c2, .slice (some ⟨bx, ox, none⟩) ins.length c3] 61)
  have HB1 := Lib.hid ((Below.refl w.heap.size w).alloc (Nat.le_refl _) (.cells #[.string n.op, .string n.name, .slice a1 n.ins.length c1, .string n.out, .slice a2 n.attrs.length c2, .slice (some ⟨bx, ox, none⟩) ins.length c3] 61))
  have HA1 : Hid (BoxN (w.alloc (.cells #[.string n.op, .string n.name, .slice a1 n.ins.length c1, .string n.out, .slice a2 n.attrs.length c2, .slice (some ⟨bx, ox, none⟩) ins.length c3] 61)) w.heap.size #[.string n.op, .string n.name, .slice a1 n.ins.length c1, .string n.out, .slice a2 n.attrs.length c2, .slice (some ⟨bx, ox, none⟩) ins.length c3] 61) := Lib.hid (BoxN.new _ _ _)
  by_cases ht : x.typ = 6 ∨ x.typ = 7 ∨ x.typ = 1
  · have E : Hid (typS x.typ x.typ = (0, x.typ)) := Lib.hid (by unfold typS; exact if_pos ht)
    have d6 : (x.typ == 6) = decide (x.typ = 6) := rfl
    have d7 : (x.typ == 7) = decide (x.typ = 7) := rfl
    have d1 : (x.typ == 1) = decide (x.typ = 1) := rfl
    generalize x.typ = tt at *
    rcases ht with rfl | rfl | rfl
    all_goals
      go_enter Tryz.func28, Tryz.ntmps28
      go_wp2_with fail
      refine (HY.out _).mono ?_
      rintro e w' ⟨rfl, rfl⟩
      go_wp2
      go_ret
      exact ⟨TyR.yes E.out, HB1.out⟩
  · have E : Hid (typS x.typ x.typ = (4, 0)) := Lib.hid (by unfold typS; exact if_neg ht)
    have d6 : (x.typ == 6) = false := by simp; omega
    have d7 : (x.typ == 7) = false := by simp; omega
    have d1 : (x.typ == 1) = false := by simp; omega
    clear ht
    go_enter Tryz.func28, Tryz.ntmps28
    go_wp2_with fail
    refine (HNo.out _).mono ?_
    rintro e w' ⟨rfl, rfl⟩
    exact ⟨rfl, TyR.no E.out, HB1.out⟩

set_option maxHeartbeats 4000000 in
theorem typ_ArgMax {w : World} {v : Value} {n : Nd} {x : Vl} {ins : List Vl} (h : MkV w v n ins) (hi : ins[0]? = some x) (hl : n.op.toList = [65, 114, 103, 77, 97, 120]) :
    Calls Tryz.prog 28 #[v] w fun e w' => TyR (typS x.typ 7) e ∧ Below w.heap.size w w' := by
  obtain ⟨vin, vat, vv, rfl, hm⟩ := h
  obtain ⟨a1, c1, rfl⟩ := hm.node.is.form
  obtain ⟨a2, c2, rfl⟩ := hm.node.ia.form
  obtain ⟨a3, c3, rfl⟩ := hm.ins.form
  have HM := Lib.hid hm
  obtain ⟨bx, ox, rfl, g0⟩ := typ_at hm.ins hi
  have hlen : 0 < ins.length := (List.getElem?_eq_some_iff.1 hi).1
  clear hm hi
  have HY := Lib.hid (fun (W : World) => rule_yes W)
  have HNo := Lib.hid (fun (W : World) => rule_no W)
  have q0 : (n.op.toList == ([67, 111, 110, 115, 116, 97, 110, 116] : List UInt8)) = false := by rw [hl]; decide
  have q1 : (n.op.toList == ([73, 100, 101, 110, 116, 105, 116, 121] : List UInt8)) = false := by rw [hl]; decide
  have q2 : (n.op.toList == ([78, 101, 103] : List UInt8)) = false := by rw [hl]; decide
  have q3 : (n.op.toList == ([65, 98, 115] : List UInt8)) = false := by rw [hl]; decide
  have q4 : (n.op.toList == ([78, 111, 116] : List UInt8)) = false := by rw [hl]; decide
  have q5 : (n.op.toList == ([82, 101, 108, 117] : List UInt8)) = false := by rw [hl]; decide
  have q6 : (n.op.toList == ([83, 113, 114, 116] : List UInt8)) = false := by rw [hl]; decide
  have q7 : (n.op.toList == ([70, 108, 111, 111, 114] : List UInt8)) = false := by rw [hl]; decide
  have q8 : (n.op.toList == ([69, 120, 112] : List UInt8)) = false := by rw [hl]; decide
  have q9 : (n.op.toList == ([83, 105, 103, 109, 111, 105, 100] : List UInt8)) = false := by rw [hl]; decide
  have q10 : (n.op.toList == ([84, 97, 110, 104] : List UInt8)) = false := by rw [hl]; decide
  have q11 : (n.op.toList == ([69, 113, 117, 97, 108] : List UInt8)) = false := by rw [hl]; decide
  have q12 : (n.op.toList == ([76, 101, 115, 115] : List UInt8)) = false := by rw [hl]; decide
  have q13 : (n.op.toList == ([71, 114, 101, 97, 116, 101, 114] : List UInt8)) = false := by rw [hl]; decide
  have q14 : (n.op.toList == ([65, 100, 100] : List UInt8)) = false := by rw [hl]; decide
  have q15 : (n.op.toList == ([83, 117, 98] : List UInt8)) = false := by rw [hl]; decide
  have q16 : (n.op.toList == ([77, 117, 108] : List UInt8)) = false := by rw [hl]; decide
  have q17 : (n.op.toList == ([68, 105, 118] : List UInt8)) = false := by rw [hl]; decide
  have q18 : (n.op.toList == ([77, 97, 120] : List UInt8)) = false := by rw [hl]; decide
  have q19 : (n.op.toList == ([77, 105, 110] : List UInt8)) = false := by rw [hl]; decide
  have q20 : (n.op.toList == ([65, 110, 100] : List UInt8)) = false := by rw [hl]; decide
  have q21 : (n.op.toList == ([79, 114] : List UInt8)) = false := by rw [hl]; decide
  have q22 : (n.op.toList == ([88, 111, 114] : List UInt8)) = false := by rw [hl]; decide
  have q23 : (n.op.toList == ([87, 104, 101, 114, 101] : List UInt8)) = false := by rw [hl]; decide
  have q24 : (n.op.toList == ([67, 97, 115, 116] : List UInt8)) = false := by rw [hl]; decide
  have q25 : (n.op.toList == ([82, 101, 100, 117, 99, 101, 83, 117, 109] : List UInt8)) = false := by rw [hl]; decide
  have q26 : (n.op.toList == ([82, 101, 100, 117, 99, 101, 77, 97, 120] : List UInt8)) = false := by rw [hl]; decide
  have q27 : (n.op.toList == ([65, 114, 103, 77, 97, 120] : List UInt8)) = true := by rw [hl]; decide
  clear hl
  have g1 := cell_alloc g0 (.cells #[.string n.op, .string n.name, .slice a1 n.ins.length c1, .string n.out, .slice a2 n.attrs.length c2, .slice (some ⟨bx, ox, none⟩) ins.length c3] 61)
  have HB1 := Lib.hid ((Below.refl w.heap.size w).alloc (Nat.le_refl _) (.cells #[.string n.op, .string n.name, .slice a1 n.ins.length c1, .string n.out, .slice a2 n.attrs.length c2, .slice (some ⟨bx, ox, none⟩) ins.length c3] 61))
  have HA1 : Hid (BoxN (w.alloc (.cells #[.string n.op, .string n.name, .slice a1 n.ins.length c1, .string n.out, .slice a2 n.attrs.length c2, .slice (some ⟨bx, ox, none⟩) ins.length c3] 61)) w.heap.size #[.string n.op, .string n.name, .slice a1 n.ins.length c1, .string n.out, .slice a2 n.attrs.length c2, .slice (some ⟨bx, ox, none⟩) ins.length c3] 61) := Lib.hid (BoxN.new _ _ _)
  by_cases ht : x.typ = 6 ∨ x.typ = 7 ∨ x.typ = 1
  · have E : Hid (typS x.typ 7 = (0, 7)) := Lib.hid (by unfold typS; exact if_pos ht)
    have d6 : (x.typ == 6) = decide (x.typ = 6) := rfl
    have d7 : (x.typ == 7) = decide (x.typ = 7) := rfl
    have d1 : (x.typ == 1) = decide (x.typ = 1) := rfl
    generalize x.typ = tt at *
    rcases ht with rfl | rfl | rfl
    all_goals
      go_enter Tryz.func28, Tryz.ntmps28
      go_wp2_with fail
      refine (HY.out _).mono ?_
      rintro e w' ⟨rfl, rfl⟩
      go_wp2
      go_ret
      exact ⟨TyR.yes E.out, HB1.out⟩
  · have E : Hid (typS x.typ 7 = (4, 0)) := Lib.hid (by unfold typS; exact if_neg ht)
    have d6 : (x.typ == 6) = false := by simp; omega
    have d7 : (x.typ == 7) = false := by simp; omega
    have d1 : (x.typ == 1) = false := by simp; omega
    clear ht
    go_enter Tryz.func28, Tryz.ntmps28
    go_wp2_with fail
    refine (HNo.out _).mono ?_
    rintro e w' ⟨rfl, rfl⟩
    exact ⟨rfl, TyR.no E.out, HB1.out⟩

set_option maxHeartbeats 4000000 in
theorem typ_ReduceMean {w : World} {v : Value} {n : Nd} {x : Vl} {ins : List Vl} (h : MkV w v n ins) (hi : ins[0]? = some x) (hl : n.op.toList = [82, 101, 100, 117, 99, 101, 77, 101, 97, 110]) :
    Calls Tryz.prog 28 #[v] w fun e w' => TyR (typD (alB ins 1) x.typ) e ∧ Below w.heap.size w w' := by
  obtain ⟨vin, vat, vv, rfl, hm⟩ := h
  obtain ⟨a1, c1, rfl⟩ := hm.node.is.form
  obtain ⟨a2, c2, rfl⟩ := hm.node.ia.form
  obtain ⟨a3, c3, rfl⟩ := hm.ins.form
  have HM := Lib.hid hm
  obtain ⟨bx, ox, rfl, g0⟩ := typ_at hm.ins hi
  have hlen : 0 < ins.length := (List.getElem?_eq_some_iff.1 hi).1
  clear hm hi
  have HY := Lib.hid (fun (W : World) => rule_yes W)
  have HNo := Lib.hid (fun (W : World) => rule_no W)
  have q0 : (n.op.toList == ([67, 111, 110, 115, 116, 97, 110, 116] : List UInt8)) = false := by rw [hl]; decide
  have q1 : (n.op.toList == ([73, 100, 101, 110, 116, 105, 116, 121] : List UInt8)) = false := by rw [hl]; decide
  have q2 : (n.op.toList == ([78, 101, 103] : List UInt8)) = false := by rw [hl]; decide
  have q3 : (n.op.toList == ([65, 98, 115] : List UInt8)) = false := by rw [hl]; decide
  have q4 : (n.op.toList == ([78, 111, 116] : List UInt8)) = false := by rw [hl]; decide
  have q5 : (n.op.toList == ([82, 101, 108, 117] : List UInt8)) = false := by rw [hl]; decide
  have q6 : (n.op.toList == ([83, 113, 114, 116] : List UInt8)) = false := by rw [hl]; decide
  have q7 : (n.op.toList == ([70, 108, 111, 111, 114] : List UInt8)) = false := by rw [hl]; decide
  have q8 : (n.op.toList == ([69, 120, 112] : List UInt8)) = false := by rw [hl]; decide
  have q9 : (n.op.toList == ([83, 105, 103, 109, 111, 105, 100] : List UInt8)) = false := by rw [hl]; decide
  have q10 : (n.op.toList == ([84, 97, 110, 104] : List UInt8)) = false := by rw [hl]; decide
  have q11 : (n.op.toList == ([69, 113, 117, 97, 108] : List UInt8)) = false := by rw [hl]; decide
  have q12 : (n.op.toList == ([76, 101, 115, 115] : List UInt8)) = false := by rw [hl]; decide
  have q13 : (n.op.toList == ([71, 114, 101, 97, 116, 101, 114] : List UInt8)) = false := by rw [hl]; decide
  have q14 : (n.op.toList == ([65, 100, 100] : List UInt8)) = false := by rw [hl]; decide
  have q15 : (n.op.toList == ([83, 117, 98] : List UInt8)) = false := by rw [hl]; decide
  have q16 : (n.op.toList == ([77, 117, 108] : List UInt8)) = false := by rw [hl]; decide
  have q17 : (n.op.toList == ([68, 105, 118] : List UInt8)) = false := by rw [hl]; decide
  have q18 : (n.op.toList == ([77, 97, 120] : List UInt8)) = false := by rw [hl]; decide
  have q19 : (n.op.toList == ([77, 105, 110] : List UInt8)) = false := by rw [hl]; decide
  have q20 : (n.op.toList == ([65, 110, 100] : List UInt8)) = false := by rw [hl]; decide
  have q21 : (n.op.toList == ([79, 114] : List UInt8)) = false := by rw [hl]; decide
  have q22 : (n.op.toList == ([88, 111, 114] : List UInt8)) = false := by rw [hl]; decide
  have q23 : (n.op.toList == ([87, 104, 101, 114, 101] : List UInt8)) = false := by rw [hl]; decide
  have q24 : (n.op.toList == ([67, 97, 115, 116] : List UInt8)) = false := by rw [hl]; decide
  have q25 : (n.op.toList == ([82, 101, 100, 117, 99, 101, 83, 117, 109] : List UInt8)) = false := by rw [hl]; decide
  have q26 : (n.op.toList == ([82, 101, 100, 117, 99, 101, 77, 97, 120] : List UInt8)) = false := by rw [hl]; decide
  have q27 : (n.op.toList == ([65, 114, 103, 77, 97, 120] : List UInt8)) = false := by rw [hl]; decide
  have q28 : (n.op.toList == ([67, 111, 110, 99, 97, 116] : List UInt8)) = false := by rw [hl]; decide
  have q29 : (n.op.toList == ([71, 97, 116, 104, 101, 114] : List UInt8)) = false := by rw [hl]; decide
  have q30 : (n.op.toList == ([82, 101, 115, 104, 97, 112, 101] : List UInt8)) = false := by rw [hl]; decide
  have q31 : (n.op.toList == ([69, 120, 112, 97, 110, 100] : List UInt8)) = false := by rw [hl]; decide
  have q32 : (n.op.toList == ([84, 114, 97, 110, 115, 112, 111, 115, 101] : List UInt8)) = false := by rw [hl]; decide
  have q33 : (n.op.toList == ([83, 108, 105, 99, 101] : List UInt8)) = false := by rw [hl]; decide
  have q34 : (n.op.toList == ([83, 113, 117, 101, 101, 122, 101] : List UInt8)) = false := by rw [hl]; decide
  have q35 : (n.op.toList == ([85, 110, 115, 113, 117, 101, 101, 122, 101] : List UInt8)) = false := by rw [hl]; decide
  have q36 : (n.op.toList == ([70, 108, 97, 116, 116, 101, 110] : List UInt8)) = false := by rw [hl]; decide
  clear hl
  have g1 := cell_alloc g0 (.cells #[.string n.op, .string n.name, .slice a1 n.ins.length c1, .string n.out, .slice a2 n.attrs.length c2, .slice (some ⟨bx, ox, none⟩) ins.length c3] 61)
  have HB1 := Lib.hid ((Below.refl w.heap.size w).alloc (Nat.le_refl _) (.cells #[.string n.op, .string n.name, .slice a1 n.ins.length c1, .string n.out, .slice a2 n.attrs.length c2, .slice (some ⟨bx, ox, none⟩) ins.length c3] 61))
  have HA1 : Hid (BoxN (w.alloc (.cells #[.string n.op, .string n.name, .slice a1 n.ins.length c1, .string n.out, .slice a2 n.attrs.length c2, .slice (some ⟨bx, ox, none⟩) ins.length c3] 61)) w.heap.size #[.string n.op, .string n.name, .slice a1 n.ins.length c1, .string n.out, .slice a2 n.attrs.length c2, .slice (some ⟨bx, ox, none⟩) ins.length c3] 61) := Lib.hid (BoxN.new _ _ _)
  obtain ⟨b6, d6⟩ : ∃ b, (x.typ == 6) = b := ⟨_, rfl⟩
  cases b6
  all_goals
    go_enter Tryz.func28, Tryz.ntmps28
    go_wp2_with fail
    have HAl := Lib.hid (fun (W : World) (hW : Below w.heap.size w W) => alike_any (w := W) (v := .agg #[.string n.op, .string n.name, .slice a1 n.ins.length c1, .string n.out, .slice a2 n.attrs.length c2, .slice (some ⟨bx, ox, none⟩) ins.length c3]) 1 ⟨_, _, _, rfl, HM.out.below hW⟩)
    generalize World.alloc w _ = W1 at g1 HB1 HA1 ⊢
    refine (HAl.out _ HB1.out).mono ?_
    rintro e w3 ⟨rfl, B3⟩
    have HB3 : Hid (Below w.heap.size w w3) := Lib.hid (HB1.out.trans (B3.mono HB1.out.size))
    clear B3 HA1 HB1 g1 g0
    rw [show (!(ins.any fun y => y.typ != 1)) = alB ins 1 by unfold alB; rfl]
    cases hal : alB ins 1 with
    | false =>
      have E1 := Lib.hid hal
      clear hal
      go_wp2_with fail
      refine (HNo.out _).mono ?_
      rintro e w' ⟨rfl, rfl⟩
      exact ⟨rfl, TyR.no (typD_no E1.out), HB3.out⟩
    | true =>
      have E1 := Lib.hid hal
      clear hal
      go_wp2_with fail
      refine (HY.out _).mono ?_
      rintro e w' ⟨rfl, rfl⟩
      go_wp2
      go_ret
      exact ⟨TyR.yes (typD_yes E1.out), HB3.out⟩

set_option maxHeartbeats 4000000 in
theorem typ_Softmax {w : World} {v : Value} {n : Nd} {x : Vl} {ins : List Vl} (h : MkV w v n ins) (hi : ins[0]? = some x) (hl : n.op.toList = [83, 111, 102, 116, 109, 97, 120]) :
    Calls Tryz.prog 28 #[v] w fun e w' => TyR (typD (alB ins 1) x.typ) e ∧ Below w.heap.size w w' := by
  obtain ⟨vin, vat, vv, rfl, hm⟩ := h
  obtain ⟨a1, c1, rfl⟩ := hm.node.is.form
  obtain ⟨a2, c2, rfl⟩ := hm.node.ia.form
  obtain ⟨a3, c3, rfl⟩ := hm.ins.form
  have HM := Lib.hid hm
  obtain ⟨bx, ox, rfl, g0⟩ := typ_at hm.ins hi
  have hlen : 0 < ins.length := (List.getElem?_eq_some_iff.1 hi).1
  clear hm hi
  have HY := Lib.hid (fun (W : World) => rule_yes W)
  have HNo := Lib.hid (fun (W : World) => rule_no W)
  have q0 : (n.op.toList == ([67, 111, 110, 115, 116, 97, 110, 116] : List UInt8)) = false := by rw [hl]; decide
  have q1 : (n.op.toList == ([73, 100, 101, 110, 116, 105, 116, 121] : List UInt8)) = false := by rw [hl]; decide
  have q2 : (n.op.toList == ([78, 101, 103] : List UInt8)) = false := by rw [hl]; decide
  have q3 : (n.op.toList == ([65, 98, 115] : List UInt8)) = false := by rw [hl]; decide
  have q4 : (n.op.toList == ([78, 111, 116] : List UInt8)) = false := by rw [hl]; decide
  have q5 : (n.op.toList == ([82, 101, 108, 117] : List UInt8)) = false := by rw [hl]; decide
  have q6 : (n.op.toList == ([83, 113, 114, 116] : List UInt8)) = false := by rw [hl]; decide
  have q7 : (n.op.toList == ([70, 108, 111, 111, 114] : List UInt8)) = false := by rw [hl]; decide
  have q8 : (n.op.toList == ([69, 120, 112] : List UInt8)) = false := by rw [hl]; decide
  have q9 : (n.op.toList == ([83, 105, 103, 109, 111, 105, 100] : List UInt8)) = false := by rw [hl]; decide
  have q10 : (n.op.toList == ([84, 97, 110, 104] : List UInt8)) = false := by rw [hl]; decide
  have q11 : (n.op.toList == ([69, 113, 117, 97, 108] : List UInt8)) = false := by rw [hl]; decide
  have q12 : (n.op.toList == ([76, 101, 115, 115] : List UInt8)) = false := by rw [hl]; decide
  have q13 : (n.op.toList == ([71, 114, 101, 97, 116, 101, 114] : List UInt8)) = false := by rw [hl]; decide
  have q14 : (n.op.toList == ([65, 100, 100] : List UInt8)) = false := by rw [hl]; decide
  have q15 : (n.op.toList == ([83, 117, 98] : List UInt8)) = false := by rw [hl]; decide
  have q16 : (n.op.toList == ([77, 117, 108] : List UInt8)) = false := by rw [hl]; decide
  have q17 : (n.op.toList == ([68, 105, 118] : List UInt8)) = false := by rw [hl]; decide
  have q18 : (n.op.toList == ([77, 97, 120] : List UInt8)) = false := by rw [hl]; decide
  have q19 : (n.op.toList == ([77, 105, 110] : List UInt8)) = false := by rw [hl]; decide
  have q20 : (n.op.toList == ([65, 110, 100] : List UInt8)) = false := by rw [hl]; decide
  have q21 : (n.op.toList == ([79, 114] : List UInt8)) = false := by rw [hl]; decide
  have q22 : (n.op.toList == ([88, 111, 114] : List UInt8)) = false := by rw [hl]; decide
  have q23 : (n.op.toList == ([87, 104, 101, 114, 101] : List UInt8)) = false := by rw [hl]; decide
  have q24 : (n.op.toList == ([67, 97, 115, 116] : List UInt8)) = false := by rw [hl]; decide
  have q25 : (n.op.toList == ([82, 101, 100, 117, 99, 101, 83, 117, 109] : List UInt8)) = false := by rw [hl]; decide
  have q26 : (n.op.toList == ([82, 101, 100, 117, 99, 101, 77, 97, 120] : List UInt8)) = false := by rw [hl]; decide
  have q27 : (n.op.toList == ([65, 114, 103, 77, 97, 120] : List UInt8)) = false := by rw [hl]; decide
  have q28 : (n.op.toList == ([67, 111, 110, 99, 97, 116] : List UInt8)) = false := by rw [hl]; decide
  have q29 : (n.op.toList == ([71, 97, 116, 104, 101, 114] : List UInt8)) = false := by rw [hl]; decide
  have q30 : (n.op.toList == ([82, 101, 115, 104, 97, 112, 101] : List UInt8)) = false := by rw [hl]; decide
  have q31 : (n.op.toList == ([69, 120, 112, 97, 110, 100] : List UInt8)) = false := by rw [hl]; decide
  have q32 : (n.op.toList == ([84, 114, 97, 110, 115, 112, 111, 115, 101] : List UInt8)) = false := by rw [hl]; decide
  have q33 : (n.op.toList == ([83, 108, 105, 99, 101] : List UInt8)) = false := by rw [hl]; decide
  have q34 : (n.op.toList == ([83, 113, 117, 101, 101, 122, 101] : List UInt8)) = false := by rw [hl]; decide
  have q35 : (n.op.toList == ([85, 110, 115, 113, 117, 101, 101, 122, 101] : List UInt8)) = false := by rw [hl]; decide
  have q36 : (n.op.toList == ([70, 108, 97, 116, 116, 101, 110] : List UInt8)) = false := by rw [hl]; decide
  clear hl
  have g1 := cell_alloc g0 (.cells #[.string n.op, .string n.name, .slice a1 n.ins.length c1, .string n.out, .slice a2 n.attrs.length c2, .slice (some ⟨bx, ox, none⟩) ins.length c3] 61)
  have HB1 := Lib.hid ((Below.refl w.heap.size w).alloc (Nat.le_refl _) (.cells #[.string n.op, .string n.name, .slice a1 n.ins.length c1, .string n.out, .slice a2 n.attrs.length c2, .slice (some ⟨bx, ox, none⟩) ins.length c3] 61))
  have HA1 : Hid (BoxN (w.alloc (.cells #[.string n.op, .string n.name, .slice a1 n.ins.length c1, .string n.out, .slice a2 n.attrs.length c2, .slice (some ⟨bx, ox, none⟩) ins.length c3] 61)) w.heap.size #[.string n.op, .string n.name, .slice a1 n.ins.length c1, .string n.out, .slice a2 n.attrs.length c2, .slice (some ⟨bx, ox, none⟩) ins.length c3] 61) := Lib.hid (BoxN.new _ _ _)
  obtain ⟨b6, d6⟩ : ∃ b, (x.typ == 6) = b := ⟨_, rfl⟩
  cases b6
  all_goals
    go_enter Tryz.func28, Tryz.ntmps28
    go_wp2_with fail
    have HAl := Lib.hid (fun (W : World) (hW : Below w.heap.size w W) => alike_any (w := W) (v := .agg #[.string n.op, .string n.name, .slice a1 n.ins.length c1, .string n.out, .slice a2 n.attrs.length c2, .slice (some ⟨bx, ox, none⟩) ins.length c3]) 1 ⟨_, _, _, rfl, HM.out.below hW⟩)
    generalize World.alloc w _ = W1 at g1 HB1 HA1 ⊢
    refine (HAl.out _ HB1.out).mono ?_
    rintro e w3 ⟨rfl, B3⟩
    have HB3 : Hid (Below w.heap.size w w3) := Lib.hid (HB1.out.trans (B3.mono HB1.out.size))
    clear B3 HA1 HB1 g1 g0
    rw [show (!(ins.any fun y => y.typ != 1)) = alB ins 1 by unfold alB; rfl]
    cases hal : alB ins 1 with
    | false =>
      have E1 := Lib.hid hal
      clear hal
      go_wp2_with fail
      refine (HNo.out _).mono ?_
      rintro e w' ⟨rfl, rfl⟩
      exact ⟨rfl, TyR.no (typD_no E1.out), HB3.out⟩
    | true =>
      have E1 := Lib.hid hal
      clear hal
      go_wp2_with fail
      refine (HY.out _).mono ?_
      rintro e w' ⟨rfl, rfl⟩
      go_wp2
      go_ret
      exact ⟨TyR.yes (typD_yes E1.out), HB3.out⟩

end Go.Proofs.YtagiipecfdmceaaGreatDoor

set_option linter.unusedVariables false
set_option linter.unusedSimpArgs false
namespace Go.Proofs.YtagiipecfdmceaaGreatDoor
open Go.RowKit

set_option maxRecDepth 100000

attribute [local irreducible] Vb.bcO reducedP axisP intP RowI

end Go.Proofs.YtagiipecfdmceaaGreatDoor

set_option linter.unusedVariables false
set_option linter.unusedSimpArgs false
namespace Go.Proofs.YtagiipecfdmceaaGreatDoor
open Go.RowKit

set_option maxRecDepth 100000

attribute [local irreducible] Vb.bcO reducedP axisP intP RowI

set_option maxHeartbeats 4000000 in
theorem dims_ReduceSum {w : World} {v : Value} {n : Nd} {x : Vl} {ins : List Vl} (h : MkV w v n ins) (hi : ins[0]? = some x) (hl : n.op.toList = [82, 101, 100, 117, 99, 101, 83, 117, 109]) :
    Calls Tryz.prog 29 #[v] w fun e w' => DimR w (redO n x.dims) e w' := by
  obtain ⟨vin, vat, vv, rfl, hm⟩ := h
  obtain ⟨a1, c1, rfl⟩ := hm.node.is.form
  obtain ⟨a2, c2, rfl⟩ := hm.node.ia.form
  obtain ⟨a3, c3, rfl⟩ := hm.ins.form
  have HM := Lib.hid hm
  obtain ⟨bx, ox, vd, rfl, g0, hd, hy⟩ := dims_at hm.ins hi
  clear hm
  have hlen : 0 < ins.length := (List.getElem?_eq_some_iff.1 hi).1
  clear hi
  clear hy
  have HD := Lib.hid hd
  clear hd
  have HY := Lib.hid (fun (W : World) => rule_yes W)
  have HNo := Lib.hid (fun (W : World) => rule_no W)
  have q0 : (n.op.toList == ([67, 111, 110, 115, 116, 97, 110, 116] : List UInt8)) = false := by rw [hl]; decide
  have q1 : (n.op.toList == ([73, 100, 101, 110, 116, 105, 116, 121] : List UInt8)) = false := by rw [hl]; decide
  have q2 : (n.op.toList == ([78, 101, 103] : List UInt8)) = false := by rw [hl]; decide
  have q3 : (n.op.toList == ([65, 98, 115] : List UInt8)) = false := by rw [hl]; decide
  have q4 : (n.op.toList == ([78, 111, 116] : List UInt8)) = false := by rw [hl]; decide
  have q5 : (n.op.toList == ([82, 101, 108, 117] : List UInt8)) = false := by rw [hl]; decide
  have q6 : (n.op.toList == ([83, 113, 114, 116] : List UInt8)) = false := by rw [hl]; decide
  have q7 : (n.op.toList == ([70, 108, 111, 111, 114] : List UInt8)) = false := by rw [hl]; decide
  have q8 : (n.op.toList == ([69, 120, 112] : List UInt8)) = false := by rw [hl]; decide
  have q9 : (n.op.toList == ([83, 105, 103, 109, 111, 105, 100] : List UInt8)) = false := by rw [hl]; decide
  have q10 : (n.op.toList == ([84, 97, 110, 104] : List UInt8)) = false := by rw [hl]; decide
  have q11 : (n.op.toList == ([67, 108, 105, 112] : List UInt8)) = false := by rw [hl]; decide
  have q12 : (n.op.toList == ([67, 97, 115, 116] : List UInt8)) = false := by rw [hl]; decide
  have q13 : (n.op.toList == ([65, 100, 100] : List UInt8)) = false := by rw [hl]; decide
  have q14 : (n.op.toList == ([83, 117, 98] : List UInt8)) = false := by rw [hl]; decide
  have q15 : (n.op.toList == ([77, 117, 108] : List UInt8)) = false := by rw [hl]; decide
  have q16 : (n.op.toList == ([68, 105, 118] : List UInt8)) = false := by rw [hl]; decide
  have q17 : (n.op.toList == ([77, 97, 120] : List UInt8)) = false := by rw [hl]; decide
  have q18 : (n.op.toList == ([77, 105, 110] : List UInt8)) = false := by rw [hl]; decide
  have q19 : (n.op.toList == ([65, 110, 100] : List UInt8)) = false := by rw [hl]; decide
  have q20 : (n.op.toList == ([79, 114] : List UInt8)) = false := by rw [hl]; decide
  have q21 : (n.op.toList == ([88, 111, 114] : List UInt8)) = false := by rw [hl]; decide
  have q22 : (n.op.toList == ([69, 113, 117, 97, 108] : List UInt8)) = false := by rw [hl]; decide
  have q23 : (n.op.toList == ([76, 101, 115, 115] : List UInt8)) = false := by rw [hl]; decide
  have q24 : (n.op.toList == ([71, 114, 101, 97, 116, 101, 114] : List UInt8)) = false := by rw [hl]; decide
  have q25 : (n.op.toList == ([87, 104, 101, 114, 101] : List UInt8)) = false := by rw [hl]; decide
  have q26 : (n.op.toList == ([83, 111, 102, 116, 109, 97, 120] : List UInt8)) = false := by rw [hl]; decide
  have q27 : (n.op.toList == ([82, 101, 100, 117, 99, 101, 83, 117, 109] : List UInt8)) = true := by rw [hl]; decide
  clear hl
  have g1 := cell_alloc g0 (.cells #[.string n.op, .string n.name, .slice a1 n.ins.length c1, .string n.out, .slice a2 n.attrs.length c2, .slice (some ⟨bx, ox, none⟩) ins.length c3] 61)
  have HB1 := Lib.hid ((Below.refl w.heap.size w).alloc (Nat.le_refl _) (.cells #[.string n.op, .string n.name, .slice a1 n.ins.length c1, .string n.out, .slice a2 n.attrs.length c2, .slice (some ⟨bx, ox, none⟩) ins.length c3] 61))
  have HA1 : Hid (BoxN (w.alloc (.cells #[.string n.op, .string n.name, .slice a1 n.ins.length c1, .string n.out, .slice a2 n.attrs.length c2, .slice (some ⟨bx, ox, none⟩) ins.length c3] 61)) w.heap.size #[.string n.op, .string n.name, .slice a1 n.ins.length c1, .string n.out, .slice a2 n.attrs.length c2, .slice (some ⟨bx, ox, none⟩) ins.length c3] 61) := Lib.hid (BoxN.new _ _ _)
  obtain ⟨ad, cd, rfl⟩ := HD.out.shape
  go_enter Tryz.func29, Tryz.ntmps29
  go_wp2_with fail
  generalize hW1 : World.alloc w _ = W1 at g1 HB1 HA1 ⊢
  refine (reduced_any (n := n) (ins := ins) ⟨_, _, _, rfl, HM.out.below HB1.out⟩ (HD.out.below HB1.out)).mono ?_
  rintro e w2 hR
  have hX : DimR w (redO n x.dims) e w2 := hR.dim HB1.out (fun zs h => reduced_inI HD.out.wf.2 HD.out.wf.1 h)
  have HX := Lib.hid hX
  clear hX hW1
  obtain ⟨_, hc⟩ := hR
  cases hx : reducedP n x.dims with
  | none =>
    rw [hx] at hc
    obtain rfl : e = brk 4 := hc
    clear hx
    exact ⟨rfl, HX.out⟩
  | some zs =>
    rw [hx] at hc
    obtain ⟨v2, rfl, hr2⟩ := hc
    clear hx hr2
    go_wp2
    go_ret
    exact HX.out

set_option maxHeartbeats 4000000 in
theorem dims_ReduceMax {w : World} {v : Value} {n : Nd} {x : Vl} {ins : List Vl} (h : MkV w v n ins) (hi : ins[0]? = some x) (hl : n.op.toList = [82, 101, 100, 117, 99, 101, 77, 97, 120]) :
    Calls Tryz.prog 29 #[v] w fun e w' => DimR w (redO n x.dims) e w' := by
  obtain ⟨vin, vat, vv, rfl, hm⟩ := h
  obtain ⟨a1, c1, rfl⟩ := hm.node.is.form
  obtain ⟨a2, c2, rfl⟩ := hm.node.ia.form
  obtain ⟨a3, c3, rfl⟩ := hm.ins.form
  have HM := Lib.hid hm
  obtain ⟨bx, ox, vd, rfl, g0, hd, hy⟩ := dims_at hm.ins hi
  clear hm
  have hlen : 0 < ins.length := (List.getElem?_eq_some_iff.1 hi).1
  clear hi
  clear hy
  have HD := Lib.hid hd
  clear hd
  have HY := Lib.hid (fun (W : World) => rule_yes W)
  have HNo := Lib.hid (fun (W : World) => rule_no W)
  have q0 : (n.op.toList == ([67, 111, 110, 115, 116, 97, 110, 116] : List UInt8)) = false := by rw [hl]; decide
  have q1 : (n.op.toList == ([73, 100, 101, 110, 116, 105, 116, 121] : List UInt8)) = false := by rw [hl]; decide
  have q2 : (n.op.toList == ([78, 101, 103] : List UInt8)) = false := by rw [hl]; decide
  have q3 : (n.op.toList == ([65, 98, 115] : List UInt8)) = false := by rw [hl]; decide
  have q4 : (n.op.toList == ([78, 111, 116] : List UInt8)) = false := by rw [hl]; decide
  have q5 : (n.op.toList == ([82, 101, 108, 117] : List UInt8)) = false := by rw [hl]; decide
  have q6 : (n.op.toList == ([83, 113, 114, 116] : List UInt8)) = false := by rw [hl]; decide
  have q7 : (n.op.toList == ([70, 108, 111, 111, 114] : List UInt8)) = false := by rw [hl]; decide
  have q8 : (n.op.toList == ([69, 120, 112] : List UInt8)) = false := by rw [hl]; decide
  have q9 : (n.op.toList == ([83, 105, 103, 109, 111, 105, 100] : List UInt8)) = false := by rw [hl]; decide
  have q10 : (n.op.toList == ([84, 97, 110, 104] : List UInt8)) = false := by rw [hl]; decide
  have q11 : (n.op.toList == ([67, 108, 105, 112] : List UInt8)) = false := by rw [hl]; decide
  have q12 : (n.op.toList == ([67, 97, 115, 116] : List UInt8)) = false := by rw [hl]; decide
  have q13 : (n.op.toList == ([65, 100, 100] : List UInt8)) = false := by rw [hl]; decide
  have q14 : (n.op.toList == ([83, 117, 98] : List UInt8)) = false := by rw [hl]; decide
  have q15 : (n.op.toList == ([77, 117, 108] : List UInt8)) = false := by rw [hl]; decide
  have q16 : (n.op.toList == ([68, 105, 118] : List UInt8)) = false := by rw [hl]; decide
  have q17 : (n.op.toList == ([77, 97, 120] : List UInt8)) = false := by rw [hl]; decide
  have q18 : (n.op.toList == ([77, 105, 110] : List UInt8)) = false := by rw [hl]; decide
  have q19 : (n.op.toList == ([65, 110, 100] : List UInt8)) = false := by rw [hl]; decide
  have q20 : (n.op.toList == ([79, 114] : List UInt8)) = false := by rw [hl]; decide
  have q21 : (n.op.toList == ([88, 111, 114] : List UInt8)) = false := by rw [hl]; decide
  have q22 : (n.op.toList == ([69, 113, 117, 97, 108] : List UInt8)) = false := by rw [hl]; decide
  have q23 : (n.op.toList == ([76, 101, 115, 115] : List UInt8)) = false := by rw [hl]; decide
  have q24 : (n.op.toList == ([71, 114, 101, 97, 116, 101, 114] : List UInt8)) = false := by rw [hl]; decide
  have q25 : (n.op.toList == ([87, 104, 101, 114, 101] : List UInt8)) = false := by rw [hl]; decide
  have q26 : (n.op.toList == ([83, 111, 102, 116, 109, 97, 120] : List UInt8)) = false := by rw [hl]; decide
  have q27 : (n.op.toList == ([82, 101, 100, 117, 99, 101, 83, 117, 109] : List UInt8)) = false := by rw [hl]; decide
  have q28 : (n.op.toList == ([82, 101, 100, 117, 99, 101, 77, 97, 120] : List UInt8)) = true := by rw [hl]; decide
  clear hl
  have g1 := cell_alloc g0 (.cells #[.string n.op, .string n.name, .slice a1 n.ins.length c1, .string n.out, .slice a2 n.attrs.length c2, .slice (some ⟨bx, ox, none⟩) ins.length c3] 61)
  have HB1 := Lib.hid ((Below.refl w.heap.size w).alloc (Nat.le_refl _) (.cells #[.string n.op, .string n.name, .slice a1 n.ins.length c1, .string n.out, .slice a2 n.attrs.length c2, .slice (some ⟨bx, ox, none⟩) ins.length c3] 61))
  have HA1 : Hid (BoxN (w.alloc (.cells #[.string n.op, .string n.name, .slice a1 n.ins.length c1, .string n.out, .slice a2 n.attrs.length c2, .slice (some ⟨bx, ox, none⟩) ins.length c3] 61)) w.heap.size #[.string n.op, .string n.name, .slice a1 n.ins.length c1, .string n.out, .slice a2 n.attrs.length c2, .slice (some ⟨bx, ox, none⟩) ins.length c3] 61) := Lib.hid (BoxN.new _ _ _)
  obtain ⟨ad, cd, rfl⟩ := HD.out.shape
  go_enter Tryz.func29, Tryz.ntmps29
  go_wp2_with fail
  generalize hW1 : World.alloc w _ = W1 at g1 HB1 HA1 ⊢
  refine (reduced_any (n := n) (ins := ins) ⟨_, _, _, rfl, HM.out.below HB1.out⟩ (HD.out.below HB1.out)).mono ?_
  rintro e w2 hR
  have hX : DimR w (redO n x.dims) e w2 := hR.dim HB1.out (fun zs h => reduced_inI HD.out.wf.2 HD.out.wf.1 h)
  have HX := Lib.hid hX
  clear hX hW1
  obtain ⟨_, hc⟩ := hR
  cases hx : reducedP n x.dims with
  | none =>
    rw [hx] at hc
    obtain rfl : e = brk 4 := hc
    clear hx
    exact ⟨rfl, HX.out⟩
  | some zs =>
    rw [hx] at hc
    obtain ⟨v2, rfl, hr2⟩ := hc
    clear hx hr2
    go_wp2
    go_ret
    exact HX.out

set_option maxHeartbeats 4000000 in
theorem dims_ReduceMean {w : World} {v : Value} {n : Nd} {x : Vl} {ins : List Vl} (h : MkV w v n ins) (hi : ins[0]? = some x) (hl : n.op.toList = [82, 101, 100, 117, 99, 101, 77, 101, 97, 110]) :
    Calls Tryz.prog 29 #[v] w fun e w' => DimR w (redO n x.dims) e w' := by
  obtain ⟨vin, vat, vv, rfl, hm⟩ := h
  obtain ⟨a1, c1, rfl⟩ := hm.node.is.form
  obtain ⟨a2, c2, rfl⟩ := hm.node.ia.form
  obtain ⟨a3, c3, rfl⟩ := hm.ins.form
  have HM := Lib.hid hm
  obtain ⟨bx, ox, vd, rfl, g0, hd, hy⟩ := dims_at hm.ins hi
  clear hm
  have hlen : 0 < ins.length := (List.getElem?_eq_some_iff.1 hi).1
  clear hi
  clear hy
  have HD := Lib.hid hd
  clear hd
  have HY := Lib.hid (fun (W : World) => rule_yes W)
  have HNo := Lib.hid (fun (W : World) => rule_no W)
  have q0 : (n.op.toList == ([67, 111, 110, 115, 116, 97, 110, 116] : List UInt8)) = false := by rw [hl]; decide
  have q1 : (n.op.toList == ([73, 100, 101, 110, 116, 105, 116, 121] : List UInt8)) = false := by rw [hl]; decide
  have q2 : (n.op.toList == ([78, 101, 103] : List UInt8)) = false := by rw [hl]; decide
  have q3 : (n.op.toList == ([65, 98, 115] : List UInt8)) = false := by rw [hl]; decide
  have q4 : (n.op.toList == ([78, 111, 116] : List UInt8)) = false := by rw [hl]; decide
  have q5 : (n.op.toList == ([82, 101, 108, 117] : List UInt8)) = false := by rw [hl]; decide
  have q6 : (n.op.toList == ([83, 113, 114, 116] : List UInt8)) = false := by rw [hl]; decide
  have q7 : (n.op.toList == ([70, 108, 111, 111, 114] : List UInt8)) = false := by rw [hl]; decide
  have q8 : (n.op.toList == ([69, 120, 112] : List UInt8)) = false := by rw [hl]; decide
  have q9 : (n.op.toList == ([83, 105, 103, 109, 111, 105, 100] : List UInt8)) = false := by rw [hl]; decide
  have q10 : (n.op.toList == ([84, 97, 110, 104] : List UInt8)) = false := by rw [hl]; decide
  have q11 : (n.op.toList == ([67, 108, 105, 112] : List UInt8)) = false := by rw [hl]; decide
  have q12 : (n.op.toList == ([67, 97, 115, 116] : List UInt8)) = false := by rw [hl]; decide
  have q13 : (n.op.toList == ([65, 100, 100] : List UInt8)) = false := by rw [hl]; decide
  have q14 : (n.op.toList == ([83, 117, 98] : List UInt8)) = false := by rw [hl]; decide
  have q15 : (n.op.toList == ([77, 117, 108] : List UInt8)) = false := by rw [hl]; decide
  have q16 : (n.op.toList == ([68, 105, 118] : List UInt8)) = false := by rw [hl]; decide
  have q17 : (n.op.toList == ([77, 97, 120] : List UInt8)) = false := by rw [hl]; decide
  have q18 : (n.op.toList == ([77, 105, 110] : List UInt8)) = false := by rw [hl]; decide
  have q19 : (n.op.toList == ([65, 110, 100] : List UInt8)) = false := by rw [hl]; decide
  have q20 : (n.op.toList == ([79, 114] : List UInt8)) = false := by rw [hl]; decide
  have q21 : (n.op.toList == ([88, 111, 114] : List UInt8)) = false := by rw [hl]; decide
  have q22 : (n.op.toList == ([69, 113, 117, 97, 108] : List UInt8)) = false := by rw [hl]; decide
  have q23 : (n.op.toList == ([76, 101, 115, 115] : List UInt8)) = false := by rw [hl]; decide
  have q24 : (n.op.toList == ([71, 114, 101, 97, 116, 101, 114] : List UInt8)) = false := by rw [hl]; decide
  have q25 : (n.op.toList == ([87, 104, 101, 114, 101] : List UInt8)) = false := by rw [hl]; decide
  have q26 : (n.op.toList == ([83, 111, 102, 116, 109, 97, 120] : List UInt8)) = false := by rw [hl]; decide
  have q27 : (n.op.toList == ([82, 101, 100, 117, 99, 101, 83, 117, 109] : List UInt8)) = false := by rw [hl]; decide
  have q28 : (n.op.toList == ([82, 101, 100, 117, 99, 101, 77, 97, 120] : List UInt8)) = false := by rw [hl]; decide
  have q29 : (n.op.toList == ([82, 101, 100, 117, 99, 101, 77, 101, 97, 110] : List UInt8)) = true := by rw [hl]; decide
  clear hl
  have g1 := cell_alloc g0 (.cells #[.string n.op, .string n.name, .slice a1 n.ins.length c1, .string n.out, .slice a2 n.attrs.length c2, .slice (some ⟨bx, ox, none⟩) ins.length c3] 61)
  have HB1 := Lib.hid ((Below.refl w.heap.size w).alloc (Nat.le_refl _) (.cells #[.string n.op, .string n.name, .slice a1 n.ins.length c1, .string n.out, .slice a2 n.attrs.length c2, .slice (some ⟨bx, ox, none⟩) ins.length c3] 61))
  have HA1 : Hid (BoxN (w.alloc (.cells #[.string n.op, .string n.name, .slice a1 n.ins.length c1, .string n.out, .slice a2 n.attrs.length c2, .slice (some ⟨bx, ox, none⟩) ins.length c3] 61)) w.heap.size #[.string n.op, .string n.name, .slice a1 n.ins.length c1, .string n.out, .slice a2 n.attrs.length c2, .slice (some ⟨bx, ox, none⟩) ins.length c3] 61) := Lib.hid (BoxN.new _ _ _)
  obtain ⟨ad, cd, rfl⟩ := HD.out.shape
  go_enter Tryz.func29, Tryz.ntmps29
  go_wp2_with fail
  generalize hW1 : World.alloc w _ = W1 at g1 HB1 HA1 ⊢
  refine (reduced_any (n := n) (ins := ins) ⟨_, _, _, rfl, HM.out.below HB1.out⟩ (HD.out.below HB1.out)).mono ?_
  rintro e w2 hR
  have hX : DimR w (redO n x.dims) e w2 := hR.dim HB1.out (fun zs h => reduced_inI HD.out.wf.2 HD.out.wf.1 h)
  have HX := Lib.hid hX
  clear hX hW1
  obtain ⟨_, hc⟩ := hR
  cases hx : reducedP n x.dims with
  | none =>
    rw [hx] at hc
    obtain rfl : e = brk 4 := hc
    clear hx
    exact ⟨rfl, HX.out⟩
  | some zs =>
    rw [hx] at hc
    obtain ⟨v2, rfl, hr2⟩ := hc
    clear hx hr2
    go_wp2
    go_ret
    exact HX.out

set_option maxHeartbeats 4000000 in
theorem dims_ArgMax {w : World} {v : Value} {n : Nd} {x : Vl} {ins : List Vl} (h : MkV w v n ins) (hi : ins[0]? = some x) (hl : n.op.toList = [65, 114, 103, 77, 97, 120]) :
    Calls Tryz.prog 29 #[v] w fun e w' => DimR w (redO n x.dims) e w' := by
  obtain ⟨vin, vat, vv, rfl, hm⟩ := h
  obtain ⟨a1, c1, rfl⟩ := hm.node.is.form
  obtain ⟨a2, c2, rfl⟩ := hm.node.ia.form
  obtain ⟨a3, c3, rfl⟩ := hm.ins.form
  have HM := Lib.hid hm
  obtain ⟨bx, ox, vd, rfl, g0, hd, hy⟩ := dims_at hm.ins hi
  clear hm
  have hlen : 0 < ins.length := (List.getElem?_eq_some_iff.1 hi).1
  clear hi
  clear hy
  have HD := Lib.hid hd
  clear hd
  have HY := Lib.hid (fun (W : World) => rule_yes W)
  have HNo := Lib.hid (fun (W : World) => rule_no W)
  have q0 : (n.op.toList == ([67, 111, 110, 115, 116, 97, 110, 116] : List UInt8)) = false := by rw [hl]; decide
  have q1 : (n.op.toList == ([73, 100, 101, 110, 116, 105, 116, 121] : List UInt8)) = false := by rw [hl]; decide
  have q2 : (n.op.toList == ([78, 101, 103] : List UInt8)) = false := by rw [hl]; decide
  have q3 : (n.op.toList == ([65, 98, 115] : List UInt8)) = false := by rw [hl]; decide
  have q4 : (n.op.toList == ([78, 111, 116] : List UInt8)) = false := by rw [hl]; decide
  have q5 : (n.op.toList == ([82, 101, 108, 117] : List UInt8)) = false := by rw [hl]; decide
  have q6 : (n.op.toList == ([83, 113, 114, 116] : List UInt8)) = false := by rw [hl]; decide
  have q7 : (n.op.toList == ([70, 108, 111, 111, 114] : List UInt8)) = false := by rw [hl]; decide
  have q8 : (n.op.toList == ([69, 120, 112] : List UInt8)) = false := by rw [hl]; decide
  have q9 : (n.op.toList == ([83, 105, 103, 109, 111, 105, 100] : List UInt8)) = false := by rw [hl]; decide
  have q10 : (n.op.toList == ([84, 97, 110, 104] : List UInt8)) = false := by rw [hl]; decide
  have q11 : (n.op.toList == ([67, 108, 105, 112] : List UInt8)) = false := by rw [hl]; decide
  have q12 : (n.op.toList == ([67, 97, 115, 116] : List UInt8)) = false := by rw [hl]; decide
  have q13 : (n.op.toList == ([65, 100, 100] : List UInt8)) = false := by rw [hl]; decide
  have q14 : (n.op.toList == ([83, 117, 98] : List UInt8)) = false := by rw [hl]; decide
  have q15 : (n.op.toList == ([77, 117, 108] : List UInt8)) = false := by rw [hl]; decide
  have q16 : (n.op.toList == ([68, 105, 118] : List UInt8)) = false := by rw [hl]; decide
  have q17 : (n.op.toList == ([77, 97, 120] : List UInt8)) = false := by rw [hl]; decide
  have q18 : (n.op.toList == ([77, 105, 110] : List UInt8)) = false := by rw [hl]; decide
  have q19 : (n.op.toList == ([65, 110, 100] : List UInt8)) = false := by rw [hl]; decide
  have q20 : (n.op.toList == ([79, 114] : List UInt8)) = false := by rw [hl]; decide
  have q21 : (n.op.toList == ([88, 111, 114] : List UInt8)) = false := by rw [hl]; decide
  have q22 : (n.op.toList == ([69, 113, 117, 97, 108] : List UInt8)) = false := by rw [hl]; decide
  have q23 : (n.op.toList == ([76, 101, 115, 115] : List UInt8)) = false := by rw [hl]; decide
  have q24 : (n.op.toList == ([71, 114, 101, 97, 116, 101, 114] : List UInt8)) = false := by rw [hl]; decide
  have q25 : (n.op.toList == ([87, 104, 101, 114, 101] : List UInt8)) = false := by rw [hl]; decide
  have q26 : (n.op.toList == ([83, 111, 102, 116, 109, 97, 120] : List UInt8)) = false := by rw [hl]; decide
  have q27 : (n.op.toList == ([82, 101, 100, 117, 99, 101, 83, 117, 109] : List UInt8)) = false := by rw [hl]; decide
  have q28 : (n.op.toList == ([82, 101, 100, 117, 99, 101, 77, 97, 120] : List UInt8)) = false := by rw [hl]; decide
  have q29 : (n.op.toList == ([82, 101, 100, 117, 99, 101, 77, 101, 97, 110] : List UInt8)) = false := by rw [hl]; decide
  have q30 : (n.op.toList == ([65, 114, 103, 77, 97, 120] : List UInt8)) = true := by rw [hl]; decide
  clear hl
  have g1 := cell_alloc g0 (.cells #[.string n.op, .string n.name, .slice a1 n.ins.length c1, .string n.out, .slice a2 n.attrs.length c2, .slice (some ⟨bx, ox, none⟩) ins.length c3] 61)
  have HB1 := Lib.hid ((Below.refl w.heap.size w).alloc (Nat.le_refl _) (.cells #[.string n.op, .string n.name, .slice a1 n.ins.length c1, .string n.out, .slice a2 n.attrs.length c2, .slice (some ⟨bx, ox, none⟩) ins.length c3] 61))
  have HA1 : Hid (BoxN (w.alloc (.cells #[.string n.op, .string n.name, .slice a1 n.ins.length c1, .string n.out, .slice a2 n.attrs.length c2, .slice (some ⟨bx, ox, none⟩) ins.length c3] 61)) w.heap.size #[.string n.op, .string n.name, .slice a1 n.ins.length c1, .string n.out, .slice a2 n.attrs.length c2, .slice (some ⟨bx, ox, none⟩) ins.length c3] 61) := Lib.hid (BoxN.new _ _ _)
  obtain ⟨ad, cd, rfl⟩ := HD.out.shape
  go_enter Tryz.func29, Tryz.ntmps29
  go_wp2_with fail
  generalize hW1 : World.alloc w _ = W1 at g1 HB1 HA1 ⊢
  refine (reduced_any (n := n) (ins := ins) ⟨_, _, _, rfl, HM.out.below HB1.out⟩ (HD.out.below HB1.out)).mono ?_
  rintro e w2 hR
  have hX : DimR w (redO n x.dims) e w2 := hR.dim HB1.out (fun zs h => reduced_inI HD.out.wf.2 HD.out.wf.1 h)
  have HX := Lib.hid hX
  clear hX hW1
  obtain ⟨_, hc⟩ := hR
  cases hx : reducedP n x.dims with
  | none =>
    rw [hx] at hc
    obtain rfl : e = brk 4 := hc
    clear hx
    exact ⟨rfl, HX.out⟩
  | some zs =>
    rw [hx] at hc
    obtain ⟨v2, rfl, hr2⟩ := hc
    clear hx hr2
    go_wp2
    go_ret
    exact HX.out

end Go.Proofs.YtagiipecfdmceaaGreatDoor
