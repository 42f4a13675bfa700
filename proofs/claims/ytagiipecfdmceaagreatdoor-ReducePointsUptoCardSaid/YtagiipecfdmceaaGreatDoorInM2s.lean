/- What infer.Out makes of a node and values, as a plain function of what typ and dims make; sums and the like of two in either order. No program in sight. -/
import Derived.Test.YtagiipecfdmceaaGreatDoorSchPs
import Derived.Test.YtagiipecfdmceaaGreatDoorVxMs
import Derived.Test.YtagiipecfdmceaaGreatDoorGrAs
import Derived.Test.YtagiipecfdmceaaGreatDoorFlMs
import Derived.Test.YtagiipecfdmceaaGreatDoorInM1s
import Derived.Test.YtagiipecfdmceaaGreatDoorNmMs
import Derived.Test.YtagiipecfdmceaaGreatDoorRegs
import Derived.BigQuiet
import Derived.Deep.QuietTactic
import Derived.Defers
import Derived.Recover
import Derived.Test.YtagiipecfdmceaaGreatDoorSchQs
set_option linter.unusedVariables false
set_option linter.unusedSimpArgs false
namespace Go.Proofs.YtagiipecfdmceaaGreatDoor
open Go.RowKit

/-- The error of the first value that may not be. -/
def inpE : List Vl → Int
  | [] => 0
  | x :: l => if chk x.typ 0 = false then 5 else if (cnt x.dims).2 ≠ 0 then (cnt x.dims).2 else inpE l

/-- Do all operators that follow take a type? -/
def folB (l : List ByteArray) (t : Int) : Bool := l.all fun op => decide ((Fl.un op.toList t 0).2 = 0)

/-- What is left of it behind the checks. -/
def restP (n : Nd) (ty : Int × Int) (ds : Int × List Int) : Int × Int × List Int :=
  if ty.1 ≠ 0 then (ty.1, 0, [])
  else if ds.1 ≠ 0 then (ds.1, 0, [])
  else if (cnt ds.2).2 ≠ 0 then ((cnt ds.2).2, 0, [])
  else if folB (thenE n.attrs).1 ty.2 = false then (4, 0, [])
  else (0, ty.2, ds.2)
/-- infer.Out: the error, the type, the dims. -/
def outP (n : Nd) (ins : List Vl) (ty : Int × Int) (ds : Int × List Int) : Int × Int × List Int :=
  if checkP n ≠ 0 then (checkP n, 0, [])
  else if ins.length ≠ n.ins.length then (4, 0, [])
  else if inpE ins ≠ 0 then (inpE ins, 0, [])
  else restP n ty ds
theorem outP_rest {n : Nd} {ins : List Vl} {ty : Int × Int} {ds : Int × List Int} (h : checkP n = 0) (g : ins.length = n.ins.length) (k : inpE ins = 0) : outP n ins ty ds = restP n ty ds := by
  unfold outP; rw [if_neg (fun c => c h), if_neg (fun c => c g), if_neg (fun c => c k)]

theorem outP_check {n : Nd} {ins : List Vl} {ty : Int × Int} {ds : Int × List Int} (h : checkP n ≠ 0) : outP n ins ty ds = (checkP n, 0, []) := if_pos h
theorem outP_len {n : Nd} {ins : List Vl} {ty : Int × Int} {ds : Int × List Int} (h : checkP n = 0) (g : ins.length ≠ n.ins.length) : outP n ins ty ds = (4, 0, []) := by
  unfold outP; rw [if_neg (fun c => c h), if_pos g]
theorem outP_ins {n : Nd} {ins : List Vl} {ty : Int × Int} {ds : Int × List Int} (h : checkP n = 0) (g : ins.length = n.ins.length) (k : inpE ins ≠ 0) : outP n ins ty ds = (inpE ins, 0, []) := by
  unfold outP; rw [if_neg (fun c => c h), if_neg (fun c => c g), if_pos k]
theorem outP_typ {n : Nd} {ins : List Vl} {ty : Int × Int} {ds : Int × List Int} (h : checkP n = 0) (g : ins.length = n.ins.length) (k : inpE ins = 0) (t : ty.1 ≠ 0) : outP n ins ty ds = (ty.1, 0, []) := by
  rw [outP_rest h g k]; unfold restP; rw [if_pos t]
theorem outP_dims {n : Nd} {ins : List Vl} {ty : Int × Int} {ds : Int × List Int} (h : checkP n = 0) (g : ins.length = n.ins.length) (k : inpE ins = 0) (t : ty.1 = 0) (d : ds.1 ≠ 0) : outP n ins ty ds = (ds.1, 0, []) := by
  rw [outP_rest h g k]; unfold restP; rw [if_neg (fun c => c t), if_pos d]
theorem outP_cnt {n : Nd} {ins : List Vl} {ty : Int × Int} {ds : Int × List Int} (h : checkP n = 0) (g : ins.length = n.ins.length) (k : inpE ins = 0) (t : ty.1 = 0) (d : ds.1 = 0) (c : (cnt ds.2).2 ≠ 0) : outP n ins ty ds = ((cnt ds.2).2, 0, []) := by
  rw [outP_rest h g k]; unfold restP; rw [if_neg (fun c => c t), if_neg (fun c => c d), if_pos c]
theorem outP_fol {n : Nd} {ins : List Vl} {ty : Int × Int} {ds : Int × List Int} (h : checkP n = 0) (g : ins.length = n.ins.length) (k : inpE ins = 0) (t : ty.1 = 0) (d : ds.1 = 0) (c : (cnt ds.2).2 = 0) (f : folB (thenE n.attrs).1 ty.2 = false) : outP n ins ty ds = (4, 0, []) := by
  rw [outP_rest h g k]; unfold restP; rw [if_neg (fun c => c t), if_neg (fun c => c d), if_neg (fun x => x c), if_pos f]
theorem outP_ok {n : Nd} {ins : List Vl} {ty : Int × Int} {ds : Int × List Int} (h : checkP n = 0) (g : ins.length = n.ins.length) (k : inpE ins = 0) (t : ty.1 = 0) (d : ds.1 = 0) (c : (cnt ds.2).2 = 0) (f : folB (thenE n.attrs).1 ty.2 = true) : outP n ins ty ds = (0, ty.2, ds.2) := by
  rw [outP_rest h g k]; unfold restP; rw [if_neg (fun c => c t), if_neg (fun c => c d), if_neg (fun x => x c), if_neg (by rw [f]; decide)]

/-! ### the operators of two -/

attribute [local irreducible] cnt

end Go.Proofs.YtagiipecfdmceaaGreatDoor

set_option linter.unusedVariables false
set_option linter.unusedSimpArgs false
namespace Go.Proofs.YtagiipecfdmceaaGreatDoor
open Go.RowKit

set_option maxRecDepth 100000

theorem fol_bad {l : List ByteArray} {t : Int} {k : Nat} {s : ByteArray} (hs : l[k]? = some s) (h : (Fl.un s.toList t 0).2 ≠ 0) : folB l t = false :=
  List.all_eq_false.2 ⟨s, List.mem_of_getElem? hs, by simpa using h⟩
theorem fol_next {l : List ByteArray} {t : Int} {k : Nat} {s : ByteArray} (hs : l[k]? = some s) (h : (Fl.un s.toList t 0).2 = 0) (g : folB (l.take k) t = true) : folB (l.take (k + 1)) t = true := by
  rw [List.take_add_one, hs]
  unfold folB at *
  rw [List.all_append, g]
  simpa using h

attribute [local irreducible] folB Fl.un thenE

set_option maxHeartbeats 4000000 in
theorem mthen_any {w : World} {v : Value} {n : Nd} {ins : List Vl} (t : Int) (h : MkV w v n ins) (hG : Glob w) :
    Calls Tryz.prog 30 #[v, .int .i64 t] w fun e w' => ((folB (thenE n.attrs).1 t = true ∧ e = .returned (.tuple #[])) ∨ (folB (thenE n.attrs).1 t = false ∧ e = brk 4)) ∧ Below w.heap.size w w' := by
  obtain ⟨vin, vat, vv, rfl, hm⟩ := h
  obtain ⟨a1, c1, rfl⟩ := hm.node.is.form
  obtain ⟨a2, c2, rfl⟩ := hm.node.ia.form
  obtain ⟨a3, c3, rfl⟩ := hm.ins.form
  have HM := Lib.hid hm
  have HG := Lib.hid hG
  clear hm hG
  have HY := Lib.hid (fun (W : World) => rule_yes W)
  have HNo := Lib.hid (fun (W : World) => rule_no W)
  have HUn := Lib.hid (fun (W : World) (op : ByteArray) => Nm.unary_any op t 0 (by decide) (by decide) W)
  have HB1 := Lib.hid ((Below.refl w.heap.size w).alloc (Nat.le_refl _) (.cells #[.string n.op, .string n.name, .slice a1 n.ins.length c1, .string n.out, .slice a2 n.attrs.length c2, .slice a3 ins.length c3] 61))
  go_enter Tryz.func30, Tryz.ntmps30
  go_wp2_with fail
  generalize World.alloc w _ = W1 at HB1 ⊢
  have hT := then_any ⟨_, _, rfl, (HM.out.below HB1.out).node⟩ (HG.out.below HB1.out)
  unfold Nd.val at hT
  refine hT.mono ?_
  clear hT
  rintro e w2 ⟨B2, v2, rfl, hs2⟩
  have HB2 : Hid (Below w.heap.size w w2) := Lib.hid (HB1.out.trans (B2.mono HB1.out.size))
  clear B2 HB1 HM HG
  obtain ⟨l, hl⟩ : ∃ l, (thenE n.attrs).1 = l := ⟨_, rfl⟩
  have HL := Lib.hid hl
  rw [hl] at hs2
  clear hl
  have hll := hs2.len
  obtain ⟨a4, c4, rfl⟩ := hs2.form
  have HS := Lib.hid hs2
  clear hs2
  go_wp2_with fail
  go_loopw [18] (fun i wr => ∃ k : Nat, k ≤ l.length ∧ i = .int .i64 (k : Int) ∧ Hid (folB (l.take k) t = true) ∧ Hid (Below w2.heap.size w2 wr)) (fun i _ => l.length - (intOf i).toNat)
  case atStart => exact ⟨0, Nat.zero_le _, rfl, Lib.hid (by rw [List.take_zero]; unfold folB; rfl), Lib.hid (Below.refl _ _)⟩
  case round =>
    obtain ⟨k, hk, rfl, hE, hW⟩ := hrel
    have hBw := Lib.hid (HB2.out.trans (hW.out.mono HB2.out.size))
    by_cases hkl : k < l.length
    · have hki : (k : Int) < (l.length : Int) := by omega
      obtain ⟨s, hs⟩ : ∃ s, l[k]? = some s := ⟨_, List.getElem?_eq_getElem hkl⟩
      obtain ⟨b, off, cap, hv, hb, hr⟩ := HS.out.rows k s hs
      obtain ⟨rfl, -, rfl⟩ := Value.slice.inj hv
      clear hv
      have c0 := (hW.out.cell (p := ⟨b, off + k, none⟩) hb).trans (hr k s hs)
      have HSk := Lib.hid hs
      clear hs hr
      go_wp2_with fail
      refine (HUn.out _ s).mono ?_
      rintro e w5 ⟨rfl, B5⟩
      have B5 : Below wr.heap.size wr w5 := B5
      have hW5 := Lib.hid (hW.out.trans (B5.mono hW.out.size))
      have hBw5 := Lib.hid (hBw.out.trans (B5.mono hBw.out.size))
      clear B5
      generalize (Fl.un s.toList t 0).1 = r1
      have HF1 := Lib.hid (fun h => fol_bad (t := t) HSk.out h)
      have HF2 := Lib.hid (fun h => fol_next (t := t) HSk.out h hE.out)
      generalize (Fl.un s.toList t 0).2 = r2 at *
      by_cases hr : r2 = 0
      · have hrb : (r2 == 0) = true := by simpa using hr
        have HE2 := Lib.hid (HF2.out hr)
        clear hr HF1 HF2
        go_wp2_with fail
        refine (HY.out _).mono ?_
        rintro e w' ⟨rfl, rfl⟩
        go_wp2
        go_roundw
        case rel => exact ⟨k + 1, by omega, by go_num, HE2, hW5⟩
        case measure => simp [intOf]; omega
      · have hrb : (r2 == 0) = false := by simpa using hr
        have HE2 := Lib.hid (HF1.out hr)
        clear hr HF1 HF2
        go_wp2_with fail
        refine (HNo.out _).mono ?_
        rintro e w' ⟨rfl, rfl⟩
        exact ⟨rfl, Or.inr ⟨by rw [HL.out]; exact HE2.out, rfl⟩, hBw5.out⟩
    · have hki : ¬ (k : Int) < (l.length : Int) := by omega
      obtain rfl : k = l.length := by omega
      have hF : Hid (folB l t = true) := Lib.hid (by have := hE.out; rwa [List.take_length] at this)
      go_wp2
      go_end0
      exact ⟨Or.inl ⟨by rw [HL.out]; exact hF.out, rfl⟩, hBw.out⟩

end Go.Proofs.YtagiipecfdmceaaGreatDoor

set_option linter.unusedVariables false
set_option linter.unusedSimpArgs false
namespace Go.Proofs.YtagiipecfdmceaaGreatDoor
open Go.RowKit

set_option maxRecDepth 100000

theorem IntsIn.capI {w : World} {a : Option Addr} {n c : Nat} {zs : List Int} (h : IntsIn w (.slice a n c) zs) : n = zs.length ∧ zs.length ≤ c := by
  generalize hv : Value.slice a n c = v at h
  cases h with
  | empty a0 cap => obtain ⟨-, rfl, -⟩ := Value.slice.inj hv; exact ⟨rfl, Nat.zero_le _⟩
  | row b off cap _ h0 hc hb hr hlen hw => obtain ⟨-, rfl, rfl⟩ := Value.slice.inj hv; exact ⟨rfl, hc⟩
theorem IntsIn.take {w : World} {a : Option Addr} {n c k : Nat} {zs : List Int} (h : IntsIn w (.slice a n c) zs) (hk : k ≤ zs.length) : IntsIn w (.slice a k c) (zs.take k) := by
  generalize hv : Value.slice a n c = v at h
  cases h with
  | empty a0 cap =>
    obtain rfl : k = 0 := by simpa using hk
    exact .empty _ _
  | row b off cap _ h0 hc hb hr hlen hw =>
    obtain ⟨rfl, rfl, rfl⟩ := Value.slice.inj hv
    by_cases h00 : k = 0
    · subst h00; exact .empty _ _
    · have hl : (zs.take k).length = k := by rw [List.length_take]; omega
      have := IntsIn.row (w := w) b off c (zs.take k) (by intro e; rw [e] at hl; simp at hl; omega) (by omega) hb (fun j hj => by
        rw [hl] at hj
        rw [hr j (by omega)]
        simp [List.getD, List.getElem?_take, hj]) (by omega) (fun z hz => hw z (List.mem_of_mem_take hz))
      rwa [hl] at this

attribute [local irreducible] Vb.bcO RowI

end Go.Proofs.YtagiipecfdmceaaGreatDoor

set_option linter.unusedVariables false
set_option linter.unusedSimpArgs false
namespace Go.Proofs.YtagiipecfdmceaaGreatDoor
open Go.RowKit

set_option maxRecDepth 100000

/-- The cells of a named value, and of a named error. -/
structure OutC (w : World) (B : Nat) (nm : ByteArray) (t : Int) (vd : Value) (e : Int) : Prop where
  c0 : w.cell? ⟨B, 0, none⟩ = some (.string nm)
  c1 : w.cell? ⟨B, 1, none⟩ = some (.int .i64 t)
  c2 : w.cell? ⟨B, 2, none⟩ = some vd
  c3 : w.cell? ⟨B + 1, 0, none⟩ = some (.int .i64 e)
  z0 : w.frozen? ⟨B, 0, none⟩ = false
  z1 : w.frozen? ⟨B, 1, none⟩ = false
  z2 : w.frozen? ⟨B, 2, none⟩ = false
  z3 : w.frozen? ⟨B + 1, 0, none⟩ = false

theorem OutC.put {w : World} {B : Nat} {nm : ByteArray} {t : Int} {vd : Value} {e : Int} (h : OutC w B nm t vd e) (nm' : ByteArray) (t' : Int) (vd' : Value) (e' : Int) :
    OutC ((((w.setCell ⟨B, 0, none⟩ (.string nm')).setCell ⟨B, 1, none⟩ (.int .i64 t')).setCell ⟨B, 2, none⟩ vd').setCell ⟨B + 1, 0, none⟩ (.int .i64 e')) B nm' t' vd' e' := by
  obtain ⟨c0, c1, c2, c3, z0, z1, z2, z3⟩ := h
  refine ⟨?_, ?_, ?_, ?_, ?_, ?_, ?_, ?_⟩ <;> simp [go_sem, c0, c1, c2, c3, z0, z1, z2, z3]
theorem OutC.below {w w' : World} {B : Nat} {nm : ByteArray} {t : Int} {vd : Value} {e : Int} (h : OutC w B nm t vd e) (hB : Below w.heap.size w w') : OutC w' B nm t vd e := by
  obtain ⟨c0, c1, c2, c3, z0, z1, z2, z3⟩ := h
  have hb : B < w.heap.size := cell_in c0
  have hb1 : B + 1 < w.heap.size := cell_in c3
  exact ⟨(hB.cell (p := ⟨B, 0, none⟩) hb).trans c0, (hB.cell (p := ⟨B, 1, none⟩) hb).trans c1, (hB.cell (p := ⟨B, 2, none⟩) hb).trans c2, (hB.cell (p := ⟨B + 1, 0, none⟩) hb1).trans c3,
    (hB.frozen (p := ⟨B, 0, none⟩) hb).trans z0, (hB.frozen (p := ⟨B, 1, none⟩) hb).trans z1, (hB.frozen (p := ⟨B, 2, none⟩) hb).trans z2, (hB.frozen (p := ⟨B + 1, 0, none⟩) hb1).trans z3⟩
theorem below_put4 {w : World} {B : Nat} (a b c d : Value) : Below B w ((((w.setCell ⟨B, 0, none⟩ a).setCell ⟨B, 1, none⟩ b).setCell ⟨B, 2, none⟩ c).setCell ⟨B + 1, 0, none⟩ d) :=
  ((((Below.refl B w).setCell (p := ⟨B, 0, none⟩) (Nat.le_refl B) a).setCell (p := ⟨B, 1, none⟩) (Nat.le_refl B) b).setCell (p := ⟨B, 2, none⟩) (Nat.le_refl B) c).setCell (p := ⟨B + 1, 0, none⟩) (Nat.le_succ B) d

theorem as_broken (v : Value) (w : World) : (Instr.typeAssert (.iface 52 v) 20 52 true).run Tryz.prog w = .ok (.tuple #[v, .bool true]) w := by kernel_rfl

theorem catch_idle (p q : Addr) (w : World) :
    CallsD Tryz.prog 22 #[.pointer (some p), .pointer (some q)] .returning w fun e u' w' => e = .returned (.tuple #[]) ∧ u' = .returning ∧ w' = w := by
  refine callsD_of_wpS Tryz.func22 rfl fun c₀ cs hu => ?_
  apply wpS_seq
  apply wpS_region
  simp [wpOpsS, go_sem, recoverD, hu, Tryz.ntmps22, Exit.thenS]
  apply wpS_seq
  apply wpS_region
  simp [wpOpsS, go_sem, Exit.thenS, Array.replicate]
  refine wpS_cond (t := false) (by simp [Act.eval, Array.replicate]) ?_
  simp only [Bool.false_eq_true, if_false]
  refine wpS_of_wp (wp_skip ?_)
  cases c₀
  simp_all [bodyPostS, results, Tryz.results22]

set_option maxHeartbeats 2000000 in
theorem catch_broken (B : Nat) (c : Int) (w : World) {nm : ByteArray} {t x : Int} {vd : Value} (h : OutC w B nm t vd x) :
    CallsD Tryz.prog 22 #[.pointer (some ⟨B, 0, none⟩), .pointer (some ⟨B + 1, 0, none⟩)] (.panicking [{ v := .iface 52 (.int .i64 c), recovered := false }]) w fun e u' w' =>
      e = .returned (.tuple #[]) ∧ u' = .panicking [{ v := .iface 52 (.int .i64 c), recovered := true }] ∧ OutC w' B ⟨#[]⟩ 0 (.slice none 0 0) c ∧ Below B w w' := by
  have hP := Lib.hid (h.put ⟨#[]⟩ 0 (.slice none 0 0) c)
  obtain ⟨c0, c1, c2, c3, z0, z1, z2, z3⟩ := h
  have hta := as_broken
  refine callsD_of_wpS Tryz.func22 rfl fun c₀ cs hu => ?_
  apply wpS_seq
  apply wpS_region
  simp [wpOpsS, go_sem, recoverD, hu, Tryz.ntmps22, Exit.thenS]
  apply wpS_seq
  apply wpS_region
  simp [wpOpsS, go_sem, Exit.thenS, Array.replicate]
  refine wpS_cond (t := true) (by simp [Act.eval, Array.replicate]) ?_
  simp only [if_true]
  refine wpS_of_wp ?_
  go_wp2
  exact ⟨rfl, _, rfl, _, by simp [results, Tryz.results22], rfl, rfl, hP.out, below_put4 _ _ _ _⟩

end Go.Proofs.YtagiipecfdmceaaGreatDoor

set_option linter.unusedVariables false
namespace Go.Proofs.YtagiipecfdmceaaGreatDoor
open Go

section
variable {P : Program} {ops : Array Oper} {Q : Exit → Act → World → Prop} {md : Region.Mode} {S : World → Prop} {n : Nat}

theorem wpAnyP_of_planD (hsel : Region.noSelect ops = true) (hs : Region.sinkB md ops n = true) (hc : Region.chainB md ops n = true) (hn : n < ops.size)
    (hQ : ∀ c (i : Nat) (o : Oper) (v : Value) a w, ops[i]? = some o → Q (.panic c) (a.put o.dst v) w → Q (.panic c) a w) :
    ∀ (pl : List Nat) (listed : Array Bool) (a : Act) (w : World), HeadInv md ops n listed → planB md ops n pl listed = true → S w → wpPlan P md ops Q S n pl a w →
      wpAnyP P md ops Q S n (pl.length + (ops.size - n)) listed a w
  | [], listed, a, w, inv, hB, hS, h => by
    have h1 := wpAnyP_of_seq (S := S) (n := n) (ops.toList.drop n) n listed a w (Nat.le_refl _) (fun j => by simp [List.getElem?_drop]) (by simpa [planB] using hB) h
    simpa using h1
  | i :: rest, listed, a, w, inv, hB, hS, h => by
    unfold planB at hB
    unfold wpPlan at h
    cases ho : ops[i]? with
    | none => rw [ho] at hB; cases hB
    | some o =>
      rw [ho] at hB h
      simp only [Bool.and_eq_true, decide_eq_true_eq] at hB
      obtain ⟨⟨hin, hr⟩, hB'⟩ := hB
      rw [show (i :: rest).length + (ops.size - n) = (rest.length + (ops.size - n)) + 1 by rw [List.length_cons]; omega]
      cases hq : quietOp o with
      | true =>
        simp only [hq, if_true, Bool.and_eq_true] at hr h
        obtain ⟨v, hy, h⟩ := h
        have hr' : i ∈ Region.ready md ops listed := by simpa using hr.1
        exact wpAnyP_first ho (Region.noSelect_spec hsel) hs hc hn hin (fun c a w h => hQ c i o _ a w ho h) _ listed a w inv (Region.free_spec ho hr.2) hr' hy hS
          (wpAnyP_of_planD hsel hs hc hn hQ rest _ _ w (inv.set hr' hin) hB' hS h)
      | false =>
        simp only [hq, Bool.false_eq_true, if_false, decide_eq_true_eq] at hr h
        refine ⟨fun h1 => (by rw [hr] at h1; cases h1), fun j hj => ?_⟩
        have hj' := hj
        rw [hr] at hj
        obtain rfl : j = i := by simpa using hj
        exact wpOp_mono (fun a' w' h' => ⟨fun _ => h'.1, wpAnyP_of_planD hsel hs hc hn hQ rest _ a' w' (inv.set hj' hin) hB' h'.1 h'.2⟩) h

/-- A drawn region by a plan, where a panic's post looks at some slots. -/
theorem wp_region_planD {id : Nat} {a : Act} {w : World} (n : Nat) (pl : List Nat) (S : World → Prop) (hm : P.follows .mixedOrders = true) (hB : regB .any ops n pl = true)
    (hQ : ∀ c (i : Nat) (o : Oper) (v : Value) a w, ops[i]? = some o → Q (.panic c) (a.put o.dst v) w → Q (.panic c) a w) (hS : S w.drew) (h : wpPlan P .any ops Q S n pl a w.drew) : (Code.region id ops true).wp P Q a w := by
  simp only [regB, Bool.and_eq_true, decide_eq_true_eq] at hB
  obtain ⟨⟨⟨⟨⟨hsel, hn⟩, hs⟩, hc⟩, hp⟩, hl⟩ := hB
  have inv0 : HeadInv .any ops n (Array.replicate ops.size false) :=
    ⟨by simp, fun j oj _ hl => (by rw [getD_replicate_false] at hl; cases hl), fun t _ ht => getD_in (by simpa using ht) (getD_replicate_false _ _)⟩
  have H := wpAnyP_of_planD hsel hs hc hn hQ pl _ a w.drew inv0 hp hS h
  rw [hl, show n + (ops.size - n) = ops.size by omega] at H
  exact wp_region_any hm (wpAny_of_P _ _ _ _ H)
end

/-- What is left to be done at a function's end looks at the results alone. -/
theorem leaves_congr {P : Program} {fn : Func} {t t' : Array Value} {R : Ending → World → Prop} (h : ∀ w, (results fn t).run P w = (results fn t').run P w) :
    ∀ (ds : List Deferred) (u : FrameMode) (w : World), Leaves P fn t R ds u w → Leaves P fn t' R ds u w
  | [], .returning, w, ⟨v, hr, hR⟩ => ⟨v, (h w).symm.trans hr, hR⟩
  | [], .panicking c, w, hl => hl
  | [], .run, w, hl => hl
  | d :: ds, u, w, ⟨hu, fv, cap, f, args, ht, hi, hc⟩ => ⟨hu, fv, cap, f, args, ht, hi, hc.mono (fun e u' w' hx => match e, hx with
      | .returned _, hx => leaves_congr h ds _ _ hx
      | .panicked _, hx => leaves_congr h ds _ _ hx
      | .outgrown, hx => hx)⟩

end Go.Proofs.YtagiipecfdmceaaGreatDoor

set_option linter.unusedVariables false
set_option linter.unusedSimpArgs false
namespace Go.Proofs.YtagiipecfdmceaaGreatDoor
open Go.RowKit

set_option maxRecDepth 100000

/-- What comes of typ: the error, or a type. -/
def TyR (r : Int × Int) (e : Ending) : Prop := (r.1 ≠ 0 ∧ e = brk r.1) ∨ (r.1 = 0 ∧ e = .returned (.int .i64 r.2))
theorem TyR.no {r : Int × Int} (h : r = (4, 0)) : TyR r (brk 4) := by subst h; exact Or.inl ⟨by decide, rfl⟩
theorem TyR.yes {r : Int × Int} {t : Int} (h : r = (0, t)) : TyR r (.returned (.int .i64 t)) := by subst h; exact Or.inr ⟨rfl, rfl⟩

def alB (ins : List Vl) (t : Int) : Bool := !(ins.any fun x => x.typ != t)
def typS (t z : Int) : Int × Int := if t = 6 ∨ t = 7 ∨ t = 1 then (0, z) else (4, 0)
def typD (al : Bool) (t : Int) : Int × Int := if al = true then (0, t) else (4, 0)

theorem typD_no {t : Int} {al : Bool} (h : al = false) : typD al t = (4, 0) := if_neg (by rw [h]; decide)
theorem typD_yes {t : Int} {al : Bool} (h : al = true) : typD al t = (0, t) := if_pos h

/-- The first value's type in memory. -/
theorem typ_at {w : World} {a : Option Addr} {c : Nat} {x : Vl} {ins : List Vl} (h : SlIn 3 rdValue w (.slice a ins.length c) ins) (hi : ins[0]? = some x) : ∃ b off, a = some ⟨b, off, none⟩ ∧ w.cell? ⟨b, off + 1, none⟩ = some (.int .i64 x.typ) := by
  obtain ⟨b, off, cap, cs, hv, hb, hc, hl, ⟨vd, rfl, _⟩, hr⟩ := h.rows 0 x hi
  obtain ⟨rfl, -, -⟩ := Value.slice.inj hv
  have := hr 1 _ rfl
  exact ⟨b, off, rfl, by simpa using this⟩

attribute [local irreducible] typS typD alB Fl.bin Fl.un

end Go.Proofs.YtagiipecfdmceaaGreatDoor

set_option linter.unusedVariables false
set_option linter.unusedSimpArgs false
namespace Go.Proofs.YtagiipecfdmceaaGreatDoor
open Go.RowKit

set_option maxRecDepth 100000

/-- What comes of dims: an error, or a row of numbers that can be read. -/
def DimR (w : World) (o : Int × List Int) (e : Ending) (w' : World) : Prop := Below w.heap.size w w' ∧ ((o.1 ≠ 0 ∧ e = brk o.1) ∨ (o.1 = 0 ∧ ∃ v, e = .returned v ∧ IntsIn w' v o.2))
theorem ResE.dim {w w' w0 : World} {o : Int × List Int} {e : Ending} (h : ResE w o e w') (hB : Below w0.heap.size w0 w) (hl : o.1 = 0 → o.2.length * 8 ≤ 140737488351232) (hi : ∀ z ∈ o.2, InI z) : DimR w0 o e w' := by
  obtain ⟨B, h | ⟨h0, v, rfl, hr⟩⟩ := h
  · exact ⟨hB.trans (B.mono hB.size), Or.inl h⟩
  · exact ⟨hB.trans (B.mono hB.size), Or.inr ⟨h0, v, rfl, hr.ints (hl h0) hi⟩⟩
def optO (x : Option (List Int)) : Int × List Int := match x with | none => (4, []) | some zs => (0, zs)
theorem ResI.dim {w w' w0 : World} {x : Option (List Int)} {e : Ending} (h : ResI w x e w') (hB : Below w0.heap.size w0 w) (hl : ∀ zs, x = some zs → zs.length * 8 ≤ 140737488351232 ∧ ∀ z ∈ zs, InI z) : DimR w0 (optO x) e w' := by
  obtain ⟨B, h⟩ := h
  cases x with
  | none => exact ⟨hB.trans (B.mono hB.size), Or.inl ⟨(show (4 : Int) ≠ 0 by decide), h⟩⟩
  | some zs =>
    obtain ⟨v, rfl, hr⟩ := h
    exact ⟨hB.trans (B.mono hB.size), Or.inr ⟨rfl, v, rfl, hr.ints (hl _ rfl).1 (hl _ rfl).2⟩⟩

theorem wou_inI {x gone : List Int} {keep : Bool} (hx : ∀ z ∈ x, InI z) : ∀ k, k ≤ x.length → ∀ z ∈ wouL x gone keep k, InI z := by
  intro k
  induction k with
  | zero => intro _ z hz; simp [wouL] at hz
  | succ k ih =>
    intro hk z hz
    rw [wou_next] at hz
    rcases List.mem_append.1 hz with hz | hz
    · exact ih (by omega) z hz
    · unfold cutI at hz
      split at hz
      · split at hz
        · obtain rfl : z = 1 := by simpa using hz
          exact inI_one
        · cases hz
      · obtain rfl : z = x.getD k 0 := by simpa using hz
        exact hx _ (getD_mem (by omega))
theorem reduced_inI {n : Nd} {x zs : List Int} (hx : ∀ z ∈ x, InI z) (hl : x.length * 8 ≤ 140737488351232) (h : reducedP n x = some zs) : zs.length * 8 ≤ 140737488351232 ∧ ∀ z ∈ zs, InI z := by
  unfold reducedP at h
  split at h
  · cases h
  · split at h
    · obtain rfl := Option.some.inj h
      exact ⟨by have := wou_len x (by assumption) (decide (intP n.attrs nmKeep 1 = 1)) x.length; omega, wou_inI hx _ (Nat.le_refl _)⟩
    · cases h

/-- The values' dims in memory. -/
theorem dims_at {w : World} {a : Option Addr} {c : Nat} {x : Vl} {ins : List Vl} (h : SlIn 3 rdValue w (.slice a ins.length c) ins) (hi : ins[0]? = some x) : ∃ b off vd, a = some ⟨b, off, none⟩ ∧ w.cell? ⟨b, off + 2, none⟩ = some vd ∧ IntsIn w vd x.dims ∧ ∀ y, ins[1]? = some y → ∃ ve, w.cell? ⟨b, off + 5, none⟩ = some ve ∧ IntsIn w ve y.dims := by
  obtain ⟨b, off, cap, vd, hv, hb, _, _, c2, _, _, hd⟩ := value_at h (j := 0) (x := x) hi
  obtain ⟨rfl, -, -⟩ := Value.slice.inj hv
  refine ⟨b, off, vd, rfl, by simpa using c2, hd, fun y hj => ?_⟩
  obtain ⟨b', off', cap', ve, hv', hb', _, _, c2', _, _, hd'⟩ := value_at h (j := 1) (x := y) hj
  obtain ⟨e, -, -⟩ := Value.slice.inj hv'
  obtain ⟨rfl, rfl⟩ : b = b' ∧ off = off' := by simpa using e
  exact ⟨ve, by simpa using c2', hd'⟩

def redO (n : Nd) (x : List Int) : Int × List Int := optO (reducedP n x)
/-- Softmax: its axis must be one; the shape stays. -/
def softO (n : Nd) (x : List Int) : Int × List Int := match axisP (intP n.attrs nmAxis (-1)) x.length with | none => (4, []) | some _ => (0, x)
theorem soft_no {n : Nd} {x : List Int} (h : axisP (intP n.attrs nmAxis (-1)) x.length = none) : softO n x = (4, []) := by unfold softO; rw [h]
theorem soft_yes {n : Nd} {x : List Int} {k : Int} (h : axisP (intP n.attrs nmAxis (-1)) x.length = some k) : softO n x = (0, x) := by unfold softO; rw [h]

attribute [local irreducible] Vb.bcO reducedP axisP intP RowI

set_option maxHeartbeats 4000000 in
theorem dims_Softmax {w : World} {v : Value} {n : Nd} {x : Vl} {ins : List Vl} (h : MkV w v n ins) (hi : ins[0]? = some x) (hl : n.op.toList = [83, 111, 102, 116, 109, 97, 120]) :
    Calls Tryz.prog 29 #[v] w fun e w' => DimR w (softO n x.dims) e w' := by
  obtain ⟨vin, vat, vv, rfl, hm⟩ := h
  obtain ⟨a1, c1, rfl⟩ := hm.node.is.form
  obtain ⟨a2, c2, rfl⟩ := hm.node.ia.form
  obtain ⟨a3, c3, rfl⟩ := hm.ins.form
  have HM := Lib.hid hm
  obtain ⟨bx, ox, vd, rfl, g0, hd, hy⟩ := dims_at hm.ins hi
  clear hm
  have hlen : 0 < ins.length := (List.getElem?_eq_some_iff.1 hi).1
  clear hi
  clear hy
  have HD := Lib.hid hd
  clear hd
  have HY := Lib.hid (fun (W : World) => rule_yes W)
  have HNo := Lib.hid (fun (W : World) => rule_no W)
  have q0 : (n.op.toList == ([67, 111, 110, 115, 116, 97, 110, 116] : List UInt8)) = false := by rw [hl]; decide
  have q1 : (n.op.toList == ([73, 100, 101, 110, 116, 105, 116, 121] : List UInt8)) = false := by rw [hl]; decide
  have q2 : (n.op.toList == ([78, 101, 103] : List UInt8)) = false := by rw [hl]; decide
  have q3 : (n.op.toList == ([65, 98, 115] : List UInt8)) = false := by rw [hl]; decide
  have q4 : (n.op.toList == ([78, 111, 116] : List UInt8)) = false := by rw [hl]; decide
  have q5 : (n.op.toList == ([82, 101, 108, 117] : List UInt8)) = false := by rw [hl]; decide
  have q6 : (n.op.toList == ([83, 113, 114, 116] : List UInt8)) = false := by rw [hl]; decide
  have q7 : (n.op.toList == ([70, 108, 111, 111, 114] : List UInt8)) = false := by rw [hl]; decide
  have q8 : (n.op.toList == ([69, 120, 112] : List UInt8)) = false := by rw [hl]; decide
  have q9 : (n.op.toList == ([83, 105, 103, 109, 111, 105, 100] : List UInt8)) = false := by rw [hl]; decide
  have q10 : (n.op.toList == ([84, 97, 110, 104] : List UInt8)) = false := by rw [hl]; decide
  have q11 : (n.op.toList == ([67, 108, 105, 112] : List UInt8)) = false := by rw [hl]; decide
  have q12 : (n.op.toList == ([67, 97, 115, 116] : List UInt8)) = false := by rw [hl]; decide
  have q13 : (n.op.toList == ([65, 100, 100] : List UInt8)) = false := by rw [hl]; decide
  have q14 : (n.op.toList == ([83, 117, 98] : List UInt8)) = false := by rw [hl]; decide
  have q15 : (n.op.toList == ([77, 117, 108] : List UInt8)) = false := by rw [hl]; decide
  have q16 : (n.op.toList == ([68, 105, 118] : List UInt8)) = false := by rw [hl]; decide
  have q17 : (n.op.toList == ([77, 97, 120] : List UInt8)) = false := by rw [hl]; decide
  have q18 : (n.op.toList == ([77, 105, 110] : List UInt8)) = false := by rw [hl]; decide
  have q19 : (n.op.toList == ([65, 110, 100] : List UInt8)) = false := by rw [hl]; decide
  have q20 : (n.op.toList == ([79, 114] : List UInt8)) = false := by rw [hl]; decide
  have q21 : (n.op.toList == ([88, 111, 114] : List UInt8)) = false := by rw [hl]; decide
  have q22 : (n.op.toList == ([69, 113, 117, 97, 108] : List UInt8)) = false := by rw [hl]; decide
  have q23 : (n.op.toList == ([76, 101, 115, 115] : List UInt8)) = false := by rw [hl]; decide
  have q24 : (n.op.toList == ([71, 114, 101, 97, 116, 101, 114] : List UInt8)) = false := by rw [hl]; decide
  have q25 : (n.op.toList == ([87, 104, 101, 114, 101] : List UInt8)) = false := by rw [hl]; decide
  have q26 : (n.op.toList == ([83, 111, 102, 116, 109, 97, 120] : List UInt8)) = true := by rw [hl]; decide
  clear hl
  have g1 := cell_alloc g0 (.cells #[.string n.op, .string n.name, .slice a1 n.ins.length c1, .string n.out, .slice a2 n.attrs.length c2, .slice (some ⟨bx, ox, none⟩) ins.length c3] 61)
  have HB1 := Lib.hid ((Below.refl w.heap.size w).alloc (Nat.le_refl _) (.cells #[.string n.op, .string n.name, .slice a1 n.ins.length c1, .string n.out, .slice a2 n.attrs.length c2, .slice (some ⟨bx, ox, none⟩) ins.length c3] 61))
  have HA1 : Hid (BoxN (w.alloc (.cells #[.string n.op, .string n.name, .slice a1 n.ins.length c1, .string n.out, .slice a2 n.attrs.length c2, .slice (some ⟨bx, ox, none⟩) ins.length c3] 61)) w.heap.size #[.string n.op, .string n.name, .slice a1 n.ins.length c1, .string n.out, .slice a2 n.attrs.length c2, .slice (some ⟨bx, ox, none⟩) ins.length c3] 61) := Lib.hid (BoxN.new _ _ _)
  obtain ⟨ad, cd, rfl⟩ := HD.out.shape
  go_enter Tryz.func29, Tryz.ntmps29
  go_wp2_with fail
  generalize hW1 : World.alloc w _ = W1 at g1 HB1 HA1 ⊢
  clear hW1
  have hxl := HD.out.wf.1
  refine (sint_any (n := n) ⟨_, _, rfl, (HM.out.below HB1.out).node⟩ nmAxis (-1)).mono ?_
  rintro e w2 ⟨rfl, B2⟩
  have HB2 : Hid (Below w.heap.size w w2) := Lib.hid (HB1.out.trans (B2.mono HB1.out.size))
  have hz := int_okP (nm := nmAxis) (other := -1) ⟨_, _, rfl, HM.out.node⟩ (by unfold InI; decide)
  have HS1 := Lib.hid (fun h => soft_no (n := n) (x := x.dims) h)
  have HS2 := Lib.hid (fun k h => soft_yes (n := n) (x := x.dims) (k := k) h)
  generalize intP n.attrs nmAxis (-1) = z at *
  have HAx := Lib.hid (axis_any z x.dims.length hz (by omega) w2)
  clear B2 hz
  go_wp2_with fail
  refine HAx.out.mono ?_
  rintro e w3 ⟨hr, rfl⟩
  cases ha : axisP z x.dims.length with
  | none =>
    rw [ha] at hr
    obtain rfl : e = brk 4 := hr
    have E := Lib.hid (HS1.out ha)
    clear ha
    exact ⟨rfl, HB2.out, Or.inl ⟨by rw [E.out]; decide, by rw [E.out]⟩⟩
  | some k =>
    rw [ha] at hr
    obtain rfl : e = .returned (.int .i64 k) := hr
    have E := Lib.hid (HS2.out k ha)
    clear ha
    go_wp2
    go_ret
    exact ⟨HB2.out, Or.inr ⟨by rw [E.out], _, rfl, by rw [E.out]; exact HD.out.below HB2.out⟩⟩

end Go.Proofs.YtagiipecfdmceaaGreatDoor

set_option linter.unusedVariables false
set_option linter.unusedSimpArgs false
namespace Go.Proofs.YtagiipecfdmceaaGreatDoor
open Go.RowKit

set_option maxRecDepth 100000

/-- What comes of infer.Out. -/
def OutR (w : World) (n : Nd) (o : Int × Int × List Int) (e : Ending) (w' : World) : Prop :=
  Below w.heap.size w w' ∧ ((o.1 ≠ 0 ∧ e = .returned (.tuple #[.agg #[.string ⟨#[]⟩, .int .i64 0, .slice none 0 0], .int .i64 o.1])) ∨
    (o.1 = 0 ∧ ∃ v, e = .returned (.tuple #[.agg #[.string n.out, .int .i64 o.2.1, v], .int .i64 0]) ∧ RowI w' w.heap.size v o.2.2))
theorem OutR.no {w w' : World} {n : Nd} {o : Int × Int × List Int} {c : Int} (h : o = (c, 0, [])) (hc : c ≠ 0) (hB : Below w.heap.size w w') : OutR w n o (.returned (.tuple #[.agg #[.string ⟨#[]⟩, .int .i64 0, .slice none 0 0], .int .i64 c])) w' := by
  subst h; exact ⟨hB, Or.inl ⟨hc, rfl⟩⟩
theorem OutR.yes {w w' : World} {n : Nd} {o : Int × Int × List Int} {t : Int} {ds : List Int} {v : Value} (h : o = (0, t, ds)) (hB : Below w.heap.size w w') (hr : RowI w' w.heap.size v ds) : OutR w n o (.returned (.tuple #[.agg #[.string n.out, .int .i64 t, v], .int .i64 0])) w' := by
  subst h; exact ⟨hB, Or.inr ⟨rfl, v, rfl, hr⟩⟩

theorem inp_end {l : List Vl} {k : Nat} (h : ¬ k < l.length) : inpE (l.drop k) = 0 := by
  rw [List.drop_eq_nil_of_le (by omega)]; rfl
theorem inp_type {l : List Vl} {k : Nat} {x : Vl} (hx : l[k]? = some x) (h : chk x.typ 0 = false) : inpE (l.drop k) = 5 := by
  obtain ⟨hk, rfl⟩ := List.getElem?_eq_some_iff.1 hx
  rw [List.drop_eq_getElem_cons hk, inpE]; exact if_pos h
theorem inp_dims {l : List Vl} {k : Nat} {x : Vl} (hx : l[k]? = some x) (h : chk x.typ 0 = true) (g : (cnt x.dims).2 ≠ 0) : inpE (l.drop k) = (cnt x.dims).2 := by
  obtain ⟨hk, rfl⟩ := List.getElem?_eq_some_iff.1 hx
  rw [List.drop_eq_getElem_cons hk, inpE, if_neg (by rw [h]; decide)]; exact if_pos g
theorem inp_next {l : List Vl} {k : Nat} {x : Vl} (hx : l[k]? = some x) (h : chk x.typ 0 = true) (g : (cnt x.dims).2 = 0) : inpE (l.drop k) = inpE (l.drop (k + 1)) := by
  obtain ⟨hk, rfl⟩ := List.getElem?_eq_some_iff.1 hx
  rw [List.drop_eq_getElem_cons hk, inpE, if_neg (by rw [h]; decide), if_neg (fun c => c g)]

theorem put4_row {w : World} {D B0 B : Nat} {v a b c d : Value} {zs : List Int} (h : RowI w D v zs) (hl : B + 1 < D) (hb : B0 ≤ D) :
    RowI ((((w.setCell ⟨B, 0, none⟩ a).setCell ⟨B, 1, none⟩ b).setCell ⟨B, 2, none⟩ c).setCell ⟨B + 1, 0, none⟩ d) B0 v zs := by
  refine RowI.base (B := D) ?_ hb
  unfold RowI at *
  exact ownsRow_setCell_below (ownsRow_setCell_below (ownsRow_setCell_below (ownsRow_setCell_below h (a := ⟨B, 0, none⟩) (show B < D by omega) _) (a := ⟨B, 1, none⟩) (show B < D by omega) _) (a := ⟨B, 2, none⟩) (show B < D by omega) _) (a := ⟨B + 1, 0, none⟩) hl _
def keepsB (d : Option Tmp) : Bool := match d with | some k => decide (k ≠ 4 ∧ k ≠ 5) | none => true
theorem leaves_put {R : Ending → World → Prop} {u : FrameMode} {w : World} {a : Act} {dst : Option Tmp} (hd : keepsB dst = true) (v : Value)
    (h : Leaves Tryz.prog Tryz.f11 (a.put dst v).tmps R (a.put dst v).defers u w) : Leaves Tryz.prog Tryz.f11 a.tmps R a.defers u w := by
  cases dst with
  | none => exact h
  | some k =>
    have hk : k ≠ 4 ∧ k ≠ 5 := by simpa [keepsB] using hd
    refine leaves_congr (fun W => ?_) _ _ _ h
    have e4 : (a.tmps.setIfInBounds k v).getD 4 undef = a.tmps.getD 4 undef := by
      simp [Array.getD_eq_getD_getElem?, Array.getElem?_setIfInBounds, hk.1]
    have e5 : (a.tmps.setIfInBounds k v).getD 5 undef = a.tmps.getD 5 undef := by
      simp [Array.getD_eq_getD_getElem?, Array.getElem?_setIfInBounds, hk.2]
    show (results Tryz.f11 (a.tmps.setIfInBounds k v)).run Tryz.prog W = _
    unfold results
    rw [Tryz.results11]
    simp only [e4, e5, List.mapM_toArray, List.mapM_cons, List.mapM_nil]

attribute [local irreducible] cnt chk checkP inpE outP folB thenE RowI

set_option maxHeartbeats 16000000 in
theorem out_any {w : World} {vn vv : Value} {n : Nd} {ins : List Vl} (hn : NodeV w vn n) (hs : SlIn 3 rdValue w vv ins) (hG : Glob w) {ty : Int × Int} {ds : Int × List Int}
    (hT : checkP n = 0 → ins.length = n.ins.length → inpE ins = 0 → ∀ (W : World) (v : Value), Below w.heap.size w W → MkV W v n ins → Calls Tryz.prog 28 #[v] W fun e w' => TyR ty e ∧ Below W.heap.size W w')
    (hD : checkP n = 0 → ins.length = n.ins.length → inpE ins = 0 → ty.1 = 0 → ∀ (W : World) (v : Value), Below w.heap.size w W → MkV W v n ins → Calls Tryz.prog 29 #[v] W fun e w' => DimR W ds e w') :
    Calls Tryz.prog 11 #[vn, vv] w fun e w' => OutR w n (outP n ins ty ds) e w' := by
  have hmf : ∀ (fn : Fn) (first cap : Array Value) (w : World), (Instr.makeFunc fn first cap).run Tryz.prog w = .ok (.func fn first cap) w := fun _ _ _ _ => rfl
  obtain ⟨vin, vat, rfl, hm⟩ := hn
  obtain ⟨a1, c1, rfl⟩ := hm.is.form
  obtain ⟨a2, c2, rfl⟩ := hm.ia.form
  obtain ⟨a3, c3, rfl⟩ := hs.form
  have hil := hs.len
  have hnl := hm.is.len
  have HN := Lib.hid hm
  have HS := Lib.hid hs
  have HG := Lib.hid hG
  have HT := Lib.hid hT
  have HD := Lib.hid hD
  clear hm hs hG hT hD
  have HY := Lib.hid (fun (W : World) => rule_yes W)
  have HNo := Lib.hid (fun (W : World) => rule_no W)
  have HGY := Lib.hid (fun (W : World) => good_yes W)
  have HGN := Lib.hid (fun (W : World) (c : Int) (h : c ≠ 0) => good_no c h W)
  unfold Nd.val
  go_enter_defers Tryz.func11, Tryz.ntmps11
  go_wp2_with fail
  have HB1 : Hid (Below w.heap.size w (((w.alloc (Obj.cells #[.string n.op, .string n.name, .slice a1 n.ins.length c1, .string n.out, .slice a2 n.attrs.length c2] 25)).alloc (Obj.cells #[.string ⟨#[]⟩, .int .i64 0, .slice none 0 0] 30)).alloc (Obj.cells #[.int .i64 0] 31))) := Lib.hid ((((Below.refl _ w).alloc (Nat.le_refl _) _).alloc (by simp) _).alloc (by simp; omega) _)
  have HND : Hid (BoxN (((w.alloc (Obj.cells #[.string n.op, .string n.name, .slice a1 n.ins.length c1, .string n.out, .slice a2 n.attrs.length c2] 25)).alloc (Obj.cells #[.string ⟨#[]⟩, .int .i64 0, .slice none 0 0] 30)).alloc (Obj.cells #[.int .i64 0] 31)) w.heap.size #[.string n.op, .string n.name, .slice a1 n.ins.length c1, .string n.out, .slice a2 n.attrs.length c2] 25) := Lib.hid ((BoxN.new w #[.string n.op, .string n.name, .slice a1 n.ins.length c1, .string n.out, .slice a2 n.attrs.length c2] 25).below' (((Below.refl _ _).alloc (Nat.le_refl _) _).alloc (by simp) _))
  have HOC : Hid (OutC (((w.alloc (Obj.cells #[.string n.op, .string n.name, .slice a1 n.ins.length c1, .string n.out, .slice a2 n.attrs.length c2] 25)).alloc (Obj.cells #[.string ⟨#[]⟩, .int .i64 0, .slice none 0 0] 30)).alloc (Obj.cells #[.int .i64 0] 31)) (w.heap.size + 1) ⟨#[]⟩ 0 (.slice none 0 0) 0) := Lib.hid ⟨by simp [go_sem], by simp [go_sem], by simp [go_sem], by simp [go_sem], by simp [go_sem], by simp [go_sem], by simp [go_sem], by simp [go_sem]⟩
  generalize World.alloc (World.alloc (World.alloc w _) _) _ = W1 at HB1 HND HOC ⊢
  refine (scheck_any (n := n) ⟨_, _, rfl, HN.out.below HB1.out⟩ (HG.out.below HB1.out)).mono ?_
  rintro e w2 ⟨rfl, B2⟩
  have HB2 : Hid (Below W1.heap.size W1 w2) := Lib.hid B2
  clear B2
  have HO1 := Lib.hid (fun h => outP_check (n := n) (ins := ins) (ty := ty) (ds := ds) h)
  obtain ⟨r, hr⟩ : ∃ r, checkP n = r := ⟨_, rfl⟩
  by_cases hz : r = 0
  case neg =>
    have HR : Hid (outP n ins ty ds = (r, 0, [])) := Lib.hid (by rw [HO1.out (by rw [hr]; exact hz), hr])
    have HZ := Lib.hid hz
    rw [hr]
    clear hr hz
    go_wp2_with fail
    refine (HGN.out _ _ HZ.out).mono ?_
    rintro e w' ⟨rfl, rfl⟩
    refine leaves_cons (f := 22) (args := #[.pointer (some ⟨w.heap.size + 1, 0, none⟩), .pointer (some ⟨w.heap.size + 1 + 1, 0, none⟩)]) (by simp) (by simp [go_sem]) ?_
    refine (catch_broken (w.heap.size + 1) r _ (HOC.out.below HB2.out)).mono ?_
    rintro e u' w'' ⟨rfl, rfl, hC', hB'⟩
    obtain ⟨k0, k1, k2, k3, -, -, -, -⟩ := hC'
    simp [Leaves, settle, results, Tryz.results11, go_sem, k0, k1, k2, k3]
    exact OutR.no HR.out HZ.out ((HB1.out.trans (HB2.out.mono HB1.out.size)).trans (hB'.mono (Nat.le_succ _)))
  subst hz
  have HCk := Lib.hid hr
  rw [hr]
  clear hr HO1
  go_wp2_with fail
  refine (HGY.out _).mono ?_
  rintro e w' ⟨rfl, rfl⟩
  obtain ⟨k0, k1, k2, k3, k4⟩ := (HND.out.below' HB2.out).five
  by_cases hl : ins.length = n.ins.length
  case neg =>
    have HR : Hid (outP n ins ty ds = (4, 0, [])) := Lib.hid (outP_len HCk.out hl)
    have hb : ((ins.length : Int) == (n.ins.length : Int)) = false := by simp; omega
    clear hl
    go_wp2_with fail
    refine (HNo.out _).mono ?_
    rintro e w' ⟨rfl, rfl⟩
    refine leaves_cons (f := 22) (args := #[.pointer (some ⟨w.heap.size + 1, 0, none⟩), .pointer (some ⟨w.heap.size + 1 + 1, 0, none⟩)]) (by simp) (by simp [go_sem]) ?_
    refine (catch_broken (w.heap.size + 1) 4 _ (HOC.out.below HB2.out)).mono ?_
    rintro e u' w'' ⟨rfl, rfl, hC', hB'⟩
    obtain ⟨k0, k1, k2, k3, -, -, -, -⟩ := hC'
    simp [Leaves, settle, results, Tryz.results11, go_sem, k0, k1, k2, k3]
    exact OutR.no HR.out (by decide) ((HB1.out.trans (HB2.out.mono HB1.out.size)).trans (hB'.mono (Nat.le_succ _)))
  have HLn := Lib.hid hl
  have hb : ((ins.length : Int) == (n.ins.length : Int)) = true := by simp; omega
  clear hl
  go_wp2_with fail
  refine (HY.out _).mono ?_
  rintro e w' ⟨rfl, rfl⟩
  go_wp2_with fail
  clear hb k0 k1 k2 k3 k4
  generalize hWq : w' = W2 at *
  clear hWq
  go_loopw [28] (fun i wr => ∃ k : Nat, k ≤ ins.length ∧ i = .int .i64 (k : Int) ∧ Hid (inpE ins = inpE (ins.drop k)) ∧ Hid (Below W1.heap.size W1 wr)) (fun i _ => ins.length - (intOf i).toNat)
  case atStart => exact ⟨0, Nat.zero_le _, rfl, Lib.hid rfl, HB2⟩
  case round =>
    obtain ⟨k, hk, rfl, hE, hW⟩ := hrel
    have hBw := Lib.hid (HB1.out.trans (hW.out.mono HB1.out.size))
    by_cases hkl : k < ins.length
    · have hki : (k : Int) < (ins.length : Int) := by omega
      obtain ⟨x, hx⟩ : ∃ x, ins[k]? = some x := ⟨_, List.getElem?_eq_getElem hkl⟩
      obtain ⟨b, off, cap, vd, hv, hb, c0, c1', c2', h1, h2, h3⟩ := value_at HS.out hx
      obtain ⟨rfl, hle, rfl⟩ := Value.slice.inj hv
      clear hle hv h1
      have c0 := (hBw.out.cell (p := ⟨b, off + k * 3, none⟩) hb).trans c0
      have c1' := (hBw.out.cell (p := ⟨b, off + k * 3 + 1, none⟩) hb).trans c1'
      have c2' := (hBw.out.cell (p := ⟨b, off + k * 3 + 2, none⟩) hb).trans c2'
      have HX := Lib.hid hx
      have HDm := Lib.hid (h3.below hBw.out)
      obtain ⟨t0, t1⟩ := h2
      clear hx h3
      obtain ⟨ad, cd, rfl⟩ := HDm.out.shape
      go_wp2_with fail
      have HW3 : Hid (Below W1.heap.size W1 (wr.alloc (Obj.cells #[.string x.name, .int .i64 x.typ, .slice ad x.dims.length cd] 30))) := Lib.hid (hW.out.alloc hW.out.size _)
      have HP3 : Hid (BoxN (wr.alloc (Obj.cells #[.string x.name, .int .i64 x.typ, .slice ad x.dims.length cd] 30)) wr.heap.size #[.string x.name, .int .i64 x.typ, .slice ad x.dims.length cd] 30) := Lib.hid (BoxN.new _ _ _)
      have HDm3 := Lib.hid (HDm.out.below ((Below.refl _ wr).alloc (Nat.le_refl _) (Obj.cells #[.string x.name, .int .i64 x.typ, .slice ad x.dims.length cd] 30)))
      generalize wr.alloc _ = w3 at HW3 HP3 HDm3 ⊢
      clear c0 c1' c2' HDm t0 t1
      with_reducible refine (check_any x.typ 0 (by decide) (by decide) w3).mono ?_
      rintro e w' ⟨rfl, rfl⟩
      cases hc : chk x.typ 0 with
      | false =>
        have HI := Lib.hid (hE.out.trans (inp_type HX.out hc))
        have HR : Hid (outP n ins ty ds = (5, 0, [])) := Lib.hid (by rw [outP_ins HCk.out HLn.out (by rw [HI.out]; decide), HI.out])
        clear hc HI
        obtain ⟨k0, k1, k2, k3, z0, z1, z2, z3⟩ := HOC.out.below HW3.out
        go_wp2
        have hput := (HOC.out.below HW3.out).put ⟨#[]⟩ 0 (.slice none 0 0) 5
        clear k0 k1 k2 k3 z0 z1 z2 z3
        refine leaves_cons (f := 22) (args := #[.pointer (some ⟨w.heap.size + 1, 0, none⟩), .pointer (some ⟨w.heap.size + 1 + 1, 0, none⟩)]) (by simp) (by simp [go_sem]) ?_
        refine (catch_idle _ _ _).mono ?_
        rintro e u' w'' ⟨rfl, rfl, rfl⟩
        obtain ⟨k0, k1, k2, k3, -, -, -, -⟩ := hput
        simp [Leaves, settle, results, Tryz.results11, go_sem, k0, k1, k2, k3]
        exact OutR.no HR.out (by decide) ((HB1.out.trans (HW3.out.mono HB1.out.size)).trans ((below_put4 _ _ _ _).mono (Nat.le_succ _)))
      | true =>
        have HC := Lib.hid hc
        clear hc
        have p2 := HP3.out.cell 2 rfl
        go_wp2_with fail
        refine (count_any HDm3.out).mono ?_
        rintro e w4 ⟨rfl, B4⟩
        have HW4 : Hid (Below W1.heap.size W1 w4) := Lib.hid (HW3.out.trans (B4.mono HW3.out.size))
        clear B4 p2
        obtain ⟨ce, hce⟩ : ∃ ce, (cnt x.dims).2 = ce := ⟨_, rfl⟩
        generalize (cnt x.dims).1 = cf
        by_cases hz : ce = 0
        · subst hz
          have HN2 := Lib.hid (hE.out.trans (inp_next HX.out HC.out hce))
          rw [hce]
          clear hce
          go_wp2_with fail
          refine (HGY.out _).mono ?_
          rintro e w' ⟨rfl, rfl⟩
          go_wp2
          go_roundw
          case rel => exact ⟨k + 1, by omega, by go_num, HN2, HW4⟩
          case measure => simp [intOf]; omega
        · have HI := Lib.hid (hE.out.trans (inp_dims HX.out HC.out (by rw [hce]; exact hz)))
          have HR : Hid (outP n ins ty ds = (ce, 0, [])) := Lib.hid (by rw [outP_ins HCk.out HLn.out (by rw [HI.out, hce]; exact hz), HI.out, hce])
          have HZ := Lib.hid hz
          rw [hce]
          clear hce hz HI
          go_wp2_with fail
          refine (HGN.out _ _ HZ.out).mono ?_
          rintro e w' ⟨rfl, rfl⟩
          refine leaves_cons (f := 22) (args := #[.pointer (some ⟨w.heap.size + 1, 0, none⟩), .pointer (some ⟨w.heap.size + 1 + 1, 0, none⟩)]) (by simp) (by simp [go_sem]) ?_
          refine (catch_broken (w.heap.size + 1) ce _ (HOC.out.below HW4.out)).mono ?_
          rintro e u' w'' ⟨rfl, rfl, hC', hB'⟩
          obtain ⟨k0, k1, k2, k3, -, -, -, -⟩ := hC'
          simp [Leaves, settle, results, Tryz.results11, go_sem, k0, k1, k2, k3]
          exact OutR.no HR.out HZ.out ((HB1.out.trans (HW4.out.mono HB1.out.size)).trans (hB'.mono (Nat.le_succ _)))
    · have hki : ¬ (k : Int) < (ins.length : Int) := by omega
      obtain rfl : k = ins.length := by omega
      have HI0 : Hid (inpE ins = 0) := Lib.hid (hE.out.trans (inp_end (Nat.lt_irrefl _)))
      clear hE HB2
      obtain ⟨k0, k1, k2, k3, k4⟩ := (HND.out.below' hW.out).five
      go_wp2_with fail
      clear k0 k1 k2 k3 k4
      have HW5 : Hid (Below W1.heap.size W1 (wr.alloc (Obj.cells #[.string n.op, .string n.name, .slice a1 n.ins.length c1, .string n.out, .slice a2 n.attrs.length c2, .slice a3 ins.length c3] 61))) := Lib.hid (hW.out.alloc hW.out.size _)
      have HP5 : Hid (BoxN (wr.alloc (Obj.cells #[.string n.op, .string n.name, .slice a1 n.ins.length c1, .string n.out, .slice a2 n.attrs.length c2, .slice a3 ins.length c3] 61)) wr.heap.size #[.string n.op, .string n.name, .slice a1 n.ins.length c1, .string n.out, .slice a2 n.attrs.length c2, .slice a3 ins.length c3] 61) := Lib.hid (BoxN.new _ _ _)
      generalize wr.alloc _ = w5 at HW5 HP5 ⊢
      generalize wr.heap.size = bM at HP5 ⊢
      have HMk : Hid (∀ W, Below W1.heap.size W1 W → MkV W (.agg #[.string n.op, .string n.name, .slice a1 n.ins.length c1, .string n.out, .slice a2 n.attrs.length c2, .slice a3 ins.length c3]) n ins) := Lib.hid fun W hB => ⟨_, _, _, rfl, HN.out.below (HB1.out.trans (hB.mono HB1.out.size)), HS.out.below (rdValue_below (HB1.out.trans (hB.mono HB1.out.size))) (HB1.out.trans (hB.mono HB1.out.size))⟩
      clear hW hBw HS
      refine (HT.out HCk.out HLn.out HI0.out _ _ (HB1.out.trans (HW5.out.mono HB1.out.size)) (HMk.out _ HW5.out)).mono ?_
      rintro e w6 ⟨hty, B6⟩
      have HW6 : Hid (Below W1.heap.size W1 w6) := Lib.hid (HW5.out.trans (B6.mono HW5.out.size))
      have HP6 := Lib.hid (HP5.out.below' B6)
      clear B6 HW5 HP5 HT
      rcases hty with ⟨hz, rfl⟩ | ⟨hz, rfl⟩
      · have HR := Lib.hid (outP_typ (ds := ds) HCk.out HLn.out HI0.out hz)
        have HZ := Lib.hid hz
        clear hz
        refine leaves_cons (f := 22) (args := #[.pointer (some ⟨w.heap.size + 1, 0, none⟩), .pointer (some ⟨w.heap.size + 1 + 1, 0, none⟩)]) (by simp) (by simp [go_sem]) ?_
        refine (catch_broken (w.heap.size + 1) ty.1 _ (HOC.out.below HW6.out)).mono ?_
        rintro e u' w'' ⟨rfl, rfl, hC', hB'⟩
        obtain ⟨k0, k1, k2, k3, -, -, -, -⟩ := hC'
        simp [Leaves, settle, results, Tryz.results11, go_sem, k0, k1, k2, k3]
        exact OutR.no HR.out HZ.out ((HB1.out.trans (HW6.out.mono HB1.out.size)).trans (hB'.mono (Nat.le_succ _)))
      have HTy := Lib.hid hz
      clear hz
      obtain ⟨k0, k1, k2, k3, k4, k5⟩ := HP6.out.six
      go_wp2_with fail
      clear k0 k1 k2 k3 k4 k5
      refine (HD.out HCk.out HLn.out HI0.out HTy.out _ _ (HB1.out.trans (HW6.out.mono HB1.out.size)) (HMk.out _ HW6.out)).mono ?_
      rintro e w7 ⟨B7, hc⟩
      have HW7 : Hid (Below W1.heap.size W1 w7) := Lib.hid (HW6.out.trans (B7.mono HW6.out.size))
      have HP7 := Lib.hid (HP6.out.below' B7)
      clear B7 HW6 HP6 HD
      rcases hc with ⟨hz, rfl⟩ | ⟨hz, v7, rfl, hi7⟩
      · have HR := Lib.hid (outP_dims HCk.out HLn.out HI0.out HTy.out hz)
        have HZ := Lib.hid hz
        clear hz
        refine leaves_cons (f := 22) (args := #[.pointer (some ⟨w.heap.size + 1, 0, none⟩), .pointer (some ⟨w.heap.size + 1 + 1, 0, none⟩)]) (by simp) (by simp [go_sem]) ?_
        refine (catch_broken (w.heap.size + 1) ds.1 _ (HOC.out.below HW7.out)).mono ?_
        rintro e u' w'' ⟨rfl, rfl, hC', hB'⟩
        obtain ⟨k0, k1, k2, k3, -, -, -, -⟩ := hC'
        simp [Leaves, settle, results, Tryz.results11, go_sem, k0, k1, k2, k3]
        exact OutR.no HR.out HZ.out ((HB1.out.trans (HW7.out.mono HB1.out.size)).trans (hB'.mono (Nat.le_succ _)))
      have HDz := Lib.hid hz
      have HI7 := Lib.hid hi7
      clear hz
      obtain ⟨ad, cd, rfl⟩ := hi7.shape
      have hdl := hi7.wf.1
      clear hi7
      go_wp2_with fail
      refine (count_any HI7.out).mono ?_
      rintro e w8 ⟨rfl, B8⟩
      have HW8 : Hid (Below W1.heap.size W1 w8) := Lib.hid (HW7.out.trans (B8.mono HW7.out.size))
      have HP8 := Lib.hid (HP7.out.below' B8)
      have HI8 := Lib.hid (HI7.out.below B8)
      clear B8 HW7 HP7 HI7
      obtain ⟨ce, hce⟩ : ∃ ce, (cnt ds.2).2 = ce := ⟨_, rfl⟩
      generalize (cnt ds.2).1 = cf
      by_cases hz : ce = 0
      case neg =>
        have HR : Hid (outP n ins ty ds = (ce, 0, [])) := Lib.hid (by rw [outP_cnt HCk.out HLn.out HI0.out HTy.out HDz.out (by rw [hce]; exact hz), hce])
        have HZ := Lib.hid hz
        rw [hce]
        clear hce hz
        go_wp2_with fail
        refine (HGN.out _ _ HZ.out).mono ?_
        rintro e w' ⟨rfl, rfl⟩
        refine leaves_cons (f := 22) (args := #[.pointer (some ⟨w.heap.size + 1, 0, none⟩), .pointer (some ⟨w.heap.size + 1 + 1, 0, none⟩)]) (by simp) (by simp [go_sem]) ?_
        refine (catch_broken (w.heap.size + 1) ce _ (HOC.out.below HW8.out)).mono ?_
        rintro e u' w'' ⟨rfl, rfl, hC', hB'⟩
        obtain ⟨k0, k1, k2, k3, -, -, -, -⟩ := hC'
        simp [Leaves, settle, results, Tryz.results11, go_sem, k0, k1, k2, k3]
        exact OutR.no HR.out HZ.out ((HB1.out.trans (HW8.out.mono HB1.out.size)).trans (hB'.mono (Nat.le_succ _)))
      subst hz
      have HCe := Lib.hid hce
      rw [hce]
      clear hce
      go_wp2_with fail
      refine (HGY.out _).mono ?_
      rintro e w' ⟨rfl, rfl⟩
      obtain ⟨k0, k1, k2, k3, k4, k5⟩ := HP8.out.six
      go_wp2_with fail
      clear k0 k1 k2 k3 k4 k5 HP8
      refine (mthen_any ty.2 (HMk.out _ HW8.out) (HG.out.below (HB1.out.trans (HW8.out.mono HB1.out.size)))).mono ?_
      rintro e w9 ⟨hf, B9⟩
      have HW9 : Hid (Below W1.heap.size W1 w9) := Lib.hid (HW8.out.trans (B9.mono HW8.out.size))
      have HI9 := Lib.hid (HI8.out.below B9)
      clear B9 HW8 HI8
      rcases hf with ⟨hf, rfl⟩ | ⟨hf, rfl⟩
      case inr =>
        have HR := Lib.hid (outP_fol HCk.out HLn.out HI0.out HTy.out HDz.out HCe.out hf)
        clear hf
        refine leaves_cons (f := 22) (args := #[.pointer (some ⟨w.heap.size + 1, 0, none⟩), .pointer (some ⟨w.heap.size + 1 + 1, 0, none⟩)]) (by simp) (by simp [go_sem]) ?_
        refine (catch_broken (w.heap.size + 1) 4 _ (HOC.out.below HW9.out)).mono ?_
        rintro e u' w'' ⟨rfl, rfl, hC', hB'⟩
        obtain ⟨k0, k1, k2, k3, -, -, -, -⟩ := hC'
        simp [Leaves, settle, results, Tryz.results11, go_sem, k0, k1, k2, k3]
        exact OutR.no HR.out (by decide) ((HB1.out.trans (HW9.out.mono HB1.out.size)).trans (hB'.mono (Nat.le_succ _)))
      have HR := Lib.hid (outP_ok HCk.out HLn.out HI0.out HTy.out HDz.out HCe.out hf)
      clear hf
      go_wp2_with fail
      refine wp_region_planD 5 [0, 1, 2, 3, 4] (fun W' => Below w9.heap.size w9 W') (by kernel_rfl) (by kernel_rfl) (fun c i o v a W ho hL => ?hQ) (Below.refl _ _).drew ?_
      case hQ =>
        have hd : keepsB o.dst = true := by
          rcases i with _ | _ | _ | _ | _ | _ | _ | _ | i
          all_goals first | (simp at ho; subst ho; rfl) | (simp at ho)
        exact leaves_put hd v hL
      have B0 : Hid (Below w9.heap.size w9 w9.drew) := Lib.hid (Below.refl _ _).drew
      generalize w9.drew = wD at B0 ⊢
      repeat
        refine plan_read (v := ?_) rfl rfl (Or.inl ⟨by rfl, ?_⟩) ?_
        rotate_left
        · intro W' hSw
          obtain ⟨k0, k1, k2, k3, k4⟩ := (HND.out.below' (HW9.out.trans (hSw.mono HW9.out.size))).five
          go_simp
          try with_reducible rfl
        try simp only [Act.put, List.getElem_toArray, List.getElem_cons_zero, List.getElem_cons_succ, List.setIfInBounds_toArray, List.set_cons_zero, List.set_cons_succ]
      refine plan_act rfl rfl (fun K' hK => ?_)
      go_simp
      refine (Vb.clone_any (HI9.out.below B0.out)).mono ?_
      rintro e w10 ⟨v10, rfl, hr10, B10⟩
      have HB10 : Hid (Below w9.heap.size w9 w10) := Lib.hid (B0.out.trans (B10.mono B0.out.size))
      have HW10 : Hid (Below W1.heap.size W1 w10) := Lib.hid (HW9.out.trans (HB10.out.mono HW9.out.size))
      have HRow : Hid (RowI w10 w.heap.size v10 ds.2) := Lib.hid (by
        have h1 : RowI w10 wD.heap.size v10 ds.2 := by unfold RowI; exact hr10
        exact h1.base (Nat.le_trans HB1.out.size (Nat.le_trans HW9.out.size B0.out.size)))
      have HRD : Hid (RowI w10 wD.heap.size v10 ds.2) := Lib.hid (by unfold RowI; exact hr10)
      have HLt : Hid (w.heap.size + 1 + 1 < wD.heap.size) := Lib.hid (Nat.lt_of_lt_of_le (cell_in HOC.out.c3) (Nat.le_trans HW9.out.size B0.out.size))
      obtain ⟨a10, c10, rfl⟩ := HRow.out.form
      clear hr10 B10
      refine hK.out _ _ HB10.out ?_
      clear hK K'
      refine plan_tail rfl ?_
      simp only [List.toList_toArray, List.drop_succ_cons, List.drop_zero]
      obtain ⟨k0, k1, k2, k3, z0, z1, z2, z3⟩ := HOC.out.below HW10.out
      go_wp2
      clear k0 k1 k2 k3 z0 z1 z2 z3
      have hput := (HOC.out.below HW10.out).put n.out ty.2 (.slice a10 ds.2.length c10) 0
      refine leaves_cons (f := 22) (args := #[.pointer (some ⟨w.heap.size + 1, 0, none⟩), .pointer (some ⟨w.heap.size + 1 + 1, 0, none⟩)]) (by simp) (by simp [go_sem]) ?_
      refine (catch_idle _ _ _).mono ?_
      rintro e u' w'' ⟨rfl, rfl, rfl⟩
      obtain ⟨k0, k1, k2, k3, -, -, -, -⟩ := hput
      simp [Leaves, settle, results, Tryz.results11, go_sem, k0, k1, k2, k3]
      have HBp : Hid (Below w.heap.size w10 ((((w10.setCell ⟨w.heap.size + 1, 0, none⟩ (.string n.out)).setCell ⟨w.heap.size + 1, 1, none⟩ (.int .i64 ty.2)).setCell ⟨w.heap.size + 1, 2, none⟩ (.slice a10 ds.2.length c10)).setCell ⟨w.heap.size + 1 + 1, 0, none⟩ (.int .i64 0))) := Lib.hid ((below_put4 _ _ _ _).mono (Nat.le_succ _))
      exact OutR.yes HR.out ((HB1.out.trans (HW10.out.mono HB1.out.size)).trans HBp.out) (put4_row HRD.out HLt.out (Nat.le_trans HB1.out.size (Nat.le_trans HW9.out.size B0.out.size)))

end Go.Proofs.YtagiipecfdmceaaGreatDoor
