/- The walk of mandrellaw11.live. -/
import Derived.Test.YtagiipecfdmceaaGreatDoorRdM2s
import Derived.Test.YtagiipecfdmceaaGreatDoorRdM1s
import Derived.Test.YtagiipecfdmceaaGreatDoorElMs
set_option linter.unusedVariables false
set_option linter.unusedSimpArgs false
namespace Go.Proofs.YtagiipecfdmceaaGreatDoor
open Go.RowKit

set_option maxRecDepth 100000

theorem op_rsum : nS1.op.toList ∈ redOps := by unfold nS1 oRSum; rw [ByteArray.toList_eq]; decide
theorem op_soft : nS2.op.toList = lSoft := by unfold nS2 oSoftm; rw [ByteArray.toList_eq]; rfl
theorem attrB_lit {a : At} (h1 : a.dims = []) (h2 : a.data = []) (h3 : a.ints.length ≤ 1000 ∧ ∀ z ∈ a.ints, InI z) (h4 : InI a.kind ∧ InI a.f ∧ InI a.i ∧ InI a.typ) (h5 : a.name.size ≤ 1000) (h6 : a.s.size ≤ 1000) : AttrB a :=
  ⟨by rw [h1]; simp, by rw [h2]; simp, ⟨by omega, h3.2⟩, h4.1, h4.2.1, h4.2.2.1, h4.2.2.2, by omega, by omega⟩
attribute [local irreducible] redD sofD

set_option maxHeartbeats 8000000 in
theorem live11_any {w : World} (hG : Glob w) : Calls Tryz.prog 18 #[] w fun e w' => e = .returned (.bool true) ∧ Below w.heap.size w w' := by
  have HG := Lib.hid hG
  clear hG
  go_enter Tryz.func18, Tryz.ntmps18
  go_wp2_with fail
  generalize hW : World.alloc (World.alloc (World.alloc (World.alloc (World.alloc (World.alloc (World.alloc w _) _) _) _) _) _) _ = W1
  obtain ⟨hB, hS, b1, b2, b3, b4, b5, b6, b7⟩ := allocs7 hW
  clear hW
  have HB1 := Lib.hid hB
  have hN : NodeV W1 (nS1.val (.slice (some ⟨w.heap.size, 0, none⟩) 1 1) (.slice (some ⟨w.heap.size + 1 + 1, 0, none⟩) 2 2)) nS1 := by
    refine ⟨_, _, rfl, strs_boxE (ss := [⟨#[120]⟩]) b1 rfl (by simp) (by simp), ?_⟩
    refine AttrsO.reads (B := w.heap.size) (ts := [(.slice none 0 0, .slice none 0 0, .slice (some ⟨w.heap.size + 1, 0, none⟩) 1 1), (.slice none 0 0, .slice none 0 0, .slice none 0 0)]) ⟨rfl, owns_lit b3 (by omega) (n := 2) (by simp) (by omega) rfl, fun j a t h1 h2 => ?_⟩ (by decide) (fun a ha => ?_)
    · match j, h1, h2 with
      | 0, h1, h2 =>
        obtain rfl := Option.some.inj h1
        obtain rfl := Option.some.inj h2
        exact ⟨World.ownsRow_nil _ _ _ _, World.ownsRow_nil _ _ _ _, owns_lit b2 (by omega) (n := 1) (by simp) (by omega) rfl⟩
      | 1, h1, h2 =>
        obtain rfl := Option.some.inj h1
        obtain rfl := Option.some.inj h2
        exact attr_nils rfl rfl rfl
      | j + 2, h1, h2 => simp [nS1] at h1
    · simp only [nS1, List.mem_cons, List.not_mem_nil, or_false] at ha
      rcases ha with rfl | rfl
      · exact attrB_lit rfl rfl ⟨by decide, by intro z hz; simp [axesA] at hz; unfold InI; omega⟩ ⟨by unfold InI; decide, by unfold InI; decide, by unfold InI; decide, by unfold InI; decide⟩ (by decide) (by decide)
      · exact attrB_lit rfl rfl ⟨by decide, by intro z hz; simp [keepA] at hz⟩ ⟨by unfold InI; decide, by unfold InI; decide, by unfold InI; decide, by unfold InI; decide⟩ (by decide) (by decide)
  have hT : SlIn 3 rdTensor W1 (.slice (some ⟨w.heap.size + 1 + 1 + 1 + 1 + 1 + 1, 0, none⟩) 1 1) [tS1] := tens_one (x := tS1) b7 ⟨by unfold InI tS1; decide, ints_boxE (zs := [2, 2]) b5 rfl (by simp) (by simp) (by intro z hz; simp at hz; unfold InI; omega), ints_boxE (zs := [1, 2, 3, 4]) b6 rfl (by simp) (by simp) (by intro z hz; simp at hz; unfold InI; omega)⟩
  have hdo := rdo_U hN hT (HG.out.below HB1.out) op_rsum
  rw [live11_sum] at hdo
  clear b1 b2 b3 b4 b5 b6 b7 hN hT hB hS
  refine hdo.mono ?_
  clear hdo
  intro e w2 hu
  obtain ⟨vd, vx, rfl, hd, hx, -, B2⟩ := hu.out
  clear hu
  have ID := Lib.hid hd
  have IX := Lib.hid hx
  obtain ⟨ad, cd, rfl⟩ : ∃ a c, vd = Value.slice a 1 c := hd.shape
  obtain ⟨ax, cx, rfl⟩ : ∃ a c, vx = Value.slice a 2 c := hx.shape
  have HB2 := Lib.hid (HB1.out.trans (B2.mono HB1.out.size))
  clear hd hx B2 HB1
  go_wp2_with fail
  generalize hW : World.alloc (World.alloc (World.alloc (World.alloc (World.alloc w2 _) _) _) _) _ = W3
  obtain ⟨hB, hS, b1, b2, b3, b4, b5⟩ := allocs5 hW
  clear hW
  have HB3 := Lib.hid (HB2.out.trans (hB.mono HB2.out.size))
  have HR := Lib.hid (box_of b1)
  have ID := Lib.hid (ID.out.below hB)
  have IX := Lib.hid (IX.out.below hB)
  have hdo := rdo_softU (w := W3) (n := nS2) (x := tS2) ⟨_, _, rfl, strs_boxE (ss := [⟨#[120]⟩]) b2 rfl (by simp) (by simp), .empty none 0⟩ (tens_one (x := tS2) b5 ⟨by unfold InI tS2; decide, ints_boxE (zs := [2]) b3 rfl (by simp) (by simp) (by intro z hz; simp at hz; unfold InI; omega), ints_boxE (zs := [0, 0]) b4 rfl (by simp) (by simp) (by intro z hz; simp at hz; unfold InI; omega)⟩) (HG.out.below HB3.out) op_soft
  rw [live11_soft] at hdo
  clear b1 b2 b3 b4 b5 hB hS HB2
  refine hdo.mono ?_
  clear hdo
  intro e w4 hu
  obtain ⟨vd, vx, rfl, hd, hx, -, B4⟩ := hu.out
  clear hu
  have ID4 := Lib.hid hd
  have IX4 := Lib.hid hx
  obtain ⟨ad4, cd4, rfl⟩ : ∃ a c, vd = Value.slice a 1 c := hd.shape
  obtain ⟨ax4, cx4, rfl⟩ : ∃ a c, vx = Value.slice a 2 c := hx.shape
  have HB4 := Lib.hid (HB3.out.trans (B4.mono HB3.out.size))
  have ID := Lib.hid (ID.out.below B4)
  have IX := Lib.hid (IX.out.below B4)
  have HR := Lib.hid (HR.out.below' B4)
  clear hd hx B4 HB3
  obtain ⟨r0, r1, r2⟩ := BoxN.three (x0 := .int .i64 6) (x1 := .slice ad 1 cd) (x2 := .slice ax 2 cx) (blk_keep HR.out (Obj.cells #[.int .i64 1, .slice ad4 1 cd4, .slice ax4 2 cx4] 38))
  go_wp2_with fail
  clear r0 r1 r2
  generalize hW : World.alloc (World.alloc (World.alloc w4 _) _) _ = W5
  obtain ⟨hB, hS, b1, b2, b3⟩ := allocs3 hW
  clear hW
  have HB5 := Lib.hid (HB4.out.trans (hB.mono HB4.out.size))
  have HR4 := Lib.hid (box_of b1)
  have ID4 := Lib.hid (ID4.out.below hB)
  have IX4 := Lib.hid (IX4.out.below hB)
  refine (stensor_any 6 [2] [4, 6] (ID.out.below hB) (IX.out.below hB) (ints_boxE (zs := [2]) b2 rfl (by simp) (by simp) (by intro z hz; simp at hz; unfold InI; omega)) (ints_boxE (zs := [4, 6]) b3 rfl (by simp) (by simp) (by intro z hz; simp at hz; unfold InI; omega))).mono ?_
  rintro e w6 ⟨rfl, B6⟩
  have HB6 := Lib.hid (HB5.out.trans (B6.mono HB5.out.size))
  have HR6 := Lib.hid (HR4.out.below' B6)
  have ID6 := Lib.hid (ID4.out.below B6)
  have IX6 := Lib.hid (IX4.out.below B6)
  clear b1 b2 b3 hB hS B6 HB4 HB5 ID IX ID4 IX4 HR HR4
  obtain ⟨r0, r1, r2⟩ := BoxN.three (x0 := .int .i64 1) (x1 := .slice ad4 1 cd4) (x2 := .slice ax4 2 cx4) HR6.out
  go_wp2_with fail
  clear r0 r1 r2
  generalize hW : World.alloc (World.alloc w6 _) _ = W7
  obtain ⟨hB, hS, b1, b2⟩ := allocs2 hW
  clear hW
  have HB7 := Lib.hid (HB6.out.trans (hB.mono HB6.out.size))
  refine (stensor_any 1 [2] [1056964608, 1056964608] (ID6.out.below hB) (IX6.out.below hB) (ints_boxE (zs := [2]) b1 rfl (by simp) (by simp) (by intro z hz; simp at hz; unfold InI; omega)) (ints_boxE (zs := [1056964608, 1056964608]) b2 rfl (by simp) (by simp) (by intro z hz; simp at hz; unfold InI; omega))).mono ?_
  rintro e w8 ⟨rfl, B8⟩
  have HB8 := Lib.hid (HB7.out.trans (B8.mono HB7.out.size))
  clear b1 b2 hB hS B8
  go_wp2
  go_ret
  exact ⟨rfl, HB8.out⟩

end Go.Proofs.YtagiipecfdmceaaGreatDoor

set_option linter.unusedVariables false
namespace Go.Proofs.YtagiipecfdmceaaGreatDoor
open Go

section
variable {P : Program} {ops : Array Oper} {Q : Exit → Act → World → Prop} {md : Region.Mode} {S : World → Prop} {n : Nat}

inductive Pf
  | tail
  | read (i : Nat) (p : Pf)
  | acts (is : List Nat) (f : Nat → Pf)

def wpFork (P : Program) (md : Region.Mode) (ops : Array Oper) (Q : Exit → Act → World → Prop) (S : World → Prop) (n : Nat) : Pf → Act → World → Prop
  | .tail, a, w => wpList P ops Q (ops.toList.drop n) a w
  | .read i p, a, w =>
    match ops[i]? with
    | none => False
    | some o => ∃ v, YieldsIf P ops S o v a ∧ wpFork P md ops Q S n p (a.put o.dst v) w
  | .acts is f, a, w => ∀ i ∈ is, wpOp P ops Q i (fun a' w' => S w' ∧ wpFork P md ops Q S n (f i) a' w') a w

def forkB (md : Region.Mode) (ops : Array Oper) (n : Nat) : Pf → Nat → Array Bool → Bool
  | .tail, k, listed => decide (k = 0) && Region.seqB md ops (ops.size - n) n listed
  | .read _ _, 0, _ => false
  | .read i p, k + 1, listed => decide (i < n) && ((Region.ready md ops listed).contains i && Region.free md ops listed i) && forkB md ops n p k (listed.setIfInBounds i true)
  | .acts _ _, 0, _ => false
  | .acts is f, k + 1, listed => decide (is ≠ []) && decide (Region.ready md ops listed = is) && is.all fun i => decide (i < n) && forkB md ops n (f i) k (listed.setIfInBounds i true)

theorem wpAnyP_of_fork (hsel : Region.noSelect ops = true) (hs : Region.sinkB md ops n = true) (hc : Region.chainB md ops n = true) (hn : n < ops.size)
    (hQ : ∀ c (d : Option Tmp) (v : Value) a w, Q (.panic c) (a.put d v) w → Q (.panic c) a w) :
    ∀ (pl : Pf) (k : Nat) (listed : Array Bool) (a : Act) (w : World), HeadInv md ops n listed → forkB md ops n pl k listed = true → S w → wpFork P md ops Q S n pl a w →
      wpAnyP P md ops Q S n (k + (ops.size - n)) listed a w
  | .tail, k, listed, a, w, inv, hB, hS, h => by
    simp only [forkB, Bool.and_eq_true, decide_eq_true_eq] at hB
    obtain ⟨rfl, hB⟩ := hB
    have h1 := wpAnyP_of_seq (S := S) (n := n) (ops.toList.drop n) n listed a w (Nat.le_refl _) (fun j => by simp [List.getElem?_drop]) (by simpa using hB) h
    simpa using h1
  | .read i p, 0, listed, a, w, inv, hB, hS, h => by simp [forkB] at hB
  | .read i p, k + 1, listed, a, w, inv, hB, hS, h => by
    unfold wpFork at h
    simp only [forkB, Bool.and_eq_true, decide_eq_true_eq] at hB
    obtain ⟨⟨hin, hr⟩, hB'⟩ := hB
    cases ho : ops[i]? with
    | none => rw [ho] at h; exact h.elim
    | some o =>
      rw [ho] at h
      obtain ⟨v, hy, h⟩ := h
      have hr' : i ∈ Region.ready md ops listed := by simpa using hr.1
      rw [show k + 1 + (ops.size - n) = (k + (ops.size - n)) + 1 by omega]
      exact wpAnyP_first ho (Region.noSelect_spec hsel) hs hc hn hin (fun c a w h => hQ c _ _ a w h) _ listed a w inv (Region.free_spec ho hr.2) hr' hy hS
        (wpAnyP_of_fork hsel hs hc hn hQ p k _ _ w (inv.set hr' hin) hB' hS h)
  | .acts is f, 0, listed, a, w, inv, hB, hS, h => by simp [forkB] at hB
  | .acts is f, k + 1, listed, a, w, inv, hB, hS, h => by
    unfold wpFork at h
    simp only [forkB, Bool.and_eq_true, decide_eq_true_eq, List.all_eq_true] at hB
    obtain ⟨⟨hne, hr⟩, hall⟩ := hB
    rw [show k + 1 + (ops.size - n) = (k + (ops.size - n)) + 1 by omega]
    refine ⟨fun h1 => ?_, fun j hj => ?_⟩
    · rw [hr] at h1
      exact absurd h1 hne
    · have hj' := hj
      rw [hr] at hj
      obtain ⟨hjn, hb⟩ := hall j hj
      exact wpOp_mono (fun a' w' h' => ⟨fun _ => h'.1, wpAnyP_of_fork hsel hs hc hn hQ (f j) k _ a' w' (inv.set hj' hjn) hb h'.1 h'.2⟩) (h j hj)

def forkOk (md : Region.Mode) (ops : Array Oper) (n : Nat) (pl : Pf) : Bool :=
  Region.noSelect ops && decide (n < ops.size) && Region.sinkB md ops n && Region.chainB md ops n && forkB md ops n pl n (Array.replicate ops.size false)

/-- A drawn region by a plan with forks. -/
theorem wp_region_fork {id : Nat} {a : Act} {w : World} (n : Nat) (pl : Pf) (S : World → Prop) (hm : P.follows .mixedOrders = true) (hB : forkOk .any ops n pl = true)
    (hQ : ∀ c (d : Option Tmp) (v : Value) a w, Q (.panic c) (a.put d v) w → Q (.panic c) a w) (hS : S w.drew) (h : wpFork P .any ops Q S n pl a w.drew) : (Code.region id ops true).wp P Q a w := by
  simp only [forkOk, Bool.and_eq_true, decide_eq_true_eq] at hB
  obtain ⟨⟨⟨⟨hsel, hn⟩, hs⟩, hc⟩, hp⟩ := hB
  have inv0 : HeadInv .any ops n (Array.replicate ops.size false) :=
    ⟨by simp, fun j oj _ hl => (by rw [getD_replicate_false] at hl; cases hl), fun t _ ht => getD_in (by simpa using ht) (getD_replicate_false _ _)⟩
  have H := wpAnyP_of_fork hsel hs hc hn hQ pl n _ a w.drew inv0 hp hS h
  rw [show n + (ops.size - n) = ops.size by omega] at H
  exact wp_region_any hm (wpAny_of_P _ _ _ _ H)

theorem fork_read {i : Nat} {p : Pf} {o : Oper} {v : Value} {a : Act} {w : World} (ho : ops[i]? = some o) (hy : YieldsIf P ops S o v a) (h : wpFork P md ops Q S n p (a.put o.dst v) w) : wpFork P md ops Q S n (.read i p) a w := by
  unfold wpFork
  rw [ho]
  exact ⟨v, hy, h⟩
/-- What is to be shown of an operation that is picked, the plan p behind it. -/
def pickP (P : Program) (md : Region.Mode) (ops : Array Oper) (Q : Exit → Act → World → Prop) (S : World → Prop) (n : Nat) (p : Pf) (o : Oper) (a : Act) (w : World) : Prop :=
  ∀ K' : Act → World → Prop, Shut (∀ a w, S w → wpFork P md ops Q S n p a w → K' a w) → if Region.wanted o (yielded ops a.tmps) = true then Oper.wp P o a w K' Q else K' (a.put o.dst undef) w
theorem fork_pick {i : Nat} {p : Pf} {o : Oper} {a : Act} {w : World} (ho : ops[i]? = some o) (h : pickP P md ops Q S n p o a w) : wpOp P ops Q i (fun a' w' => S w' ∧ wpFork P md ops Q S n p a' w') a w :=
  wpOp_step ho (fun K' hK => h K' (fun a w hS hW => hK a w ⟨hS, hW⟩))
theorem fork_one {i : Nat} {f : Nat → Pf} {p : Pf} (hp : f i = p) {o : Oper} {a : Act} {w : World} (ho : ops[i]? = some o) (h : pickP P md ops Q S n p o a w) : wpFork P md ops Q S n (.acts [i] f) a w := by
  unfold wpFork
  intro j hj
  obtain rfl : j = i := by simpa using hj
  rw [hp]
  exact fork_pick ho h
theorem fork_two {i j : Nat} {f : Nat → Pf} {p q : Pf} (hp : f i = p) (hq : f j = q) {o u : Oper} {a : Act} {w : World} (ho : ops[i]? = some o) (hu : ops[j]? = some u) (h : pickP P md ops Q S n p o a w) (g : pickP P md ops Q S n q u a w) : wpFork P md ops Q S n (.acts [i, j] f) a w := by
  unfold wpFork
  intro k hk
  rcases List.mem_cons.1 hk with rfl | hk
  · rw [hp]; exact fork_pick ho h
  · obtain rfl : k = j := by simpa using hk
    rw [hq]; exact fork_pick hu g
theorem fork_three {i j k : Nat} {f : Nat → Pf} {p q r : Pf} (hp : f i = p) (hq : f j = q) (hr : f k = r) {o u v : Oper} {a : Act} {w : World} (ho : ops[i]? = some o) (hu : ops[j]? = some u) (hv : ops[k]? = some v)
    (h : pickP P md ops Q S n p o a w) (g : pickP P md ops Q S n q u a w) (l : pickP P md ops Q S n r v a w) : wpFork P md ops Q S n (.acts [i, j, k] f) a w := by
  unfold wpFork
  intro m hm
  rcases List.mem_cons.1 hm with rfl | hm
  · rw [hp]; exact fork_pick ho h
  rcases List.mem_cons.1 hm with rfl | hm
  · rw [hq]; exact fork_pick hu g
  · obtain rfl : m = k := by simpa using hm
    rw [hr]; exact fork_pick hv l
theorem fork_tail {a : Act} {w : World} {l : List Oper} (hl : ops.toList.drop n = l) (h : wpList P ops Q l a w) : wpFork P md ops Q S n .tail a w := by
  subst hl
  exact h

end
end Go.Proofs.YtagiipecfdmceaaGreatDoor

set_option linter.unusedVariables false
set_option linter.unusedSimpArgs false
namespace Go.Proofs.YtagiipecfdmceaaGreatDoor
open Go.RowKit

set_option maxRecDepth 100000

/-- A node that may be, with axes L and keepdims k. -/
structure GoodN (n : Nd) (L : List Int) (k : Int) : Prop where
  chk : checkP n = 0
  one : n.ins.length = 1
  fol : (thenE n.attrs).1 = []
  axes : ∀ r, redL n r = L
  keep : intP n.attrs nmKeep 1 = k

theorem good_sum (l : List Int) (k : Int) : GoodN (axN oRSum l k) l k := ⟨by kernel_rfl, rfl, by kernel_rfl, fun r => by kernel_rfl, by kernel_rfl⟩
theorem good_max (l : List Int) (k : Int) : GoodN (axN oRMax l k) l k := ⟨by kernel_rfl, rfl, by kernel_rfl, fun r => by kernel_rfl, by kernel_rfl⟩
theorem good_mean (l : List Int) (k : Int) : GoodN (axN oRMean l k) l k := ⟨by kernel_rfl, rfl, by kernel_rfl, fun r => by kernel_rfl, by kernel_rfl⟩
theorem good_arg (a k : Int) : GoodN (argN oArgM a k) [a] k := ⟨by kernel_rfl, rfl, by kernel_rfl, fun r => by kernel_rfl, by kernel_rfl⟩

def opsL : List ByteArray := [oRSum, oRMax, oRMean, oArgM]
def nK (op : ByteArray) (a k : Int) : Nd := if op.toList = lArg then argN op a k else axN op [a] k
theorem ops_list : opsL.map ByteArray.toList = [lRSum, lRMax, lRMean, lArg] := by
  unfold opsL oRSum oRMax oRMean oArgM
  simp only [List.map_cons, List.map_nil, ByteArray.toList_eq]
  rfl
theorem nK_op (op : ByteArray) (a k : Int) : (nK op a k).op = op := by unfold nK; split <;> rfl
theorem good_nK {op : ByteArray} (h : op ∈ opsL) (a k : Int) : GoodN (nK op a k) [a] k := by
  have e1 : oRSum.toList = lRSum := by unfold oRSum; rw [ByteArray.toList_eq]; rfl
  have e2 : oRMax.toList = lRMax := by unfold oRMax; rw [ByteArray.toList_eq]; rfl
  have e3 : oRMean.toList = lRMean := by unfold oRMean; rw [ByteArray.toList_eq]; rfl
  have e4 : oArgM.toList = lArg := by unfold oArgM; rw [ByteArray.toList_eq]; rfl
  simp only [opsL, List.mem_cons, List.not_mem_nil, or_false] at h
  unfold nK
  rcases h with rfl | rfl | rfl | rfl
  · rw [e1, if_neg (by decide)]; exact good_sum _ _
  · rw [e2, if_neg (by decide)]; exact good_max _ _
  · rw [e3, if_neg (by decide)]; exact good_mean _ _
  · rw [e4, if_pos rfl]; exact good_arg _ _
theorem ops_red {op : ByteArray} (h : op ∈ opsL) : op.toList ∈ redOps := by
  have := List.mem_map_of_mem (f := ByteArray.toList) h
  rw [ops_list] at this
  exact this

theorem wou_pos {ds ks : List Int} {keep : Bool} (hp : Vx.Vw.Pos ds) : ∀ {k : Nat}, k ≤ ds.length → Vx.Vw.Pos (wouL ds ks keep k)
  | 0, _ => by intro z hz; simp [wouL] at hz
  | k + 1, h => by
    intro z hz
    rw [wou_next] at hz
    rcases List.mem_append.1 hz with hz | hz
    · exact wou_pos hp (by omega) z hz
    · unfold cutI at hz
      split at hz
      · split at hz
        · simp at hz; omega
        · simp at hz
      · simp at hz; subst hz; exact hp _ (getD_mem (by omega))
theorem axes_in {L ks : List Int} {r : Nat} (h : axesP L r = some ks) : (∀ a ∈ ks, 0 ≤ a ∧ a < (r : Int)) ∧ ks = L.map fun a => axZ a r := by
  obtain ⟨e, hin⟩ := axesF_map _ _ _ h
  rw [List.nil_append] at e
  refine ⟨fun a ha => ?_, e⟩
  rw [e] at ha
  obtain ⟨b, hb, rfl⟩ := List.mem_map.1 ha
  exact axZ_in (hin b hb)
theorem wou_cnt {ds ks : List Int} {keep : Bool} (h : (cnt ds).2 = 0) (hk : ∀ a ∈ ks, 0 ≤ a) : (cnt (wouL ds ks keep ds.length)).2 = 0 := by
  obtain ⟨-, h6, -, h65⟩ := Vx.cnt_good h
  have hp := Vx.cnt_pos h
  have hw := wou_len ds ks keep ds.length
  have hpr := Vx.wou_pr (keep := keep) hk (Nat.le_refl ds.length)
  rw [List.take_of_length_le (by rw [Vx.leftL_length]; exact Nat.le_refl _)] at hpr
  have hle := Vx.cmp_pr (Vx.leftL_cmp ds ks) hp
  rw [Vx.cnt_of' (wou_pos hp (Nat.le_refl _)) (by omega) (by omega)]

/-- What reduce.begin makes of such a node. -/
theorem rB_form {n : Nd} {L : List Int} {k : Int} (hg : GoodN n L k) (hk : k = 0 ∨ k = 1) (x : Tn) :
    rB n x = if pbE x.1 x.2.1 x.2.2 ≠ 0 then (1, 0, []) else if (rTy n.op.toList x.1).1 ≠ 0 then ((rTy n.op.toList x.1).1, 0, []) else
      match axesP L x.2.1.length with | none => (4, 0, []) | some ks => (0, (rTy n.op.toList x.1).2, wouL x.2.1 ks (decide (k = 1)) x.2.1.length) := by
  by_cases hp : pbE x.1 x.2.1 x.2.2 = 0
  case neg =>
    rw [if_pos hp]
    exact begO_bad (k := 0) (x := x) rfl hp
  rw [if_neg (fun c => c hp)]
  have hall : ∀ t ∈ [x], pbE t.1 t.2.1 t.2.2 = 0 := fun t ht => by simp only [List.mem_cons, List.not_mem_nil, or_false] at ht; rw [ht]; exact hp
  unfold rB
  rw [begO_good (pbAll_of hall)]
  by_cases ht : (rTy n.op.toList x.1).1 = 0
  case neg =>
    rw [if_pos ht]
    exact outP_typ hg.chk (by simpa using hg.one.symm) (inpE_of hall) ht
  rw [if_neg (fun c => c ht)]
  have hr : redO n x.2.1 = match axesP L x.2.1.length with | none => (4, []) | some ks => (0, wouL x.2.1 ks (decide (k = 1)) x.2.1.length) := by
    unfold redO reducedP
    rw [hg.axes, hg.keep]
    cases axesP L x.2.1.length with
    | none => rfl
    | some ks => simp only [if_pos hk]; rfl
  cases ha : axesP L x.2.1.length with
  | none =>
    rw [ha] at hr
    rw [hr]
    exact outP_dims hg.chk (by simpa using hg.one.symm) (inpE_of hall) ht (show (4 : Int) ≠ 0 by decide)
  | some ks =>
    rw [ha] at hr
    rw [hr]
    exact outP_ok hg.chk (by simpa using hg.one.symm) (inpE_of hall) ht rfl (wou_cnt (pbE_zero hp).2.1 fun a ha' => ((axes_in ha).1 a ha').1) (by rw [hg.fol]; rfl)

end Go.Proofs.YtagiipecfdmceaaGreatDoor

set_option linter.unusedVariables false
set_option linter.unusedSimpArgs false
namespace Go.Proofs.YtagiipecfdmceaaGreatDoor
open Go.RowKit

set_option maxRecDepth 100000

theorem share9 {G : Prop} {P R : World → Nat → Nat → Value → Value → Option Addr → Nat → Option Addr → Nat → Prop} (h : (∀ a b c d e f g i j, P a b c d e f g i j → R a b c d e f g i j) → G) (k : ∀ a b c d e f g i j, P a b c d e f g i j → R a b c d e f g i j) : G := h k
/-- What stands when a result lies in a variable. -/
def AftD (w : World) (o : Int × Int × List Int × List Int) (W : World) (p : Nat) (ad : Option Addr) (cd : Nat) (ax : Option Addr) (cx : Nat) : Prop :=
  Below w.heap.size w W ∧ w.heap.size ≤ p ∧ BoxN W p #[.int .i64 o.2.1, .slice ad o.2.2.1.length cd, .slice ax o.2.2.2.length cx] 38 ∧ IntsIn W (.slice ad o.2.2.1.length cd) o.2.2.1 ∧ IntsIn W (.slice ax o.2.2.2.length cx) o.2.2.2
theorem AftD.mk {w : World} {o : Int × Int × List Int × List Int} {W : World} {p : Nat} {ad : Option Addr} {cd : Nat} {ax : Option Addr} {cx : Nat} (h1 : Below w.heap.size w W) (h2 : w.heap.size ≤ p) (h3 : BoxN W p #[.int .i64 o.2.1, .slice ad o.2.2.1.length cd, .slice ax o.2.2.2.length cx] 38) (h4 : IntsIn W (.slice ad o.2.2.1.length cd) o.2.2.1) (h5 : IntsIn W (.slice ax o.2.2.2.length cx) o.2.2.2) : AftD w o W p ad cd ax cx := ⟨h1, h2, h3, h4, h5⟩
theorem AftD.all {w : World} {o : Int × Int × List Int × List Int} {W : World} {p : Nat} {ad : Option Addr} {cd : Nat} {ax : Option Addr} {cx : Nat} (h : AftD w o W p ad cd ax cx) : Below w.heap.size w W ∧ w.heap.size ≤ p ∧ BoxN W p #[.int .i64 o.2.1, .slice ad o.2.2.1.length cd, .slice ax o.2.2.2.length cx] 38 ∧ IntsIn W (.slice ad o.2.2.1.length cd) o.2.2.1 ∧ IntsIn W (.slice ax o.2.2.2.length cx) o.2.2.2 := h
theorem ints_freshD {W : World} {PB : Nat} {u v t r : Value} {zs : List Int} (h : IntsIn W r zs) (hp : PB = W.heap.size) (o : Obj) : IntsIn (put3 (W.alloc o) PB u v t) r zs := by
  subst hp
  exact h.below (((((Below.refl _ W).alloc (Nat.le_refl _) o).setCell (p := ⟨W.heap.size, 0, none⟩) (Nat.le_refl _) _).setCell (p := ⟨W.heap.size, 1, none⟩) (Nat.le_refl _) _).setCell (p := ⟨W.heap.size, 2, none⟩) (Nat.le_refl _) _)
theorem ints_highD {W : World} {PB D : Nat} {u v t r : Value} {zs : List Int} (h : IntsIn W r zs) (hi : HiB D r) (hp : PB < D) : IntsIn (put3 W PB u v t) r zs := by
  unfold put3
  have hb : ∀ b o n c, r = .slice (some ⟨b, o, none⟩) n c → b ≠ PB := fun b o n c e => by have := hi b o n c e; omega
  exact ints_set (ints_set (ints_set h (p := ⟨PB, 0, none⟩) u hb) (p := ⟨PB, 1, none⟩) v hb) (p := ⟨PB, 2, none⟩) t hb

theorem axisOf_any (op : ByteArray) (a k : Int) (w : World) :
    Calls Tryz.prog 20 #[.string op, .int .i64 a, .int .i64 k] w fun e w' => ∃ vin vat ts, e = .returned (.agg #[.string op, .string ⟨#[]⟩, vin, .string ⟨#[122]⟩, vat]) ∧ NodeO w' w.heap.size (nK op a k) vin vat ts ∧ Below w.heap.size w w' := by
  unfold nK
  by_cases h : op.toList = lArg
  · rw [if_pos h]
    exact axisOf_arg op a k (by rw [h]; decide) w
  · rw [if_neg h]
    exact axisOf_axes op a k (by simpa [lArg] using h) w
theorem nodeB_nK (op : ByteArray) {a k : Int} (ha : InI a) (hk : InI k) : NodeB (nK op a k) := by
  have h0 : InI 0 := by unfold InI; decide
  have h2 : InI 2 := by unfold InI; decide
  have h7 : InI 7 := by unfold InI; decide
  have hB : ∀ at' ∈ [keepA k, axesA [a], axisA a], AttrB at' := fun b hb => by
    simp only [List.mem_cons, List.not_mem_nil, or_false] at hb
    rcases hb with rfl | rfl | rfl
    · exact attrB_lit rfl rfl ⟨by simp [keepA], by intro z hz; simp [keepA] at hz⟩ ⟨h2, h0, hk, h0⟩ (show nmKeep.size ≤ 1000 by decide) (show ByteArray.size ⟨#[]⟩ ≤ 1000 by decide)
    · exact attrB_lit rfl rfl ⟨by simp [axesA], by intro z hz; simp [axesA] at hz; subst hz; exact ha⟩ ⟨h7, h0, h0, h0⟩ (show nmAxes.size ≤ 1000 by decide) (show ByteArray.size ⟨#[]⟩ ≤ 1000 by decide)
    · exact attrB_lit rfl rfl ⟨by simp [axisA], by intro z hz; simp [axisA] at hz⟩ ⟨h2, h0, ha, h0⟩ (show nmAxis.size ≤ 1000 by decide) (show ByteArray.size ⟨#[]⟩ ≤ 1000 by decide)
  unfold nK
  split
  · exact ⟨by simp [argN], by simp [argN], fun b hb => hB b (by simp [argN] at hb ⊢; rcases hb with h | h <;> simp [h])⟩
  · exact ⟨by simp [axN], by simp [axN], fun b hb => hB b (by simp [axN] at hb ⊢; rcases hb with h | h <;> simp [h])⟩
theorem nK_val (op : ByteArray) (a k : Int) (vin vat : Value) : (nK op a k).val vin vat = .agg #[.string op, .string ⟨#[]⟩, vin, .string ⟨#[122]⟩, vat] := by unfold nK; split <;> rfl
theorem red_do {wr : World} (HG : ∀ W, Below wr.heap.size wr W → Glob W) {op : ByteArray} (ho : op ∈ opsL) {a k : Int} (ha : InI a) (hk : InI k) (x : Tn) :
    ∀ (W : World) (B : Nat) (vin vat vv : Value) (ts : List Tri), Below wr.heap.size wr W → NodeO W B (nK op a k) vin vat ts → SlIn 3 rdTensor W vv [x] → Calls Tryz.prog 19 #[.agg #[.string op, .string ⟨#[]⟩, vin, .string ⟨#[122]⟩, vat], vv] W (UniR W (redD (nK op a k) x)) :=
  fun W B vin vat vv ts hB hn hs => rdo_U ⟨vin, vat, (nK_val op a k vin vat).symm, hn.reads (nodeB_nK op ha hk)⟩ hs (HG W hB) (by rw [nK_op]; exact ops_red ho)
attribute [local irreducible] redD nK opsL AftD

end Go.Proofs.YtagiipecfdmceaaGreatDoor
