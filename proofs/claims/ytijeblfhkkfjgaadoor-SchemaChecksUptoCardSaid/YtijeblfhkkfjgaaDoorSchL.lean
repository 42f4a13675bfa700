/- The walks of the law package's live and same. -/
import Derived.Test.YtijeblfhkkfjgaaDoorSchQ
set_option linter.unusedVariables false
set_option linter.unusedSimpArgs false
namespace Go.Proofs.YtijeblfhkkfjgaaDoor
open Go.RowKit

theorem strs_new (w : World) (ss : List ByteArray) (cs : Array Value) (hcs : cs = (ss.map Value.string).toArray) (n : Nat) (hn : ss.length = n) (h0 : ss ≠ []) (hl : n ≤ 1000) : StrsIn (w.alloc (.cells cs 9)) (.slice (some ⟨w.heap.size, 0, none⟩) n n) ss := by
  subst hn hcs
  have hc := World.alloc_heap_new w (Obj.cells (ss.map Value.string).toArray 9)
  exact .row w.heap.size 0 ss.length ss h0 (Nat.le_refl _) (by simp) (fun j t hj => by
    rw [World.cell?, hc]
    simp [hj]) (by omega)

theorem attr_new (w : World) (a : At) {vd vx vi : Value} (h : AttrN (w.alloc (.cells #[.string a.name, .int .i64 a.kind, .int .i64 a.f, .int .i64 a.i, .string a.s, .int .i64 a.typ, vd, vx, vi] 37)) a vd vx vi) :
    AttrsIn (w.alloc (.cells #[.string a.name, .int .i64 a.kind, .int .i64 a.f, .int .i64 a.i, .string a.s, .int .i64 a.typ, vd, vx, vi] 37)) (.slice (some ⟨w.heap.size, 0, none⟩) 1 1) [a] := by
  have hB := BoxN.new w #[.string a.name, .int .i64 a.kind, .int .i64 a.f, .int .i64 a.i, .string a.s, .int .i64 a.typ, vd, vx, vi] 37
  obtain ⟨h0, h1, h2, h3, h4, h5, h6, h7, h8⟩ := hB.nine
  refine .row w.heap.size 0 1 [a] (by simp) (by simp) (by simp) (fun j b hj => ?_) (by simp)
  cases j with
  | zero =>
    obtain rfl := Option.some.inj hj
    exact ⟨vd, vx, vi, ⟨h0, h1, h2, h3, h4, h5, h6, h7, h8⟩, h⟩
  | succ j => simp at hj

def opRelu : ByteArray := ⟨#[82, 101, 108, 117]⟩
def opWhat : ByteArray := ⟨#[87, 104, 97, 116]⟩
def opCast : ByteArray := ⟨#[67, 97, 115, 116]⟩
def opAdd : ByteArray := ⟨#[65, 100, 100]⟩
def sx : ByteArray := ⟨#[120]⟩
def sy : ByteArray := ⟨#[121]⟩
def sz : ByteArray := ⟨#[122]⟩
def thenA (s : ByteArray) : At := ⟨⟨#[116, 104, 101, 110]⟩, 3, 0, 0, s, 0, [], [], []⟩
def reluNeg : ByteArray := ⟨#[82, 101, 108, 117, 44, 78, 101, 103]⟩
def sNeg : ByteArray := ⟨#[78, 101, 103]⟩

theorem live_1 : checkP ⟨opRelu, ⟨#[]⟩, [sx], sy, []⟩ = 0 := by decide +kernel
theorem live_2 : checkP ⟨opWhat, ⟨#[]⟩, [sx], sy, []⟩ = 5 := by decide +kernel
theorem live_3 : checkP ⟨opCast, ⟨#[]⟩, [sx], sy, []⟩ = 4 := by decide +kernel
theorem live_4 : checkP ⟨opAdd, ⟨#[]⟩, [sx, sy], sz, [thenA reluNeg]⟩ = 0 := by decide +kernel
theorem live_5 : thenE [thenA reluNeg] = ([opRelu, sNeg], 0) := by decide +kernel

theorem node_of {w : World} {op nm out : ByteArray} {ins : List ByteArray} {ats : List At} {vin vat : Value} (h1 : StrsIn w vin ins) (h2 : AttrsIn w vat ats) :
    NodeV w (.agg #[.string op, .string nm, vin, .string out, vat]) ⟨op, nm, ins, out, ats⟩ := ⟨_, _, rfl, h1, h2⟩

attribute [local irreducible] checkP thenE

theorem chk_node {op nm out : ByteArray} {ins : List ByteArray} {ats : List At} {vin vat : Value} {x : Int} (e : checkP ⟨op, nm, ins, out, ats⟩ = x) {w : World} (hG : Glob w) (h1 : StrsIn w vin ins) (h2 : AttrsIn w vat ats) :
    Calls Tryd.prog 11 #[.agg #[.string op, .string nm, vin, .string out, vat]] w fun e w' => e = .returned (.int .i64 x) ∧ Below w.heap.size w w' := by
  refine (scheck_any (node_of h1 h2) hG).mono ?_
  rw [e]
  exact fun _ _ h => h

theorem then_node {op nm out : ByteArray} {ins : List ByteArray} {ats : List At} {vin vat : Value} {l : List ByteArray} {x : Int} (e : thenE ats = (l, x)) {w : World} (hG : Glob w) (h1 : StrsIn w vin ins) (h2 : AttrsIn w vat ats) :
    Calls Tryd.prog 12 #[.agg #[.string op, .string nm, vin, .string out, vat]] w fun e w' => Below w.heap.size w w' ∧ ∃ v', e = .returned (.tuple #[v', .int .i64 x]) ∧ StrsIn w' v' l := by
  refine (then_any (node_of h1 h2) hG).mono ?_
  rw [e]
  exact fun _ _ h => h

set_option maxRecDepth 100000 in
set_option maxHeartbeats 4000000 in
theorem live_any {w : World} (hG : Glob w) : Calls Tryd.prog 10 #[] w fun e w' => e = .returned (.bool true) ∧ Below w.heap.size w w' := by
  have HG := Lib.hid hG
  clear hG
  go_enter Tryd.func10, Tryd.ntmps10
  go_wp2_with fail
  have B1 : Hid (Below w.heap.size w (w.alloc (Obj.cells #[.string ⟨#[120]⟩] 9))) := Lib.hid ((Below.refl _ w).alloc (Nat.le_refl _) _)
  refine (chk_node live_1 (HG.out.below B1.out) (strs_new w [sx] _ rfl 1 rfl (by simp) (by decide)) (.empty _ _)).mono ?_
  rintro e w1 ⟨rfl, B2⟩
  have B2 := Lib.hid (B1.out.trans (B2.mono B1.out.size))
  go_wp2_with fail
  have B3 : Hid (Below w.heap.size w (w1.alloc (Obj.cells #[.string ⟨#[120]⟩] 9))) := Lib.hid (B2.out.alloc B2.out.size _)
  refine (chk_node live_2 (HG.out.below B3.out) (strs_new w1 [sx] _ rfl 1 rfl (by simp) (by decide)) (.empty _ _)).mono ?_
  rintro e w2 ⟨rfl, B4⟩
  have B4 := Lib.hid (B3.out.trans (B4.mono B3.out.size))
  go_wp2_with fail
  have B5 : Hid (Below w.heap.size w (w2.alloc (Obj.cells #[.string ⟨#[120]⟩] 9))) := Lib.hid (B4.out.alloc B4.out.size _)
  refine (chk_node live_3 (HG.out.below B5.out) (strs_new w2 [sx] _ rfl 1 rfl (by simp) (by decide)) (.empty _ _)).mono ?_
  rintro e w3 ⟨rfl, B6⟩
  have B6 := Lib.hid (B5.out.trans (B6.mono B5.out.size))
  go_wp2_with fail
  have hS : Hid (StrsIn (((w3.alloc (Obj.cells #[.string ⟨#[120]⟩, .string ⟨#[121]⟩] 9)).alloc (Obj.cells #[.string ⟨#[116, 104, 101, 110]⟩, .int .i64 3, .int .i64 0, .int .i64 0, .string ⟨#[82, 101, 108, 117, 44, 78, 101, 103]⟩, .int .i64 0, .slice none 0 0, .slice none 0 0, .slice none 0 0] 37)).alloc (Obj.cells #[.string ⟨#[65, 100, 100]⟩, .string ⟨#[]⟩, .slice (some ⟨w3.heap.size, 0, none⟩) 2 2, .string ⟨#[122]⟩, .slice (some ⟨w3.heap.size + 1, 0, none⟩) 1 1] 25)) (.slice (some ⟨w3.heap.size, 0, none⟩) 2 2) [sx, sy]) := Lib.hid ((strs_new w3 [sx, sy] _ rfl 2 rfl (by simp) (by decide)).below (((Below.refl _ _).alloc (Nat.le_refl _) _).alloc (by simp) _))
  have hA : Hid (AttrsIn (((w3.alloc (Obj.cells #[.string ⟨#[120]⟩, .string ⟨#[121]⟩] 9)).alloc (Obj.cells #[.string ⟨#[116, 104, 101, 110]⟩, .int .i64 3, .int .i64 0, .int .i64 0, .string ⟨#[82, 101, 108, 117, 44, 78, 101, 103]⟩, .int .i64 0, .slice none 0 0, .slice none 0 0, .slice none 0 0] 37)).alloc (Obj.cells #[.string ⟨#[65, 100, 100]⟩, .string ⟨#[]⟩, .slice (some ⟨w3.heap.size, 0, none⟩) 2 2, .string ⟨#[122]⟩, .slice (some ⟨w3.heap.size + 1, 0, none⟩) 1 1] 25)) (.slice (some ⟨w3.heap.size + 1, 0, none⟩) 1 1) [thenA reluNeg]) := Lib.hid (by
    have h := attr_new (w3.alloc (Obj.cells #[.string ⟨#[120]⟩, .string ⟨#[121]⟩] 9)) (thenA reluNeg) (vd := .slice none 0 0) (vx := .slice none 0 0) (vi := .slice none 0 0) ⟨.empty _ _, .empty _ _, .empty _ _, by unfold thenA InI; decide, by unfold thenA InI; decide, by unfold thenA InI; decide, by unfold thenA InI; decide, by decide, by decide⟩
    rw [World.size_alloc] at h
    exact h.below ((Below.refl _ _).alloc (Nat.le_refl _) _))
  have hX : Hid (BoxN (((w3.alloc (Obj.cells #[.string ⟨#[120]⟩, .string ⟨#[121]⟩] 9)).alloc (Obj.cells #[.string ⟨#[116, 104, 101, 110]⟩, .int .i64 3, .int .i64 0, .int .i64 0, .string ⟨#[82, 101, 108, 117, 44, 78, 101, 103]⟩, .int .i64 0, .slice none 0 0, .slice none 0 0, .slice none 0 0] 37)).alloc (Obj.cells #[.string ⟨#[65, 100, 100]⟩, .string ⟨#[]⟩, .slice (some ⟨w3.heap.size, 0, none⟩) 2 2, .string ⟨#[122]⟩, .slice (some ⟨w3.heap.size + 1, 0, none⟩) 1 1] 25)) (w3.heap.size + 1 + 1) #[.string ⟨#[65, 100, 100]⟩, .string ⟨#[]⟩, .slice (some ⟨w3.heap.size, 0, none⟩) 2 2, .string ⟨#[122]⟩, .slice (some ⟨w3.heap.size + 1, 0, none⟩) 1 1] 25) := Lib.hid (by
    have h := BoxN.new ((w3.alloc (Obj.cells #[.string ⟨#[120]⟩, .string ⟨#[121]⟩] 9)).alloc (Obj.cells #[.string ⟨#[116, 104, 101, 110]⟩, .int .i64 3, .int .i64 0, .int .i64 0, .string ⟨#[82, 101, 108, 117, 44, 78, 101, 103]⟩, .int .i64 0, .slice none 0 0, .slice none 0 0, .slice none 0 0] 37)) #[.string ⟨#[65, 100, 100]⟩, .string ⟨#[]⟩, .slice (some ⟨w3.heap.size, 0, none⟩) 2 2, .string ⟨#[122]⟩, .slice (some ⟨w3.heap.size + 1, 0, none⟩) 1 1] 25
    rw [World.size_alloc, World.size_alloc] at h
    exact h)
  have B7 : Hid (Below w.heap.size w (((w3.alloc (Obj.cells #[.string ⟨#[120]⟩, .string ⟨#[121]⟩] 9)).alloc (Obj.cells #[.string ⟨#[116, 104, 101, 110]⟩, .int .i64 3, .int .i64 0, .int .i64 0, .string ⟨#[82, 101, 108, 117, 44, 78, 101, 103]⟩, .int .i64 0, .slice none 0 0, .slice none 0 0, .slice none 0 0] 37)).alloc (Obj.cells #[.string ⟨#[65, 100, 100]⟩, .string ⟨#[]⟩, .slice (some ⟨w3.heap.size, 0, none⟩) 2 2, .string ⟨#[122]⟩, .slice (some ⟨w3.heap.size + 1, 0, none⟩) 1 1] 25))) := Lib.hid (((B6.out.alloc B6.out.size _).alloc (B6.out.alloc B6.out.size _).size _).alloc ((B6.out.alloc B6.out.size _).alloc (B6.out.alloc B6.out.size _).size _).size _)
  generalize (((w3.alloc (Obj.cells #[.string ⟨#[120]⟩, .string ⟨#[121]⟩] 9)).alloc (Obj.cells #[.string ⟨#[116, 104, 101, 110]⟩, .int .i64 3, .int .i64 0, .int .i64 0, .string ⟨#[82, 101, 108, 117, 44, 78, 101, 103]⟩, .int .i64 0, .slice none 0 0, .slice none 0 0, .slice none 0 0] 37)).alloc (Obj.cells #[.string ⟨#[65, 100, 100]⟩, .string ⟨#[]⟩, .slice (some ⟨w3.heap.size, 0, none⟩) 2 2, .string ⟨#[122]⟩, .slice (some ⟨w3.heap.size + 1, 0, none⟩) 1 1] 25)) = W4 at hS hA hX B7 ⊢
  refine (then_node live_5 (HG.out.below B7.out) hS.out hA.out).mono ?_
  rintro e w5 ⟨B8, v5, rfl, hs5⟩
  have HX5 := Lib.hid (hX.out.below' B8)
  have HS5 := Lib.hid hs5
  obtain ⟨b5, o5, c5, rfl, hb5, hr5⟩ := hs5.rows 0 opRelu rfl
  have HB5 := Lib.hid hb5
  have HR5 := Lib.hid hr5
  have HSS := Lib.hid (hS.out.below B8)
  have HAA := Lib.hid (hA.out.below B8)
  have B9 := Lib.hid (B7.out.trans (B8.mono B7.out.size))
  clear B8 hs5 hb5 hr5
  have w5k0 : w5.cell? ⟨w3.heap.size + 1 + 1, 0, none⟩ = some (.string ⟨#[65, 100, 100]⟩) := HX5.out.cell 0 rfl
  have w5k1 : w5.cell? ⟨w3.heap.size + 1 + 1, 1, none⟩ = some (.string ⟨#[]⟩) := HX5.out.cell 1 rfl
  have w5k2 : w5.cell? ⟨w3.heap.size + 1 + 1, 2, none⟩ = some (.slice (some ⟨w3.heap.size, 0, none⟩) 2 2) := HX5.out.cell 2 rfl
  have w5k3 : w5.cell? ⟨w3.heap.size + 1 + 1, 3, none⟩ = some (.string ⟨#[122]⟩) := HX5.out.cell 3 rfl
  have w5k4 : w5.cell? ⟨w3.heap.size + 1 + 1, 4, none⟩ = some (.slice (some ⟨w3.heap.size + 1, 0, none⟩) 1 1) := HX5.out.cell 4 rfl
  go_wp2_with fail
  refine (chk_node live_4 (HG.out.below B9.out) HSS.out HAA.out).mono ?_
  rintro e w6 ⟨rfl, B10⟩
  have B11 := Lib.hid (B9.out.trans (B10.mono B9.out.size))
  have n1 : w6.cell? ⟨b5, o5 + 1, none⟩ = some (.string ⟨#[78, 101, 103]⟩) := (B10.cell (p := ⟨b5, o5 + 1, none⟩) HB5.out).trans (HR5.out 1 sNeg rfl)
  clear B10
  go_wp2_with fail
  go_ret
  exact ⟨rfl, B11.out⟩

/-- Lists of the same strings. -/
theorem same_row (b1 o1 c1 b2 o2 c2 : Nat) (l : List ByteArray) (hlen : l.length * 16 ≤ 140737488351232) (w : World) (hb1 : b1 < w.heap.size) (hb2 : b2 < w.heap.size) (h1 : Hid (ReadsS w b1 o1 l)) (h2 : Hid (ReadsS w b2 o2 l)) :
    Calls Tryd.prog 13 #[.slice (some ⟨b1, o1, none⟩) l.length c1, .slice (some ⟨b2, o2, none⟩) l.length c2] w fun e w' => e = .returned (.bool true) ∧ Below w.heap.size w w' := by
  go_enter Tryd.func13, Tryd.ntmps13
  go_wp2
  go_loopg [5] l.length (fun gg s5 wr => ∃ k : Nat, k ≤ l.length ∧ l.length - k ≤ gg ∧ s5 = .int .i64 (k : Int) ∧ Hid (Below w.heap.size w wr))
  case atStart => exact ⟨0, Nat.zero_le _, by omega, rfl, Lib.hid (Below.refl _ _)⟩
  case round =>
    obtain ⟨k, hk, hg, rfl, hB⟩ := hrel
    by_cases hkl : k < l.length
    · have hki : (k : Int) < (l.length : Int) := by omega
      have hk0 : (0 : Int) ≤ (k : Int) := by omega
      obtain ⟨a, ha⟩ : ∃ a, l[k]? = some a := ⟨_, List.getElem?_eq_getElem hkl⟩
      have c0 : wr.cell? ⟨b1, o1 + k, none⟩ = some (.string a) := (hB.out.cell (p := ⟨b1, o1 + k, none⟩) hb1).trans (h1.out k a ha)
      have c0' : wr.cell? ⟨b2, o2 + k, none⟩ = some (.string a) := (hB.out.cell (p := ⟨b2, o2 + k, none⟩) hb2).trans (h2.out k a ha)
      clear ha
      go_wp2_with fail
      go_quiet (fail)
      go_wp2_with fail
      go_roundg (l.length - (k + 1))
      case measure => omega
      case rel => exact ⟨k + 1, by omega, by omega, by go_num, Lib.hid (below_dN hB.out _)⟩
    · have hki : ¬ (k : Int) < (l.length : Int) := by omega
      go_wp2
      go_ret
      exact ⟨rfl, hB.out⟩

theorem same_empty (a1 a2 : Option Addr) (c1 c2 : Nat) (w : World) :
    Calls Tryd.prog 13 #[.slice a1 0 c1, .slice a2 0 c2] w fun e w' => e = .returned (.bool true) ∧ Below w.heap.size w w' := by
  go_enter Tryd.func13, Tryd.ntmps13
  go_wp2
  go_rounds 1
  go_ret
  exact ⟨rfl, Below.refl _ _⟩

theorem same_any {w : World} {v1 v2 : Value} {l : List ByteArray} (h1 : StrsIn w v1 l) (h2 : StrsIn w v2 l) :
    Calls Tryd.prog 13 #[v1, v2] w fun e w' => e = .returned (.bool true) ∧ Below w.heap.size w w' := by
  cases h1 with
  | empty a0 cap =>
    obtain ⟨a, c, rfl⟩ := h2.form
    exact same_empty _ _ _ _ w
  | row b off cap _ h0 hc hb hr hlen =>
    cases h2 with
    | empty => exact absurd rfl h0
    | row b' off' cap' _ h0' hc' hb' hr' hlen' => exact same_row b off cap b' off' cap' l hlen w hb hb' (Lib.hid hr) (Lib.hid hr')

end Go.Proofs.YtijeblfhkkfjgaaDoor
