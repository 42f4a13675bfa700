/- General part of: The walks of the law package's live and same. -/
import Derived.Test.YtagiipecfdmceaaGreatDoorSchQ
set_option linter.unusedVariables false
set_option linter.unusedSimpArgs false
namespace Go.Proofs.YtagiipecfdmceaaGreatDoor
open Go.RowKit

theorem strs_new (w : World) (ss : List ByteArray) (cs : Array Value) (hcs : cs = (ss.map Value.string).toArray) (n : Nat) (hn : ss.length = n) (h0 : ss ≠ []) (hl : n ≤ 1000) : StrsIn (w.alloc (.cells cs 9)) (.slice (some ⟨w.heap.size, 0, none⟩) n n) ss := by
  subst hn hcs
  have hc := World.alloc_heap_new w (Obj.cells (ss.map Value.string).toArray 9)
  exact .row w.heap.size 0 ss.length ss h0 (Nat.le_refl _) (by simp) (fun j t hj => by
    rw [World.cell?, hc]
    simp [hj]) (by omega)

theorem attr_new (w : World) (a : At) {vd vx vi : Value} (h : AttrN (w.alloc (.cells #[.string a.name, .int .i64 a.kind, .int .i64 a.f, .int .i64 a.i, .string a.s, .int .i64 a.typ, vd, vx, vi] 49)) a vd vx vi) :
    AttrsIn (w.alloc (.cells #[.string a.name, .int .i64 a.kind, .int .i64 a.f, .int .i64 a.i, .string a.s, .int .i64 a.typ, vd, vx, vi] 49)) (.slice (some ⟨w.heap.size, 0, none⟩) 1 1) [a] := by
  have hB := BoxN.new w #[.string a.name, .int .i64 a.kind, .int .i64 a.f, .int .i64 a.i, .string a.s, .int .i64 a.typ, vd, vx, vi] 49
  obtain ⟨h0, h1, h2, h3, h4, h5, h6, h7, h8⟩ := hB.nine
  refine .row w.heap.size 0 1 [a] (by simp) (by simp) (by simp) (fun j b hj => ?_) (by simp)
  cases j with
  | zero =>
    obtain rfl := Option.some.inj hj
    exact ⟨vd, vx, vi, ⟨h0, h1, h2, h3, h4, h5, h6, h7, h8⟩, h⟩
  | succ j => simp at hj

def opRelu : ByteArray := ⟨#[82, 101, 108, 117]⟩
def opWhat : ByteArray := ⟨#[87, 104, 97, 116]⟩
def opCast : ByteArray := ⟨#[67, 97, 115, 116]⟩
def opAdd : ByteArray := ⟨#[65, 100, 100]⟩
def sx : ByteArray := ⟨#[120]⟩
def sy : ByteArray := ⟨#[121]⟩
def sz : ByteArray := ⟨#[122]⟩
def thenA (s : ByteArray) : At := ⟨⟨#[116, 104, 101, 110]⟩, 3, 0, 0, s, 0, [], [], []⟩
def reluNeg : ByteArray := ⟨#[82, 101, 108, 117, 44, 78, 101, 103]⟩
def sNeg : ByteArray := ⟨#[78, 101, 103]⟩

theorem live_1 : checkP ⟨opRelu, ⟨#[]⟩, [sx], sy, []⟩ = 0 := by decide +kernel
theorem live_2 : checkP ⟨opWhat, ⟨#[]⟩, [sx], sy, []⟩ = 5 := by decide +kernel
theorem live_3 : checkP ⟨opCast, ⟨#[]⟩, [sx], sy, []⟩ = 4 := by decide +kernel
theorem live_4 : checkP ⟨opAdd, ⟨#[]⟩, [sx, sy], sz, [thenA reluNeg]⟩ = 0 := by decide +kernel
theorem live_5 : thenE [thenA reluNeg] = ([opRelu, sNeg], 0) := by decide +kernel

theorem node_of {w : World} {op nm out : ByteArray} {ins : List ByteArray} {ats : List At} {vin vat : Value} (h1 : StrsIn w vin ins) (h2 : AttrsIn w vat ats) :
    NodeV w (.agg #[.string op, .string nm, vin, .string out, vat]) ⟨op, nm, ins, out, ats⟩ := ⟨_, _, rfl, h1, h2⟩

attribute [local irreducible] checkP thenE

theorem chk_node {op nm out : ByteArray} {ins : List ByteArray} {ats : List At} {vin vat : Value} {x : Int} (e : checkP ⟨op, nm, ins, out, ats⟩ = x) {w : World} (hG : Glob w) (h1 : StrsIn w vin ins) (h2 : AttrsIn w vat ats) :
    Calls Tryz.prog 24 #[.agg #[.string op, .string nm, vin, .string out, vat]] w fun e w' => e = .returned (.int .i64 x) ∧ Below w.heap.size w w' := by
  refine (scheck_any (node_of h1 h2) hG).mono ?_
  rw [e]
  exact fun _ _ h => h

theorem then_node {op nm out : ByteArray} {ins : List ByteArray} {ats : List At} {vin vat : Value} {l : List ByteArray} {x : Int} (e : thenE ats = (l, x)) {w : World} (hG : Glob w) (h1 : StrsIn w vin ins) (h2 : AttrsIn w vat ats) :
    Calls Tryz.prog 54 #[.agg #[.string op, .string nm, vin, .string out, vat]] w fun e w' => Below w.heap.size w w' ∧ ∃ v', e = .returned (.tuple #[v', .int .i64 x]) ∧ StrsIn w' v' l := by
  refine (then_any (node_of h1 h2) hG).mono ?_
  rw [e]
  exact fun _ _ h => h

end Go.Proofs.YtagiipecfdmceaaGreatDoor
