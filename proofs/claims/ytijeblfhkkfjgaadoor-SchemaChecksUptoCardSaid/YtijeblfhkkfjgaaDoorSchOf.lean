/- The walk of the reference's 'of'. -/
import Derived.Test.YtijeblfhkkfjgaaDoorSchRf
set_option linter.unusedVariables false
set_option linter.unusedSimpArgs false
namespace Go.Proofs.YtijeblfhkkfjgaaDoor
open Go.RowKit

/-- A form of an attribute. -/
structure Fm where
  name : ByteArray
  kind : Int
  must : Bool

def Fm.cells (f : Fm) : List Value := [.string f.name, .int .i64 f.kind, .bool f.must]

def ReadsF (w : World) (b off : Nat) (fs : List Fm) : Prop := ∀ (j : Nat) f, fs[j]? = some f → w.cell? ⟨b, off + j * 3, none⟩ = some (.string f.name) ∧ w.cell? ⟨b, off + j * 3 + 1, none⟩ = some (.int .i64 f.kind) ∧ w.cell? ⟨b, off + j * 3 + 2, none⟩ = some (.bool f.must)

/-- A row of forms with no room behind it. -/
inductive FmsIn (w : World) : Value → List Fm → Prop
  | empty : FmsIn w (.slice none 0 0) []
  | row (b : Nat) (fs : List Fm) (h0 : fs ≠ []) (hb : b < w.heap.size) (hr : ReadsF w b 0 fs) (hlen : fs.length ≤ 100) : FmsIn w (.slice (some ⟨b, 0, none⟩) fs.length fs.length) fs

theorem ReadsF.below {w w' : World} {b off : Nat} {fs : List Fm} (h : ReadsF w b off fs) (hb : b < w.heap.size) (hB : Below w.heap.size w w') : ReadsF w' b off fs := fun j f hj => by
  obtain ⟨h1, h2, h3⟩ := h j f hj
  exact ⟨(hB.cell (p := ⟨b, off + j * 3, none⟩) hb).trans h1, (hB.cell (p := ⟨b, off + j * 3 + 1, none⟩) hb).trans h2, (hB.cell (p := ⟨b, off + j * 3 + 2, none⟩) hb).trans h3⟩
theorem FmsIn.below {w w' : World} {v : Value} {fs : List Fm} (h : FmsIn w v fs) (hB : Below w.heap.size w w') : FmsIn w' v fs := by
  cases h with
  | empty => exact .empty
  | row b _ h0 hb hr hlen => exact .row b fs h0 (Nat.lt_of_lt_of_le hb hB.size) (hr.below hb hB) hlen

theorem fm_get : ∀ {fs : List Fm} {j : Nat} {f : Fm} {i : Nat} {u : Value}, fs[j]? = some f → f.cells[i]? = some u → (fs.flatMap Fm.cells)[j * 3 + i]? = some u
  | [], j, f, i, u, h, _ => by simp at h
  | g :: fs, 0, f, i, u, h1, h2 => by
    obtain rfl := Option.some.inj h1
    have hi : i < (Fm.cells g).length := (List.getElem?_eq_some_iff.1 h2).1
    rw [List.flatMap_cons, Nat.zero_mul, Nat.zero_add, List.getElem?_append_left hi]; exact h2
  | g :: fs, j + 1, f, i, u, h1, h2 => by
    rw [List.flatMap_cons, List.getElem?_append_right (by simp [Fm.cells]; omega)]
    have e : (j + 1) * 3 + i - (Fm.cells g).length = j * 3 + i := by simp [Fm.cells]; omega
    rw [e]
    exact fm_get (by simpa using h1) h2

theorem fms_new (w : World) (fs : List Fm) (cs : Array Value) (hcs : cs = (fs.flatMap Fm.cells).toArray) (n : Nat) (hn : fs.length = n) (h0 : fs ≠ []) (hl : n ≤ 100) : FmsIn (w.alloc (.cells cs 88)) (.slice (some ⟨w.heap.size, 0, none⟩) n n) fs := by
  subst hn
  refine .row w.heap.size fs h0 (by simp) (fun j f hj => ?_) hl
  have hc : ∀ (i : Nat) u, f.cells[i]? = some u → (w.alloc (.cells cs 88)).cell? ⟨w.heap.size, 0 + j * 3 + i, none⟩ = some u := fun i u hu => by
    rw [World.cell?, World.alloc_heap_new]
    have := fm_get hj hu
    simp only [hcs, Nat.zero_add]
    simpa using this
  exact ⟨hc 0 _ rfl, hc 1 _ rfl, hc 2 _ rfl⟩

def lookR : List (List UInt8 × Int × Int × List Fm) → ByteArray → Option (Int × Int × List Fm)
  | [], _ => none
  | (l, r) :: t, op => if op.toList == l then some r else lookR t op
theorem lookR_hit {l : List UInt8} {r : Int × Int × List Fm} {t : List (List UInt8 × Int × Int × List Fm)} {op : ByteArray} (h : (op.toList == l) = true) : lookR ((l, r) :: t) op = some r := by unfold lookR; rw [if_pos h]
theorem lookR_miss {l : List UInt8} {r : Int × Int × List Fm} {t : List (List UInt8 × Int × Int × List Fm)} {op : ByteArray} (h : (op.toList == l) = false) : lookR ((l, r) :: t) op = lookR t op := by simp [lookR, h]

def rtab24 : List (List UInt8 × Int × Int × List Fm) := []
def rtab23 : List (List UInt8 × Int × Int × List Fm) := ([67, 111, 110, 115, 116, 97, 110, 116], 0, 0, [⟨⟨#[118, 97, 108, 117, 101]⟩, 4, true⟩]) :: rtab24
def rtab22 : List (List UInt8 × Int × Int × List Fm) := ([66, 97, 116, 99, 104, 78, 111, 114, 109, 97, 108, 105, 122, 97, 116, 105, 111, 110], 5, 5, [⟨⟨#[101, 112, 115, 105, 108, 111, 110]⟩, 1, false⟩]) :: rtab23
def rtab21 : List (List UInt8 × Int × Int × List Fm) := ([65, 118, 101, 114, 97, 103, 101, 80, 111, 111, 108], 1, 1, [⟨⟨#[107, 101, 114, 110, 101, 108, 95, 115, 104, 97, 112, 101]⟩, 7, true⟩, ⟨⟨#[115, 116, 114, 105, 100, 101, 115]⟩, 7, false⟩, ⟨⟨#[112, 97, 100, 115]⟩, 7, false⟩]) :: rtab22
def rtab20 : List (List UInt8 × Int × Int × List Fm) := ([77, 97, 120, 80, 111, 111, 108], 1, 1, [⟨⟨#[107, 101, 114, 110, 101, 108, 95, 115, 104, 97, 112, 101]⟩, 7, true⟩, ⟨⟨#[115, 116, 114, 105, 100, 101, 115]⟩, 7, false⟩, ⟨⟨#[112, 97, 100, 115]⟩, 7, false⟩]) :: rtab21
def rtab19 : List (List UInt8 × Int × Int × List Fm) := ([67, 111, 110, 118], 2, 3, [⟨⟨#[115, 116, 114, 105, 100, 101, 115]⟩, 7, false⟩, ⟨⟨#[112, 97, 100, 115]⟩, 7, false⟩, ⟨⟨#[100, 105, 108, 97, 116, 105, 111, 110, 115]⟩, 7, false⟩, ⟨⟨#[103, 114, 111, 117, 112]⟩, 2, false⟩]) :: rtab20
def rtab18 : List (List UInt8 × Int × Int × List Fm) := ([71, 101, 109, 109], 2, 3, [⟨⟨#[116, 114, 97, 110, 115, 65]⟩, 2, false⟩, ⟨⟨#[116, 114, 97, 110, 115, 66]⟩, 2, false⟩, ⟨⟨#[97, 108, 112, 104, 97]⟩, 1, false⟩, ⟨⟨#[98, 101, 116, 97]⟩, 1, false⟩]) :: rtab19
def rtab17 : List (List UInt8 × Int × Int × List Fm) := ([83, 111, 102, 116, 109, 97, 120], 1, 1, [⟨⟨#[97, 120, 105, 115]⟩, 2, false⟩]) :: rtab18
def rtab16 : List (List UInt8 × Int × Int × List Fm) := ([70, 108, 97, 116, 116, 101, 110], 1, 1, [⟨⟨#[97, 120, 105, 115]⟩, 2, false⟩]) :: rtab17
def rtab15 : List (List UInt8 × Int × Int × List Fm) := ([85, 110, 115, 113, 117, 101, 101, 122, 101], 1, 1, [⟨⟨#[97, 120, 101, 115]⟩, 7, true⟩]) :: rtab16
def rtab14 : List (List UInt8 × Int × Int × List Fm) := ([83, 113, 117, 101, 101, 122, 101], 1, 1, [⟨⟨#[97, 120, 101, 115]⟩, 7, true⟩]) :: rtab15
def rtab13 : List (List UInt8 × Int × Int × List Fm) := ([80, 97, 100], 1, 1, [⟨⟨#[112, 97, 100, 115]⟩, 7, true⟩, ⟨⟨#[118, 97, 108, 117, 101]⟩, 1, false⟩]) :: rtab14
def rtab12 : List (List UInt8 × Int × Int × List Fm) := ([71, 97, 116, 104, 101, 114], 2, 2, [⟨⟨#[97, 120, 105, 115]⟩, 2, false⟩]) :: rtab13
def rtab11 : List (List UInt8 × Int × Int × List Fm) := ([83, 108, 105, 99, 101], 1, 1, [⟨⟨#[115, 116, 97, 114, 116, 115]⟩, 7, true⟩, ⟨⟨#[101, 110, 100, 115]⟩, 7, true⟩, ⟨⟨#[97, 120, 101, 115]⟩, 7, false⟩]) :: rtab12
def rtab10 : List (List UInt8 × Int × Int × List Fm) := ([67, 111, 110, 99, 97, 116], 1, 20, [⟨⟨#[97, 120, 105, 115]⟩, 2, true⟩]) :: rtab11
def rtab9 : List (List UInt8 × Int × Int × List Fm) := ([84, 114, 97, 110, 115, 112, 111, 115, 101], 1, 1, [⟨⟨#[112, 101, 114, 109]⟩, 7, false⟩]) :: rtab10
def rtab8 : List (List UInt8 × Int × Int × List Fm) := ([69, 120, 112, 97, 110, 100], 1, 1, [⟨⟨#[115, 104, 97, 112, 101]⟩, 7, true⟩]) :: rtab9
def rtab7 : List (List UInt8 × Int × Int × List Fm) := ([82, 101, 115, 104, 97, 112, 101], 1, 1, [⟨⟨#[115, 104, 97, 112, 101]⟩, 7, true⟩]) :: rtab8
def rtab6 : List (List UInt8 × Int × Int × List Fm) := ([65, 114, 103, 77, 97, 120], 1, 1, [⟨⟨#[97, 120, 105, 115]⟩, 2, false⟩, ⟨⟨#[107, 101, 101, 112, 100, 105, 109, 115]⟩, 2, false⟩]) :: rtab7
def rtab5 : List (List UInt8 × Int × Int × List Fm) := ([82, 101, 100, 117, 99, 101, 77, 101, 97, 110], 1, 1, [⟨⟨#[97, 120, 101, 115]⟩, 7, false⟩, ⟨⟨#[107, 101, 101, 112, 100, 105, 109, 115]⟩, 2, false⟩]) :: rtab6
def rtab4 : List (List UInt8 × Int × Int × List Fm) := ([82, 101, 100, 117, 99, 101, 77, 97, 120], 1, 1, [⟨⟨#[97, 120, 101, 115]⟩, 7, false⟩, ⟨⟨#[107, 101, 101, 112, 100, 105, 109, 115]⟩, 2, false⟩]) :: rtab5
def rtab3 : List (List UInt8 × Int × Int × List Fm) := ([82, 101, 100, 117, 99, 101, 83, 117, 109], 1, 1, [⟨⟨#[97, 120, 101, 115]⟩, 7, false⟩, ⟨⟨#[107, 101, 101, 112, 100, 105, 109, 115]⟩, 2, false⟩]) :: rtab4
def rtab2 : List (List UInt8 × Int × Int × List Fm) := ([67, 97, 115, 116], 1, 1, [⟨⟨#[116, 111]⟩, 2, true⟩]) :: rtab3
def rtab1 : List (List UInt8 × Int × Int × List Fm) := ([67, 108, 105, 112], 1, 1, [⟨⟨#[109, 105, 110]⟩, 1, false⟩, ⟨⟨#[109, 97, 120]⟩, 1, false⟩]) :: rtab2
def rtab0 : List (List UInt8 × Int × Int × List Fm) := ([87, 104, 101, 114, 101], 3, 3, []) :: rtab1

structure Ofs where
  least : Int
  most : Int
  forms : List Fm
  ok : Bool

/-- What the reference says of an operator. -/
def refOf (op : ByteArray) : Ofs :=
  if oneB op = true ∨ (op.toList == ([71, 108, 111, 98, 97, 108, 65, 118, 101, 114, 97, 103, 101, 80, 111, 111, 108] : List UInt8)) = true then ⟨1, 1, [], true⟩
  else if hasS twosL op = true ∨ (op.toList == ([77, 97, 116, 77, 117, 108] : List UInt8)) = true then ⟨2, 2, [], true⟩
  else match lookR rtab0 op with
    | some r => ⟨r.1, r.2.1, r.2.2, true⟩
    | none => ⟨0, 0, [], false⟩

def OfV (r : Ofs) (w : World) (e : Ending) (w' : World) : Prop :=
  Below w.heap.size w w' ∧ ∃ vf, e = .returned (.tuple #[.int .i64 r.least, .int .i64 r.most, vf, .bool r.ok]) ∧ FmsIn w' vf r.forms

structure Plain (op : ByteArray) : Prop where
  h1 : oneB op = false
  hG : (op.toList == ([71, 108, 111, 98, 97, 108, 65, 118, 101, 114, 97, 103, 101, 80, 111, 111, 108] : List UInt8)) = false
  h2 : hasS twosL op = false
  hM : (op.toList == ([77, 97, 116, 77, 117, 108] : List UInt8)) = false

theorem Plain.of {op : ByteArray} (h : Plain op) : refOf op = match lookR rtab0 op with | some r => ⟨r.1, r.2.1, r.2.2, true⟩ | none => ⟨0, 0, [], false⟩ := by
  unfold refOf
  rw [if_neg (by simp [h.h1, h.hG]), if_neg (by simp [h.h2, h.hM])]

attribute [local irreducible] oneB hasS twosL lookR

set_option maxRecDepth 100000 in
set_option maxHeartbeats 4000000 in
theorem rof_one (op : ByteArray) (w : World) (h1 : oneB op = true) : Calls Tryd.prog 35 #[.string op] w (OfV ⟨1, 1, [], true⟩ w) := by
  go_enter Tryd.func35, Tryd.ntmps35
  go_wp2_with fail
  refine (rone_any op _).mono ?_
  rintro e w1 ⟨rfl, B1⟩
  have H1 := Lib.hid B1
  clear B1
  rw [h1]
  go_wp2_with fail
  refine bodyPost_ret (v := .tuple #[.int .i64 1, .int .i64 1, .slice none 0 0, .bool true]) (by simp [results, Tryd.f35, go_sem]) rfl ?_
  exact ⟨H1.out, _, rfl, .empty⟩
set_option maxRecDepth 100000 in
set_option maxHeartbeats 4000000 in
theorem rof_gap (op : ByteArray) (w : World) (h1 : oneB op = false) (hG : (op.toList == ([71, 108, 111, 98, 97, 108, 65, 118, 101, 114, 97, 103, 101, 80, 111, 111, 108] : List UInt8)) = true) : Calls Tryd.prog 35 #[.string op] w (OfV ⟨1, 1, [], true⟩ w) := by
  go_enter Tryd.func35, Tryd.ntmps35
  go_wp2_with fail
  refine (rone_any op _).mono ?_
  rintro e w1 ⟨rfl, B1⟩
  have H1 := Lib.hid B1
  clear B1
  rw [h1]
  go_wp2_with fail
  refine bodyPost_ret (v := .tuple #[.int .i64 1, .int .i64 1, .slice none 0 0, .bool true]) (by simp [results, Tryd.f35, go_sem]) rfl ?_
  exact ⟨H1.out, _, rfl, .empty⟩
set_option maxRecDepth 100000 in
set_option maxHeartbeats 4000000 in
theorem rof_two (op : ByteArray) (w : World) (h1 : oneB op = false) (hG : (op.toList == ([71, 108, 111, 98, 97, 108, 65, 118, 101, 114, 97, 103, 101, 80, 111, 111, 108] : List UInt8)) = false) (h2 : hasS twosL op = true) : Calls Tryd.prog 35 #[.string op] w (OfV ⟨2, 2, [], true⟩ w) := by
  go_enter Tryd.func35, Tryd.ntmps35
  go_wp2_with fail
  refine (rone_any op _).mono ?_
  rintro e w1 ⟨rfl, B1⟩
  have H1 := Lib.hid B1
  clear B1
  rw [h1]
  go_wp2_with fail
  refine (rtwo_any op _).mono ?_
  rintro e w2 ⟨rfl, B2⟩
  have H2 := Lib.hid (H1.out.trans (B2.mono H1.out.size))
  clear B2
  rw [h2]
  go_wp2_with fail
  refine bodyPost_ret (v := .tuple #[.int .i64 2, .int .i64 2, .slice none 0 0, .bool true]) (by simp [results, Tryd.f35, go_sem]) rfl ?_
  exact ⟨H2.out, _, rfl, .empty⟩
set_option maxRecDepth 100000 in
set_option maxHeartbeats 4000000 in
theorem rof_mm (op : ByteArray) (w : World) (h1 : oneB op = false) (hG : (op.toList == ([71, 108, 111, 98, 97, 108, 65, 118, 101, 114, 97, 103, 101, 80, 111, 111, 108] : List UInt8)) = false) (h2 : hasS twosL op = false) (hM : (op.toList == ([77, 97, 116, 77, 117, 108] : List UInt8)) = true) : Calls Tryd.prog 35 #[.string op] w (OfV ⟨2, 2, [], true⟩ w) := by
  go_enter Tryd.func35, Tryd.ntmps35
  go_wp2_with fail
  refine (rone_any op _).mono ?_
  rintro e w1 ⟨rfl, B1⟩
  have H1 := Lib.hid B1
  clear B1
  rw [h1]
  go_wp2_with fail
  refine (rtwo_any op _).mono ?_
  rintro e w2 ⟨rfl, B2⟩
  have H2 := Lib.hid (H1.out.trans (B2.mono H1.out.size))
  clear B2
  rw [h2]
  go_wp2_with fail
  refine bodyPost_ret (v := .tuple #[.int .i64 2, .int .i64 2, .slice none 0 0, .bool true]) (by simp [results, Tryd.f35, go_sem]) rfl ?_
  exact ⟨H2.out, _, rfl, .empty⟩
set_option maxRecDepth 100000 in
set_option maxHeartbeats 4000000 in
theorem rof_0 (op : ByteArray) (w : World) (hp : Plain op) (g0 : (op.toList == ([87, 104, 101, 114, 101] : List UInt8)) = true) : Calls Tryd.prog 35 #[.string op] w (OfV ⟨3, 3, [], true⟩ w) := by
  obtain ⟨h1, hG, h2, hM⟩ := hp
  go_enter Tryd.func35, Tryd.ntmps35
  go_wp2_with fail
  refine (rone_any op _).mono ?_
  rintro e w1 ⟨rfl, B1⟩
  have H1 := Lib.hid B1
  clear B1
  rw [h1]
  go_wp2_with fail
  refine (rtwo_any op _).mono ?_
  rintro e w2 ⟨rfl, B2⟩
  have H2 := Lib.hid (H1.out.trans (B2.mono H1.out.size))
  clear B2
  rw [h2]
  go_wp2_with fail
  refine bodyPost_ret (v := .tuple #[.int .i64 3, .int .i64 3, .slice none 0 0, .bool true]) (by simp [results, Tryd.f35, go_sem]) rfl ?_
  exact ⟨H2.out, _, rfl, .empty⟩
set_option maxRecDepth 100000 in
set_option maxHeartbeats 4000000 in
theorem rof_1 (op : ByteArray) (w : World) (hp : Plain op) (g0 : (op.toList == ([87, 104, 101, 114, 101] : List UInt8)) = false) (g1 : (op.toList == ([67, 108, 105, 112] : List UInt8)) = true) : Calls Tryd.prog 35 #[.string op] w (OfV ⟨1, 1, [⟨⟨#[109, 105, 110]⟩, 1, false⟩, ⟨⟨#[109, 97, 120]⟩, 1, false⟩], true⟩ w) := by
  obtain ⟨h1, hG, h2, hM⟩ := hp
  go_enter Tryd.func35, Tryd.ntmps35
  go_wp2_with fail
  refine (rone_any op _).mono ?_
  rintro e w1 ⟨rfl, B1⟩
  have H1 := Lib.hid B1
  clear B1
  rw [h1]
  go_wp2_with fail
  refine (rtwo_any op _).mono ?_
  rintro e w2 ⟨rfl, B2⟩
  have H2 := Lib.hid (H1.out.trans (B2.mono H1.out.size))
  clear B2
  rw [h2]
  go_wp2_with fail
  refine (ropt_any ⟨#[109, 105, 110]⟩ 1 _).mono ?_
  rintro e w3 ⟨rfl, B⟩
  have H3 := Lib.hid (H2.out.trans (B.mono H2.out.size))
  clear B
  go_wp2_with fail
  refine (ropt_any ⟨#[109, 97, 120]⟩ 1 _).mono ?_
  rintro e w4 ⟨rfl, B⟩
  have H4 := Lib.hid (H3.out.trans (B.mono H3.out.size))
  clear B
  go_wp2_with fail
  refine bodyPost_ret (v := .tuple #[.int .i64 1, .int .i64 1, .slice (some ⟨w4.heap.size, 0, none⟩) 2 2, .bool true]) (by simp [results, Tryd.f35, go_sem]) rfl ?_
  exact ⟨H4.out.alloc H4.out.size _, _, rfl, fms_new w4 [⟨⟨#[109, 105, 110]⟩, 1, false⟩, ⟨⟨#[109, 97, 120]⟩, 1, false⟩] _ rfl 2 rfl (by simp) (by decide)⟩
set_option maxRecDepth 100000 in
set_option maxHeartbeats 4000000 in
theorem rof_2 (op : ByteArray) (w : World) (hp : Plain op) (g0 : (op.toList == ([87, 104, 101, 114, 101] : List UInt8)) = false) (g1 : (op.toList == ([67, 108, 105, 112] : List UInt8)) = false) (g2 : (op.toList == ([67, 97, 115, 116] : List UInt8)) = true) : Calls Tryd.prog 35 #[.string op] w (OfV ⟨1, 1, [⟨⟨#[116, 111]⟩, 2, true⟩], true⟩ w) := by
  obtain ⟨h1, hG, h2, hM⟩ := hp
  go_enter Tryd.func35, Tryd.ntmps35
  go_wp2_with fail
  refine (rone_any op _).mono ?_
  rintro e w1 ⟨rfl, B1⟩
  have H1 := Lib.hid B1
  clear B1
  rw [h1]
  go_wp2_with fail
  refine (rtwo_any op _).mono ?_
  rintro e w2 ⟨rfl, B2⟩
  have H2 := Lib.hid (H1.out.trans (B2.mono H1.out.size))
  clear B2
  rw [h2]
  go_wp2_with fail
  refine (rmust_any ⟨#[116, 111]⟩ 2 _).mono ?_
  rintro e w3 ⟨rfl, B⟩
  have H3 := Lib.hid (H2.out.trans (B.mono H2.out.size))
  clear B
  go_wp2_with fail
  refine bodyPost_ret (v := .tuple #[.int .i64 1, .int .i64 1, .slice (some ⟨w3.heap.size, 0, none⟩) 1 1, .bool true]) (by simp [results, Tryd.f35, go_sem]) rfl ?_
  exact ⟨H3.out.alloc H3.out.size _, _, rfl, fms_new w3 [⟨⟨#[116, 111]⟩, 2, true⟩] _ rfl 1 rfl (by simp) (by decide)⟩
set_option maxRecDepth 100000 in
set_option maxHeartbeats 4000000 in
theorem rof_3 (op : ByteArray) (w : World) (hp : Plain op) (g0 : (op.toList == ([87, 104, 101, 114, 101] : List UInt8)) = false) (g1 : (op.toList == ([67, 108, 105, 112] : List UInt8)) = false) (g2 : (op.toList == ([67, 97, 115, 116] : List UInt8)) = false) (g3 : (op.toList == ([82, 101, 100, 117, 99, 101, 83, 117, 109] : List UInt8)) = true) : Calls Tryd.prog 35 #[.string op] w (OfV ⟨1, 1, [⟨⟨#[97, 120, 101, 115]⟩, 7, false⟩, ⟨⟨#[107, 101, 101, 112, 100, 105, 109, 115]⟩, 2, false⟩], true⟩ w) := by
  obtain ⟨h1, hG, h2, hM⟩ := hp
  go_enter Tryd.func35, Tryd.ntmps35
  go_wp2_with fail
  refine (rone_any op _).mono ?_
  rintro e w1 ⟨rfl, B1⟩
  have H1 := Lib.hid B1
  clear B1
  rw [h1]
  go_wp2_with fail
  refine (rtwo_any op _).mono ?_
  rintro e w2 ⟨rfl, B2⟩
  have H2 := Lib.hid (H1.out.trans (B2.mono H1.out.size))
  clear B2
  rw [h2]
  go_wp2_with fail
  refine (ropt_any ⟨#[97, 120, 101, 115]⟩ 7 _).mono ?_
  rintro e w3 ⟨rfl, B⟩
  have H3 := Lib.hid (H2.out.trans (B.mono H2.out.size))
  clear B
  go_wp2_with fail
  refine (ropt_any ⟨#[107, 101, 101, 112, 100, 105, 109, 115]⟩ 2 _).mono ?_
  rintro e w4 ⟨rfl, B⟩
  have H4 := Lib.hid (H3.out.trans (B.mono H3.out.size))
  clear B
  go_wp2_with fail
  refine bodyPost_ret (v := .tuple #[.int .i64 1, .int .i64 1, .slice (some ⟨w4.heap.size, 0, none⟩) 2 2, .bool true]) (by simp [results, Tryd.f35, go_sem]) rfl ?_
  exact ⟨H4.out.alloc H4.out.size _, _, rfl, fms_new w4 [⟨⟨#[97, 120, 101, 115]⟩, 7, false⟩, ⟨⟨#[107, 101, 101, 112, 100, 105, 109, 115]⟩, 2, false⟩] _ rfl 2 rfl (by simp) (by decide)⟩
set_option maxRecDepth 100000 in
set_option maxHeartbeats 4000000 in
theorem rof_4 (op : ByteArray) (w : World) (hp : Plain op) (g0 : (op.toList == ([87, 104, 101, 114, 101] : List UInt8)) = false) (g1 : (op.toList == ([67, 108, 105, 112] : List UInt8)) = false) (g2 : (op.toList == ([67, 97, 115, 116] : List UInt8)) = false) (g3 : (op.toList == ([82, 101, 100, 117, 99, 101, 83, 117, 109] : List UInt8)) = false) (g4 : (op.toList == ([82, 101, 100, 117, 99, 101, 77, 97, 120] : List UInt8)) = true) : Calls Tryd.prog 35 #[.string op] w (OfV ⟨1, 1, [⟨⟨#[97, 120, 101, 115]⟩, 7, false⟩, ⟨⟨#[107, 101, 101, 112, 100, 105, 109, 115]⟩, 2, false⟩], true⟩ w) := by
  obtain ⟨h1, hG, h2, hM⟩ := hp
  go_enter Tryd.func35, Tryd.ntmps35
  go_wp2_with fail
  refine (rone_any op _).mono ?_
  rintro e w1 ⟨rfl, B1⟩
  have H1 := Lib.hid B1
  clear B1
  rw [h1]
  go_wp2_with fail
  refine (rtwo_any op _).mono ?_
  rintro e w2 ⟨rfl, B2⟩
  have H2 := Lib.hid (H1.out.trans (B2.mono H1.out.size))
  clear B2
  rw [h2]
  go_wp2_with fail
  refine (ropt_any ⟨#[97, 120, 101, 115]⟩ 7 _).mono ?_
  rintro e w3 ⟨rfl, B⟩
  have H3 := Lib.hid (H2.out.trans (B.mono H2.out.size))
  clear B
  go_wp2_with fail
  refine (ropt_any ⟨#[107, 101, 101, 112, 100, 105, 109, 115]⟩ 2 _).mono ?_
  rintro e w4 ⟨rfl, B⟩
  have H4 := Lib.hid (H3.out.trans (B.mono H3.out.size))
  clear B
  go_wp2_with fail
  refine bodyPost_ret (v := .tuple #[.int .i64 1, .int .i64 1, .slice (some ⟨w4.heap.size, 0, none⟩) 2 2, .bool true]) (by simp [results, Tryd.f35, go_sem]) rfl ?_
  exact ⟨H4.out.alloc H4.out.size _, _, rfl, fms_new w4 [⟨⟨#[97, 120, 101, 115]⟩, 7, false⟩, ⟨⟨#[107, 101, 101, 112, 100, 105, 109, 115]⟩, 2, false⟩] _ rfl 2 rfl (by simp) (by decide)⟩
set_option maxRecDepth 100000 in
set_option maxHeartbeats 4000000 in
theorem rof_5 (op : ByteArray) (w : World) (hp : Plain op) (g0 : (op.toList == ([87, 104, 101, 114, 101] : List UInt8)) = false) (g1 : (op.toList == ([67, 108, 105, 112] : List UInt8)) = false) (g2 : (op.toList == ([67, 97, 115, 116] : List UInt8)) = false) (g3 : (op.toList == ([82, 101, 100, 117, 99, 101, 83, 117, 109] : List UInt8)) = false) (g4 : (op.toList == ([82, 101, 100, 117, 99, 101, 77, 97, 120] : List UInt8)) = false) (g5 : (op.toList == ([82, 101, 100, 117, 99, 101, 77, 101, 97, 110] : List UInt8)) = true) : Calls Tryd.prog 35 #[.string op] w (OfV ⟨1, 1, [⟨⟨#[97, 120, 101, 115]⟩, 7, false⟩, ⟨⟨#[107, 101, 101, 112, 100, 105, 109, 115]⟩, 2, false⟩], true⟩ w) := by
  obtain ⟨h1, hG, h2, hM⟩ := hp
  go_enter Tryd.func35, Tryd.ntmps35
  go_wp2_with fail
  refine (rone_any op _).mono ?_
  rintro e w1 ⟨rfl, B1⟩
  have H1 := Lib.hid B1
  clear B1
  rw [h1]
  go_wp2_with fail
  refine (rtwo_any op _).mono ?_
  rintro e w2 ⟨rfl, B2⟩
  have H2 := Lib.hid (H1.out.trans (B2.mono H1.out.size))
  clear B2
  rw [h2]
  go_wp2_with fail
  refine (ropt_any ⟨#[97, 120, 101, 115]⟩ 7 _).mono ?_
  rintro e w3 ⟨rfl, B⟩
  have H3 := Lib.hid (H2.out.trans (B.mono H2.out.size))
  clear B
  go_wp2_with fail
  refine (ropt_any ⟨#[107, 101, 101, 112, 100, 105, 109, 115]⟩ 2 _).mono ?_
  rintro e w4 ⟨rfl, B⟩
  have H4 := Lib.hid (H3.out.trans (B.mono H3.out.size))
  clear B
  go_wp2_with fail
  refine bodyPost_ret (v := .tuple #[.int .i64 1, .int .i64 1, .slice (some ⟨w4.heap.size, 0, none⟩) 2 2, .bool true]) (by simp [results, Tryd.f35, go_sem]) rfl ?_
  exact ⟨H4.out.alloc H4.out.size _, _, rfl, fms_new w4 [⟨⟨#[97, 120, 101, 115]⟩, 7, false⟩, ⟨⟨#[107, 101, 101, 112, 100, 105, 109, 115]⟩, 2, false⟩] _ rfl 2 rfl (by simp) (by decide)⟩
set_option maxRecDepth 100000 in
set_option maxHeartbeats 4000000 in
theorem rof_6 (op : ByteArray) (w : World) (hp : Plain op) (g0 : (op.toList == ([87, 104, 101, 114, 101] : List UInt8)) = false) (g1 : (op.toList == ([67, 108, 105, 112] : List UInt8)) = false) (g2 : (op.toList == ([67, 97, 115, 116] : List UInt8)) = false) (g3 : (op.toList == ([82, 101, 100, 117, 99, 101, 83, 117, 109] : List UInt8)) = false) (g4 : (op.toList == ([82, 101, 100, 117, 99, 101, 77, 97, 120] : List UInt8)) = false) (g5 : (op.toList == ([82, 101, 100, 117, 99, 101, 77, 101, 97, 110] : List UInt8)) = false) (g6 : (op.toList == ([65, 114, 103, 77, 97, 120] : List UInt8)) = true) : Calls Tryd.prog 35 #[.string op] w (OfV ⟨1, 1, [⟨⟨#[97, 120, 105, 115]⟩, 2, false⟩, ⟨⟨#[107, 101, 101, 112, 100, 105, 109, 115]⟩, 2, false⟩], true⟩ w) := by
  obtain ⟨h1, hG, h2, hM⟩ := hp
  go_enter Tryd.func35, Tryd.ntmps35
  go_wp2_with fail
  refine (rone_any op _).mono ?_
  rintro e w1 ⟨rfl, B1⟩
  have H1 := Lib.hid B1
  clear B1
  rw [h1]
  go_wp2_with fail
  refine (rtwo_any op _).mono ?_
  rintro e w2 ⟨rfl, B2⟩
  have H2 := Lib.hid (H1.out.trans (B2.mono H1.out.size))
  clear B2
  rw [h2]
  go_wp2_with fail
  refine (ropt_any ⟨#[97, 120, 105, 115]⟩ 2 _).mono ?_
  rintro e w3 ⟨rfl, B⟩
  have H3 := Lib.hid (H2.out.trans (B.mono H2.out.size))
  clear B
  go_wp2_with fail
  refine (ropt_any ⟨#[107, 101, 101, 112, 100, 105, 109, 115]⟩ 2 _).mono ?_
  rintro e w4 ⟨rfl, B⟩
  have H4 := Lib.hid (H3.out.trans (B.mono H3.out.size))
  clear B
  go_wp2_with fail
  refine bodyPost_ret (v := .tuple #[.int .i64 1, .int .i64 1, .slice (some ⟨w4.heap.size, 0, none⟩) 2 2, .bool true]) (by simp [results, Tryd.f35, go_sem]) rfl ?_
  exact ⟨H4.out.alloc H4.out.size _, _, rfl, fms_new w4 [⟨⟨#[97, 120, 105, 115]⟩, 2, false⟩, ⟨⟨#[107, 101, 101, 112, 100, 105, 109, 115]⟩, 2, false⟩] _ rfl 2 rfl (by simp) (by decide)⟩
set_option maxRecDepth 100000 in
set_option maxHeartbeats 4000000 in
theorem rof_7 (op : ByteArray) (w : World) (hp : Plain op) (g0 : (op.toList == ([87, 104, 101, 114, 101] : List UInt8)) = false) (g1 : (op.toList == ([67, 108, 105, 112] : List UInt8)) = false) (g2 : (op.toList == ([67, 97, 115, 116] : List UInt8)) = false) (g3 : (op.toList == ([82, 101, 100, 117, 99, 101, 83, 117, 109] : List UInt8)) = false) (g4 : (op.toList == ([82, 101, 100, 117, 99, 101, 77, 97, 120] : List UInt8)) = false) (g5 : (op.toList == ([82, 101, 100, 117, 99, 101, 77, 101, 97, 110] : List UInt8)) = false) (g6 : (op.toList == ([65, 114, 103, 77, 97, 120] : List UInt8)) = false) (g7 : (op.toList == ([82, 101, 115, 104, 97, 112, 101] : List UInt8)) = true) : Calls Tryd.prog 35 #[.string op] w (OfV ⟨1, 1, [⟨⟨#[115, 104, 97, 112, 101]⟩, 7, true⟩], true⟩ w) := by
  obtain ⟨h1, hG, h2, hM⟩ := hp
  go_enter Tryd.func35, Tryd.ntmps35
  go_wp2_with fail
  refine (rone_any op _).mono ?_
  rintro e w1 ⟨rfl, B1⟩
  have H1 := Lib.hid B1
  clear B1
  rw [h1]
  go_wp2_with fail
  refine (rtwo_any op _).mono ?_
  rintro e w2 ⟨rfl, B2⟩
  have H2 := Lib.hid (H1.out.trans (B2.mono H1.out.size))
  clear B2
  rw [h2]
  go_wp2_with fail
  refine (rmust_any ⟨#[115, 104, 97, 112, 101]⟩ 7 _).mono ?_
  rintro e w3 ⟨rfl, B⟩
  have H3 := Lib.hid (H2.out.trans (B.mono H2.out.size))
  clear B
  go_wp2_with fail
  refine bodyPost_ret (v := .tuple #[.int .i64 1, .int .i64 1, .slice (some ⟨w3.heap.size, 0, none⟩) 1 1, .bool true]) (by simp [results, Tryd.f35, go_sem]) rfl ?_
  exact ⟨H3.out.alloc H3.out.size _, _, rfl, fms_new w3 [⟨⟨#[115, 104, 97, 112, 101]⟩, 7, true⟩] _ rfl 1 rfl (by simp) (by decide)⟩
set_option maxRecDepth 100000 in
set_option maxHeartbeats 4000000 in
theorem rof_8 (op : ByteArray) (w : World) (hp : Plain op) (g0 : (op.toList == ([87, 104, 101, 114, 101] : List UInt8)) = false) (g1 : (op.toList == ([67, 108, 105, 112] : List UInt8)) = false) (g2 : (op.toList == ([67, 97, 115, 116] : List UInt8)) = false) (g3 : (op.toList == ([82, 101, 100, 117, 99, 101, 83, 117, 109] : List UInt8)) = false) (g4 : (op.toList == ([82, 101, 100, 117, 99, 101, 77, 97, 120] : List UInt8)) = false) (g5 : (op.toList == ([82, 101, 100, 117, 99, 101, 77, 101, 97, 110] : List UInt8)) = false) (g6 : (op.toList == ([65, 114, 103, 77, 97, 120] : List UInt8)) = false) (g7 : (op.toList == ([82, 101, 115, 104, 97, 112, 101] : List UInt8)) = false) (g8 : (op.toList == ([69, 120, 112, 97, 110, 100] : List UInt8)) = true) : Calls Tryd.prog 35 #[.string op] w (OfV ⟨1, 1, [⟨⟨#[115, 104, 97, 112, 101]⟩, 7, true⟩], true⟩ w) := by
  obtain ⟨h1, hG, h2, hM⟩ := hp
  go_enter Tryd.func35, Tryd.ntmps35
  go_wp2_with fail
  refine (rone_any op _).mono ?_
  rintro e w1 ⟨rfl, B1⟩
  have H1 := Lib.hid B1
  clear B1
  rw [h1]
  go_wp2_with fail
  refine (rtwo_any op _).mono ?_
  rintro e w2 ⟨rfl, B2⟩
  have H2 := Lib.hid (H1.out.trans (B2.mono H1.out.size))
  clear B2
  rw [h2]
  go_wp2_with fail
  refine (rmust_any ⟨#[115, 104, 97, 112, 101]⟩ 7 _).mono ?_
  rintro e w3 ⟨rfl, B⟩
  have H3 := Lib.hid (H2.out.trans (B.mono H2.out.size))
  clear B
  go_wp2_with fail
  refine bodyPost_ret (v := .tuple #[.int .i64 1, .int .i64 1, .slice (some ⟨w3.heap.size, 0, none⟩) 1 1, .bool true]) (by simp [results, Tryd.f35, go_sem]) rfl ?_
  exact ⟨H3.out.alloc H3.out.size _, _, rfl, fms_new w3 [⟨⟨#[115, 104, 97, 112, 101]⟩, 7, true⟩] _ rfl 1 rfl (by simp) (by decide)⟩
set_option maxRecDepth 100000 in
set_option maxHeartbeats 4000000 in
theorem rof_9 (op : ByteArray) (w : World) (hp : Plain op) (g0 : (op.toList == ([87, 104, 101, 114, 101] : List UInt8)) = false) (g1 : (op.toList == ([67, 108, 105, 112] : List UInt8)) = false) (g2 : (op.toList == ([67, 97, 115, 116] : List UInt8)) = false) (g3 : (op.toList == ([82, 101, 100, 117, 99, 101, 83, 117, 109] : List UInt8)) = false) (g4 : (op.toList == ([82, 101, 100, 117, 99, 101, 77, 97, 120] : List UInt8)) = false) (g5 : (op.toList == ([82, 101, 100, 117, 99, 101, 77, 101, 97, 110] : List UInt8)) = false) (g6 : (op.toList == ([65, 114, 103, 77, 97, 120] : List UInt8)) = false) (g7 : (op.toList == ([82, 101, 115, 104, 97, 112, 101] : List UInt8)) = false) (g8 : (op.toList == ([69, 120, 112, 97, 110, 100] : List UInt8)) = false) (g9 : (op.toList == ([84, 114, 97, 110, 115, 112, 111, 115, 101] : List UInt8)) = true) : Calls Tryd.prog 35 #[.string op] w (OfV ⟨1, 1, [⟨⟨#[112, 101, 114, 109]⟩, 7, false⟩], true⟩ w) := by
  obtain ⟨h1, hG, h2, hM⟩ := hp
  go_enter Tryd.func35, Tryd.ntmps35
  go_wp2_with fail
  refine (rone_any op _).mono ?_
  rintro e w1 ⟨rfl, B1⟩
  have H1 := Lib.hid B1
  clear B1
  rw [h1]
  go_wp2_with fail
  refine (rtwo_any op _).mono ?_
  rintro e w2 ⟨rfl, B2⟩
  have H2 := Lib.hid (H1.out.trans (B2.mono H1.out.size))
  clear B2
  rw [h2]
  go_wp2_with fail
  refine (ropt_any ⟨#[112, 101, 114, 109]⟩ 7 _).mono ?_
  rintro e w3 ⟨rfl, B⟩
  have H3 := Lib.hid (H2.out.trans (B.mono H2.out.size))
  clear B
  go_wp2_with fail
  refine bodyPost_ret (v := .tuple #[.int .i64 1, .int .i64 1, .slice (some ⟨w3.heap.size, 0, none⟩) 1 1, .bool true]) (by simp [results, Tryd.f35, go_sem]) rfl ?_
  exact ⟨H3.out.alloc H3.out.size _, _, rfl, fms_new w3 [⟨⟨#[112, 101, 114, 109]⟩, 7, false⟩] _ rfl 1 rfl (by simp) (by decide)⟩
set_option maxRecDepth 100000 in
set_option maxHeartbeats 4000000 in
theorem rof_10 (op : ByteArray) (w : World) (hp : Plain op) (g0 : (op.toList == ([87, 104, 101, 114, 101] : List UInt8)) = false) (g1 : (op.toList == ([67, 108, 105, 112] : List UInt8)) = false) (g2 : (op.toList == ([67, 97, 115, 116] : List UInt8)) = false) (g3 : (op.toList == ([82, 101, 100, 117, 99, 101, 83, 117, 109] : List UInt8)) = false) (g4 : (op.toList == ([82, 101, 100, 117, 99, 101, 77, 97, 120] : List UInt8)) = false) (g5 : (op.toList == ([82, 101, 100, 117, 99, 101, 77, 101, 97, 110] : List UInt8)) = false) (g6 : (op.toList == ([65, 114, 103, 77, 97, 120] : List UInt8)) = false) (g7 : (op.toList == ([82, 101, 115, 104, 97, 112, 101] : List UInt8)) = false) (g8 : (op.toList == ([69, 120, 112, 97, 110, 100] : List UInt8)) = false) (g9 : (op.toList == ([84, 114, 97, 110, 115, 112, 111, 115, 101] : List UInt8)) = false) (g10 : (op.toList == ([67, 111, 110, 99, 97, 116] : List UInt8)) = true) : Calls Tryd.prog 35 #[.string op] w (OfV ⟨1, 20, [⟨⟨#[97, 120, 105, 115]⟩, 2, true⟩], true⟩ w) := by
  obtain ⟨h1, hG, h2, hM⟩ := hp
  go_enter Tryd.func35, Tryd.ntmps35
  go_wp2_with fail
  refine (rone_any op _).mono ?_
  rintro e w1 ⟨rfl, B1⟩
  have H1 := Lib.hid B1
  clear B1
  rw [h1]
  go_wp2_with fail
  refine (rtwo_any op _).mono ?_
  rintro e w2 ⟨rfl, B2⟩
  have H2 := Lib.hid (H1.out.trans (B2.mono H1.out.size))
  clear B2
  rw [h2]
  go_wp2_with fail
  refine (rmust_any ⟨#[97, 120, 105, 115]⟩ 2 _).mono ?_
  rintro e w3 ⟨rfl, B⟩
  have H3 := Lib.hid (H2.out.trans (B.mono H2.out.size))
  clear B
  go_wp2_with fail
  refine bodyPost_ret (v := .tuple #[.int .i64 1, .int .i64 20, .slice (some ⟨w3.heap.size, 0, none⟩) 1 1, .bool true]) (by simp [results, Tryd.f35, go_sem]) rfl ?_
  exact ⟨H3.out.alloc H3.out.size _, _, rfl, fms_new w3 [⟨⟨#[97, 120, 105, 115]⟩, 2, true⟩] _ rfl 1 rfl (by simp) (by decide)⟩
set_option maxRecDepth 100000 in
set_option maxHeartbeats 4000000 in
theorem rof_11 (op : ByteArray) (w : World) (hp : Plain op) (g0 : (op.toList == ([87, 104, 101, 114, 101] : List UInt8)) = false) (g1 : (op.toList == ([67, 108, 105, 112] : List UInt8)) = false) (g2 : (op.toList == ([67, 97, 115, 116] : List UInt8)) = false) (g3 : (op.toList == ([82, 101, 100, 117, 99, 101, 83, 117, 109] : List UInt8)) = false) (g4 : (op.toList == ([82, 101, 100, 117, 99, 101, 77, 97, 120] : List UInt8)) = false) (g5 : (op.toList == ([82, 101, 100, 117, 99, 101, 77, 101, 97, 110] : List UInt8)) = false) (g6 : (op.toList == ([65, 114, 103, 77, 97, 120] : List UInt8)) = false) (g7 : (op.toList == ([82, 101, 115, 104, 97, 112, 101] : List UInt8)) = false) (g8 : (op.toList == ([69, 120, 112, 97, 110, 100] : List UInt8)) = false) (g9 : (op.toList == ([84, 114, 97, 110, 115, 112, 111, 115, 101] : List UInt8)) = false) (g10 : (op.toList == ([67, 111, 110, 99, 97, 116] : List UInt8)) = false) (g11 : (op.toList == ([83, 108, 105, 99, 101] : List UInt8)) = true) : Calls Tryd.prog 35 #[.string op] w (OfV ⟨1, 1, [⟨⟨#[115, 116, 97, 114, 116, 115]⟩, 7, true⟩, ⟨⟨#[101, 110, 100, 115]⟩, 7, true⟩, ⟨⟨#[97, 120, 101, 115]⟩, 7, false⟩], true⟩ w) := by
  obtain ⟨h1, hG, h2, hM⟩ := hp
  go_enter Tryd.func35, Tryd.ntmps35
  go_wp2_with fail
  refine (rone_any op _).mono ?_
  rintro e w1 ⟨rfl, B1⟩
  have H1 := Lib.hid B1
  clear B1
  rw [h1]
  go_wp2_with fail
  refine (rtwo_any op _).mono ?_
  rintro e w2 ⟨rfl, B2⟩
  have H2 := Lib.hid (H1.out.trans (B2.mono H1.out.size))
  clear B2
  rw [h2]
  go_wp2_with fail
  refine (rmust_any ⟨#[115, 116, 97, 114, 116, 115]⟩ 7 _).mono ?_
  rintro e w3 ⟨rfl, B⟩
  have H3 := Lib.hid (H2.out.trans (B.mono H2.out.size))
  clear B
  go_wp2_with fail
  refine (rmust_any ⟨#[101, 110, 100, 115]⟩ 7 _).mono ?_
  rintro e w4 ⟨rfl, B⟩
  have H4 := Lib.hid (H3.out.trans (B.mono H3.out.size))
  clear B
  go_wp2_with fail
  refine (ropt_any ⟨#[97, 120, 101, 115]⟩ 7 _).mono ?_
  rintro e w5 ⟨rfl, B⟩
  have H5 := Lib.hid (H4.out.trans (B.mono H4.out.size))
  clear B
  go_wp2_with fail
  refine bodyPost_ret (v := .tuple #[.int .i64 1, .int .i64 1, .slice (some ⟨w5.heap.size, 0, none⟩) 3 3, .bool true]) (by simp [results, Tryd.f35, go_sem]) rfl ?_
  exact ⟨H5.out.alloc H5.out.size _, _, rfl, fms_new w5 [⟨⟨#[115, 116, 97, 114, 116, 115]⟩, 7, true⟩, ⟨⟨#[101, 110, 100, 115]⟩, 7, true⟩, ⟨⟨#[97, 120, 101, 115]⟩, 7, false⟩] _ rfl 3 rfl (by simp) (by decide)⟩
set_option maxRecDepth 100000 in
set_option maxHeartbeats 4000000 in
theorem rof_12 (op : ByteArray) (w : World) (hp : Plain op) (g0 : (op.toList == ([87, 104, 101, 114, 101] : List UInt8)) = false) (g1 : (op.toList == ([67, 108, 105, 112] : List UInt8)) = false) (g2 : (op.toList == ([67, 97, 115, 116] : List UInt8)) = false) (g3 : (op.toList == ([82, 101, 100, 117, 99, 101, 83, 117, 109] : List UInt8)) = false) (g4 : (op.toList == ([82, 101, 100, 117, 99, 101, 77, 97, 120] : List UInt8)) = false) (g5 : (op.toList == ([82, 101, 100, 117, 99, 101, 77, 101, 97, 110] : List UInt8)) = false) (g6 : (op.toList == ([65, 114, 103, 77, 97, 120] : List UInt8)) = false) (g7 : (op.toList == ([82, 101, 115, 104, 97, 112, 101] : List UInt8)) = false) (g8 : (op.toList == ([69, 120, 112, 97, 110, 100] : List UInt8)) = false) (g9 : (op.toList == ([84, 114, 97, 110, 115, 112, 111, 115, 101] : List UInt8)) = false) (g10 : (op.toList == ([67, 111, 110, 99, 97, 116] : List UInt8)) = false) (g11 : (op.toList == ([83, 108, 105, 99, 101] : List UInt8)) = false) (g12 : (op.toList == ([71, 97, 116, 104, 101, 114] : List UInt8)) = true) : Calls Tryd.prog 35 #[.string op] w (OfV ⟨2, 2, [⟨⟨#[97, 120, 105, 115]⟩, 2, false⟩], true⟩ w) := by
  obtain ⟨h1, hG, h2, hM⟩ := hp
  go_enter Tryd.func35, Tryd.ntmps35
  go_wp2_with fail
  refine (rone_any op _).mono ?_
  rintro e w1 ⟨rfl, B1⟩
  have H1 := Lib.hid B1
  clear B1
  rw [h1]
  go_wp2_with fail
  refine (rtwo_any op _).mono ?_
  rintro e w2 ⟨rfl, B2⟩
  have H2 := Lib.hid (H1.out.trans (B2.mono H1.out.size))
  clear B2
  rw [h2]
  go_wp2_with fail
  refine (ropt_any ⟨#[97, 120, 105, 115]⟩ 2 _).mono ?_
  rintro e w3 ⟨rfl, B⟩
  have H3 := Lib.hid (H2.out.trans (B.mono H2.out.size))
  clear B
  go_wp2_with fail
  refine bodyPost_ret (v := .tuple #[.int .i64 2, .int .i64 2, .slice (some ⟨w3.heap.size, 0, none⟩) 1 1, .bool true]) (by simp [results, Tryd.f35, go_sem]) rfl ?_
  exact ⟨H3.out.alloc H3.out.size _, _, rfl, fms_new w3 [⟨⟨#[97, 120, 105, 115]⟩, 2, false⟩] _ rfl 1 rfl (by simp) (by decide)⟩
set_option maxRecDepth 100000 in
set_option maxHeartbeats 4000000 in
theorem rof_13 (op : ByteArray) (w : World) (hp : Plain op) (g0 : (op.toList == ([87, 104, 101, 114, 101] : List UInt8)) = false) (g1 : (op.toList == ([67, 108, 105, 112] : List UInt8)) = false) (g2 : (op.toList == ([67, 97, 115, 116] : List UInt8)) = false) (g3 : (op.toList == ([82, 101, 100, 117, 99, 101, 83, 117, 109] : List UInt8)) = false) (g4 : (op.toList == ([82, 101, 100, 117, 99, 101, 77, 97, 120] : List UInt8)) = false) (g5 : (op.toList == ([82, 101, 100, 117, 99, 101, 77, 101, 97, 110] : List UInt8)) = false) (g6 : (op.toList == ([65, 114, 103, 77, 97, 120] : List UInt8)) = false) (g7 : (op.toList == ([82, 101, 115, 104, 97, 112, 101] : List UInt8)) = false) (g8 : (op.toList == ([69, 120, 112, 97, 110, 100] : List UInt8)) = false) (g9 : (op.toList == ([84, 114, 97, 110, 115, 112, 111, 115, 101] : List UInt8)) = false) (g10 : (op.toList == ([67, 111, 110, 99, 97, 116] : List UInt8)) = false) (g11 : (op.toList == ([83, 108, 105, 99, 101] : List UInt8)) = false) (g12 : (op.toList == ([71, 97, 116, 104, 101, 114] : List UInt8)) = false) (g13 : (op.toList == ([80, 97, 100] : List UInt8)) = true) : Calls Tryd.prog 35 #[.string op] w (OfV ⟨1, 1, [⟨⟨#[112, 97, 100, 115]⟩, 7, true⟩, ⟨⟨#[118, 97, 108, 117, 101]⟩, 1, false⟩], true⟩ w) := by
  obtain ⟨h1, hG, h2, hM⟩ := hp
  go_enter Tryd.func35, Tryd.ntmps35
  go_wp2_with fail
  refine (rone_any op _).mono ?_
  rintro e w1 ⟨rfl, B1⟩
  have H1 := Lib.hid B1
  clear B1
  rw [h1]
  go_wp2_with fail
  refine (rtwo_any op _).mono ?_
  rintro e w2 ⟨rfl, B2⟩
  have H2 := Lib.hid (H1.out.trans (B2.mono H1.out.size))
  clear B2
  rw [h2]
  go_wp2_with fail
  refine (rmust_any ⟨#[112, 97, 100, 115]⟩ 7 _).mono ?_
  rintro e w3 ⟨rfl, B⟩
  have H3 := Lib.hid (H2.out.trans (B.mono H2.out.size))
  clear B
  go_wp2_with fail
  refine (ropt_any ⟨#[118, 97, 108, 117, 101]⟩ 1 _).mono ?_
  rintro e w4 ⟨rfl, B⟩
  have H4 := Lib.hid (H3.out.trans (B.mono H3.out.size))
  clear B
  go_wp2_with fail
  refine bodyPost_ret (v := .tuple #[.int .i64 1, .int .i64 1, .slice (some ⟨w4.heap.size, 0, none⟩) 2 2, .bool true]) (by simp [results, Tryd.f35, go_sem]) rfl ?_
  exact ⟨H4.out.alloc H4.out.size _, _, rfl, fms_new w4 [⟨⟨#[112, 97, 100, 115]⟩, 7, true⟩, ⟨⟨#[118, 97, 108, 117, 101]⟩, 1, false⟩] _ rfl 2 rfl (by simp) (by decide)⟩
set_option maxRecDepth 100000 in
set_option maxHeartbeats 4000000 in
theorem rof_14 (op : ByteArray) (w : World) (hp : Plain op) (g0 : (op.toList == ([87, 104, 101, 114, 101] : List UInt8)) = false) (g1 : (op.toList == ([67, 108, 105, 112] : List UInt8)) = false) (g2 : (op.toList == ([67, 97, 115, 116] : List UInt8)) = false) (g3 : (op.toList == ([82, 101, 100, 117, 99, 101, 83, 117, 109] : List UInt8)) = false) (g4 : (op.toList == ([82, 101, 100, 117, 99, 101, 77, 97, 120] : List UInt8)) = false) (g5 : (op.toList == ([82, 101, 100, 117, 99, 101, 77, 101, 97, 110] : List UInt8)) = false) (g6 : (op.toList == ([65, 114, 103, 77, 97, 120] : List UInt8)) = false) (g7 : (op.toList == ([82, 101, 115, 104, 97, 112, 101] : List UInt8)) = false) (g8 : (op.toList == ([69, 120, 112, 97, 110, 100] : List UInt8)) = false) (g9 : (op.toList == ([84, 114, 97, 110, 115, 112, 111, 115, 101] : List UInt8)) = false) (g10 : (op.toList == ([67, 111, 110, 99, 97, 116] : List UInt8)) = false) (g11 : (op.toList == ([83, 108, 105, 99, 101] : List UInt8)) = false) (g12 : (op.toList == ([71, 97, 116, 104, 101, 114] : List UInt8)) = false) (g13 : (op.toList == ([80, 97, 100] : List UInt8)) = false) (g14 : (op.toList == ([83, 113, 117, 101, 101, 122, 101] : List UInt8)) = true) : Calls Tryd.prog 35 #[.string op] w (OfV ⟨1, 1, [⟨⟨#[97, 120, 101, 115]⟩, 7, true⟩], true⟩ w) := by
  obtain ⟨h1, hG, h2, hM⟩ := hp
  go_enter Tryd.func35, Tryd.ntmps35
  go_wp2_with fail
  refine (rone_any op _).mono ?_
  rintro e w1 ⟨rfl, B1⟩
  have H1 := Lib.hid B1
  clear B1
  rw [h1]
  go_wp2_with fail
  refine (rtwo_any op _).mono ?_
  rintro e w2 ⟨rfl, B2⟩
  have H2 := Lib.hid (H1.out.trans (B2.mono H1.out.size))
  clear B2
  rw [h2]
  go_wp2_with fail
  refine (rmust_any ⟨#[97, 120, 101, 115]⟩ 7 _).mono ?_
  rintro e w3 ⟨rfl, B⟩
  have H3 := Lib.hid (H2.out.trans (B.mono H2.out.size))
  clear B
  go_wp2_with fail
  refine bodyPost_ret (v := .tuple #[.int .i64 1, .int .i64 1, .slice (some ⟨w3.heap.size, 0, none⟩) 1 1, .bool true]) (by simp [results, Tryd.f35, go_sem]) rfl ?_
  exact ⟨H3.out.alloc H3.out.size _, _, rfl, fms_new w3 [⟨⟨#[97, 120, 101, 115]⟩, 7, true⟩] _ rfl 1 rfl (by simp) (by decide)⟩
set_option maxRecDepth 100000 in
set_option maxHeartbeats 4000000 in
theorem rof_15 (op : ByteArray) (w : World) (hp : Plain op) (g0 : (op.toList == ([87, 104, 101, 114, 101] : List UInt8)) = false) (g1 : (op.toList == ([67, 108, 105, 112] : List UInt8)) = false) (g2 : (op.toList == ([67, 97, 115, 116] : List UInt8)) = false) (g3 : (op.toList == ([82, 101, 100, 117, 99, 101, 83, 117, 109] : List UInt8)) = false) (g4 : (op.toList == ([82, 101, 100, 117, 99, 101, 77, 97, 120] : List UInt8)) = false) (g5 : (op.toList == ([82, 101, 100, 117, 99, 101, 77, 101, 97, 110] : List UInt8)) = false) (g6 : (op.toList == ([65, 114, 103, 77, 97, 120] : List UInt8)) = false) (g7 : (op.toList == ([82, 101, 115, 104, 97, 112, 101] : List UInt8)) = false) (g8 : (op.toList == ([69, 120, 112, 97, 110, 100] : List UInt8)) = false) (g9 : (op.toList == ([84, 114, 97, 110, 115, 112, 111, 115, 101] : List UInt8)) = false) (g10 : (op.toList == ([67, 111, 110, 99, 97, 116] : List UInt8)) = false) (g11 : (op.toList == ([83, 108, 105, 99, 101] : List UInt8)) = false) (g12 : (op.toList == ([71, 97, 116, 104, 101, 114] : List UInt8)) = false) (g13 : (op.toList == ([80, 97, 100] : List UInt8)) = false) (g14 : (op.toList == ([83, 113, 117, 101, 101, 122, 101] : List UInt8)) = false) (g15 : (op.toList == ([85, 110, 115, 113, 117, 101, 101, 122, 101] : List UInt8)) = true) : Calls Tryd.prog 35 #[.string op] w (OfV ⟨1, 1, [⟨⟨#[97, 120, 101, 115]⟩, 7, true⟩], true⟩ w) := by
  obtain ⟨h1, hG, h2, hM⟩ := hp
  go_enter Tryd.func35, Tryd.ntmps35
  go_wp2_with fail
  refine (rone_any op _).mono ?_
  rintro e w1 ⟨rfl, B1⟩
  have H1 := Lib.hid B1
  clear B1
  rw [h1]
  go_wp2_with fail
  refine (rtwo_any op _).mono ?_
  rintro e w2 ⟨rfl, B2⟩
  have H2 := Lib.hid (H1.out.trans (B2.mono H1.out.size))
  clear B2
  rw [h2]
  go_wp2_with fail
  refine (rmust_any ⟨#[97, 120, 101, 115]⟩ 7 _).mono ?_
  rintro e w3 ⟨rfl, B⟩
  have H3 := Lib.hid (H2.out.trans (B.mono H2.out.size))
  clear B
  go_wp2_with fail
  refine bodyPost_ret (v := .tuple #[.int .i64 1, .int .i64 1, .slice (some ⟨w3.heap.size, 0, none⟩) 1 1, .bool true]) (by simp [results, Tryd.f35, go_sem]) rfl ?_
  exact ⟨H3.out.alloc H3.out.size _, _, rfl, fms_new w3 [⟨⟨#[97, 120, 101, 115]⟩, 7, true⟩] _ rfl 1 rfl (by simp) (by decide)⟩
set_option maxRecDepth 100000 in
set_option maxHeartbeats 4000000 in
theorem rof_16 (op : ByteArray) (w : World) (hp : Plain op) (g0 : (op.toList == ([87, 104, 101, 114, 101] : List UInt8)) = false) (g1 : (op.toList == ([67, 108, 105, 112] : List UInt8)) = false) (g2 : (op.toList == ([67, 97, 115, 116] : List UInt8)) = false) (g3 : (op.toList == ([82, 101, 100, 117, 99, 101, 83, 117, 109] : List UInt8)) = false) (g4 : (op.toList == ([82, 101, 100, 117, 99, 101, 77, 97, 120] : List UInt8)) = false) (g5 : (op.toList == ([82, 101, 100, 117, 99, 101, 77, 101, 97, 110] : List UInt8)) = false) (g6 : (op.toList == ([65, 114, 103, 77, 97, 120] : List UInt8)) = false) (g7 : (op.toList == ([82, 101, 115, 104, 97, 112, 101] : List UInt8)) = false) (g8 : (op.toList == ([69, 120, 112, 97, 110, 100] : List UInt8)) = false) (g9 : (op.toList == ([84, 114, 97, 110, 115, 112, 111, 115, 101] : List UInt8)) = false) (g10 : (op.toList == ([67, 111, 110, 99, 97, 116] : List UInt8)) = false) (g11 : (op.toList == ([83, 108, 105, 99, 101] : List UInt8)) = false) (g12 : (op.toList == ([71, 97, 116, 104, 101, 114] : List UInt8)) = false) (g13 : (op.toList == ([80, 97, 100] : List UInt8)) = false) (g14 : (op.toList == ([83, 113, 117, 101, 101, 122, 101] : List UInt8)) = false) (g15 : (op.toList == ([85, 110, 115, 113, 117, 101, 101, 122, 101] : List UInt8)) = false) (g16 : (op.toList == ([70, 108, 97, 116, 116, 101, 110] : List UInt8)) = true) : Calls Tryd.prog 35 #[.string op] w (OfV ⟨1, 1, [⟨⟨#[97, 120, 105, 115]⟩, 2, false⟩], true⟩ w) := by
  obtain ⟨h1, hG, h2, hM⟩ := hp
  go_enter Tryd.func35, Tryd.ntmps35
  go_wp2_with fail
  refine (rone_any op _).mono ?_
  rintro e w1 ⟨rfl, B1⟩
  have H1 := Lib.hid B1
  clear B1
  rw [h1]
  go_wp2_with fail
  refine (rtwo_any op _).mono ?_
  rintro e w2 ⟨rfl, B2⟩
  have H2 := Lib.hid (H1.out.trans (B2.mono H1.out.size))
  clear B2
  rw [h2]
  go_wp2_with fail
  refine (ropt_any ⟨#[97, 120, 105, 115]⟩ 2 _).mono ?_
  rintro e w3 ⟨rfl, B⟩
  have H3 := Lib.hid (H2.out.trans (B.mono H2.out.size))
  clear B
  go_wp2_with fail
  refine bodyPost_ret (v := .tuple #[.int .i64 1, .int .i64 1, .slice (some ⟨w3.heap.size, 0, none⟩) 1 1, .bool true]) (by simp [results, Tryd.f35, go_sem]) rfl ?_
  exact ⟨H3.out.alloc H3.out.size _, _, rfl, fms_new w3 [⟨⟨#[97, 120, 105, 115]⟩, 2, false⟩] _ rfl 1 rfl (by simp) (by decide)⟩
set_option maxRecDepth 100000 in
set_option maxHeartbeats 4000000 in
theorem rof_17 (op : ByteArray) (w : World) (hp : Plain op) (g0 : (op.toList == ([87, 104, 101, 114, 101] : List UInt8)) = false) (g1 : (op.toList == ([67, 108, 105, 112] : List UInt8)) = false) (g2 : (op.toList == ([67, 97, 115, 116] : List UInt8)) = false) (g3 : (op.toList == ([82, 101, 100, 117, 99, 101, 83, 117, 109] : List UInt8)) = false) (g4 : (op.toList == ([82, 101, 100, 117, 99, 101, 77, 97, 120] : List UInt8)) = false) (g5 : (op.toList == ([82, 101, 100, 117, 99, 101, 77, 101, 97, 110] : List UInt8)) = false) (g6 : (op.toList == ([65, 114, 103, 77, 97, 120] : List UInt8)) = false) (g7 : (op.toList == ([82, 101, 115, 104, 97, 112, 101] : List UInt8)) = false) (g8 : (op.toList == ([69, 120, 112, 97, 110, 100] : List UInt8)) = false) (g9 : (op.toList == ([84, 114, 97, 110, 115, 112, 111, 115, 101] : List UInt8)) = false) (g10 : (op.toList == ([67, 111, 110, 99, 97, 116] : List UInt8)) = false) (g11 : (op.toList == ([83, 108, 105, 99, 101] : List UInt8)) = false) (g12 : (op.toList == ([71, 97, 116, 104, 101, 114] : List UInt8)) = false) (g13 : (op.toList == ([80, 97, 100] : List UInt8)) = false) (g14 : (op.toList == ([83, 113, 117, 101, 101, 122, 101] : List UInt8)) = false) (g15 : (op.toList == ([85, 110, 115, 113, 117, 101, 101, 122, 101] : List UInt8)) = false) (g16 : (op.toList == ([70, 108, 97, 116, 116, 101, 110] : List UInt8)) = false) (g17 : (op.toList == ([83, 111, 102, 116, 109, 97, 120] : List UInt8)) = true) : Calls Tryd.prog 35 #[.string op] w (OfV ⟨1, 1, [⟨⟨#[97, 120, 105, 115]⟩, 2, false⟩], true⟩ w) := by
  obtain ⟨h1, hG, h2, hM⟩ := hp
  go_enter Tryd.func35, Tryd.ntmps35
  go_wp2_with fail
  refine (rone_any op _).mono ?_
  rintro e w1 ⟨rfl, B1⟩
  have H1 := Lib.hid B1
  clear B1
  rw [h1]
  go_wp2_with fail
  refine (rtwo_any op _).mono ?_
  rintro e w2 ⟨rfl, B2⟩
  have H2 := Lib.hid (H1.out.trans (B2.mono H1.out.size))
  clear B2
  rw [h2]
  go_wp2_with fail
  refine (ropt_any ⟨#[97, 120, 105, 115]⟩ 2 _).mono ?_
  rintro e w3 ⟨rfl, B⟩
  have H3 := Lib.hid (H2.out.trans (B.mono H2.out.size))
  clear B
  go_wp2_with fail
  refine bodyPost_ret (v := .tuple #[.int .i64 1, .int .i64 1, .slice (some ⟨w3.heap.size, 0, none⟩) 1 1, .bool true]) (by simp [results, Tryd.f35, go_sem]) rfl ?_
  exact ⟨H3.out.alloc H3.out.size _, _, rfl, fms_new w3 [⟨⟨#[97, 120, 105, 115]⟩, 2, false⟩] _ rfl 1 rfl (by simp) (by decide)⟩
set_option maxRecDepth 100000 in
set_option maxHeartbeats 4000000 in
theorem rof_18 (op : ByteArray) (w : World) (hp : Plain op) (g0 : (op.toList == ([87, 104, 101, 114, 101] : List UInt8)) = false) (g1 : (op.toList == ([67, 108, 105, 112] : List UInt8)) = false) (g2 : (op.toList == ([67, 97, 115, 116] : List UInt8)) = false) (g3 : (op.toList == ([82, 101, 100, 117, 99, 101, 83, 117, 109] : List UInt8)) = false) (g4 : (op.toList == ([82, 101, 100, 117, 99, 101, 77, 97, 120] : List UInt8)) = false) (g5 : (op.toList == ([82, 101, 100, 117, 99, 101, 77, 101, 97, 110] : List UInt8)) = false) (g6 : (op.toList == ([65, 114, 103, 77, 97, 120] : List UInt8)) = false) (g7 : (op.toList == ([82, 101, 115, 104, 97, 112, 101] : List UInt8)) = false) (g8 : (op.toList == ([69, 120, 112, 97, 110, 100] : List UInt8)) = false) (g9 : (op.toList == ([84, 114, 97, 110, 115, 112, 111, 115, 101] : List UInt8)) = false) (g10 : (op.toList == ([67, 111, 110, 99, 97, 116] : List UInt8)) = false) (g11 : (op.toList == ([83, 108, 105, 99, 101] : List UInt8)) = false) (g12 : (op.toList == ([71, 97, 116, 104, 101, 114] : List UInt8)) = false) (g13 : (op.toList == ([80, 97, 100] : List UInt8)) = false) (g14 : (op.toList == ([83, 113, 117, 101, 101, 122, 101] : List UInt8)) = false) (g15 : (op.toList == ([85, 110, 115, 113, 117, 101, 101, 122, 101] : List UInt8)) = false) (g16 : (op.toList == ([70, 108, 97, 116, 116, 101, 110] : List UInt8)) = false) (g17 : (op.toList == ([83, 111, 102, 116, 109, 97, 120] : List UInt8)) = false) (g18 : (op.toList == ([71, 101, 109, 109] : List UInt8)) = true) : Calls Tryd.prog 35 #[.string op] w (OfV ⟨2, 3, [⟨⟨#[116, 114, 97, 110, 115, 65]⟩, 2, false⟩, ⟨⟨#[116, 114, 97, 110, 115, 66]⟩, 2, false⟩, ⟨⟨#[97, 108, 112, 104, 97]⟩, 1, false⟩, ⟨⟨#[98, 101, 116, 97]⟩, 1, false⟩], true⟩ w) := by
  obtain ⟨h1, hG, h2, hM⟩ := hp
  go_enter Tryd.func35, Tryd.ntmps35
  go_wp2_with fail
  refine (rone_any op _).mono ?_
  rintro e w1 ⟨rfl, B1⟩
  have H1 := Lib.hid B1
  clear B1
  rw [h1]
  go_wp2_with fail
  refine (rtwo_any op _).mono ?_
  rintro e w2 ⟨rfl, B2⟩
  have H2 := Lib.hid (H1.out.trans (B2.mono H1.out.size))
  clear B2
  rw [h2]
  go_wp2_with fail
  refine (ropt_any ⟨#[116, 114, 97, 110, 115, 65]⟩ 2 _).mono ?_
  rintro e w3 ⟨rfl, B⟩
  have H3 := Lib.hid (H2.out.trans (B.mono H2.out.size))
  clear B
  go_wp2_with fail
  refine (ropt_any ⟨#[116, 114, 97, 110, 115, 66]⟩ 2 _).mono ?_
  rintro e w4 ⟨rfl, B⟩
  have H4 := Lib.hid (H3.out.trans (B.mono H3.out.size))
  clear B
  go_wp2_with fail
  refine (ropt_any ⟨#[97, 108, 112, 104, 97]⟩ 1 _).mono ?_
  rintro e w5 ⟨rfl, B⟩
  have H5 := Lib.hid (H4.out.trans (B.mono H4.out.size))
  clear B
  go_wp2_with fail
  refine (ropt_any ⟨#[98, 101, 116, 97]⟩ 1 _).mono ?_
  rintro e w6 ⟨rfl, B⟩
  have H6 := Lib.hid (H5.out.trans (B.mono H5.out.size))
  clear B
  go_wp2_with fail
  refine bodyPost_ret (v := .tuple #[.int .i64 2, .int .i64 3, .slice (some ⟨w6.heap.size, 0, none⟩) 4 4, .bool true]) (by simp [results, Tryd.f35, go_sem]) rfl ?_
  exact ⟨H6.out.alloc H6.out.size _, _, rfl, fms_new w6 [⟨⟨#[116, 114, 97, 110, 115, 65]⟩, 2, false⟩, ⟨⟨#[116, 114, 97, 110, 115, 66]⟩, 2, false⟩, ⟨⟨#[97, 108, 112, 104, 97]⟩, 1, false⟩, ⟨⟨#[98, 101, 116, 97]⟩, 1, false⟩] _ rfl 4 rfl (by simp) (by decide)⟩
set_option maxRecDepth 100000 in
set_option maxHeartbeats 4000000 in
theorem rof_19 (op : ByteArray) (w : World) (hp : Plain op) (g0 : (op.toList == ([87, 104, 101, 114, 101] : List UInt8)) = false) (g1 : (op.toList == ([67, 108, 105, 112] : List UInt8)) = false) (g2 : (op.toList == ([67, 97, 115, 116] : List UInt8)) = false) (g3 : (op.toList == ([82, 101, 100, 117, 99, 101, 83, 117, 109] : List UInt8)) = false) (g4 : (op.toList == ([82, 101, 100, 117, 99, 101, 77, 97, 120] : List UInt8)) = false) (g5 : (op.toList == ([82, 101, 100, 117, 99, 101, 77, 101, 97, 110] : List UInt8)) = false) (g6 : (op.toList == ([65, 114, 103, 77, 97, 120] : List UInt8)) = false) (g7 : (op.toList == ([82, 101, 115, 104, 97, 112, 101] : List UInt8)) = false) (g8 : (op.toList == ([69, 120, 112, 97, 110, 100] : List UInt8)) = false) (g9 : (op.toList == ([84, 114, 97, 110, 115, 112, 111, 115, 101] : List UInt8)) = false) (g10 : (op.toList == ([67, 111, 110, 99, 97, 116] : List UInt8)) = false) (g11 : (op.toList == ([83, 108, 105, 99, 101] : List UInt8)) = false) (g12 : (op.toList == ([71, 97, 116, 104, 101, 114] : List UInt8)) = false) (g13 : (op.toList == ([80, 97, 100] : List UInt8)) = false) (g14 : (op.toList == ([83, 113, 117, 101, 101, 122, 101] : List UInt8)) = false) (g15 : (op.toList == ([85, 110, 115, 113, 117, 101, 101, 122, 101] : List UInt8)) = false) (g16 : (op.toList == ([70, 108, 97, 116, 116, 101, 110] : List UInt8)) = false) (g17 : (op.toList == ([83, 111, 102, 116, 109, 97, 120] : List UInt8)) = false) (g18 : (op.toList == ([71, 101, 109, 109] : List UInt8)) = false) (g19 : (op.toList == ([67, 111, 110, 118] : List UInt8)) = true) : Calls Tryd.prog 35 #[.string op] w (OfV ⟨2, 3, [⟨⟨#[115, 116, 114, 105, 100, 101, 115]⟩, 7, false⟩, ⟨⟨#[112, 97, 100, 115]⟩, 7, false⟩, ⟨⟨#[100, 105, 108, 97, 116, 105, 111, 110, 115]⟩, 7, false⟩, ⟨⟨#[103, 114, 111, 117, 112]⟩, 2, false⟩], true⟩ w) := by
  obtain ⟨h1, hG, h2, hM⟩ := hp
  go_enter Tryd.func35, Tryd.ntmps35
  go_wp2_with fail
  refine (rone_any op _).mono ?_
  rintro e w1 ⟨rfl, B1⟩
  have H1 := Lib.hid B1
  clear B1
  rw [h1]
  go_wp2_with fail
  refine (rtwo_any op _).mono ?_
  rintro e w2 ⟨rfl, B2⟩
  have H2 := Lib.hid (H1.out.trans (B2.mono H1.out.size))
  clear B2
  rw [h2]
  go_wp2_with fail
  refine (ropt_any ⟨#[115, 116, 114, 105, 100, 101, 115]⟩ 7 _).mono ?_
  rintro e w3 ⟨rfl, B⟩
  have H3 := Lib.hid (H2.out.trans (B.mono H2.out.size))
  clear B
  go_wp2_with fail
  refine (ropt_any ⟨#[112, 97, 100, 115]⟩ 7 _).mono ?_
  rintro e w4 ⟨rfl, B⟩
  have H4 := Lib.hid (H3.out.trans (B.mono H3.out.size))
  clear B
  go_wp2_with fail
  refine (ropt_any ⟨#[100, 105, 108, 97, 116, 105, 111, 110, 115]⟩ 7 _).mono ?_
  rintro e w5 ⟨rfl, B⟩
  have H5 := Lib.hid (H4.out.trans (B.mono H4.out.size))
  clear B
  go_wp2_with fail
  refine (ropt_any ⟨#[103, 114, 111, 117, 112]⟩ 2 _).mono ?_
  rintro e w6 ⟨rfl, B⟩
  have H6 := Lib.hid (H5.out.trans (B.mono H5.out.size))
  clear B
  go_wp2_with fail
  refine bodyPost_ret (v := .tuple #[.int .i64 2, .int .i64 3, .slice (some ⟨w6.heap.size, 0, none⟩) 4 4, .bool true]) (by simp [results, Tryd.f35, go_sem]) rfl ?_
  exact ⟨H6.out.alloc H6.out.size _, _, rfl, fms_new w6 [⟨⟨#[115, 116, 114, 105, 100, 101, 115]⟩, 7, false⟩, ⟨⟨#[112, 97, 100, 115]⟩, 7, false⟩, ⟨⟨#[100, 105, 108, 97, 116, 105, 111, 110, 115]⟩, 7, false⟩, ⟨⟨#[103, 114, 111, 117, 112]⟩, 2, false⟩] _ rfl 4 rfl (by simp) (by decide)⟩
set_option maxRecDepth 100000 in
set_option maxHeartbeats 4000000 in
theorem rof_20 (op : ByteArray) (w : World) (hp : Plain op) (g0 : (op.toList == ([87, 104, 101, 114, 101] : List UInt8)) = false) (g1 : (op.toList == ([67, 108, 105, 112] : List UInt8)) = false) (g2 : (op.toList == ([67, 97, 115, 116] : List UInt8)) = false) (g3 : (op.toList == ([82, 101, 100, 117, 99, 101, 83, 117, 109] : List UInt8)) = false) (g4 : (op.toList == ([82, 101, 100, 117, 99, 101, 77, 97, 120] : List UInt8)) = false) (g5 : (op.toList == ([82, 101, 100, 117, 99, 101, 77, 101, 97, 110] : List UInt8)) = false) (g6 : (op.toList == ([65, 114, 103, 77, 97, 120] : List UInt8)) = false) (g7 : (op.toList == ([82, 101, 115, 104, 97, 112, 101] : List UInt8)) = false) (g8 : (op.toList == ([69, 120, 112, 97, 110, 100] : List UInt8)) = false) (g9 : (op.toList == ([84, 114, 97, 110, 115, 112, 111, 115, 101] : List UInt8)) = false) (g10 : (op.toList == ([67, 111, 110, 99, 97, 116] : List UInt8)) = false) (g11 : (op.toList == ([83, 108, 105, 99, 101] : List UInt8)) = false) (g12 : (op.toList == ([71, 97, 116, 104, 101, 114] : List UInt8)) = false) (g13 : (op.toList == ([80, 97, 100] : List UInt8)) = false) (g14 : (op.toList == ([83, 113, 117, 101, 101, 122, 101] : List UInt8)) = false) (g15 : (op.toList == ([85, 110, 115, 113, 117, 101, 101, 122, 101] : List UInt8)) = false) (g16 : (op.toList == ([70, 108, 97, 116, 116, 101, 110] : List UInt8)) = false) (g17 : (op.toList == ([83, 111, 102, 116, 109, 97, 120] : List UInt8)) = false) (g18 : (op.toList == ([71, 101, 109, 109] : List UInt8)) = false) (g19 : (op.toList == ([67, 111, 110, 118] : List UInt8)) = false) (g20 : (op.toList == ([77, 97, 120, 80, 111, 111, 108] : List UInt8)) = true) : Calls Tryd.prog 35 #[.string op] w (OfV ⟨1, 1, [⟨⟨#[107, 101, 114, 110, 101, 108, 95, 115, 104, 97, 112, 101]⟩, 7, true⟩, ⟨⟨#[115, 116, 114, 105, 100, 101, 115]⟩, 7, false⟩, ⟨⟨#[112, 97, 100, 115]⟩, 7, false⟩], true⟩ w) := by
  obtain ⟨h1, hG, h2, hM⟩ := hp
  go_enter Tryd.func35, Tryd.ntmps35
  go_wp2_with fail
  refine (rone_any op _).mono ?_
  rintro e w1 ⟨rfl, B1⟩
  have H1 := Lib.hid B1
  clear B1
  rw [h1]
  go_wp2_with fail
  refine (rtwo_any op _).mono ?_
  rintro e w2 ⟨rfl, B2⟩
  have H2 := Lib.hid (H1.out.trans (B2.mono H1.out.size))
  clear B2
  rw [h2]
  go_wp2_with fail
  refine (rmust_any ⟨#[107, 101, 114, 110, 101, 108, 95, 115, 104, 97, 112, 101]⟩ 7 _).mono ?_
  rintro e w3 ⟨rfl, B⟩
  have H3 := Lib.hid (H2.out.trans (B.mono H2.out.size))
  clear B
  go_wp2_with fail
  refine (ropt_any ⟨#[115, 116, 114, 105, 100, 101, 115]⟩ 7 _).mono ?_
  rintro e w4 ⟨rfl, B⟩
  have H4 := Lib.hid (H3.out.trans (B.mono H3.out.size))
  clear B
  go_wp2_with fail
  refine (ropt_any ⟨#[112, 97, 100, 115]⟩ 7 _).mono ?_
  rintro e w5 ⟨rfl, B⟩
  have H5 := Lib.hid (H4.out.trans (B.mono H4.out.size))
  clear B
  go_wp2_with fail
  refine bodyPost_ret (v := .tuple #[.int .i64 1, .int .i64 1, .slice (some ⟨w5.heap.size, 0, none⟩) 3 3, .bool true]) (by simp [results, Tryd.f35, go_sem]) rfl ?_
  exact ⟨H5.out.alloc H5.out.size _, _, rfl, fms_new w5 [⟨⟨#[107, 101, 114, 110, 101, 108, 95, 115, 104, 97, 112, 101]⟩, 7, true⟩, ⟨⟨#[115, 116, 114, 105, 100, 101, 115]⟩, 7, false⟩, ⟨⟨#[112, 97, 100, 115]⟩, 7, false⟩] _ rfl 3 rfl (by simp) (by decide)⟩
set_option maxRecDepth 100000 in
set_option maxHeartbeats 4000000 in
theorem rof_21 (op : ByteArray) (w : World) (hp : Plain op) (g0 : (op.toList == ([87, 104, 101, 114, 101] : List UInt8)) = false) (g1 : (op.toList == ([67, 108, 105, 112] : List UInt8)) = false) (g2 : (op.toList == ([67, 97, 115, 116] : List UInt8)) = false) (g3 : (op.toList == ([82, 101, 100, 117, 99, 101, 83, 117, 109] : List UInt8)) = false) (g4 : (op.toList == ([82, 101, 100, 117, 99, 101, 77, 97, 120] : List UInt8)) = false) (g5 : (op.toList == ([82, 101, 100, 117, 99, 101, 77, 101, 97, 110] : List UInt8)) = false) (g6 : (op.toList == ([65, 114, 103, 77, 97, 120] : List UInt8)) = false) (g7 : (op.toList == ([82, 101, 115, 104, 97, 112, 101] : List UInt8)) = false) (g8 : (op.toList == ([69, 120, 112, 97, 110, 100] : List UInt8)) = false) (g9 : (op.toList == ([84, 114, 97, 110, 115, 112, 111, 115, 101] : List UInt8)) = false) (g10 : (op.toList == ([67, 111, 110, 99, 97, 116] : List UInt8)) = false) (g11 : (op.toList == ([83, 108, 105, 99, 101] : List UInt8)) = false) (g12 : (op.toList == ([71, 97, 116, 104, 101, 114] : List UInt8)) = false) (g13 : (op.toList == ([80, 97, 100] : List UInt8)) = false) (g14 : (op.toList == ([83, 113, 117, 101, 101, 122, 101] : List UInt8)) = false) (g15 : (op.toList == ([85, 110, 115, 113, 117, 101, 101, 122, 101] : List UInt8)) = false) (g16 : (op.toList == ([70, 108, 97, 116, 116, 101, 110] : List UInt8)) = false) (g17 : (op.toList == ([83, 111, 102, 116, 109, 97, 120] : List UInt8)) = false) (g18 : (op.toList == ([71, 101, 109, 109] : List UInt8)) = false) (g19 : (op.toList == ([67, 111, 110, 118] : List UInt8)) = false) (g20 : (op.toList == ([77, 97, 120, 80, 111, 111, 108] : List UInt8)) = false) (g21 : (op.toList == ([65, 118, 101, 114, 97, 103, 101, 80, 111, 111, 108] : List UInt8)) = true) : Calls Tryd.prog 35 #[.string op] w (OfV ⟨1, 1, [⟨⟨#[107, 101, 114, 110, 101, 108, 95, 115, 104, 97, 112, 101]⟩, 7, true⟩, ⟨⟨#[115, 116, 114, 105, 100, 101, 115]⟩, 7, false⟩, ⟨⟨#[112, 97, 100, 115]⟩, 7, false⟩], true⟩ w) := by
  obtain ⟨h1, hG, h2, hM⟩ := hp
  go_enter Tryd.func35, Tryd.ntmps35
  go_wp2_with fail
  refine (rone_any op _).mono ?_
  rintro e w1 ⟨rfl, B1⟩
  have H1 := Lib.hid B1
  clear B1
  rw [h1]
  go_wp2_with fail
  refine (rtwo_any op _).mono ?_
  rintro e w2 ⟨rfl, B2⟩
  have H2 := Lib.hid (H1.out.trans (B2.mono H1.out.size))
  clear B2
  rw [h2]
  go_wp2_with fail
  refine (rmust_any ⟨#[107, 101, 114, 110, 101, 108, 95, 115, 104, 97, 112, 101]⟩ 7 _).mono ?_
  rintro e w3 ⟨rfl, B⟩
  have H3 := Lib.hid (H2.out.trans (B.mono H2.out.size))
  clear B
  go_wp2_with fail
  refine (ropt_any ⟨#[115, 116, 114, 105, 100, 101, 115]⟩ 7 _).mono ?_
  rintro e w4 ⟨rfl, B⟩
  have H4 := Lib.hid (H3.out.trans (B.mono H3.out.size))
  clear B
  go_wp2_with fail
  refine (ropt_any ⟨#[112, 97, 100, 115]⟩ 7 _).mono ?_
  rintro e w5 ⟨rfl, B⟩
  have H5 := Lib.hid (H4.out.trans (B.mono H4.out.size))
  clear B
  go_wp2_with fail
  refine bodyPost_ret (v := .tuple #[.int .i64 1, .int .i64 1, .slice (some ⟨w5.heap.size, 0, none⟩) 3 3, .bool true]) (by simp [results, Tryd.f35, go_sem]) rfl ?_
  exact ⟨H5.out.alloc H5.out.size _, _, rfl, fms_new w5 [⟨⟨#[107, 101, 114, 110, 101, 108, 95, 115, 104, 97, 112, 101]⟩, 7, true⟩, ⟨⟨#[115, 116, 114, 105, 100, 101, 115]⟩, 7, false⟩, ⟨⟨#[112, 97, 100, 115]⟩, 7, false⟩] _ rfl 3 rfl (by simp) (by decide)⟩
set_option maxRecDepth 100000 in
set_option maxHeartbeats 4000000 in
theorem rof_22 (op : ByteArray) (w : World) (hp : Plain op) (g0 : (op.toList == ([87, 104, 101, 114, 101] : List UInt8)) = false) (g1 : (op.toList == ([67, 108, 105, 112] : List UInt8)) = false) (g2 : (op.toList == ([67, 97, 115, 116] : List UInt8)) = false) (g3 : (op.toList == ([82, 101, 100, 117, 99, 101, 83, 117, 109] : List UInt8)) = false) (g4 : (op.toList == ([82, 101, 100, 117, 99, 101, 77, 97, 120] : List UInt8)) = false) (g5 : (op.toList == ([82, 101, 100, 117, 99, 101, 77, 101, 97, 110] : List UInt8)) = false) (g6 : (op.toList == ([65, 114, 103, 77, 97, 120] : List UInt8)) = false) (g7 : (op.toList == ([82, 101, 115, 104, 97, 112, 101] : List UInt8)) = false) (g8 : (op.toList == ([69, 120, 112, 97, 110, 100] : List UInt8)) = false) (g9 : (op.toList == ([84, 114, 97, 110, 115, 112, 111, 115, 101] : List UInt8)) = false) (g10 : (op.toList == ([67, 111, 110, 99, 97, 116] : List UInt8)) = false) (g11 : (op.toList == ([83, 108, 105, 99, 101] : List UInt8)) = false) (g12 : (op.toList == ([71, 97, 116, 104, 101, 114] : List UInt8)) = false) (g13 : (op.toList == ([80, 97, 100] : List UInt8)) = false) (g14 : (op.toList == ([83, 113, 117, 101, 101, 122, 101] : List UInt8)) = false) (g15 : (op.toList == ([85, 110, 115, 113, 117, 101, 101, 122, 101] : List UInt8)) = false) (g16 : (op.toList == ([70, 108, 97, 116, 116, 101, 110] : List UInt8)) = false) (g17 : (op.toList == ([83, 111, 102, 116, 109, 97, 120] : List UInt8)) = false) (g18 : (op.toList == ([71, 101, 109, 109] : List UInt8)) = false) (g19 : (op.toList == ([67, 111, 110, 118] : List UInt8)) = false) (g20 : (op.toList == ([77, 97, 120, 80, 111, 111, 108] : List UInt8)) = false) (g21 : (op.toList == ([65, 118, 101, 114, 97, 103, 101, 80, 111, 111, 108] : List UInt8)) = false) (g22 : (op.toList == ([66, 97, 116, 99, 104, 78, 111, 114, 109, 97, 108, 105, 122, 97, 116, 105, 111, 110] : List UInt8)) = true) : Calls Tryd.prog 35 #[.string op] w (OfV ⟨5, 5, [⟨⟨#[101, 112, 115, 105, 108, 111, 110]⟩, 1, false⟩], true⟩ w) := by
  obtain ⟨h1, hG, h2, hM⟩ := hp
  go_enter Tryd.func35, Tryd.ntmps35
  go_wp2_with fail
  refine (rone_any op _).mono ?_
  rintro e w1 ⟨rfl, B1⟩
  have H1 := Lib.hid B1
  clear B1
  rw [h1]
  go_wp2_with fail
  refine (rtwo_any op _).mono ?_
  rintro e w2 ⟨rfl, B2⟩
  have H2 := Lib.hid (H1.out.trans (B2.mono H1.out.size))
  clear B2
  rw [h2]
  go_wp2_with fail
  refine (ropt_any ⟨#[101, 112, 115, 105, 108, 111, 110]⟩ 1 _).mono ?_
  rintro e w3 ⟨rfl, B⟩
  have H3 := Lib.hid (H2.out.trans (B.mono H2.out.size))
  clear B
  go_wp2_with fail
  refine bodyPost_ret (v := .tuple #[.int .i64 5, .int .i64 5, .slice (some ⟨w3.heap.size, 0, none⟩) 1 1, .bool true]) (by simp [results, Tryd.f35, go_sem]) rfl ?_
  exact ⟨H3.out.alloc H3.out.size _, _, rfl, fms_new w3 [⟨⟨#[101, 112, 115, 105, 108, 111, 110]⟩, 1, false⟩] _ rfl 1 rfl (by simp) (by decide)⟩
set_option maxRecDepth 100000 in
set_option maxHeartbeats 4000000 in
theorem rof_23 (op : ByteArray) (w : World) (hp : Plain op) (g0 : (op.toList == ([87, 104, 101, 114, 101] : List UInt8)) = false) (g1 : (op.toList == ([67, 108, 105, 112] : List UInt8)) = false) (g2 : (op.toList == ([67, 97, 115, 116] : List UInt8)) = false) (g3 : (op.toList == ([82, 101, 100, 117, 99, 101, 83, 117, 109] : List UInt8)) = false) (g4 : (op.toList == ([82, 101, 100, 117, 99, 101, 77, 97, 120] : List UInt8)) = false) (g5 : (op.toList == ([82, 101, 100, 117, 99, 101, 77, 101, 97, 110] : List UInt8)) = false) (g6 : (op.toList == ([65, 114, 103, 77, 97, 120] : List UInt8)) = false) (g7 : (op.toList == ([82, 101, 115, 104, 97, 112, 101] : List UInt8)) = false) (g8 : (op.toList == ([69, 120, 112, 97, 110, 100] : List UInt8)) = false) (g9 : (op.toList == ([84, 114, 97, 110, 115, 112, 111, 115, 101] : List UInt8)) = false) (g10 : (op.toList == ([67, 111, 110, 99, 97, 116] : List UInt8)) = false) (g11 : (op.toList == ([83, 108, 105, 99, 101] : List UInt8)) = false) (g12 : (op.toList == ([71, 97, 116, 104, 101, 114] : List UInt8)) = false) (g13 : (op.toList == ([80, 97, 100] : List UInt8)) = false) (g14 : (op.toList == ([83, 113, 117, 101, 101, 122, 101] : List UInt8)) = false) (g15 : (op.toList == ([85, 110, 115, 113, 117, 101, 101, 122, 101] : List UInt8)) = false) (g16 : (op.toList == ([70, 108, 97, 116, 116, 101, 110] : List UInt8)) = false) (g17 : (op.toList == ([83, 111, 102, 116, 109, 97, 120] : List UInt8)) = false) (g18 : (op.toList == ([71, 101, 109, 109] : List UInt8)) = false) (g19 : (op.toList == ([67, 111, 110, 118] : List UInt8)) = false) (g20 : (op.toList == ([77, 97, 120, 80, 111, 111, 108] : List UInt8)) = false) (g21 : (op.toList == ([65, 118, 101, 114, 97, 103, 101, 80, 111, 111, 108] : List UInt8)) = false) (g22 : (op.toList == ([66, 97, 116, 99, 104, 78, 111, 114, 109, 97, 108, 105, 122, 97, 116, 105, 111, 110] : List UInt8)) = false) (g23 : (op.toList == ([67, 111, 110, 115, 116, 97, 110, 116] : List UInt8)) = true) : Calls Tryd.prog 35 #[.string op] w (OfV ⟨0, 0, [⟨⟨#[118, 97, 108, 117, 101]⟩, 4, true⟩], true⟩ w) := by
  obtain ⟨h1, hG, h2, hM⟩ := hp
  go_enter Tryd.func35, Tryd.ntmps35
  go_wp2_with fail
  refine (rone_any op _).mono ?_
  rintro e w1 ⟨rfl, B1⟩
  have H1 := Lib.hid B1
  clear B1
  rw [h1]
  go_wp2_with fail
  refine (rtwo_any op _).mono ?_
  rintro e w2 ⟨rfl, B2⟩
  have H2 := Lib.hid (H1.out.trans (B2.mono H1.out.size))
  clear B2
  rw [h2]
  go_wp2_with fail
  refine (rmust_any ⟨#[118, 97, 108, 117, 101]⟩ 4 _).mono ?_
  rintro e w3 ⟨rfl, B⟩
  have H3 := Lib.hid (H2.out.trans (B.mono H2.out.size))
  clear B
  go_wp2_with fail
  refine bodyPost_ret (v := .tuple #[.int .i64 0, .int .i64 0, .slice (some ⟨w3.heap.size, 0, none⟩) 1 1, .bool true]) (by simp [results, Tryd.f35, go_sem]) rfl ?_
  exact ⟨H3.out.alloc H3.out.size _, _, rfl, fms_new w3 [⟨⟨#[118, 97, 108, 117, 101]⟩, 4, true⟩] _ rfl 1 rfl (by simp) (by decide)⟩
set_option maxRecDepth 100000 in
set_option maxHeartbeats 4000000 in
theorem rof_24 (op : ByteArray) (w : World) (hp : Plain op) (g0 : (op.toList == ([87, 104, 101, 114, 101] : List UInt8)) = false) (g1 : (op.toList == ([67, 108, 105, 112] : List UInt8)) = false) (g2 : (op.toList == ([67, 97, 115, 116] : List UInt8)) = false) (g3 : (op.toList == ([82, 101, 100, 117, 99, 101, 83, 117, 109] : List UInt8)) = false) (g4 : (op.toList == ([82, 101, 100, 117, 99, 101, 77, 97, 120] : List UInt8)) = false) (g5 : (op.toList == ([82, 101, 100, 117, 99, 101, 77, 101, 97, 110] : List UInt8)) = false) (g6 : (op.toList == ([65, 114, 103, 77, 97, 120] : List UInt8)) = false) (g7 : (op.toList == ([82, 101, 115, 104, 97, 112, 101] : List UInt8)) = false) (g8 : (op.toList == ([69, 120, 112, 97, 110, 100] : List UInt8)) = false) (g9 : (op.toList == ([84, 114, 97, 110, 115, 112, 111, 115, 101] : List UInt8)) = false) (g10 : (op.toList == ([67, 111, 110, 99, 97, 116] : List UInt8)) = false) (g11 : (op.toList == ([83, 108, 105, 99, 101] : List UInt8)) = false) (g12 : (op.toList == ([71, 97, 116, 104, 101, 114] : List UInt8)) = false) (g13 : (op.toList == ([80, 97, 100] : List UInt8)) = false) (g14 : (op.toList == ([83, 113, 117, 101, 101, 122, 101] : List UInt8)) = false) (g15 : (op.toList == ([85, 110, 115, 113, 117, 101, 101, 122, 101] : List UInt8)) = false) (g16 : (op.toList == ([70, 108, 97, 116, 116, 101, 110] : List UInt8)) = false) (g17 : (op.toList == ([83, 111, 102, 116, 109, 97, 120] : List UInt8)) = false) (g18 : (op.toList == ([71, 101, 109, 109] : List UInt8)) = false) (g19 : (op.toList == ([67, 111, 110, 118] : List UInt8)) = false) (g20 : (op.toList == ([77, 97, 120, 80, 111, 111, 108] : List UInt8)) = false) (g21 : (op.toList == ([65, 118, 101, 114, 97, 103, 101, 80, 111, 111, 108] : List UInt8)) = false) (g22 : (op.toList == ([66, 97, 116, 99, 104, 78, 111, 114, 109, 97, 108, 105, 122, 97, 116, 105, 111, 110] : List UInt8)) = false) (g23 : (op.toList == ([67, 111, 110, 115, 116, 97, 110, 116] : List UInt8)) = false) : Calls Tryd.prog 35 #[.string op] w (OfV ⟨0, 0, [], false⟩ w) := by
  obtain ⟨h1, hG, h2, hM⟩ := hp
  go_enter Tryd.func35, Tryd.ntmps35
  go_wp2_with fail
  refine (rone_any op _).mono ?_
  rintro e w1 ⟨rfl, B1⟩
  have H1 := Lib.hid B1
  clear B1
  rw [h1]
  go_wp2_with fail
  refine (rtwo_any op _).mono ?_
  rintro e w2 ⟨rfl, B2⟩
  have H2 := Lib.hid (H1.out.trans (B2.mono H1.out.size))
  clear B2
  rw [h2]
  go_wp2_with fail
  refine bodyPost_ret (v := .tuple #[.int .i64 0, .int .i64 0, .slice none 0 0, .bool false]) (by simp [results, Tryd.f35, go_sem]) rfl ?_
  exact ⟨H2.out, _, rfl, .empty⟩

/-- THE REFERENCE's 'of'. -/
theorem rof_any (op : ByteArray) (w : World) : Calls Tryd.prog 35 #[.string op] w (OfV (refOf op) w) := by
  cases h1 : oneB op with
  | true =>
    rw [show refOf op = ⟨1, 1, [], true⟩ by unfold refOf; rw [if_pos (Or.inl h1)]]
    exact rof_one op w h1
  | false =>
  cases hG : (op.toList == ([71, 108, 111, 98, 97, 108, 65, 118, 101, 114, 97, 103, 101, 80, 111, 111, 108] : List UInt8)) with
  | true =>
    rw [show refOf op = ⟨1, 1, [], true⟩ by unfold refOf; rw [if_pos (Or.inr hG)]]
    exact rof_gap op w h1 hG
  | false =>
  cases h2 : hasS twosL op with
  | true =>
    rw [show refOf op = ⟨2, 2, [], true⟩ by unfold refOf; rw [if_neg (by simp [h1, hG]), if_pos (Or.inl h2)]]
    exact rof_two op w h1 hG h2
  | false =>
  cases hM : (op.toList == ([77, 97, 116, 77, 117, 108] : List UInt8)) with
  | true =>
    rw [show refOf op = ⟨2, 2, [], true⟩ by unfold refOf; rw [if_neg (by simp [h1, hG]), if_pos (Or.inr hM)]]
    exact rof_mm op w h1 hG h2 hM
  | false =>
  have hp : Plain op := ⟨h1, hG, h2, hM⟩
  rw [hp.of]
  have l0 : lookR rtab0 op = lookR rtab0 op := rfl
  cases g0 : (op.toList == ([87, 104, 101, 114, 101] : List UInt8)) with
  | true =>
    rw [l0.trans (lookR_hit g0)]
    exact rof_0 op w hp g0
  | false =>
  have l1 := l0.trans (lookR_miss g0)
  cases g1 : (op.toList == ([67, 108, 105, 112] : List UInt8)) with
  | true =>
    rw [l1.trans (lookR_hit g1)]
    exact rof_1 op w hp g0 g1
  | false =>
  have l2 := l1.trans (lookR_miss g1)
  cases g2 : (op.toList == ([67, 97, 115, 116] : List UInt8)) with
  | true =>
    rw [l2.trans (lookR_hit g2)]
    exact rof_2 op w hp g0 g1 g2
  | false =>
  have l3 := l2.trans (lookR_miss g2)
  cases g3 : (op.toList == ([82, 101, 100, 117, 99, 101, 83, 117, 109] : List UInt8)) with
  | true =>
    rw [l3.trans (lookR_hit g3)]
    exact rof_3 op w hp g0 g1 g2 g3
  | false =>
  have l4 := l3.trans (lookR_miss g3)
  cases g4 : (op.toList == ([82, 101, 100, 117, 99, 101, 77, 97, 120] : List UInt8)) with
  | true =>
    rw [l4.trans (lookR_hit g4)]
    exact rof_4 op w hp g0 g1 g2 g3 g4
  | false =>
  have l5 := l4.trans (lookR_miss g4)
  cases g5 : (op.toList == ([82, 101, 100, 117, 99, 101, 77, 101, 97, 110] : List UInt8)) with
  | true =>
    rw [l5.trans (lookR_hit g5)]
    exact rof_5 op w hp g0 g1 g2 g3 g4 g5
  | false =>
  have l6 := l5.trans (lookR_miss g5)
  cases g6 : (op.toList == ([65, 114, 103, 77, 97, 120] : List UInt8)) with
  | true =>
    rw [l6.trans (lookR_hit g6)]
    exact rof_6 op w hp g0 g1 g2 g3 g4 g5 g6
  | false =>
  have l7 := l6.trans (lookR_miss g6)
  cases g7 : (op.toList == ([82, 101, 115, 104, 97, 112, 101] : List UInt8)) with
  | true =>
    rw [l7.trans (lookR_hit g7)]
    exact rof_7 op w hp g0 g1 g2 g3 g4 g5 g6 g7
  | false =>
  have l8 := l7.trans (lookR_miss g7)
  cases g8 : (op.toList == ([69, 120, 112, 97, 110, 100] : List UInt8)) with
  | true =>
    rw [l8.trans (lookR_hit g8)]
    exact rof_8 op w hp g0 g1 g2 g3 g4 g5 g6 g7 g8
  | false =>
  have l9 := l8.trans (lookR_miss g8)
  cases g9 : (op.toList == ([84, 114, 97, 110, 115, 112, 111, 115, 101] : List UInt8)) with
  | true =>
    rw [l9.trans (lookR_hit g9)]
    exact rof_9 op w hp g0 g1 g2 g3 g4 g5 g6 g7 g8 g9
  | false =>
  have l10 := l9.trans (lookR_miss g9)
  cases g10 : (op.toList == ([67, 111, 110, 99, 97, 116] : List UInt8)) with
  | true =>
    rw [l10.trans (lookR_hit g10)]
    exact rof_10 op w hp g0 g1 g2 g3 g4 g5 g6 g7 g8 g9 g10
  | false =>
  have l11 := l10.trans (lookR_miss g10)
  cases g11 : (op.toList == ([83, 108, 105, 99, 101] : List UInt8)) with
  | true =>
    rw [l11.trans (lookR_hit g11)]
    exact rof_11 op w hp g0 g1 g2 g3 g4 g5 g6 g7 g8 g9 g10 g11
  | false =>
  have l12 := l11.trans (lookR_miss g11)
  cases g12 : (op.toList == ([71, 97, 116, 104, 101, 114] : List UInt8)) with
  | true =>
    rw [l12.trans (lookR_hit g12)]
    exact rof_12 op w hp g0 g1 g2 g3 g4 g5 g6 g7 g8 g9 g10 g11 g12
  | false =>
  have l13 := l12.trans (lookR_miss g12)
  cases g13 : (op.toList == ([80, 97, 100] : List UInt8)) with
  | true =>
    rw [l13.trans (lookR_hit g13)]
    exact rof_13 op w hp g0 g1 g2 g3 g4 g5 g6 g7 g8 g9 g10 g11 g12 g13
  | false =>
  have l14 := l13.trans (lookR_miss g13)
  cases g14 : (op.toList == ([83, 113, 117, 101, 101, 122, 101] : List UInt8)) with
  | true =>
    rw [l14.trans (lookR_hit g14)]
    exact rof_14 op w hp g0 g1 g2 g3 g4 g5 g6 g7 g8 g9 g10 g11 g12 g13 g14
  | false =>
  have l15 := l14.trans (lookR_miss g14)
  cases g15 : (op.toList == ([85, 110, 115, 113, 117, 101, 101, 122, 101] : List UInt8)) with
  | true =>
    rw [l15.trans (lookR_hit g15)]
    exact rof_15 op w hp g0 g1 g2 g3 g4 g5 g6 g7 g8 g9 g10 g11 g12 g13 g14 g15
  | false =>
  have l16 := l15.trans (lookR_miss g15)
  cases g16 : (op.toList == ([70, 108, 97, 116, 116, 101, 110] : List UInt8)) with
  | true =>
    rw [l16.trans (lookR_hit g16)]
    exact rof_16 op w hp g0 g1 g2 g3 g4 g5 g6 g7 g8 g9 g10 g11 g12 g13 g14 g15 g16
  | false =>
  have l17 := l16.trans (lookR_miss g16)
  cases g17 : (op.toList == ([83, 111, 102, 116, 109, 97, 120] : List UInt8)) with
  | true =>
    rw [l17.trans (lookR_hit g17)]
    exact rof_17 op w hp g0 g1 g2 g3 g4 g5 g6 g7 g8 g9 g10 g11 g12 g13 g14 g15 g16 g17
  | false =>
  have l18 := l17.trans (lookR_miss g17)
  cases g18 : (op.toList == ([71, 101, 109, 109] : List UInt8)) with
  | true =>
    rw [l18.trans (lookR_hit g18)]
    exact rof_18 op w hp g0 g1 g2 g3 g4 g5 g6 g7 g8 g9 g10 g11 g12 g13 g14 g15 g16 g17 g18
  | false =>
  have l19 := l18.trans (lookR_miss g18)
  cases g19 : (op.toList == ([67, 111, 110, 118] : List UInt8)) with
  | true =>
    rw [l19.trans (lookR_hit g19)]
    exact rof_19 op w hp g0 g1 g2 g3 g4 g5 g6 g7 g8 g9 g10 g11 g12 g13 g14 g15 g16 g17 g18 g19
  | false =>
  have l20 := l19.trans (lookR_miss g19)
  cases g20 : (op.toList == ([77, 97, 120, 80, 111, 111, 108] : List UInt8)) with
  | true =>
    rw [l20.trans (lookR_hit g20)]
    exact rof_20 op w hp g0 g1 g2 g3 g4 g5 g6 g7 g8 g9 g10 g11 g12 g13 g14 g15 g16 g17 g18 g19 g20
  | false =>
  have l21 := l20.trans (lookR_miss g20)
  cases g21 : (op.toList == ([65, 118, 101, 114, 97, 103, 101, 80, 111, 111, 108] : List UInt8)) with
  | true =>
    rw [l21.trans (lookR_hit g21)]
    exact rof_21 op w hp g0 g1 g2 g3 g4 g5 g6 g7 g8 g9 g10 g11 g12 g13 g14 g15 g16 g17 g18 g19 g20 g21
  | false =>
  have l22 := l21.trans (lookR_miss g21)
  cases g22 : (op.toList == ([66, 97, 116, 99, 104, 78, 111, 114, 109, 97, 108, 105, 122, 97, 116, 105, 111, 110] : List UInt8)) with
  | true =>
    rw [l22.trans (lookR_hit g22)]
    exact rof_22 op w hp g0 g1 g2 g3 g4 g5 g6 g7 g8 g9 g10 g11 g12 g13 g14 g15 g16 g17 g18 g19 g20 g21 g22
  | false =>
  have l23 := l22.trans (lookR_miss g22)
  cases g23 : (op.toList == ([67, 111, 110, 115, 116, 97, 110, 116] : List UInt8)) with
  | true =>
    rw [l23.trans (lookR_hit g23)]
    exact rof_23 op w hp g0 g1 g2 g3 g4 g5 g6 g7 g8 g9 g10 g11 g12 g13 g14 g15 g16 g17 g18 g19 g20 g21 g22 g23
  | false =>
  have l24 := l23.trans (lookR_miss g23)
  rw [l24.trans (show lookR rtab24 op = none by unfold rtab24 lookR; rfl)]
  exact rof_24 op w hp g0 g1 g2 g3 g4 g5 g6 g7 g8 g9 g10 g11 g12 g13 g14 g15 g16 g17 g18 g19 g20 g21 g22 g23

end Go.Proofs.YtijeblfhkkfjgaaDoor

