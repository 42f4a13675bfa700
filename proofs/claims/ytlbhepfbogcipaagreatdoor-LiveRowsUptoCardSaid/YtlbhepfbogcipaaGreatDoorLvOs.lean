/- The reference's small functions of chapter 6: among, One, Two, opt, must. -/
import Derived.Test.YtlbhepfbogcipaaGreatDoorSchP
import Derived.Test.YtlbhepfbogcipaaGreatDoorSchCa
import Derived.Test.YtlbhepfbogcipaaGreatDoorShelf
import Derived.Test.YtlbhepfbogcipaaGreatDoorSchNo
import Ieee.Arith
import Derived.Laws.FloatBits
import Derived.Test.YtlbhepfbogcipaaGreatDoorSchN
import Derived.Laws.FloatArith
import Derived.Laws.Externs
import Derived.Laws.BitsAllLaws
import Derived.Laws.BitsLemmas
import Derived.Test.YtlbhepfbogcipaaGreatDoorReg
import Derived.ArgAppend
import Derived.BigQuiet
import Derived.Deep.QuietTactic
import Derived.Test.YtlbhepfbogcipaaGreatDoorSchSb
import Derived.Test.YtlbhepfbogcipaaGreatDoorSchJ
import Derived.Test.YtlbhepfbogcipaaGreatDoorSchB
import Derived.Test.YtlbhepfbogcipaaGreatDoorSchCo
import Derived.Test.YtlbhepfbogcipaaGreatDoorSchQ
set_option linter.unusedVariables false
set_option linter.unusedSimpArgs false
namespace Go.Proofs.YtlbhepfbogcipaaGreatDoor
open Go.RowKit

def twosL : List ByteArray := [⟨#[65, 100, 100]⟩, ⟨#[83, 117, 98]⟩, ⟨#[77, 117, 108]⟩, ⟨#[68, 105, 118]⟩, ⟨#[77, 97, 120]⟩, ⟨#[77, 105, 110]⟩, ⟨#[65, 110, 100]⟩, ⟨#[79, 114]⟩, ⟨#[88, 111, 114]⟩, ⟨#[69, 113, 117, 97, 108]⟩, ⟨#[76, 101, 115, 115]⟩, ⟨#[71, 114, 101, 97, 116, 101, 114]⟩]

theorem hasS_next {ss : List ByteArray} {x s : ByteArray} {k : Nat} (h : hasS (ss.take k) x = false) (hs : ss[k]? = some s) (g : ¬ s = x) : hasS (ss.take (k + 1)) x = false := by
  unfold hasS at *
  rw [List.take_add_one, List.any_append, h, hs]
  simpa using g

set_option maxHeartbeats 1000000 in
theorem ramong_row (b off cap : Nat) (ss : List ByteArray) (hlen : ss.length * 16 ≤ 140737488351232) (x : ByteArray) (w : World) (hr : Hid (ReadsS w b off ss)) :
    Calls Tryz.prog 89 #[.string x, .slice (some ⟨b, off, none⟩) ss.length cap] w fun e w' => e = .returned (.bool (hasS ss x)) ∧ w = w' := by
  go_enter Tryz.func89, Tryz.ntmps89
  go_wp2
  go_loop [5] (fun i => ∃ k : Nat, k ≤ ss.length ∧ i = .int .i64 (k : Int) ∧ Hid (hasS (ss.take k) x = false)) (fun i => ss.length - (intOf i).toNat)
  case atStart => exact ⟨0, Nat.zero_le _, rfl, Lib.hid (by simp [hasS])⟩
  case round =>
    obtain ⟨k, hk, rfl, hT⟩ := hrel
    by_cases hkl : k < ss.length
    · have hki : (k : Int) < (ss.length : Int) := by omega
      obtain ⟨s, hs⟩ : ∃ s, ss[k]? = some s := ⟨_, List.getElem?_eq_getElem hkl⟩
      have c0 := hr.out k s hs
      have HSs := Lib.hid hs
      clear hs
      by_cases hx : s.toList = x.toList
      · have hb : (s.toList == x.toList) = true := by simpa using hx
        have e : Hid (hasS ss x = true) := Lib.hid (hasS_iff.2 (by rw [← toList_inj hx]; exact List.mem_of_getElem? HSs.out))
        go_wp2
        go_ret
        exact ⟨ret_val (bool_val e.out.symm), rfl⟩
      · have hb : (s.toList == x.toList) = false := by simpa using hx
        have e := Lib.hid (hasS_next hT.out HSs.out (str_ne hx))
        go_wp2
        go_round
        case rel => exact ⟨k + 1, by omega, by go_num, e⟩
        case measure => simp [intOf]; omega
    · have hki : ¬ (k : Int) < (ss.length : Int) := by omega
      obtain rfl : k = ss.length := by omega
      have e : Hid (hasS ss x = false) := Lib.hid (by have := hT.out; rwa [List.take_length] at this)
      go_wp2
      go_ret
      exact ⟨ret_val (bool_val e.out.symm), rfl⟩

theorem ramong_empty (a0 : Option Addr) (cap : Nat) (x : ByteArray) (w : World) :
    Calls Tryz.prog 89 #[.string x, .slice a0 0 cap] w fun e w' => e = .returned (.bool false) ∧ w = w' := by
  go_enter Tryz.func89, Tryz.ntmps89
  go_wp2
  go_rounds 1
  go_ret
  exact ⟨rfl, rfl⟩

theorem ramong_any {w : World} {v : Value} {ss : List ByteArray} (h : StrsIn w v ss) (x : ByteArray) :
    Calls Tryz.prog 89 #[.string x, v] w fun e w' => e = .returned (.bool (hasS ss x)) ∧ w = w' := by
  cases h with
  | empty a0 cap => exact ramong_empty a0 cap x w
  | row b off cap _ h0 hc hb hr hlen => exact ramong_row b off cap ss hlen x w (Lib.hid hr)

theorem strs_lit (w : World) (ss : List ByteArray) (cs : Array Value) (hcs : cs = (ss.map Value.string).toArray) (n : Nat) (hn : ss.length = n) (h0 : ss ≠ []) (hl : n ≤ 1000) : StrsIn (w.alloc (.cells cs 9)) (.slice (some ⟨w.heap.size, 0, none⟩) n n) ss := by
  subst hn
  refine .row w.heap.size 0 ss.length ss h0 (Nat.le_refl _) (by simp) (fun j s hj => ?_) (by omega)
  rw [World.cell?, World.alloc_heap_new]
  simp [hcs, hj]

theorem rone_any (op : ByteArray) (w : World) : Calls Tryz.prog 98 #[.string op] w fun e w' => e = .returned (.bool (oneB op)) ∧ Below w.heap.size w w' := by
  go_enter Tryz.func98, Tryz.ntmps98
  go_wp2_with fail
  refine (ramong_any (strs_lit w onesL _ rfl 10 rfl (by decide) (by decide)) op).mono ?_
  rintro e w' ⟨rfl, rfl⟩
  go_wp2
  go_ret
  exact ⟨rfl, (Below.refl _ _).alloc (Nat.le_refl _) _⟩

theorem rtwo_any (op : ByteArray) (w : World) : Calls Tryz.prog 99 #[.string op] w fun e w' => e = .returned (.bool (hasS twosL op)) ∧ Below w.heap.size w w' := by
  go_enter Tryz.func99, Tryz.ntmps99
  go_wp2_with fail
  refine (ramong_any (strs_lit w twosL _ rfl 12 rfl (by decide) (by decide)) op).mono ?_
  rintro e w' ⟨rfl, rfl⟩
  go_wp2
  go_ret
  exact ⟨rfl, (Below.refl _ _).alloc (Nat.le_refl _) _⟩

theorem ropt_any (nm : ByteArray) (kd : Int) (w : World) : Calls Tryz.prog 100 #[.string nm, .int .i64 kd] w fun e w' => e = .returned (.agg #[.string nm, .int .i64 kd, .bool false]) ∧ Below w.heap.size w w' := by
  go_enter Tryz.func100, Tryz.ntmps100
  go_wp2
  refine bodyPost_ret (v := .agg #[.string nm, .int .i64 kd, .bool false]) (by simp [results, Tryz.f100, go_sem]) rfl ⟨rfl, ?_⟩
  exact (Below.refl _ _).alloc (Nat.le_refl _) _
theorem rmust_any (nm : ByteArray) (kd : Int) (w : World) : Calls Tryz.prog 101 #[.string nm, .int .i64 kd] w fun e w' => e = .returned (.agg #[.string nm, .int .i64 kd, .bool true]) ∧ Below w.heap.size w w' := by
  go_enter Tryz.func101, Tryz.ntmps101
  go_wp2
  refine bodyPost_ret (v := .agg #[.string nm, .int .i64 kd, .bool true]) (by simp [results, Tryz.f101, go_sem]) rfl ⟨rfl, ?_⟩
  exact (Below.refl _ _).alloc (Nat.le_refl _) _

end Go.Proofs.YtlbhepfbogcipaaGreatDoor

set_option linter.unusedVariables false
set_option linter.unusedSimpArgs false
namespace Go.Proofs.YtlbhepfbogcipaaGreatDoor
open Go.RowKit

/-- A form of an attribute. -/
structure Fm where
  name : ByteArray
  kind : Int
  must : Bool

def Fm.cells (f : Fm) : List Value := [.string f.name, .int .i64 f.kind, .bool f.must]

def ReadsF (w : World) (b off : Nat) (fs : List Fm) : Prop := ∀ (j : Nat) f, fs[j]? = some f → w.cell? ⟨b, off + j * 3, none⟩ = some (.string f.name) ∧ w.cell? ⟨b, off + j * 3 + 1, none⟩ = some (.int .i64 f.kind) ∧ w.cell? ⟨b, off + j * 3 + 2, none⟩ = some (.bool f.must)

/-- A row of forms with no room behind it. -/
inductive FmsIn (w : World) : Value → List Fm → Prop
  | empty : FmsIn w (.slice none 0 0) []
  | row (b : Nat) (fs : List Fm) (h0 : fs ≠ []) (hb : b < w.heap.size) (hr : ReadsF w b 0 fs) (hlen : fs.length ≤ 100) : FmsIn w (.slice (some ⟨b, 0, none⟩) fs.length fs.length) fs

theorem ReadsF.below {w w' : World} {b off : Nat} {fs : List Fm} (h : ReadsF w b off fs) (hb : b < w.heap.size) (hB : Below w.heap.size w w') : ReadsF w' b off fs := fun j f hj => by
  obtain ⟨h1, h2, h3⟩ := h j f hj
  exact ⟨(hB.cell (p := ⟨b, off + j * 3, none⟩) hb).trans h1, (hB.cell (p := ⟨b, off + j * 3 + 1, none⟩) hb).trans h2, (hB.cell (p := ⟨b, off + j * 3 + 2, none⟩) hb).trans h3⟩
theorem FmsIn.below {w w' : World} {v : Value} {fs : List Fm} (h : FmsIn w v fs) (hB : Below w.heap.size w w') : FmsIn w' v fs := by
  cases h with
  | empty => exact .empty
  | row b _ h0 hb hr hlen => exact .row b fs h0 (Nat.lt_of_lt_of_le hb hB.size) (hr.below hb hB) hlen

theorem fm_get : ∀ {fs : List Fm} {j : Nat} {f : Fm} {i : Nat} {u : Value}, fs[j]? = some f → f.cells[i]? = some u → (fs.flatMap Fm.cells)[j * 3 + i]? = some u
  | [], j, f, i, u, h, _ => by simp at h
  | g :: fs, 0, f, i, u, h1, h2 => by
    obtain rfl := Option.some.inj h1
    have hi : i < (Fm.cells g).length := (List.getElem?_eq_some_iff.1 h2).1
    rw [List.flatMap_cons, Nat.zero_mul, Nat.zero_add, List.getElem?_append_left hi]; exact h2
  | g :: fs, j + 1, f, i, u, h1, h2 => by
    rw [List.flatMap_cons, List.getElem?_append_right (by simp [Fm.cells]; omega)]
    have e : (j + 1) * 3 + i - (Fm.cells g).length = j * 3 + i := by simp [Fm.cells]; omega
    rw [e]
    exact fm_get (by simpa using h1) h2

theorem fms_new (w : World) (fs : List Fm) (cs : Array Value) (hcs : cs = (fs.flatMap Fm.cells).toArray) (n : Nat) (hn : fs.length = n) (h0 : fs ≠ []) (hl : n ≤ 100) : FmsIn (w.alloc (.cells cs 139)) (.slice (some ⟨w.heap.size, 0, none⟩) n n) fs := by
  subst hn
  refine .row w.heap.size fs h0 (by simp) (fun j f hj => ?_) hl
  have hc : ∀ (i : Nat) u, f.cells[i]? = some u → (w.alloc (.cells cs 139)).cell? ⟨w.heap.size, 0 + j * 3 + i, none⟩ = some u := fun i u hu => by
    rw [World.cell?, World.alloc_heap_new]
    have := fm_get hj hu
    simp only [hcs, Nat.zero_add]
    simpa using this
  exact ⟨hc 0 _ rfl, hc 1 _ rfl, hc 2 _ rfl⟩

def lookR : List (List UInt8 × Int × Int × List Fm) → ByteArray → Option (Int × Int × List Fm)
  | [], _ => none
  | (l, r) :: t, op => if op.toList == l then some r else lookR t op
theorem lookR_hit {l : List UInt8} {r : Int × Int × List Fm} {t : List (List UInt8 × Int × Int × List Fm)} {op : ByteArray} (h : (op.toList == l) = true) : lookR ((l, r) :: t) op = some r := by unfold lookR; rw [if_pos h]
theorem lookR_miss {l : List UInt8} {r : Int × Int × List Fm} {t : List (List UInt8 × Int × Int × List Fm)} {op : ByteArray} (h : (op.toList == l) = false) : lookR ((l, r) :: t) op = lookR t op := by simp [lookR, h]

def rtab24 : List (List UInt8 × Int × Int × List Fm) := []
def rtab23 : List (List UInt8 × Int × Int × List Fm) := ([67, 111, 110, 115, 116, 97, 110, 116], 0, 0, [⟨⟨#[118, 97, 108, 117, 101]⟩, 4, true⟩]) :: rtab24
def rtab22 : List (List UInt8 × Int × Int × List Fm) := ([66, 97, 116, 99, 104, 78, 111, 114, 109, 97, 108, 105, 122, 97, 116, 105, 111, 110], 5, 5, [⟨⟨#[101, 112, 115, 105, 108, 111, 110]⟩, 1, false⟩]) :: rtab23
def rtab21 : List (List UInt8 × Int × Int × List Fm) := ([65, 118, 101, 114, 97, 103, 101, 80, 111, 111, 108], 1, 1, [⟨⟨#[107, 101, 114, 110, 101, 108, 95, 115, 104, 97, 112, 101]⟩, 7, true⟩, ⟨⟨#[115, 116, 114, 105, 100, 101, 115]⟩, 7, false⟩, ⟨⟨#[112, 97, 100, 115]⟩, 7, false⟩]) :: rtab22
def rtab20 : List (List UInt8 × Int × Int × List Fm) := ([77, 97, 120, 80, 111, 111, 108], 1, 1, [⟨⟨#[107, 101, 114, 110, 101, 108, 95, 115, 104, 97, 112, 101]⟩, 7, true⟩, ⟨⟨#[115, 116, 114, 105, 100, 101, 115]⟩, 7, false⟩, ⟨⟨#[112, 97, 100, 115]⟩, 7, false⟩]) :: rtab21
def rtab19 : List (List UInt8 × Int × Int × List Fm) := ([67, 111, 110, 118], 2, 3, [⟨⟨#[115, 116, 114, 105, 100, 101, 115]⟩, 7, false⟩, ⟨⟨#[112, 97, 100, 115]⟩, 7, false⟩, ⟨⟨#[100, 105, 108, 97, 116, 105, 111, 110, 115]⟩, 7, false⟩, ⟨⟨#[103, 114, 111, 117, 112]⟩, 2, false⟩]) :: rtab20
def rtab18 : List (List UInt8 × Int × Int × List Fm) := ([71, 101, 109, 109], 2, 3, [⟨⟨#[116, 114, 97, 110, 115, 65]⟩, 2, false⟩, ⟨⟨#[116, 114, 97, 110, 115, 66]⟩, 2, false⟩, ⟨⟨#[97, 108, 112, 104, 97]⟩, 1, false⟩, ⟨⟨#[98, 101, 116, 97]⟩, 1, false⟩]) :: rtab19
def rtab17 : List (List UInt8 × Int × Int × List Fm) := ([83, 111, 102, 116, 109, 97, 120], 1, 1, [⟨⟨#[97, 120, 105, 115]⟩, 2, false⟩]) :: rtab18
def rtab16 : List (List UInt8 × Int × Int × List Fm) := ([70, 108, 97, 116, 116, 101, 110], 1, 1, [⟨⟨#[97, 120, 105, 115]⟩, 2, false⟩]) :: rtab17
def rtab15 : List (List UInt8 × Int × Int × List Fm) := ([85, 110, 115, 113, 117, 101, 101, 122, 101], 1, 1, [⟨⟨#[97, 120, 101, 115]⟩, 7, true⟩]) :: rtab16
def rtab14 : List (List UInt8 × Int × Int × List Fm) := ([83, 113, 117, 101, 101, 122, 101], 1, 1, [⟨⟨#[97, 120, 101, 115]⟩, 7, true⟩]) :: rtab15
def rtab13 : List (List UInt8 × Int × Int × List Fm) := ([80, 97, 100], 1, 1, [⟨⟨#[112, 97, 100, 115]⟩, 7, true⟩, ⟨⟨#[118, 97, 108, 117, 101]⟩, 1, false⟩]) :: rtab14
def rtab12 : List (List UInt8 × Int × Int × List Fm) := ([71, 97, 116, 104, 101, 114], 2, 2, [⟨⟨#[97, 120, 105, 115]⟩, 2, false⟩]) :: rtab13
def rtab11 : List (List UInt8 × Int × Int × List Fm) := ([83, 108, 105, 99, 101], 1, 1, [⟨⟨#[115, 116, 97, 114, 116, 115]⟩, 7, true⟩, ⟨⟨#[101, 110, 100, 115]⟩, 7, true⟩, ⟨⟨#[97, 120, 101, 115]⟩, 7, false⟩]) :: rtab12
def rtab10 : List (List UInt8 × Int × Int × List Fm) := ([67, 111, 110, 99, 97, 116], 1, 20, [⟨⟨#[97, 120, 105, 115]⟩, 2, true⟩]) :: rtab11
def rtab9 : List (List UInt8 × Int × Int × List Fm) := ([84, 114, 97, 110, 115, 112, 111, 115, 101], 1, 1, [⟨⟨#[112, 101, 114, 109]⟩, 7, false⟩]) :: rtab10
def rtab8 : List (List UInt8 × Int × Int × List Fm) := ([69, 120, 112, 97, 110, 100], 1, 1, [⟨⟨#[115, 104, 97, 112, 101]⟩, 7, true⟩]) :: rtab9
def rtab7 : List (List UInt8 × Int × Int × List Fm) := ([82, 101, 115, 104, 97, 112, 101], 1, 1, [⟨⟨#[115, 104, 97, 112, 101]⟩, 7, true⟩]) :: rtab8
def rtab6 : List (List UInt8 × Int × Int × List Fm) := ([65, 114, 103, 77, 97, 120], 1, 1, [⟨⟨#[97, 120, 105, 115]⟩, 2, false⟩, ⟨⟨#[107, 101, 101, 112, 100, 105, 109, 115]⟩, 2, false⟩]) :: rtab7
def rtab5 : List (List UInt8 × Int × Int × List Fm) := ([82, 101, 100, 117, 99, 101, 77, 101, 97, 110], 1, 1, [⟨⟨#[97, 120, 101, 115]⟩, 7, false⟩, ⟨⟨#[107, 101, 101, 112, 100, 105, 109, 115]⟩, 2, false⟩]) :: rtab6
def rtab4 : List (List UInt8 × Int × Int × List Fm) := ([82, 101, 100, 117, 99, 101, 77, 97, 120], 1, 1, [⟨⟨#[97, 120, 101, 115]⟩, 7, false⟩, ⟨⟨#[107, 101, 101, 112, 100, 105, 109, 115]⟩, 2, false⟩]) :: rtab5
def rtab3 : List (List UInt8 × Int × Int × List Fm) := ([82, 101, 100, 117, 99, 101, 83, 117, 109], 1, 1, [⟨⟨#[97, 120, 101, 115]⟩, 7, false⟩, ⟨⟨#[107, 101, 101, 112, 100, 105, 109, 115]⟩, 2, false⟩]) :: rtab4
def rtab2 : List (List UInt8 × Int × Int × List Fm) := ([67, 97, 115, 116], 1, 1, [⟨⟨#[116, 111]⟩, 2, true⟩]) :: rtab3
def rtab1 : List (List UInt8 × Int × Int × List Fm) := ([67, 108, 105, 112], 1, 1, [⟨⟨#[109, 105, 110]⟩, 1, false⟩, ⟨⟨#[109, 97, 120]⟩, 1, false⟩]) :: rtab2
def rtab0 : List (List UInt8 × Int × Int × List Fm) := ([87, 104, 101, 114, 101], 3, 3, []) :: rtab1

structure Ofs where
  least : Int
  most : Int
  forms : List Fm
  ok : Bool

/-- What the reference says of an operator. -/
def refOf (op : ByteArray) : Ofs :=
  if oneB op = true ∨ (op.toList == ([71, 108, 111, 98, 97, 108, 65, 118, 101, 114, 97, 103, 101, 80, 111, 111, 108] : List UInt8)) = true then ⟨1, 1, [], true⟩
  else if hasS twosL op = true ∨ (op.toList == ([77, 97, 116, 77, 117, 108] : List UInt8)) = true then ⟨2, 2, [], true⟩
  else match lookR rtab0 op with
    | some r => ⟨r.1, r.2.1, r.2.2, true⟩
    | none => ⟨0, 0, [], false⟩

def OfV (r : Ofs) (w : World) (e : Ending) (w' : World) : Prop :=
  Below w.heap.size w w' ∧ ∃ vf, e = .returned (.tuple #[.int .i64 r.least, .int .i64 r.most, vf, .bool r.ok]) ∧ FmsIn w' vf r.forms

structure Plain (op : ByteArray) : Prop where
  h1 : oneB op = false
  hG : (op.toList == ([71, 108, 111, 98, 97, 108, 65, 118, 101, 114, 97, 103, 101, 80, 111, 111, 108] : List UInt8)) = false
  h2 : hasS twosL op = false
  hM : (op.toList == ([77, 97, 116, 77, 117, 108] : List UInt8)) = false

theorem Plain.of {op : ByteArray} (h : Plain op) : refOf op = match lookR rtab0 op with | some r => ⟨r.1, r.2.1, r.2.2, true⟩ | none => ⟨0, 0, [], false⟩ := by
  unfold refOf
  rw [if_neg (by simp [h.h1, h.hG]), if_neg (by simp [h.h2, h.hM])]

attribute [local irreducible] oneB hasS twosL lookR

set_option maxRecDepth 100000 in
set_option maxHeartbeats 4000000 in
theorem rof_one (op : ByteArray) (w : World) (h1 : oneB op = true) : Calls Tryz.prog 88 #[.string op] w (OfV ⟨1, 1, [], true⟩ w) := by
  go_enter Tryz.func88, Tryz.ntmps88
  go_wp2_with fail
  refine (rone_any op _).mono ?_
  rintro e w1 ⟨rfl, B1⟩
  have H1 := Lib.hid B1
  clear B1
  rw [h1]
  go_wp2_with fail
  refine bodyPost_ret (v := .tuple #[.int .i64 1, .int .i64 1, .slice none 0 0, .bool true]) (by simp [results, Tryz.f88, go_sem]) rfl ?_
  exact ⟨H1.out, _, rfl, .empty⟩
set_option maxRecDepth 100000 in
set_option maxHeartbeats 4000000 in
theorem rof_gap (op : ByteArray) (w : World) (h1 : oneB op = false) (hG : (op.toList == ([71, 108, 111, 98, 97, 108, 65, 118, 101, 114, 97, 103, 101, 80, 111, 111, 108] : List UInt8)) = true) : Calls Tryz.prog 88 #[.string op] w (OfV ⟨1, 1, [], true⟩ w) := by
  go_enter Tryz.func88, Tryz.ntmps88
  go_wp2_with fail
  refine (rone_any op _).mono ?_
  rintro e w1 ⟨rfl, B1⟩
  have H1 := Lib.hid B1
  clear B1
  rw [h1]
  go_wp2_with fail
  refine bodyPost_ret (v := .tuple #[.int .i64 1, .int .i64 1, .slice none 0 0, .bool true]) (by simp [results, Tryz.f88, go_sem]) rfl ?_
  exact ⟨H1.out, _, rfl, .empty⟩
set_option maxRecDepth 100000 in
set_option maxHeartbeats 4000000 in
theorem rof_two (op : ByteArray) (w : World) (h1 : oneB op = false) (hG : (op.toList == ([71, 108, 111, 98, 97, 108, 65, 118, 101, 114, 97, 103, 101, 80, 111, 111, 108] : List UInt8)) = false) (h2 : hasS twosL op = true) : Calls Tryz.prog 88 #[.string op] w (OfV ⟨2, 2, [], true⟩ w) := by
  go_enter Tryz.func88, Tryz.ntmps88
  go_wp2_with fail
  refine (rone_any op _).mono ?_
  rintro e w1 ⟨rfl, B1⟩
  have H1 := Lib.hid B1
  clear B1
  rw [h1]
  go_wp2_with fail
  refine (rtwo_any op _).mono ?_
  rintro e w2 ⟨rfl, B2⟩
  have H2 := Lib.hid (H1.out.trans (B2.mono H1.out.size))
  clear B2
  rw [h2]
  go_wp2_with fail
  refine bodyPost_ret (v := .tuple #[.int .i64 2, .int .i64 2, .slice none 0 0, .bool true]) (by simp [results, Tryz.f88, go_sem]) rfl ?_
  exact ⟨H2.out, _, rfl, .empty⟩
set_option maxRecDepth 100000 in
set_option maxHeartbeats 4000000 in
theorem rof_mm (op : ByteArray) (w : World) (h1 : oneB op = false) (hG : (op.toList == ([71, 108, 111, 98, 97, 108, 65, 118, 101, 114, 97, 103, 101, 80, 111, 111, 108] : List UInt8)) = false) (h2 : hasS twosL op = false) (hM : (op.toList == ([77, 97, 116, 77, 117, 108] : List UInt8)) = true) : Calls Tryz.prog 88 #[.string op] w (OfV ⟨2, 2, [], true⟩ w) := by
  go_enter Tryz.func88, Tryz.ntmps88
  go_wp2_with fail
  refine (rone_any op _).mono ?_
  rintro e w1 ⟨rfl, B1⟩
  have H1 := Lib.hid B1
  clear B1
  rw [h1]
  go_wp2_with fail
  refine (rtwo_any op _).mono ?_
  rintro e w2 ⟨rfl, B2⟩
  have H2 := Lib.hid (H1.out.trans (B2.mono H1.out.size))
  clear B2
  rw [h2]
  go_wp2_with fail
  refine bodyPost_ret (v := .tuple #[.int .i64 2, .int .i64 2, .slice none 0 0, .bool true]) (by simp [results, Tryz.f88, go_sem]) rfl ?_
  exact ⟨H2.out, _, rfl, .empty⟩
set_option maxRecDepth 100000 in
set_option maxHeartbeats 4000000 in
theorem rof_0 (op : ByteArray) (w : World) (hp : Plain op) (g0 : (op.toList == ([87, 104, 101, 114, 101] : List UInt8)) = true) : Calls Tryz.prog 88 #[.string op] w (OfV ⟨3, 3, [], true⟩ w) := by
  obtain ⟨h1, hG, h2, hM⟩ := hp
  go_enter Tryz.func88, Tryz.ntmps88
  go_wp2_with fail
  refine (rone_any op _).mono ?_
  rintro e w1 ⟨rfl, B1⟩
  have H1 := Lib.hid B1
  clear B1
  rw [h1]
  go_wp2_with fail
  refine (rtwo_any op _).mono ?_
  rintro e w2 ⟨rfl, B2⟩
  have H2 := Lib.hid (H1.out.trans (B2.mono H1.out.size))
  clear B2
  rw [h2]
  go_wp2_with fail
  refine bodyPost_ret (v := .tuple #[.int .i64 3, .int .i64 3, .slice none 0 0, .bool true]) (by simp [results, Tryz.f88, go_sem]) rfl ?_
  exact ⟨H2.out, _, rfl, .empty⟩
set_option maxRecDepth 100000 in
set_option maxHeartbeats 4000000 in
theorem rof_1 (op : ByteArray) (w : World) (hp : Plain op) (g0 : (op.toList == ([87, 104, 101, 114, 101] : List UInt8)) = false) (g1 : (op.toList == ([67, 108, 105, 112] : List UInt8)) = true) : Calls Tryz.prog 88 #[.string op] w (OfV ⟨1, 1, [⟨⟨#[109, 105, 110]⟩, 1, false⟩, ⟨⟨#[109, 97, 120]⟩, 1, false⟩], true⟩ w) := by
  obtain ⟨h1, hG, h2, hM⟩ := hp
  go_enter Tryz.func88, Tryz.ntmps88
  go_wp2_with fail
  refine (rone_any op _).mono ?_
  rintro e w1 ⟨rfl, B1⟩
  have H1 := Lib.hid B1
  clear B1
  rw [h1]
  go_wp2_with fail
  refine (rtwo_any op _).mono ?_
  rintro e w2 ⟨rfl, B2⟩
  have H2 := Lib.hid (H1.out.trans (B2.mono H1.out.size))
  clear B2
  rw [h2]
  go_wp2_with fail
  refine (ropt_any ⟨#[109, 105, 110]⟩ 1 _).mono ?_
  rintro e w3 ⟨rfl, B⟩
  have H3 := Lib.hid (H2.out.trans (B.mono H2.out.size))
  clear B
  go_wp2_with fail
  refine (ropt_any ⟨#[109, 97, 120]⟩ 1 _).mono ?_
  rintro e w4 ⟨rfl, B⟩
  have H4 := Lib.hid (H3.out.trans (B.mono H3.out.size))
  clear B
  go_wp2_with fail
  refine bodyPost_ret (v := .tuple #[.int .i64 1, .int .i64 1, .slice (some ⟨w4.heap.size, 0, none⟩) 2 2, .bool true]) (by simp [results, Tryz.f88, go_sem]) rfl ?_
  exact ⟨H4.out.alloc H4.out.size _, _, rfl, fms_new w4 [⟨⟨#[109, 105, 110]⟩, 1, false⟩, ⟨⟨#[109, 97, 120]⟩, 1, false⟩] _ rfl 2 rfl (by simp) (by decide)⟩
set_option maxRecDepth 100000 in
set_option maxHeartbeats 4000000 in
theorem rof_2 (op : ByteArray) (w : World) (hp : Plain op) (g0 : (op.toList == ([87, 104, 101, 114, 101] : List UInt8)) = false) (g1 : (op.toList == ([67, 108, 105, 112] : List UInt8)) = false) (g2 : (op.toList == ([67, 97, 115, 116] : List UInt8)) = true) : Calls Tryz.prog 88 #[.string op] w (OfV ⟨1, 1, [⟨⟨#[116, 111]⟩, 2, true⟩], true⟩ w) := by
  obtain ⟨h1, hG, h2, hM⟩ := hp
  go_enter Tryz.func88, Tryz.ntmps88
  go_wp2_with fail
  refine (rone_any op _).mono ?_
  rintro e w1 ⟨rfl, B1⟩
  have H1 := Lib.hid B1
  clear B1
  rw [h1]
  go_wp2_with fail
  refine (rtwo_any op _).mono ?_
  rintro e w2 ⟨rfl, B2⟩
  have H2 := Lib.hid (H1.out.trans (B2.mono H1.out.size))
  clear B2
  rw [h2]
  go_wp2_with fail
  refine (rmust_any ⟨#[116, 111]⟩ 2 _).mono ?_
  rintro e w3 ⟨rfl, B⟩
  have H3 := Lib.hid (H2.out.trans (B.mono H2.out.size))
  clear B
  go_wp2_with fail
  refine bodyPost_ret (v := .tuple #[.int .i64 1, .int .i64 1, .slice (some ⟨w3.heap.size, 0, none⟩) 1 1, .bool true]) (by simp [results, Tryz.f88, go_sem]) rfl ?_
  exact ⟨H3.out.alloc H3.out.size _, _, rfl, fms_new w3 [⟨⟨#[116, 111]⟩, 2, true⟩] _ rfl 1 rfl (by simp) (by decide)⟩
set_option maxRecDepth 100000 in
set_option maxHeartbeats 4000000 in
theorem rof_3 (op : ByteArray) (w : World) (hp : Plain op) (g0 : (op.toList == ([87, 104, 101, 114, 101] : List UInt8)) = false) (g1 : (op.toList == ([67, 108, 105, 112] : List UInt8)) = false) (g2 : (op.toList == ([67, 97, 115, 116] : List UInt8)) = false) (g3 : (op.toList == ([82, 101, 100, 117, 99, 101, 83, 117, 109] : List UInt8)) = true) : Calls Tryz.prog 88 #[.string op] w (OfV ⟨1, 1, [⟨⟨#[97, 120, 101, 115]⟩, 7, false⟩, ⟨⟨#[107, 101, 101, 112, 100, 105, 109, 115]⟩, 2, false⟩], true⟩ w) := by
  obtain ⟨h1, hG, h2, hM⟩ := hp
  go_enter Tryz.func88, Tryz.ntmps88
  go_wp2_with fail
  refine (rone_any op _).mono ?_
  rintro e w1 ⟨rfl, B1⟩
  have H1 := Lib.hid B1
  clear B1
  rw [h1]
  go_wp2_with fail
  refine (rtwo_any op _).mono ?_
  rintro e w2 ⟨rfl, B2⟩
  have H2 := Lib.hid (H1.out.trans (B2.mono H1.out.size))
  clear B2
  rw [h2]
  go_wp2_with fail
  refine (ropt_any ⟨#[97, 120, 101, 115]⟩ 7 _).mono ?_
  rintro e w3 ⟨rfl, B⟩
  have H3 := Lib.hid (H2.out.trans (B.mono H2.out.size))
  clear B
  go_wp2_with fail
  refine (ropt_any ⟨#[107, 101, 101, 112, 100, 105, 109, 115]⟩ 2 _).mono ?_
  rintro e w4 ⟨rfl, B⟩
  have H4 := Lib.hid (H3.out.trans (B.mono H3.out.size))
  clear B
  go_wp2_with fail
  refine bodyPost_ret (v := .tuple #[.int .i64 1, .int .i64 1, .slice (some ⟨w4.heap.size, 0, none⟩) 2 2, .bool true]) (by simp [results, Tryz.f88, go_sem]) rfl ?_
  exact ⟨H4.out.alloc H4.out.size _, _, rfl, fms_new w4 [⟨⟨#[97, 120, 101, 115]⟩, 7, false⟩, ⟨⟨#[107, 101, 101, 112, 100, 105, 109, 115]⟩, 2, false⟩] _ rfl 2 rfl (by simp) (by decide)⟩
set_option maxRecDepth 100000 in
set_option maxHeartbeats 4000000 in
theorem rof_4 (op : ByteArray) (w : World) (hp : Plain op) (g0 : (op.toList == ([87, 104, 101, 114, 101] : List UInt8)) = false) (g1 : (op.toList == ([67, 108, 105, 112] : List UInt8)) = false) (g2 : (op.toList == ([67, 97, 115, 116] : List UInt8)) = false) (g3 : (op.toList == ([82, 101, 100, 117, 99, 101, 83, 117, 109] : List UInt8)) = false) (g4 : (op.toList == ([82, 101, 100, 117, 99, 101, 77, 97, 120] : List UInt8)) = true) : Calls Tryz.prog 88 #[.string op] w (OfV ⟨1, 1, [⟨⟨#[97, 120, 101, 115]⟩, 7, false⟩, ⟨⟨#[107, 101, 101, 112, 100, 105, 109, 115]⟩, 2, false⟩], true⟩ w) := by
  obtain ⟨h1, hG, h2, hM⟩ := hp
  go_enter Tryz.func88, Tryz.ntmps88
  go_wp2_with fail
  refine (rone_any op _).mono ?_
  rintro e w1 ⟨rfl, B1⟩
  have H1 := Lib.hid B1
  clear B1
  rw [h1]
  go_wp2_with fail
  refine (rtwo_any op _).mono ?_
  rintro e w2 ⟨rfl, B2⟩
  have H2 := Lib.hid (H1.out.trans (B2.mono H1.out.size))
  clear B2
  rw [h2]
  go_wp2_with fail
  refine (ropt_any ⟨#[97, 120, 101, 115]⟩ 7 _).mono ?_
  rintro e w3 ⟨rfl, B⟩
  have H3 := Lib.hid (H2.out.trans (B.mono H2.out.size))
  clear B
  go_wp2_with fail
  refine (ropt_any ⟨#[107, 101, 101, 112, 100, 105, 109, 115]⟩ 2 _).mono ?_
  rintro e w4 ⟨rfl, B⟩
  have H4 := Lib.hid (H3.out.trans (B.mono H3.out.size))
  clear B
  go_wp2_with fail
  refine bodyPost_ret (v := .tuple #[.int .i64 1, .int .i64 1, .slice (some ⟨w4.heap.size, 0, none⟩) 2 2, .bool true]) (by simp [results, Tryz.f88, go_sem]) rfl ?_
  exact ⟨H4.out.alloc H4.out.size _, _, rfl, fms_new w4 [⟨⟨#[97, 120, 101, 115]⟩, 7, false⟩, ⟨⟨#[107, 101, 101, 112, 100, 105, 109, 115]⟩, 2, false⟩] _ rfl 2 rfl (by simp) (by decide)⟩
set_option maxRecDepth 100000 in
set_option maxHeartbeats 4000000 in
theorem rof_5 (op : ByteArray) (w : World) (hp : Plain op) (g0 : (op.toList == ([87, 104, 101, 114, 101] : List UInt8)) = false) (g1 : (op.toList == ([67, 108, 105, 112] : List UInt8)) = false) (g2 : (op.toList == ([67, 97, 115, 116] : List UInt8)) = false) (g3 : (op.toList == ([82, 101, 100, 117, 99, 101, 83, 117, 109] : List UInt8)) = false) (g4 : (op.toList == ([82, 101, 100, 117, 99, 101, 77, 97, 120] : List UInt8)) = false) (g5 : (op.toList == ([82, 101, 100, 117, 99, 101, 77, 101, 97, 110] : List UInt8)) = true) : Calls Tryz.prog 88 #[.string op] w (OfV ⟨1, 1, [⟨⟨#[97, 120, 101, 115]⟩, 7, false⟩, ⟨⟨#[107, 101, 101, 112, 100, 105, 109, 115]⟩, 2, false⟩], true⟩ w) := by
  obtain ⟨h1, hG, h2, hM⟩ := hp
  go_enter Tryz.func88, Tryz.ntmps88
  go_wp2_with fail
  refine (rone_any op _).mono ?_
  rintro e w1 ⟨rfl, B1⟩
  have H1 := Lib.hid B1
  clear B1
  rw [h1]
  go_wp2_with fail
  refine (rtwo_any op _).mono ?_
  rintro e w2 ⟨rfl, B2⟩
  have H2 := Lib.hid (H1.out.trans (B2.mono H1.out.size))
  clear B2
  rw [h2]
  go_wp2_with fail
  refine (ropt_any ⟨#[97, 120, 101, 115]⟩ 7 _).mono ?_
  rintro e w3 ⟨rfl, B⟩
  have H3 := Lib.hid (H2.out.trans (B.mono H2.out.size))
  clear B
  go_wp2_with fail
  refine (ropt_any ⟨#[107, 101, 101, 112, 100, 105, 109, 115]⟩ 2 _).mono ?_
  rintro e w4 ⟨rfl, B⟩
  have H4 := Lib.hid (H3.out.trans (B.mono H3.out.size))
  clear B
  go_wp2_with fail
  refine bodyPost_ret (v := .tuple #[.int .i64 1, .int .i64 1, .slice (some ⟨w4.heap.size, 0, none⟩) 2 2, .bool true]) (by simp [results, Tryz.f88, go_sem]) rfl ?_
  exact ⟨H4.out.alloc H4.out.size _, _, rfl, fms_new w4 [⟨⟨#[97, 120, 101, 115]⟩, 7, false⟩, ⟨⟨#[107, 101, 101, 112, 100, 105, 109, 115]⟩, 2, false⟩] _ rfl 2 rfl (by simp) (by decide)⟩
set_option maxRecDepth 100000 in
set_option maxHeartbeats 4000000 in
theorem rof_6 (op : ByteArray) (w : World) (hp : Plain op) (g0 : (op.toList == ([87, 104, 101, 114, 101] : List UInt8)) = false) (g1 : (op.toList == ([67, 108, 105, 112] : List UInt8)) = false) (g2 : (op.toList == ([67, 97, 115, 116] : List UInt8)) = false) (g3 : (op.toList == ([82, 101, 100, 117, 99, 101, 83, 117, 109] : List UInt8)) = false) (g4 : (op.toList == ([82, 101, 100, 117, 99, 101, 77, 97, 120] : List UInt8)) = false) (g5 : (op.toList == ([82, 101, 100, 117, 99, 101, 77, 101, 97, 110] : List UInt8)) = false) (g6 : (op.toList == ([65, 114, 103, 77, 97, 120] : List UInt8)) = true) : Calls Tryz.prog 88 #[.string op] w (OfV ⟨1, 1, [⟨⟨#[97, 120, 105, 115]⟩, 2, false⟩, ⟨⟨#[107, 101, 101, 112, 100, 105, 109, 115]⟩, 2, false⟩], true⟩ w) := by
  obtain ⟨h1, hG, h2, hM⟩ := hp
  go_enter Tryz.func88, Tryz.ntmps88
  go_wp2_with fail
  refine (rone_any op _).mono ?_
  rintro e w1 ⟨rfl, B1⟩
  have H1 := Lib.hid B1
  clear B1
  rw [h1]
  go_wp2_with fail
  refine (rtwo_any op _).mono ?_
  rintro e w2 ⟨rfl, B2⟩
  have H2 := Lib.hid (H1.out.trans (B2.mono H1.out.size))
  clear B2
  rw [h2]
  go_wp2_with fail
  refine (ropt_any ⟨#[97, 120, 105, 115]⟩ 2 _).mono ?_
  rintro e w3 ⟨rfl, B⟩
  have H3 := Lib.hid (H2.out.trans (B.mono H2.out.size))
  clear B
  go_wp2_with fail
  refine (ropt_any ⟨#[107, 101, 101, 112, 100, 105, 109, 115]⟩ 2 _).mono ?_
  rintro e w4 ⟨rfl, B⟩
  have H4 := Lib.hid (H3.out.trans (B.mono H3.out.size))
  clear B
  go_wp2_with fail
  refine bodyPost_ret (v := .tuple #[.int .i64 1, .int .i64 1, .slice (some ⟨w4.heap.size, 0, none⟩) 2 2, .bool true]) (by simp [results, Tryz.f88, go_sem]) rfl ?_
  exact ⟨H4.out.alloc H4.out.size _, _, rfl, fms_new w4 [⟨⟨#[97, 120, 105, 115]⟩, 2, false⟩, ⟨⟨#[107, 101, 101, 112, 100, 105, 109, 115]⟩, 2, false⟩] _ rfl 2 rfl (by simp) (by decide)⟩
set_option maxRecDepth 100000 in
set_option maxHeartbeats 4000000 in
theorem rof_7 (op : ByteArray) (w : World) (hp : Plain op) (g0 : (op.toList == ([87, 104, 101, 114, 101] : List UInt8)) = false) (g1 : (op.toList == ([67, 108, 105, 112] : List UInt8)) = false) (g2 : (op.toList == ([67, 97, 115, 116] : List UInt8)) = false) (g3 : (op.toList == ([82, 101, 100, 117, 99, 101, 83, 117, 109] : List UInt8)) = false) (g4 : (op.toList == ([82, 101, 100, 117, 99, 101, 77, 97, 120] : List UInt8)) = false) (g5 : (op.toList == ([82, 101, 100, 117, 99, 101, 77, 101, 97, 110] : List UInt8)) = false) (g6 : (op.toList == ([65, 114, 103, 77, 97, 120] : List UInt8)) = false) (g7 : (op.toList == ([82, 101, 115, 104, 97, 112, 101] : List UInt8)) = true) : Calls Tryz.prog 88 #[.string op] w (OfV ⟨1, 1, [⟨⟨#[115, 104, 97, 112, 101]⟩, 7, true⟩], true⟩ w) := by
  obtain ⟨h1, hG, h2, hM⟩ := hp
  go_enter Tryz.func88, Tryz.ntmps88
  go_wp2_with fail
  refine (rone_any op _).mono ?_
  rintro e w1 ⟨rfl, B1⟩
  have H1 := Lib.hid B1
  clear B1
  rw [h1]
  go_wp2_with fail
  refine (rtwo_any op _).mono ?_
  rintro e w2 ⟨rfl, B2⟩
  have H2 := Lib.hid (H1.out.trans (B2.mono H1.out.size))
  clear B2
  rw [h2]
  go_wp2_with fail
  refine (rmust_any ⟨#[115, 104, 97, 112, 101]⟩ 7 _).mono ?_
  rintro e w3 ⟨rfl, B⟩
  have H3 := Lib.hid (H2.out.trans (B.mono H2.out.size))
  clear B
  go_wp2_with fail
  refine bodyPost_ret (v := .tuple #[.int .i64 1, .int .i64 1, .slice (some ⟨w3.heap.size, 0, none⟩) 1 1, .bool true]) (by simp [results, Tryz.f88, go_sem]) rfl ?_
  exact ⟨H3.out.alloc H3.out.size _, _, rfl, fms_new w3 [⟨⟨#[115, 104, 97, 112, 101]⟩, 7, true⟩] _ rfl 1 rfl (by simp) (by decide)⟩
set_option maxRecDepth 100000 in
set_option maxHeartbeats 4000000 in
theorem rof_8 (op : ByteArray) (w : World) (hp : Plain op) (g0 : (op.toList == ([87, 104, 101, 114, 101] : List UInt8)) = false) (g1 : (op.toList == ([67, 108, 105, 112] : List UInt8)) = false) (g2 : (op.toList == ([67, 97, 115, 116] : List UInt8)) = false) (g3 : (op.toList == ([82, 101, 100, 117, 99, 101, 83, 117, 109] : List UInt8)) = false) (g4 : (op.toList == ([82, 101, 100, 117, 99, 101, 77, 97, 120] : List UInt8)) = false) (g5 : (op.toList == ([82, 101, 100, 117, 99, 101, 77, 101, 97, 110] : List UInt8)) = false) (g6 : (op.toList == ([65, 114, 103, 77, 97, 120] : List UInt8)) = false) (g7 : (op.toList == ([82, 101, 115, 104, 97, 112, 101] : List UInt8)) = false) (g8 : (op.toList == ([69, 120, 112, 97, 110, 100] : List UInt8)) = true) : Calls Tryz.prog 88 #[.string op] w (OfV ⟨1, 1, [⟨⟨#[115, 104, 97, 112, 101]⟩, 7, true⟩], true⟩ w) := by
  obtain ⟨h1, hG, h2, hM⟩ := hp
  go_enter Tryz.func88, Tryz.ntmps88
  go_wp2_with fail
  refine (rone_any op _).mono ?_
  rintro e w1 ⟨rfl, B1⟩
  have H1 := Lib.hid B1
  clear B1
  rw [h1]
  go_wp2_with fail
  refine (rtwo_any op _).mono ?_
  rintro e w2 ⟨rfl, B2⟩
  have H2 := Lib.hid (H1.out.trans (B2.mono H1.out.size))
  clear B2
  rw [h2]
  go_wp2_with fail
  refine (rmust_any ⟨#[115, 104, 97, 112, 101]⟩ 7 _).mono ?_
  rintro e w3 ⟨rfl, B⟩
  have H3 := Lib.hid (H2.out.trans (B.mono H2.out.size))
  clear B
  go_wp2_with fail
  refine bodyPost_ret (v := .tuple #[.int .i64 1, .int .i64 1, .slice (some ⟨w3.heap.size, 0, none⟩) 1 1, .bool true]) (by simp [results, Tryz.f88, go_sem]) rfl ?_
  exact ⟨H3.out.alloc H3.out.size _, _, rfl, fms_new w3 [⟨⟨#[115, 104, 97, 112, 101]⟩, 7, true⟩] _ rfl 1 rfl (by simp) (by decide)⟩
set_option maxRecDepth 100000 in
set_option maxHeartbeats 4000000 in
theorem rof_9 (op : ByteArray) (w : World) (hp : Plain op) (g0 : (op.toList == ([87, 104, 101, 114, 101] : List UInt8)) = false) (g1 : (op.toList == ([67, 108, 105, 112] : List UInt8)) = false) (g2 : (op.toList == ([67, 97, 115, 116] : List UInt8)) = false) (g3 : (op.toList == ([82, 101, 100, 117, 99, 101, 83, 117, 109] : List UInt8)) = false) (g4 : (op.toList == ([82, 101, 100, 117, 99, 101, 77, 97, 120] : List UInt8)) = false) (g5 : (op.toList == ([82, 101, 100, 117, 99, 101, 77, 101, 97, 110] : List UInt8)) = false) (g6 : (op.toList == ([65, 114, 103, 77, 97, 120] : List UInt8)) = false) (g7 : (op.toList == ([82, 101, 115, 104, 97, 112, 101] : List UInt8)) = false) (g8 : (op.toList == ([69, 120, 112, 97, 110, 100] : List UInt8)) = false) (g9 : (op.toList == ([84, 114, 97, 110, 115, 112, 111, 115, 101] : List UInt8)) = true) : Calls Tryz.prog 88 #[.string op] w (OfV ⟨1, 1, [⟨⟨#[112, 101, 114, 109]⟩, 7, false⟩], true⟩ w) := by
  obtain ⟨h1, hG, h2, hM⟩ := hp
  go_enter Tryz.func88, Tryz.ntmps88
  go_wp2_with fail
  refine (rone_any op _).mono ?_
  rintro e w1 ⟨rfl, B1⟩
  have H1 := Lib.hid B1
  clear B1
  rw [h1]
  go_wp2_with fail
  refine (rtwo_any op _).mono ?_
  rintro e w2 ⟨rfl, B2⟩
  have H2 := Lib.hid (H1.out.trans (B2.mono H1.out.size))
  clear B2
  rw [h2]
  go_wp2_with fail
  refine (ropt_any ⟨#[112, 101, 114, 109]⟩ 7 _).mono ?_
  rintro e w3 ⟨rfl, B⟩
  have H3 := Lib.hid (H2.out.trans (B.mono H2.out.size))
  clear B
  go_wp2_with fail
  refine bodyPost_ret (v := .tuple #[.int .i64 1, .int .i64 1, .slice (some ⟨w3.heap.size, 0, none⟩) 1 1, .bool true]) (by simp [results, Tryz.f88, go_sem]) rfl ?_
  exact ⟨H3.out.alloc H3.out.size _, _, rfl, fms_new w3 [⟨⟨#[112, 101, 114, 109]⟩, 7, false⟩] _ rfl 1 rfl (by simp) (by decide)⟩
set_option maxRecDepth 100000 in
set_option maxHeartbeats 4000000 in
theorem rof_10 (op : ByteArray) (w : World) (hp : Plain op) (g0 : (op.toList == ([87, 104, 101, 114, 101] : List UInt8)) = false) (g1 : (op.toList == ([67, 108, 105, 112] : List UInt8)) = false) (g2 : (op.toList == ([67, 97, 115, 116] : List UInt8)) = false) (g3 : (op.toList == ([82, 101, 100, 117, 99, 101, 83, 117, 109] : List UInt8)) = false) (g4 : (op.toList == ([82, 101, 100, 117, 99, 101, 77, 97, 120] : List UInt8)) = false) (g5 : (op.toList == ([82, 101, 100, 117, 99, 101, 77, 101, 97, 110] : List UInt8)) = false) (g6 : (op.toList == ([65, 114, 103, 77, 97, 120] : List UInt8)) = false) (g7 : (op.toList == ([82, 101, 115, 104, 97, 112, 101] : List UInt8)) = false) (g8 : (op.toList == ([69, 120, 112, 97, 110, 100] : List UInt8)) = false) (g9 : (op.toList == ([84, 114, 97, 110, 115, 112, 111, 115, 101] : List UInt8)) = false) (g10 : (op.toList == ([67, 111, 110, 99, 97, 116] : List UInt8)) = true) : Calls Tryz.prog 88 #[.string op] w (OfV ⟨1, 20, [⟨⟨#[97, 120, 105, 115]⟩, 2, true⟩], true⟩ w) := by
  obtain ⟨h1, hG, h2, hM⟩ := hp
  go_enter Tryz.func88, Tryz.ntmps88
  go_wp2_with fail
  refine (rone_any op _).mono ?_
  rintro e w1 ⟨rfl, B1⟩
  have H1 := Lib.hid B1
  clear B1
  rw [h1]
  go_wp2_with fail
  refine (rtwo_any op _).mono ?_
  rintro e w2 ⟨rfl, B2⟩
  have H2 := Lib.hid (H1.out.trans (B2.mono H1.out.size))
  clear B2
  rw [h2]
  go_wp2_with fail
  refine (rmust_any ⟨#[97, 120, 105, 115]⟩ 2 _).mono ?_
  rintro e w3 ⟨rfl, B⟩
  have H3 := Lib.hid (H2.out.trans (B.mono H2.out.size))
  clear B
  go_wp2_with fail
  refine bodyPost_ret (v := .tuple #[.int .i64 1, .int .i64 20, .slice (some ⟨w3.heap.size, 0, none⟩) 1 1, .bool true]) (by simp [results, Tryz.f88, go_sem]) rfl ?_
  exact ⟨H3.out.alloc H3.out.size _, _, rfl, fms_new w3 [⟨⟨#[97, 120, 105, 115]⟩, 2, true⟩] _ rfl 1 rfl (by simp) (by decide)⟩
set_option maxRecDepth 100000 in
set_option maxHeartbeats 4000000 in
theorem rof_11 (op : ByteArray) (w : World) (hp : Plain op) (g0 : (op.toList == ([87, 104, 101, 114, 101] : List UInt8)) = false) (g1 : (op.toList == ([67, 108, 105, 112] : List UInt8)) = false) (g2 : (op.toList == ([67, 97, 115, 116] : List UInt8)) = false) (g3 : (op.toList == ([82, 101, 100, 117, 99, 101, 83, 117, 109] : List UInt8)) = false) (g4 : (op.toList == ([82, 101, 100, 117, 99, 101, 77, 97, 120] : List UInt8)) = false) (g5 : (op.toList == ([82, 101, 100, 117, 99, 101, 77, 101, 97, 110] : List UInt8)) = false) (g6 : (op.toList == ([65, 114, 103, 77, 97, 120] : List UInt8)) = false) (g7 : (op.toList == ([82, 101, 115, 104, 97, 112, 101] : List UInt8)) = false) (g8 : (op.toList == ([69, 120, 112, 97, 110, 100] : List UInt8)) = false) (g9 : (op.toList == ([84, 114, 97, 110, 115, 112, 111, 115, 101] : List UInt8)) = false) (g10 : (op.toList == ([67, 111, 110, 99, 97, 116] : List UInt8)) = false) (g11 : (op.toList == ([83, 108, 105, 99, 101] : List UInt8)) = true) : Calls Tryz.prog 88 #[.string op] w (OfV ⟨1, 1, [⟨⟨#[115, 116, 97, 114, 116, 115]⟩, 7, true⟩, ⟨⟨#[101, 110, 100, 115]⟩, 7, true⟩, ⟨⟨#[97, 120, 101, 115]⟩, 7, false⟩], true⟩ w) := by
  obtain ⟨h1, hG, h2, hM⟩ := hp
  go_enter Tryz.func88, Tryz.ntmps88
  go_wp2_with fail
  refine (rone_any op _).mono ?_
  rintro e w1 ⟨rfl, B1⟩
  have H1 := Lib.hid B1
  clear B1
  rw [h1]
  go_wp2_with fail
  refine (rtwo_any op _).mono ?_
  rintro e w2 ⟨rfl, B2⟩
  have H2 := Lib.hid (H1.out.trans (B2.mono H1.out.size))
  clear B2
  rw [h2]
  go_wp2_with fail
  refine (rmust_any ⟨#[115, 116, 97, 114, 116, 115]⟩ 7 _).mono ?_
  rintro e w3 ⟨rfl, B⟩
  have H3 := Lib.hid (H2.out.trans (B.mono H2.out.size))
  clear B
  go_wp2_with fail
  refine (rmust_any ⟨#[101, 110, 100, 115]⟩ 7 _).mono ?_
  rintro e w4 ⟨rfl, B⟩
  have H4 := Lib.hid (H3.out.trans (B.mono H3.out.size))
  clear B
  go_wp2_with fail
  refine (ropt_any ⟨#[97, 120, 101, 115]⟩ 7 _).mono ?_
  rintro e w5 ⟨rfl, B⟩
  have H5 := Lib.hid (H4.out.trans (B.mono H4.out.size))
  clear B
  go_wp2_with fail
  refine bodyPost_ret (v := .tuple #[.int .i64 1, .int .i64 1, .slice (some ⟨w5.heap.size, 0, none⟩) 3 3, .bool true]) (by simp [results, Tryz.f88, go_sem]) rfl ?_
  exact ⟨H5.out.alloc H5.out.size _, _, rfl, fms_new w5 [⟨⟨#[115, 116, 97, 114, 116, 115]⟩, 7, true⟩, ⟨⟨#[101, 110, 100, 115]⟩, 7, true⟩, ⟨⟨#[97, 120, 101, 115]⟩, 7, false⟩] _ rfl 3 rfl (by simp) (by decide)⟩
set_option maxRecDepth 100000 in
set_option maxHeartbeats 4000000 in
theorem rof_12 (op : ByteArray) (w : World) (hp : Plain op) (g0 : (op.toList == ([87, 104, 101, 114, 101] : List UInt8)) = false) (g1 : (op.toList == ([67, 108, 105, 112] : List UInt8)) = false) (g2 : (op.toList == ([67, 97, 115, 116] : List UInt8)) = false) (g3 : (op.toList == ([82, 101, 100, 117, 99, 101, 83, 117, 109] : List UInt8)) = false) (g4 : (op.toList == ([82, 101, 100, 117, 99, 101, 77, 97, 120] : List UInt8)) = false) (g5 : (op.toList == ([82, 101, 100, 117, 99, 101, 77, 101, 97, 110] : List UInt8)) = false) (g6 : (op.toList == ([65, 114, 103, 77, 97, 120] : List UInt8)) = false) (g7 : (op.toList == ([82, 101, 115, 104, 97, 112, 101] : List UInt8)) = false) (g8 : (op.toList == ([69, 120, 112, 97, 110, 100] : List UInt8)) = false) (g9 : (op.toList == ([84, 114, 97, 110, 115, 112, 111, 115, 101] : List UInt8)) = false) (g10 : (op.toList == ([67, 111, 110, 99, 97, 116] : List UInt8)) = false) (g11 : (op.toList == ([83, 108, 105, 99, 101] : List UInt8)) = false) (g12 : (op.toList == ([71, 97, 116, 104, 101, 114] : List UInt8)) = true) : Calls Tryz.prog 88 #[.string op] w (OfV ⟨2, 2, [⟨⟨#[97, 120, 105, 115]⟩, 2, false⟩], true⟩ w) := by
  obtain ⟨h1, hG, h2, hM⟩ := hp
  go_enter Tryz.func88, Tryz.ntmps88
  go_wp2_with fail
  refine (rone_any op _).mono ?_
  rintro e w1 ⟨rfl, B1⟩
  have H1 := Lib.hid B1
  clear B1
  rw [h1]
  go_wp2_with fail
  refine (rtwo_any op _).mono ?_
  rintro e w2 ⟨rfl, B2⟩
  have H2 := Lib.hid (H1.out.trans (B2.mono H1.out.size))
  clear B2
  rw [h2]
  go_wp2_with fail
  refine (ropt_any ⟨#[97, 120, 105, 115]⟩ 2 _).mono ?_
  rintro e w3 ⟨rfl, B⟩
  have H3 := Lib.hid (H2.out.trans (B.mono H2.out.size))
  clear B
  go_wp2_with fail
  refine bodyPost_ret (v := .tuple #[.int .i64 2, .int .i64 2, .slice (some ⟨w3.heap.size, 0, none⟩) 1 1, .bool true]) (by simp [results, Tryz.f88, go_sem]) rfl ?_
  exact ⟨H3.out.alloc H3.out.size _, _, rfl, fms_new w3 [⟨⟨#[97, 120, 105, 115]⟩, 2, false⟩] _ rfl 1 rfl (by simp) (by decide)⟩
set_option maxRecDepth 100000 in
set_option maxHeartbeats 4000000 in
theorem rof_13 (op : ByteArray) (w : World) (hp : Plain op) (g0 : (op.toList == ([87, 104, 101, 114, 101] : List UInt8)) = false) (g1 : (op.toList == ([67, 108, 105, 112] : List UInt8)) = false) (g2 : (op.toList == ([67, 97, 115, 116] : List UInt8)) = false) (g3 : (op.toList == ([82, 101, 100, 117, 99, 101, 83, 117, 109] : List UInt8)) = false) (g4 : (op.toList == ([82, 101, 100, 117, 99, 101, 77, 97, 120] : List UInt8)) = false) (g5 : (op.toList == ([82, 101, 100, 117, 99, 101, 77, 101, 97, 110] : List UInt8)) = false) (g6 : (op.toList == ([65, 114, 103, 77, 97, 120] : List UInt8)) = false) (g7 : (op.toList == ([82, 101, 115, 104, 97, 112, 101] : List UInt8)) = false) (g8 : (op.toList == ([69, 120, 112, 97, 110, 100] : List UInt8)) = false) (g9 : (op.toList == ([84, 114, 97, 110, 115, 112, 111, 115, 101] : List UInt8)) = false) (g10 : (op.toList == ([67, 111, 110, 99, 97, 116] : List UInt8)) = false) (g11 : (op.toList == ([83, 108, 105, 99, 101] : List UInt8)) = false) (g12 : (op.toList == ([71, 97, 116, 104, 101, 114] : List UInt8)) = false) (g13 : (op.toList == ([80, 97, 100] : List UInt8)) = true) : Calls Tryz.prog 88 #[.string op] w (OfV ⟨1, 1, [⟨⟨#[112, 97, 100, 115]⟩, 7, true⟩, ⟨⟨#[118, 97, 108, 117, 101]⟩, 1, false⟩], true⟩ w) := by
  obtain ⟨h1, hG, h2, hM⟩ := hp
  go_enter Tryz.func88, Tryz.ntmps88
  go_wp2_with fail
  refine (rone_any op _).mono ?_
  rintro e w1 ⟨rfl, B1⟩
  have H1 := Lib.hid B1
  clear B1
  rw [h1]
  go_wp2_with fail
  refine (rtwo_any op _).mono ?_
  rintro e w2 ⟨rfl, B2⟩
  have H2 := Lib.hid (H1.out.trans (B2.mono H1.out.size))
  clear B2
  rw [h2]
  go_wp2_with fail
  refine (rmust_any ⟨#[112, 97, 100, 115]⟩ 7 _).mono ?_
  rintro e w3 ⟨rfl, B⟩
  have H3 := Lib.hid (H2.out.trans (B.mono H2.out.size))
  clear B
  go_wp2_with fail
  refine (ropt_any ⟨#[118, 97, 108, 117, 101]⟩ 1 _).mono ?_
  rintro e w4 ⟨rfl, B⟩
  have H4 := Lib.hid (H3.out.trans (B.mono H3.out.size))
  clear B
  go_wp2_with fail
  refine bodyPost_ret (v := .tuple #[.int .i64 1, .int .i64 1, .slice (some ⟨w4.heap.size, 0, none⟩) 2 2, .bool true]) (by simp [results, Tryz.f88, go_sem]) rfl ?_
  exact ⟨H4.out.alloc H4.out.size _, _, rfl, fms_new w4 [⟨⟨#[112, 97, 100, 115]⟩, 7, true⟩, ⟨⟨#[118, 97, 108, 117, 101]⟩, 1, false⟩] _ rfl 2 rfl (by simp) (by decide)⟩
set_option maxRecDepth 100000 in
set_option maxHeartbeats 4000000 in
theorem rof_14 (op : ByteArray) (w : World) (hp : Plain op) (g0 : (op.toList == ([87, 104, 101, 114, 101] : List UInt8)) = false) (g1 : (op.toList == ([67, 108, 105, 112] : List UInt8)) = false) (g2 : (op.toList == ([67, 97, 115, 116] : List UInt8)) = false) (g3 : (op.toList == ([82, 101, 100, 117, 99, 101, 83, 117, 109] : List UInt8)) = false) (g4 : (op.toList == ([82, 101, 100, 117, 99, 101, 77, 97, 120] : List UInt8)) = false) (g5 : (op.toList == ([82, 101, 100, 117, 99, 101, 77, 101, 97, 110] : List UInt8)) = false) (g6 : (op.toList == ([65, 114, 103, 77, 97, 120] : List UInt8)) = false) (g7 : (op.toList == ([82, 101, 115, 104, 97, 112, 101] : List UInt8)) = false) (g8 : (op.toList == ([69, 120, 112, 97, 110, 100] : List UInt8)) = false) (g9 : (op.toList == ([84, 114, 97, 110, 115, 112, 111, 115, 101] : List UInt8)) = false) (g10 : (op.toList == ([67, 111, 110, 99, 97, 116] : List UInt8)) = false) (g11 : (op.toList == ([83, 108, 105, 99, 101] : List UInt8)) = false) (g12 : (op.toList == ([71, 97, 116, 104, 101, 114] : List UInt8)) = false) (g13 : (op.toList == ([80, 97, 100] : List UInt8)) = false) (g14 : (op.toList == ([83, 113, 117, 101, 101, 122, 101] : List UInt8)) = true) : Calls Tryz.prog 88 #[.string op] w (OfV ⟨1, 1, [⟨⟨#[97, 120, 101, 115]⟩, 7, true⟩], true⟩ w) := by
  obtain ⟨h1, hG, h2, hM⟩ := hp
  go_enter Tryz.func88, Tryz.ntmps88
  go_wp2_with fail
  refine (rone_any op _).mono ?_
  rintro e w1 ⟨rfl, B1⟩
  have H1 := Lib.hid B1
  clear B1
  rw [h1]
  go_wp2_with fail
  refine (rtwo_any op _).mono ?_
  rintro e w2 ⟨rfl, B2⟩
  have H2 := Lib.hid (H1.out.trans (B2.mono H1.out.size))
  clear B2
  rw [h2]
  go_wp2_with fail
  refine (rmust_any ⟨#[97, 120, 101, 115]⟩ 7 _).mono ?_
  rintro e w3 ⟨rfl, B⟩
  have H3 := Lib.hid (H2.out.trans (B.mono H2.out.size))
  clear B
  go_wp2_with fail
  refine bodyPost_ret (v := .tuple #[.int .i64 1, .int .i64 1, .slice (some ⟨w3.heap.size, 0, none⟩) 1 1, .bool true]) (by simp [results, Tryz.f88, go_sem]) rfl ?_
  exact ⟨H3.out.alloc H3.out.size _, _, rfl, fms_new w3 [⟨⟨#[97, 120, 101, 115]⟩, 7, true⟩] _ rfl 1 rfl (by simp) (by decide)⟩
set_option maxRecDepth 100000 in
set_option maxHeartbeats 4000000 in
theorem rof_15 (op : ByteArray) (w : World) (hp : Plain op) (g0 : (op.toList == ([87, 104, 101, 114, 101] : List UInt8)) = false) (g1 : (op.toList == ([67, 108, 105, 112] : List UInt8)) = false) (g2 : (op.toList == ([67, 97, 115, 116] : List UInt8)) = false) (g3 : (op.toList == ([82, 101, 100, 117, 99, 101, 83, 117, 109] : List UInt8)) = false) (g4 : (op.toList == ([82, 101, 100, 117, 99, 101, 77, 97, 120] : List UInt8)) = false) (g5 : (op.toList == ([82, 101, 100, 117, 99, 101, 77, 101, 97, 110] : List UInt8)) = false) (g6 : (op.toList == ([65, 114, 103, 77, 97, 120] : List UInt8)) = false) (g7 : (op.toList == ([82, 101, 115, 104, 97, 112, 101] : List UInt8)) = false) (g8 : (op.toList == ([69, 120, 112, 97, 110, 100] : List UInt8)) = false) (g9 : (op.toList == ([84, 114, 97, 110, 115, 112, 111, 115, 101] : List UInt8)) = false) (g10 : (op.toList == ([67, 111, 110, 99, 97, 116] : List UInt8)) = false) (g11 : (op.toList == ([83, 108, 105, 99, 101] : List UInt8)) = false) (g12 : (op.toList == ([71, 97, 116, 104, 101, 114] : List UInt8)) = false) (g13 : (op.toList == ([80, 97, 100] : List UInt8)) = false) (g14 : (op.toList == ([83, 113, 117, 101, 101, 122, 101] : List UInt8)) = false) (g15 : (op.toList == ([85, 110, 115, 113, 117, 101, 101, 122, 101] : List UInt8)) = true) : Calls Tryz.prog 88 #[.string op] w (OfV ⟨1, 1, [⟨⟨#[97, 120, 101, 115]⟩, 7, true⟩], true⟩ w) := by
  obtain ⟨h1, hG, h2, hM⟩ := hp
  go_enter Tryz.func88, Tryz.ntmps88
  go_wp2_with fail
  refine (rone_any op _).mono ?_
  rintro e w1 ⟨rfl, B1⟩
  have H1 := Lib.hid B1
  clear B1
  rw [h1]
  go_wp2_with fail
  refine (rtwo_any op _).mono ?_
  rintro e w2 ⟨rfl, B2⟩
  have H2 := Lib.hid (H1.out.trans (B2.mono H1.out.size))
  clear B2
  rw [h2]
  go_wp2_with fail
  refine (rmust_any ⟨#[97, 120, 101, 115]⟩ 7 _).mono ?_
  rintro e w3 ⟨rfl, B⟩
  have H3 := Lib.hid (H2.out.trans (B.mono H2.out.size))
  clear B
  go_wp2_with fail
  refine bodyPost_ret (v := .tuple #[.int .i64 1, .int .i64 1, .slice (some ⟨w3.heap.size, 0, none⟩) 1 1, .bool true]) (by simp [results, Tryz.f88, go_sem]) rfl ?_
  exact ⟨H3.out.alloc H3.out.size _, _, rfl, fms_new w3 [⟨⟨#[97, 120, 101, 115]⟩, 7, true⟩] _ rfl 1 rfl (by simp) (by decide)⟩
set_option maxRecDepth 100000 in
set_option maxHeartbeats 4000000 in
theorem rof_16 (op : ByteArray) (w : World) (hp : Plain op) (g0 : (op.toList == ([87, 104, 101, 114, 101] : List UInt8)) = false) (g1 : (op.toList == ([67, 108, 105, 112] : List UInt8)) = false) (g2 : (op.toList == ([67, 97, 115, 116] : List UInt8)) = false) (g3 : (op.toList == ([82, 101, 100, 117, 99, 101, 83, 117, 109] : List UInt8)) = false) (g4 : (op.toList == ([82, 101, 100, 117, 99, 101, 77, 97, 120] : List UInt8)) = false) (g5 : (op.toList == ([82, 101, 100, 117, 99, 101, 77, 101, 97, 110] : List UInt8)) = false) (g6 : (op.toList == ([65, 114, 103, 77, 97, 120] : List UInt8)) = false) (g7 : (op.toList == ([82, 101, 115, 104, 97, 112, 101] : List UInt8)) = false) (g8 : (op.toList == ([69, 120, 112, 97, 110, 100] : List UInt8)) = false) (g9 : (op.toList == ([84, 114, 97, 110, 115, 112, 111, 115, 101] : List UInt8)) = false) (g10 : (op.toList == ([67, 111, 110, 99, 97, 116] : List UInt8)) = false) (g11 : (op.toList == ([83, 108, 105, 99, 101] : List UInt8)) = false) (g12 : (op.toList == ([71, 97, 116, 104, 101, 114] : List UInt8)) = false) (g13 : (op.toList == ([80, 97, 100] : List UInt8)) = false) (g14 : (op.toList == ([83, 113, 117, 101, 101, 122, 101] : List UInt8)) = false) (g15 : (op.toList == ([85, 110, 115, 113, 117, 101, 101, 122, 101] : List UInt8)) = false) (g16 : (op.toList == ([70, 108, 97, 116, 116, 101, 110] : List UInt8)) = true) : Calls Tryz.prog 88 #[.string op] w (OfV ⟨1, 1, [⟨⟨#[97, 120, 105, 115]⟩, 2, false⟩], true⟩ w) := by
  obtain ⟨h1, hG, h2, hM⟩ := hp
  go_enter Tryz.func88, Tryz.ntmps88
  go_wp2_with fail
  refine (rone_any op _).mono ?_
  rintro e w1 ⟨rfl, B1⟩
  have H1 := Lib.hid B1
  clear B1
  rw [h1]
  go_wp2_with fail
  refine (rtwo_any op _).mono ?_
  rintro e w2 ⟨rfl, B2⟩
  have H2 := Lib.hid (H1.out.trans (B2.mono H1.out.size))
  clear B2
  rw [h2]
  go_wp2_with fail
  refine (ropt_any ⟨#[97, 120, 105, 115]⟩ 2 _).mono ?_
  rintro e w3 ⟨rfl, B⟩
  have H3 := Lib.hid (H2.out.trans (B.mono H2.out.size))
  clear B
  go_wp2_with fail
  refine bodyPost_ret (v := .tuple #[.int .i64 1, .int .i64 1, .slice (some ⟨w3.heap.size, 0, none⟩) 1 1, .bool true]) (by simp [results, Tryz.f88, go_sem]) rfl ?_
  exact ⟨H3.out.alloc H3.out.size _, _, rfl, fms_new w3 [⟨⟨#[97, 120, 105, 115]⟩, 2, false⟩] _ rfl 1 rfl (by simp) (by decide)⟩
set_option maxRecDepth 100000 in
set_option maxHeartbeats 4000000 in
theorem rof_17 (op : ByteArray) (w : World) (hp : Plain op) (g0 : (op.toList == ([87, 104, 101, 114, 101] : List UInt8)) = false) (g1 : (op.toList == ([67, 108, 105, 112] : List UInt8)) = false) (g2 : (op.toList == ([67, 97, 115, 116] : List UInt8)) = false) (g3 : (op.toList == ([82, 101, 100, 117, 99, 101, 83, 117, 109] : List UInt8)) = false) (g4 : (op.toList == ([82, 101, 100, 117, 99, 101, 77, 97, 120] : List UInt8)) = false) (g5 : (op.toList == ([82, 101, 100, 117, 99, 101, 77, 101, 97, 110] : List UInt8)) = false) (g6 : (op.toList == ([65, 114, 103, 77, 97, 120] : List UInt8)) = false) (g7 : (op.toList == ([82, 101, 115, 104, 97, 112, 101] : List UInt8)) = false) (g8 : (op.toList == ([69, 120, 112, 97, 110, 100] : List UInt8)) = false) (g9 : (op.toList == ([84, 114, 97, 110, 115, 112, 111, 115, 101] : List UInt8)) = false) (g10 : (op.toList == ([67, 111, 110, 99, 97, 116] : List UInt8)) = false) (g11 : (op.toList == ([83, 108, 105, 99, 101] : List UInt8)) = false) (g12 : (op.toList == ([71, 97, 116, 104, 101, 114] : List UInt8)) = false) (g13 : (op.toList == ([80, 97, 100] : List UInt8)) = false) (g14 : (op.toList == ([83, 113, 117, 101, 101, 122, 101] : List UInt8)) = false) (g15 : (op.toList == ([85, 110, 115, 113, 117, 101, 101, 122, 101] : List UInt8)) = false) (g16 : (op.toList == ([70, 108, 97, 116, 116, 101, 110] : List UInt8)) = false) (g17 : (op.toList == ([83, 111, 102, 116, 109, 97, 120] : List UInt8)) = true) : Calls Tryz.prog 88 #[.string op] w (OfV ⟨1, 1, [⟨⟨#[97, 120, 105, 115]⟩, 2, false⟩], true⟩ w) := by
  obtain ⟨h1, hG, h2, hM⟩ := hp
  go_enter Tryz.func88, Tryz.ntmps88
  go_wp2_with fail
  refine (rone_any op _).mono ?_
  rintro e w1 ⟨rfl, B1⟩
  have H1 := Lib.hid B1
  clear B1
  rw [h1]
  go_wp2_with fail
  refine (rtwo_any op _).mono ?_
  rintro e w2 ⟨rfl, B2⟩
  have H2 := Lib.hid (H1.out.trans (B2.mono H1.out.size))
  clear B2
  rw [h2]
  go_wp2_with fail
  refine (ropt_any ⟨#[97, 120, 105, 115]⟩ 2 _).mono ?_
  rintro e w3 ⟨rfl, B⟩
  have H3 := Lib.hid (H2.out.trans (B.mono H2.out.size))
  clear B
  go_wp2_with fail
  refine bodyPost_ret (v := .tuple #[.int .i64 1, .int .i64 1, .slice (some ⟨w3.heap.size, 0, none⟩) 1 1, .bool true]) (by simp [results, Tryz.f88, go_sem]) rfl ?_
  exact ⟨H3.out.alloc H3.out.size _, _, rfl, fms_new w3 [⟨⟨#[97, 120, 105, 115]⟩, 2, false⟩] _ rfl 1 rfl (by simp) (by decide)⟩
set_option maxRecDepth 100000 in
set_option maxHeartbeats 4000000 in
theorem rof_18 (op : ByteArray) (w : World) (hp : Plain op) (g0 : (op.toList == ([87, 104, 101, 114, 101] : List UInt8)) = false) (g1 : (op.toList == ([67, 108, 105, 112] : List UInt8)) = false) (g2 : (op.toList == ([67, 97, 115, 116] : List UInt8)) = false) (g3 : (op.toList == ([82, 101, 100, 117, 99, 101, 83, 117, 109] : List UInt8)) = false) (g4 : (op.toList == ([82, 101, 100, 117, 99, 101, 77, 97, 120] : List UInt8)) = false) (g5 : (op.toList == ([82, 101, 100, 117, 99, 101, 77, 101, 97, 110] : List UInt8)) = false) (g6 : (op.toList == ([65, 114, 103, 77, 97, 120] : List UInt8)) = false) (g7 : (op.toList == ([82, 101, 115, 104, 97, 112, 101] : List UInt8)) = false) (g8 : (op.toList == ([69, 120, 112, 97, 110, 100] : List UInt8)) = false) (g9 : (op.toList == ([84, 114, 97, 110, 115, 112, 111, 115, 101] : List UInt8)) = false) (g10 : (op.toList == ([67, 111, 110, 99, 97, 116] : List UInt8)) = false) (g11 : (op.toList == ([83, 108, 105, 99, 101] : List UInt8)) = false) (g12 : (op.toList == ([71, 97, 116, 104, 101, 114] : List UInt8)) = false) (g13 : (op.toList == ([80, 97, 100] : List UInt8)) = false) (g14 : (op.toList == ([83, 113, 117, 101, 101, 122, 101] : List UInt8)) = false) (g15 : (op.toList == ([85, 110, 115, 113, 117, 101, 101, 122, 101] : List UInt8)) = false) (g16 : (op.toList == ([70, 108, 97, 116, 116, 101, 110] : List UInt8)) = false) (g17 : (op.toList == ([83, 111, 102, 116, 109, 97, 120] : List UInt8)) = false) (g18 : (op.toList == ([71, 101, 109, 109] : List UInt8)) = true) : Calls Tryz.prog 88 #[.string op] w (OfV ⟨2, 3, [⟨⟨#[116, 114, 97, 110, 115, 65]⟩, 2, false⟩, ⟨⟨#[116, 114, 97, 110, 115, 66]⟩, 2, false⟩, ⟨⟨#[97, 108, 112, 104, 97]⟩, 1, false⟩, ⟨⟨#[98, 101, 116, 97]⟩, 1, false⟩], true⟩ w) := by
  obtain ⟨h1, hG, h2, hM⟩ := hp
  go_enter Tryz.func88, Tryz.ntmps88
  go_wp2_with fail
  refine (rone_any op _).mono ?_
  rintro e w1 ⟨rfl, B1⟩
  have H1 := Lib.hid B1
  clear B1
  rw [h1]
  go_wp2_with fail
  refine (rtwo_any op _).mono ?_
  rintro e w2 ⟨rfl, B2⟩
  have H2 := Lib.hid (H1.out.trans (B2.mono H1.out.size))
  clear B2
  rw [h2]
  go_wp2_with fail
  refine (ropt_any ⟨#[116, 114, 97, 110, 115, 65]⟩ 2 _).mono ?_
  rintro e w3 ⟨rfl, B⟩
  have H3 := Lib.hid (H2.out.trans (B.mono H2.out.size))
  clear B
  go_wp2_with fail
  refine (ropt_any ⟨#[116, 114, 97, 110, 115, 66]⟩ 2 _).mono ?_
  rintro e w4 ⟨rfl, B⟩
  have H4 := Lib.hid (H3.out.trans (B.mono H3.out.size))
  clear B
  go_wp2_with fail
  refine (ropt_any ⟨#[97, 108, 112, 104, 97]⟩ 1 _).mono ?_
  rintro e w5 ⟨rfl, B⟩
  have H5 := Lib.hid (H4.out.trans (B.mono H4.out.size))
  clear B
  go_wp2_with fail
  refine (ropt_any ⟨#[98, 101, 116, 97]⟩ 1 _).mono ?_
  rintro e w6 ⟨rfl, B⟩
  have H6 := Lib.hid (H5.out.trans (B.mono H5.out.size))
  clear B
  go_wp2_with fail
  refine bodyPost_ret (v := .tuple #[.int .i64 2, .int .i64 3, .slice (some ⟨w6.heap.size, 0, none⟩) 4 4, .bool true]) (by simp [results, Tryz.f88, go_sem]) rfl ?_
  exact ⟨H6.out.alloc H6.out.size _, _, rfl, fms_new w6 [⟨⟨#[116, 114, 97, 110, 115, 65]⟩, 2, false⟩, ⟨⟨#[116, 114, 97, 110, 115, 66]⟩, 2, false⟩, ⟨⟨#[97, 108, 112, 104, 97]⟩, 1, false⟩, ⟨⟨#[98, 101, 116, 97]⟩, 1, false⟩] _ rfl 4 rfl (by simp) (by decide)⟩
set_option maxRecDepth 100000 in
set_option maxHeartbeats 4000000 in
theorem rof_19 (op : ByteArray) (w : World) (hp : Plain op) (g0 : (op.toList == ([87, 104, 101, 114, 101] : List UInt8)) = false) (g1 : (op.toList == ([67, 108, 105, 112] : List UInt8)) = false) (g2 : (op.toList == ([67, 97, 115, 116] : List UInt8)) = false) (g3 : (op.toList == ([82, 101, 100, 117, 99, 101, 83, 117, 109] : List UInt8)) = false) (g4 : (op.toList == ([82, 101, 100, 117, 99, 101, 77, 97, 120] : List UInt8)) = false) (g5 : (op.toList == ([82, 101, 100, 117, 99, 101, 77, 101, 97, 110] : List UInt8)) = false) (g6 : (op.toList == ([65, 114, 103, 77, 97, 120] : List UInt8)) = false) (g7 : (op.toList == ([82, 101, 115, 104, 97, 112, 101] : List UInt8)) = false) (g8 : (op.toList == ([69, 120, 112, 97, 110, 100] : List UInt8)) = false) (g9 : (op.toList == ([84, 114, 97, 110, 115, 112, 111, 115, 101] : List UInt8)) = false) (g10 : (op.toList == ([67, 111, 110, 99, 97, 116] : List UInt8)) = false) (g11 : (op.toList == ([83, 108, 105, 99, 101] : List UInt8)) = false) (g12 : (op.toList == ([71, 97, 116, 104, 101, 114] : List UInt8)) = false) (g13 : (op.toList == ([80, 97, 100] : List UInt8)) = false) (g14 : (op.toList == ([83, 113, 117, 101, 101, 122, 101] : List UInt8)) = false) (g15 : (op.toList == ([85, 110, 115, 113, 117, 101, 101, 122, 101] : List UInt8)) = false) (g16 : (op.toList == ([70, 108, 97, 116, 116, 101, 110] : List UInt8)) = false) (g17 : (op.toList == ([83, 111, 102, 116, 109, 97, 120] : List UInt8)) = false) (g18 : (op.toList == ([71, 101, 109, 109] : List UInt8)) = false) (g19 : (op.toList == ([67, 111, 110, 118] : List UInt8)) = true) : Calls Tryz.prog 88 #[.string op] w (OfV ⟨2, 3, [⟨⟨#[115, 116, 114, 105, 100, 101, 115]⟩, 7, false⟩, ⟨⟨#[112, 97, 100, 115]⟩, 7, false⟩, ⟨⟨#[100, 105, 108, 97, 116, 105, 111, 110, 115]⟩, 7, false⟩, ⟨⟨#[103, 114, 111, 117, 112]⟩, 2, false⟩], true⟩ w) := by
  obtain ⟨h1, hG, h2, hM⟩ := hp
  go_enter Tryz.func88, Tryz.ntmps88
  go_wp2_with fail
  refine (rone_any op _).mono ?_
  rintro e w1 ⟨rfl, B1⟩
  have H1 := Lib.hid B1
  clear B1
  rw [h1]
  go_wp2_with fail
  refine (rtwo_any op _).mono ?_
  rintro e w2 ⟨rfl, B2⟩
  have H2 := Lib.hid (H1.out.trans (B2.mono H1.out.size))
  clear B2
  rw [h2]
  go_wp2_with fail
  refine (ropt_any ⟨#[115, 116, 114, 105, 100, 101, 115]⟩ 7 _).mono ?_
  rintro e w3 ⟨rfl, B⟩
  have H3 := Lib.hid (H2.out.trans (B.mono H2.out.size))
  clear B
  go_wp2_with fail
  refine (ropt_any ⟨#[112, 97, 100, 115]⟩ 7 _).mono ?_
  rintro e w4 ⟨rfl, B⟩
  have H4 := Lib.hid (H3.out.trans (B.mono H3.out.size))
  clear B
  go_wp2_with fail
  refine (ropt_any ⟨#[100, 105, 108, 97, 116, 105, 111, 110, 115]⟩ 7 _).mono ?_
  rintro e w5 ⟨rfl, B⟩
  have H5 := Lib.hid (H4.out.trans (B.mono H4.out.size))
  clear B
  go_wp2_with fail
  refine (ropt_any ⟨#[103, 114, 111, 117, 112]⟩ 2 _).mono ?_
  rintro e w6 ⟨rfl, B⟩
  have H6 := Lib.hid (H5.out.trans (B.mono H5.out.size))
  clear B
  go_wp2_with fail
  refine bodyPost_ret (v := .tuple #[.int .i64 2, .int .i64 3, .slice (some ⟨w6.heap.size, 0, none⟩) 4 4, .bool true]) (by simp [results, Tryz.f88, go_sem]) rfl ?_
  exact ⟨H6.out.alloc H6.out.size _, _, rfl, fms_new w6 [⟨⟨#[115, 116, 114, 105, 100, 101, 115]⟩, 7, false⟩, ⟨⟨#[112, 97, 100, 115]⟩, 7, false⟩, ⟨⟨#[100, 105, 108, 97, 116, 105, 111, 110, 115]⟩, 7, false⟩, ⟨⟨#[103, 114, 111, 117, 112]⟩, 2, false⟩] _ rfl 4 rfl (by simp) (by decide)⟩
set_option maxRecDepth 100000 in
set_option maxHeartbeats 4000000 in
theorem rof_20 (op : ByteArray) (w : World) (hp : Plain op) (g0 : (op.toList == ([87, 104, 101, 114, 101] : List UInt8)) = false) (g1 : (op.toList == ([67, 108, 105, 112] : List UInt8)) = false) (g2 : (op.toList == ([67, 97, 115, 116] : List UInt8)) = false) (g3 : (op.toList == ([82, 101, 100, 117, 99, 101, 83, 117, 109] : List UInt8)) = false) (g4 : (op.toList == ([82, 101, 100, 117, 99, 101, 77, 97, 120] : List UInt8)) = false) (g5 : (op.toList == ([82, 101, 100, 117, 99, 101, 77, 101, 97, 110] : List UInt8)) = false) (g6 : (op.toList == ([65, 114, 103, 77, 97, 120] : List UInt8)) = false) (g7 : (op.toList == ([82, 101, 115, 104, 97, 112, 101] : List UInt8)) = false) (g8 : (op.toList == ([69, 120, 112, 97, 110, 100] : List UInt8)) = false) (g9 : (op.toList == ([84, 114, 97, 110, 115, 112, 111, 115, 101] : List UInt8)) = false) (g10 : (op.toList == ([67, 111, 110, 99, 97, 116] : List UInt8)) = false) (g11 : (op.toList == ([83, 108, 105, 99, 101] : List UInt8)) = false) (g12 : (op.toList == ([71, 97, 116, 104, 101, 114] : List UInt8)) = false) (g13 : (op.toList == ([80, 97, 100] : List UInt8)) = false) (g14 : (op.toList == ([83, 113, 117, 101, 101, 122, 101] : List UInt8)) = false) (g15 : (op.toList == ([85, 110, 115, 113, 117, 101, 101, 122, 101] : List UInt8)) = false) (g16 : (op.toList == ([70, 108, 97, 116, 116, 101, 110] : List UInt8)) = false) (g17 : (op.toList == ([83, 111, 102, 116, 109, 97, 120] : List UInt8)) = false) (g18 : (op.toList == ([71, 101, 109, 109] : List UInt8)) = false) (g19 : (op.toList == ([67, 111, 110, 118] : List UInt8)) = false) (g20 : (op.toList == ([77, 97, 120, 80, 111, 111, 108] : List UInt8)) = true) : Calls Tryz.prog 88 #[.string op] w (OfV ⟨1, 1, [⟨⟨#[107, 101, 114, 110, 101, 108, 95, 115, 104, 97, 112, 101]⟩, 7, true⟩, ⟨⟨#[115, 116, 114, 105, 100, 101, 115]⟩, 7, false⟩, ⟨⟨#[112, 97, 100, 115]⟩, 7, false⟩], true⟩ w) := by
  obtain ⟨h1, hG, h2, hM⟩ := hp
  go_enter Tryz.func88, Tryz.ntmps88
  go_wp2_with fail
  refine (rone_any op _).mono ?_
  rintro e w1 ⟨rfl, B1⟩
  have H1 := Lib.hid B1
  clear B1
  rw [h1]
  go_wp2_with fail
  refine (rtwo_any op _).mono ?_
  rintro e w2 ⟨rfl, B2⟩
  have H2 := Lib.hid (H1.out.trans (B2.mono H1.out.size))
  clear B2
  rw [h2]
  go_wp2_with fail
  refine (rmust_any ⟨#[107, 101, 114, 110, 101, 108, 95, 115, 104, 97, 112, 101]⟩ 7 _).mono ?_
  rintro e w3 ⟨rfl, B⟩
  have H3 := Lib.hid (H2.out.trans (B.mono H2.out.size))
  clear B
  go_wp2_with fail
  refine (ropt_any ⟨#[115, 116, 114, 105, 100, 101, 115]⟩ 7 _).mono ?_
  rintro e w4 ⟨rfl, B⟩
  have H4 := Lib.hid (H3.out.trans (B.mono H3.out.size))
  clear B
  go_wp2_with fail
  refine (ropt_any ⟨#[112, 97, 100, 115]⟩ 7 _).mono ?_
  rintro e w5 ⟨rfl, B⟩
  have H5 := Lib.hid (H4.out.trans (B.mono H4.out.size))
  clear B
  go_wp2_with fail
  refine bodyPost_ret (v := .tuple #[.int .i64 1, .int .i64 1, .slice (some ⟨w5.heap.size, 0, none⟩) 3 3, .bool true]) (by simp [results, Tryz.f88, go_sem]) rfl ?_
  exact ⟨H5.out.alloc H5.out.size _, _, rfl, fms_new w5 [⟨⟨#[107, 101, 114, 110, 101, 108, 95, 115, 104, 97, 112, 101]⟩, 7, true⟩, ⟨⟨#[115, 116, 114, 105, 100, 101, 115]⟩, 7, false⟩, ⟨⟨#[112, 97, 100, 115]⟩, 7, false⟩] _ rfl 3 rfl (by simp) (by decide)⟩
set_option maxRecDepth 100000 in
set_option maxHeartbeats 4000000 in
theorem rof_21 (op : ByteArray) (w : World) (hp : Plain op) (g0 : (op.toList == ([87, 104, 101, 114, 101] : List UInt8)) = false) (g1 : (op.toList == ([67, 108, 105, 112] : List UInt8)) = false) (g2 : (op.toList == ([67, 97, 115, 116] : List UInt8)) = false) (g3 : (op.toList == ([82, 101, 100, 117, 99, 101, 83, 117, 109] : List UInt8)) = false) (g4 : (op.toList == ([82, 101, 100, 117, 99, 101, 77, 97, 120] : List UInt8)) = false) (g5 : (op.toList == ([82, 101, 100, 117, 99, 101, 77, 101, 97, 110] : List UInt8)) = false) (g6 : (op.toList == ([65, 114, 103, 77, 97, 120] : List UInt8)) = false) (g7 : (op.toList == ([82, 101, 115, 104, 97, 112, 101] : List UInt8)) = false) (g8 : (op.toList == ([69, 120, 112, 97, 110, 100] : List UInt8)) = false) (g9 : (op.toList == ([84, 114, 97, 110, 115, 112, 111, 115, 101] : List UInt8)) = false) (g10 : (op.toList == ([67, 111, 110, 99, 97, 116] : List UInt8)) = false) (g11 : (op.toList == ([83, 108, 105, 99, 101] : List UInt8)) = false) (g12 : (op.toList == ([71, 97, 116, 104, 101, 114] : List UInt8)) = false) (g13 : (op.toList == ([80, 97, 100] : List UInt8)) = false) (g14 : (op.toList == ([83, 113, 117, 101, 101, 122, 101] : List UInt8)) = false) (g15 : (op.toList == ([85, 110, 115, 113, 117, 101, 101, 122, 101] : List UInt8)) = false) (g16 : (op.toList == ([70, 108, 97, 116, 116, 101, 110] : List UInt8)) = false) (g17 : (op.toList == ([83, 111, 102, 116, 109, 97, 120] : List UInt8)) = false) (g18 : (op.toList == ([71, 101, 109, 109] : List UInt8)) = false) (g19 : (op.toList == ([67, 111, 110, 118] : List UInt8)) = false) (g20 : (op.toList == ([77, 97, 120, 80, 111, 111, 108] : List UInt8)) = false) (g21 : (op.toList == ([65, 118, 101, 114, 97, 103, 101, 80, 111, 111, 108] : List UInt8)) = true) : Calls Tryz.prog 88 #[.string op] w (OfV ⟨1, 1, [⟨⟨#[107, 101, 114, 110, 101, 108, 95, 115, 104, 97, 112, 101]⟩, 7, true⟩, ⟨⟨#[115, 116, 114, 105, 100, 101, 115]⟩, 7, false⟩, ⟨⟨#[112, 97, 100, 115]⟩, 7, false⟩], true⟩ w) := by
  obtain ⟨h1, hG, h2, hM⟩ := hp
  go_enter Tryz.func88, Tryz.ntmps88
  go_wp2_with fail
  refine (rone_any op _).mono ?_
  rintro e w1 ⟨rfl, B1⟩
  have H1 := Lib.hid B1
  clear B1
  rw [h1]
  go_wp2_with fail
  refine (rtwo_any op _).mono ?_
  rintro e w2 ⟨rfl, B2⟩
  have H2 := Lib.hid (H1.out.trans (B2.mono H1.out.size))
  clear B2
  rw [h2]
  go_wp2_with fail
  refine (rmust_any ⟨#[107, 101, 114, 110, 101, 108, 95, 115, 104, 97, 112, 101]⟩ 7 _).mono ?_
  rintro e w3 ⟨rfl, B⟩
  have H3 := Lib.hid (H2.out.trans (B.mono H2.out.size))
  clear B
  go_wp2_with fail
  refine (ropt_any ⟨#[115, 116, 114, 105, 100, 101, 115]⟩ 7 _).mono ?_
  rintro e w4 ⟨rfl, B⟩
  have H4 := Lib.hid (H3.out.trans (B.mono H3.out.size))
  clear B
  go_wp2_with fail
  refine (ropt_any ⟨#[112, 97, 100, 115]⟩ 7 _).mono ?_
  rintro e w5 ⟨rfl, B⟩
  have H5 := Lib.hid (H4.out.trans (B.mono H4.out.size))
  clear B
  go_wp2_with fail
  refine bodyPost_ret (v := .tuple #[.int .i64 1, .int .i64 1, .slice (some ⟨w5.heap.size, 0, none⟩) 3 3, .bool true]) (by simp [results, Tryz.f88, go_sem]) rfl ?_
  exact ⟨H5.out.alloc H5.out.size _, _, rfl, fms_new w5 [⟨⟨#[107, 101, 114, 110, 101, 108, 95, 115, 104, 97, 112, 101]⟩, 7, true⟩, ⟨⟨#[115, 116, 114, 105, 100, 101, 115]⟩, 7, false⟩, ⟨⟨#[112, 97, 100, 115]⟩, 7, false⟩] _ rfl 3 rfl (by simp) (by decide)⟩
set_option maxRecDepth 100000 in
set_option maxHeartbeats 4000000 in
theorem rof_22 (op : ByteArray) (w : World) (hp : Plain op) (g0 : (op.toList == ([87, 104, 101, 114, 101] : List UInt8)) = false) (g1 : (op.toList == ([67, 108, 105, 112] : List UInt8)) = false) (g2 : (op.toList == ([67, 97, 115, 116] : List UInt8)) = false) (g3 : (op.toList == ([82, 101, 100, 117, 99, 101, 83, 117, 109] : List UInt8)) = false) (g4 : (op.toList == ([82, 101, 100, 117, 99, 101, 77, 97, 120] : List UInt8)) = false) (g5 : (op.toList == ([82, 101, 100, 117, 99, 101, 77, 101, 97, 110] : List UInt8)) = false) (g6 : (op.toList == ([65, 114, 103, 77, 97, 120] : List UInt8)) = false) (g7 : (op.toList == ([82, 101, 115, 104, 97, 112, 101] : List UInt8)) = false) (g8 : (op.toList == ([69, 120, 112, 97, 110, 100] : List UInt8)) = false) (g9 : (op.toList == ([84, 114, 97, 110, 115, 112, 111, 115, 101] : List UInt8)) = false) (g10 : (op.toList == ([67, 111, 110, 99, 97, 116] : List UInt8)) = false) (g11 : (op.toList == ([83, 108, 105, 99, 101] : List UInt8)) = false) (g12 : (op.toList == ([71, 97, 116, 104, 101, 114] : List UInt8)) = false) (g13 : (op.toList == ([80, 97, 100] : List UInt8)) = false) (g14 : (op.toList == ([83, 113, 117, 101, 101, 122, 101] : List UInt8)) = false) (g15 : (op.toList == ([85, 110, 115, 113, 117, 101, 101, 122, 101] : List UInt8)) = false) (g16 : (op.toList == ([70, 108, 97, 116, 116, 101, 110] : List UInt8)) = false) (g17 : (op.toList == ([83, 111, 102, 116, 109, 97, 120] : List UInt8)) = false) (g18 : (op.toList == ([71, 101, 109, 109] : List UInt8)) = false) (g19 : (op.toList == ([67, 111, 110, 118] : List UInt8)) = false) (g20 : (op.toList == ([77, 97, 120, 80, 111, 111, 108] : List UInt8)) = false) (g21 : (op.toList == ([65, 118, 101, 114, 97, 103, 101, 80, 111, 111, 108] : List UInt8)) = false) (g22 : (op.toList == ([66, 97, 116, 99, 104, 78, 111, 114, 109, 97, 108, 105, 122, 97, 116, 105, 111, 110] : List UInt8)) = true) : Calls Tryz.prog 88 #[.string op] w (OfV ⟨5, 5, [⟨⟨#[101, 112, 115, 105, 108, 111, 110]⟩, 1, false⟩], true⟩ w) := by
  obtain ⟨h1, hG, h2, hM⟩ := hp
  go_enter Tryz.func88, Tryz.ntmps88
  go_wp2_with fail
  refine (rone_any op _).mono ?_
  rintro e w1 ⟨rfl, B1⟩
  have H1 := Lib.hid B1
  clear B1
  rw [h1]
  go_wp2_with fail
  refine (rtwo_any op _).mono ?_
  rintro e w2 ⟨rfl, B2⟩
  have H2 := Lib.hid (H1.out.trans (B2.mono H1.out.size))
  clear B2
  rw [h2]
  go_wp2_with fail
  refine (ropt_any ⟨#[101, 112, 115, 105, 108, 111, 110]⟩ 1 _).mono ?_
  rintro e w3 ⟨rfl, B⟩
  have H3 := Lib.hid (H2.out.trans (B.mono H2.out.size))
  clear B
  go_wp2_with fail
  refine bodyPost_ret (v := .tuple #[.int .i64 5, .int .i64 5, .slice (some ⟨w3.heap.size, 0, none⟩) 1 1, .bool true]) (by simp [results, Tryz.f88, go_sem]) rfl ?_
  exact ⟨H3.out.alloc H3.out.size _, _, rfl, fms_new w3 [⟨⟨#[101, 112, 115, 105, 108, 111, 110]⟩, 1, false⟩] _ rfl 1 rfl (by simp) (by decide)⟩
set_option maxRecDepth 100000 in
set_option maxHeartbeats 4000000 in
theorem rof_23 (op : ByteArray) (w : World) (hp : Plain op) (g0 : (op.toList == ([87, 104, 101, 114, 101] : List UInt8)) = false) (g1 : (op.toList == ([67, 108, 105, 112] : List UInt8)) = false) (g2 : (op.toList == ([67, 97, 115, 116] : List UInt8)) = false) (g3 : (op.toList == ([82, 101, 100, 117, 99, 101, 83, 117, 109] : List UInt8)) = false) (g4 : (op.toList == ([82, 101, 100, 117, 99, 101, 77, 97, 120] : List UInt8)) = false) (g5 : (op.toList == ([82, 101, 100, 117, 99, 101, 77, 101, 97, 110] : List UInt8)) = false) (g6 : (op.toList == ([65, 114, 103, 77, 97, 120] : List UInt8)) = false) (g7 : (op.toList == ([82, 101, 115, 104, 97, 112, 101] : List UInt8)) = false) (g8 : (op.toList == ([69, 120, 112, 97, 110, 100] : List UInt8)) = false) (g9 : (op.toList == ([84, 114, 97, 110, 115, 112, 111, 115, 101] : List UInt8)) = false) (g10 : (op.toList == ([67, 111, 110, 99, 97, 116] : List UInt8)) = false) (g11 : (op.toList == ([83, 108, 105, 99, 101] : List UInt8)) = false) (g12 : (op.toList == ([71, 97, 116, 104, 101, 114] : List UInt8)) = false) (g13 : (op.toList == ([80, 97, 100] : List UInt8)) = false) (g14 : (op.toList == ([83, 113, 117, 101, 101, 122, 101] : List UInt8)) = false) (g15 : (op.toList == ([85, 110, 115, 113, 117, 101, 101, 122, 101] : List UInt8)) = false) (g16 : (op.toList == ([70, 108, 97, 116, 116, 101, 110] : List UInt8)) = false) (g17 : (op.toList == ([83, 111, 102, 116, 109, 97, 120] : List UInt8)) = false) (g18 : (op.toList == ([71, 101, 109, 109] : List UInt8)) = false) (g19 : (op.toList == ([67, 111, 110, 118] : List UInt8)) = false) (g20 : (op.toList == ([77, 97, 120, 80, 111, 111, 108] : List UInt8)) = false) (g21 : (op.toList == ([65, 118, 101, 114, 97, 103, 101, 80, 111, 111, 108] : List UInt8)) = false) (g22 : (op.toList == ([66, 97, 116, 99, 104, 78, 111, 114, 109, 97, 108, 105, 122, 97, 116, 105, 111, 110] : List UInt8)) = false) (g23 : (op.toList == ([67, 111, 110, 115, 116, 97, 110, 116] : List UInt8)) = true) : Calls Tryz.prog 88 #[.string op] w (OfV ⟨0, 0, [⟨⟨#[118, 97, 108, 117, 101]⟩, 4, true⟩], true⟩ w) := by
  obtain ⟨h1, hG, h2, hM⟩ := hp
  go_enter Tryz.func88, Tryz.ntmps88
  go_wp2_with fail
  refine (rone_any op _).mono ?_
  rintro e w1 ⟨rfl, B1⟩
  have H1 := Lib.hid B1
  clear B1
  rw [h1]
  go_wp2_with fail
  refine (rtwo_any op _).mono ?_
  rintro e w2 ⟨rfl, B2⟩
  have H2 := Lib.hid (H1.out.trans (B2.mono H1.out.size))
  clear B2
  rw [h2]
  go_wp2_with fail
  refine (rmust_any ⟨#[118, 97, 108, 117, 101]⟩ 4 _).mono ?_
  rintro e w3 ⟨rfl, B⟩
  have H3 := Lib.hid (H2.out.trans (B.mono H2.out.size))
  clear B
  go_wp2_with fail
  refine bodyPost_ret (v := .tuple #[.int .i64 0, .int .i64 0, .slice (some ⟨w3.heap.size, 0, none⟩) 1 1, .bool true]) (by simp [results, Tryz.f88, go_sem]) rfl ?_
  exact ⟨H3.out.alloc H3.out.size _, _, rfl, fms_new w3 [⟨⟨#[118, 97, 108, 117, 101]⟩, 4, true⟩] _ rfl 1 rfl (by simp) (by decide)⟩
set_option maxRecDepth 100000 in
set_option maxHeartbeats 4000000 in
theorem rof_24 (op : ByteArray) (w : World) (hp : Plain op) (g0 : (op.toList == ([87, 104, 101, 114, 101] : List UInt8)) = false) (g1 : (op.toList == ([67, 108, 105, 112] : List UInt8)) = false) (g2 : (op.toList == ([67, 97, 115, 116] : List UInt8)) = false) (g3 : (op.toList == ([82, 101, 100, 117, 99, 101, 83, 117, 109] : List UInt8)) = false) (g4 : (op.toList == ([82, 101, 100, 117, 99, 101, 77, 97, 120] : List UInt8)) = false) (g5 : (op.toList == ([82, 101, 100, 117, 99, 101, 77, 101, 97, 110] : List UInt8)) = false) (g6 : (op.toList == ([65, 114, 103, 77, 97, 120] : List UInt8)) = false) (g7 : (op.toList == ([82, 101, 115, 104, 97, 112, 101] : List UInt8)) = false) (g8 : (op.toList == ([69, 120, 112, 97, 110, 100] : List UInt8)) = false) (g9 : (op.toList == ([84, 114, 97, 110, 115, 112, 111, 115, 101] : List UInt8)) = false) (g10 : (op.toList == ([67, 111, 110, 99, 97, 116] : List UInt8)) = false) (g11 : (op.toList == ([83, 108, 105, 99, 101] : List UInt8)) = false) (g12 : (op.toList == ([71, 97, 116, 104, 101, 114] : List UInt8)) = false) (g13 : (op.toList == ([80, 97, 100] : List UInt8)) = false) (g14 : (op.toList == ([83, 113, 117, 101, 101, 122, 101] : List UInt8)) = false) (g15 : (op.toList == ([85, 110, 115, 113, 117, 101, 101, 122, 101] : List UInt8)) = false) (g16 : (op.toList == ([70, 108, 97, 116, 116, 101, 110] : List UInt8)) = false) (g17 : (op.toList == ([83, 111, 102, 116, 109, 97, 120] : List UInt8)) = false) (g18 : (op.toList == ([71, 101, 109, 109] : List UInt8)) = false) (g19 : (op.toList == ([67, 111, 110, 118] : List UInt8)) = false) (g20 : (op.toList == ([77, 97, 120, 80, 111, 111, 108] : List UInt8)) = false) (g21 : (op.toList == ([65, 118, 101, 114, 97, 103, 101, 80, 111, 111, 108] : List UInt8)) = false) (g22 : (op.toList == ([66, 97, 116, 99, 104, 78, 111, 114, 109, 97, 108, 105, 122, 97, 116, 105, 111, 110] : List UInt8)) = false) (g23 : (op.toList == ([67, 111, 110, 115, 116, 97, 110, 116] : List UInt8)) = false) : Calls Tryz.prog 88 #[.string op] w (OfV ⟨0, 0, [], false⟩ w) := by
  obtain ⟨h1, hG, h2, hM⟩ := hp
  go_enter Tryz.func88, Tryz.ntmps88
  go_wp2_with fail
  refine (rone_any op _).mono ?_
  rintro e w1 ⟨rfl, B1⟩
  have H1 := Lib.hid B1
  clear B1
  rw [h1]
  go_wp2_with fail
  refine (rtwo_any op _).mono ?_
  rintro e w2 ⟨rfl, B2⟩
  have H2 := Lib.hid (H1.out.trans (B2.mono H1.out.size))
  clear B2
  rw [h2]
  go_wp2_with fail
  refine bodyPost_ret (v := .tuple #[.int .i64 0, .int .i64 0, .slice none 0 0, .bool false]) (by simp [results, Tryz.f88, go_sem]) rfl ?_
  exact ⟨H2.out, _, rfl, .empty⟩

/-- THE REFERENCE's 'of'. -/
theorem rof_any (op : ByteArray) (w : World) : Calls Tryz.prog 88 #[.string op] w (OfV (refOf op) w) := by
  cases h1 : oneB op with
  | true =>
    rw [show refOf op = ⟨1, 1, [], true⟩ by unfold refOf; rw [if_pos (Or.inl h1)]]
    exact rof_one op w h1
  | false =>
  cases hG : (op.toList == ([71, 108, 111, 98, 97, 108, 65, 118, 101, 114, 97, 103, 101, 80, 111, 111, 108] : List UInt8)) with
  | true =>
    rw [show refOf op = ⟨1, 1, [], true⟩ by unfold refOf; rw [if_pos (Or.inr hG)]]
    exact rof_gap op w h1 hG
  | false =>
  cases h2 : hasS twosL op with
  | true =>
    rw [show refOf op = ⟨2, 2, [], true⟩ by unfold refOf; rw [if_neg (by simp [h1, hG]), if_pos (Or.inl h2)]]
    exact rof_two op w h1 hG h2
  | false =>
  cases hM : (op.toList == ([77, 97, 116, 77, 117, 108] : List UInt8)) with
  | true =>
    rw [show refOf op = ⟨2, 2, [], true⟩ by unfold refOf; rw [if_neg (by simp [h1, hG]), if_pos (Or.inr hM)]]
    exact rof_mm op w h1 hG h2 hM
  | false =>
  have hp : Plain op := ⟨h1, hG, h2, hM⟩
  rw [hp.of]
  have l0 : lookR rtab0 op = lookR rtab0 op := rfl
  cases g0 : (op.toList == ([87, 104, 101, 114, 101] : List UInt8)) with
  | true =>
    rw [l0.trans (lookR_hit g0)]
    exact rof_0 op w hp g0
  | false =>
  have l1 := l0.trans (lookR_miss g0)
  cases g1 : (op.toList == ([67, 108, 105, 112] : List UInt8)) with
  | true =>
    rw [l1.trans (lookR_hit g1)]
    exact rof_1 op w hp g0 g1
  | false =>
  have l2 := l1.trans (lookR_miss g1)
  cases g2 : (op.toList == ([67, 97, 115, 116] : List UInt8)) with
  | true =>
    rw [l2.trans (lookR_hit g2)]
    exact rof_2 op w hp g0 g1 g2
  | false =>
  have l3 := l2.trans (lookR_miss g2)
  cases g3 : (op.toList == ([82, 101, 100, 117, 99, 101, 83, 117, 109] : List UInt8)) with
  | true =>
    rw [l3.trans (lookR_hit g3)]
    exact rof_3 op w hp g0 g1 g2 g3
  | false =>
  have l4 := l3.trans (lookR_miss g3)
  cases g4 : (op.toList == ([82, 101, 100, 117, 99, 101, 77, 97, 120] : List UInt8)) with
  | true =>
    rw [l4.trans (lookR_hit g4)]
    exact rof_4 op w hp g0 g1 g2 g3 g4
  | false =>
  have l5 := l4.trans (lookR_miss g4)
  cases g5 : (op.toList == ([82, 101, 100, 117, 99, 101, 77, 101, 97, 110] : List UInt8)) with
  | true =>
    rw [l5.trans (lookR_hit g5)]
    exact rof_5 op w hp g0 g1 g2 g3 g4 g5
  | false =>
  have l6 := l5.trans (lookR_miss g5)
  cases g6 : (op.toList == ([65, 114, 103, 77, 97, 120] : List UInt8)) with
  | true =>
    rw [l6.trans (lookR_hit g6)]
    exact rof_6 op w hp g0 g1 g2 g3 g4 g5 g6
  | false =>
  have l7 := l6.trans (lookR_miss g6)
  cases g7 : (op.toList == ([82, 101, 115, 104, 97, 112, 101] : List UInt8)) with
  | true =>
    rw [l7.trans (lookR_hit g7)]
    exact rof_7 op w hp g0 g1 g2 g3 g4 g5 g6 g7
  | false =>
  have l8 := l7.trans (lookR_miss g7)
  cases g8 : (op.toList == ([69, 120, 112, 97, 110, 100] : List UInt8)) with
  | true =>
    rw [l8.trans (lookR_hit g8)]
    exact rof_8 op w hp g0 g1 g2 g3 g4 g5 g6 g7 g8
  | false =>
  have l9 := l8.trans (lookR_miss g8)
  cases g9 : (op.toList == ([84, 114, 97, 110, 115, 112, 111, 115, 101] : List UInt8)) with
  | true =>
    rw [l9.trans (lookR_hit g9)]
    exact rof_9 op w hp g0 g1 g2 g3 g4 g5 g6 g7 g8 g9
  | false =>
  have l10 := l9.trans (lookR_miss g9)
  cases g10 : (op.toList == ([67, 111, 110, 99, 97, 116] : List UInt8)) with
  | true =>
    rw [l10.trans (lookR_hit g10)]
    exact rof_10 op w hp g0 g1 g2 g3 g4 g5 g6 g7 g8 g9 g10
  | false =>
  have l11 := l10.trans (lookR_miss g10)
  cases g11 : (op.toList == ([83, 108, 105, 99, 101] : List UInt8)) with
  | true =>
    rw [l11.trans (lookR_hit g11)]
    exact rof_11 op w hp g0 g1 g2 g3 g4 g5 g6 g7 g8 g9 g10 g11
  | false =>
  have l12 := l11.trans (lookR_miss g11)
  cases g12 : (op.toList == ([71, 97, 116, 104, 101, 114] : List UInt8)) with
  | true =>
    rw [l12.trans (lookR_hit g12)]
    exact rof_12 op w hp g0 g1 g2 g3 g4 g5 g6 g7 g8 g9 g10 g11 g12
  | false =>
  have l13 := l12.trans (lookR_miss g12)
  cases g13 : (op.toList == ([80, 97, 100] : List UInt8)) with
  | true =>
    rw [l13.trans (lookR_hit g13)]
    exact rof_13 op w hp g0 g1 g2 g3 g4 g5 g6 g7 g8 g9 g10 g11 g12 g13
  | false =>
  have l14 := l13.trans (lookR_miss g13)
  cases g14 : (op.toList == ([83, 113, 117, 101, 101, 122, 101] : List UInt8)) with
  | true =>
    rw [l14.trans (lookR_hit g14)]
    exact rof_14 op w hp g0 g1 g2 g3 g4 g5 g6 g7 g8 g9 g10 g11 g12 g13 g14
  | false =>
  have l15 := l14.trans (lookR_miss g14)
  cases g15 : (op.toList == ([85, 110, 115, 113, 117, 101, 101, 122, 101] : List UInt8)) with
  | true =>
    rw [l15.trans (lookR_hit g15)]
    exact rof_15 op w hp g0 g1 g2 g3 g4 g5 g6 g7 g8 g9 g10 g11 g12 g13 g14 g15
  | false =>
  have l16 := l15.trans (lookR_miss g15)
  cases g16 : (op.toList == ([70, 108, 97, 116, 116, 101, 110] : List UInt8)) with
  | true =>
    rw [l16.trans (lookR_hit g16)]
    exact rof_16 op w hp g0 g1 g2 g3 g4 g5 g6 g7 g8 g9 g10 g11 g12 g13 g14 g15 g16
  | false =>
  have l17 := l16.trans (lookR_miss g16)
  cases g17 : (op.toList == ([83, 111, 102, 116, 109, 97, 120] : List UInt8)) with
  | true =>
    rw [l17.trans (lookR_hit g17)]
    exact rof_17 op w hp g0 g1 g2 g3 g4 g5 g6 g7 g8 g9 g10 g11 g12 g13 g14 g15 g16 g17
  | false =>
  have l18 := l17.trans (lookR_miss g17)
  cases g18 : (op.toList == ([71, 101, 109, 109] : List UInt8)) with
  | true =>
    rw [l18.trans (lookR_hit g18)]
    exact rof_18 op w hp g0 g1 g2 g3 g4 g5 g6 g7 g8 g9 g10 g11 g12 g13 g14 g15 g16 g17 g18
  | false =>
  have l19 := l18.trans (lookR_miss g18)
  cases g19 : (op.toList == ([67, 111, 110, 118] : List UInt8)) with
  | true =>
    rw [l19.trans (lookR_hit g19)]
    exact rof_19 op w hp g0 g1 g2 g3 g4 g5 g6 g7 g8 g9 g10 g11 g12 g13 g14 g15 g16 g17 g18 g19
  | false =>
  have l20 := l19.trans (lookR_miss g19)
  cases g20 : (op.toList == ([77, 97, 120, 80, 111, 111, 108] : List UInt8)) with
  | true =>
    rw [l20.trans (lookR_hit g20)]
    exact rof_20 op w hp g0 g1 g2 g3 g4 g5 g6 g7 g8 g9 g10 g11 g12 g13 g14 g15 g16 g17 g18 g19 g20
  | false =>
  have l21 := l20.trans (lookR_miss g20)
  cases g21 : (op.toList == ([65, 118, 101, 114, 97, 103, 101, 80, 111, 111, 108] : List UInt8)) with
  | true =>
    rw [l21.trans (lookR_hit g21)]
    exact rof_21 op w hp g0 g1 g2 g3 g4 g5 g6 g7 g8 g9 g10 g11 g12 g13 g14 g15 g16 g17 g18 g19 g20 g21
  | false =>
  have l22 := l21.trans (lookR_miss g21)
  cases g22 : (op.toList == ([66, 97, 116, 99, 104, 78, 111, 114, 109, 97, 108, 105, 122, 97, 116, 105, 111, 110] : List UInt8)) with
  | true =>
    rw [l22.trans (lookR_hit g22)]
    exact rof_22 op w hp g0 g1 g2 g3 g4 g5 g6 g7 g8 g9 g10 g11 g12 g13 g14 g15 g16 g17 g18 g19 g20 g21 g22
  | false =>
  have l23 := l22.trans (lookR_miss g22)
  cases g23 : (op.toList == ([67, 111, 110, 115, 116, 97, 110, 116] : List UInt8)) with
  | true =>
    rw [l23.trans (lookR_hit g23)]
    exact rof_23 op w hp g0 g1 g2 g3 g4 g5 g6 g7 g8 g9 g10 g11 g12 g13 g14 g15 g16 g17 g18 g19 g20 g21 g22 g23
  | false =>
  have l24 := l23.trans (lookR_miss g23)
  rw [l24.trans (show lookR rtab24 op = none by unfold rtab24 lookR; rfl)]
  exact rof_24 op w hp g0 g1 g2 g3 g4 g5 g6 g7 g8 g9 g10 g11 g12 g13 g14 g15 g16 g17 g18 g19 g20 g21 g22 g23

end Go.Proofs.YtlbhepfbogcipaaGreatDoor

set_option linter.unusedVariables false
set_option linter.unusedSimpArgs false
namespace Go.Proofs.YtlbhepfbogcipaaGreatDoor
open Go.RowKit

theorem find_at {ats : List At} {nm : ByteArray} {kd : Int} {k : Nat} {a : At} (h : (ats.take k).any (isA nm kd) = false) (ha : ats[k]? = some a) (hi : isA nm kd a = true) : findA ats nm kd = some a := by
  unfold findA
  obtain ⟨hlt, e⟩ := List.getElem?_eq_some_iff.1 ha
  rw [List.find?_eq_some_iff_getElem]
  refine ⟨hi, k, hlt, e, fun j hj => ?_⟩
  have := List.any_eq_false.1 h (ats[j]'(by omega)) (by rw [List.mem_take_iff_getElem]; exact ⟨j, by omega, rfl⟩)
  simpa using this
theorem find_not {ats : List At} {nm : ByteArray} {kd : Int} (h : ats.any (isA nm kd) = false) : findA ats nm kd = none := by
  unfold findA
  rw [List.find?_eq_none]
  exact fun x hx => List.any_eq_false.1 h x hx
theorem isA_not_kind {a : At} {nm : ByteArray} {kd : Int} (h : ¬ a.kind = kd) : isA nm kd a = false := by unfold isA; simp [h]
theorem isA_not_name {a : At} {nm : ByteArray} {kd : Int} (h : ¬ a.name.toList = nm.toList) : isA nm kd a = false := by unfold isA; simp [str_ne h]
theorem isA_is {a : At} {nm : ByteArray} {kd : Int} (h : a.name.toList = nm.toList) (g : a.kind = kd) : isA nm kd a = true := by unfold isA; simp [toList_inj h, g]

set_option maxRecDepth 100000 in
set_option maxHeartbeats 2000000 in
theorem rfind_any {w : World} {v : Value} {n : Nd} (h : NodeV w v n) (nm : ByteArray) (kd : Int) :
    Calls Tryz.prog 102 #[v, .string nm, .int .i64 kd] w fun e w' => Below w.heap.size w w' ∧ ∃ va, e = .returned (.tuple #[va, .bool (findA n.attrs nm kd).isSome]) ∧ AttrV w' va ((findA n.attrs nm kd).getD At.zero) := by
  obtain ⟨vin, vat, rfl, hn⟩ := h
  obtain ⟨a1, c1, rfl⟩ := hn.is.form
  obtain ⟨a2, c2, rfl⟩ := hn.ia.form
  have hal := hn.ia.len
  have HN := Lib.hid hn
  clear hn
  unfold Nd.val
  go_enter Tryz.func102, Tryz.ntmps102
  go_wp2_with fail
  generalize hw1 : (w.alloc _).alloc _ = W1
  have hB1 : Hid (Below w.heap.size w W1) := Lib.hid (by rw [← hw1]; exact ((Below.refl _ w).alloc (Nat.le_refl _) _).alloc (by simp) _)
  have hX : Hid (BoxN W1 w.heap.size #[Value.string n.op, Value.string n.name, Value.slice a1 n.ins.length c1, Value.string n.out, Value.slice a2 n.attrs.length c2] 47) := Lib.hid (by rw [← hw1]; exact (BoxN.new w _ _).below' ((Below.refl _ _).alloc (Nat.le_refl _) _))
  have hR : Hid (BoxN W1 (w.heap.size + 1) #[Value.string ⟨#[]⟩, Value.int .i64 0, Value.int .i64 0, Value.int .i64 0, Value.string ⟨#[]⟩, Value.int .i64 0, Value.slice none 0 0, Value.slice none 0 0, Value.slice none 0 0] 77) := Lib.hid (by rw [← hw1]; simpa using BoxN.new (w.alloc (Obj.cells #[Value.string n.op, Value.string n.name, Value.slice a1 n.ins.length c1, Value.string n.out, Value.slice a2 n.attrs.length c2] 47)) #[Value.string ⟨#[]⟩, Value.int .i64 0, Value.int .i64 0, Value.int .i64 0, Value.string ⟨#[]⟩, Value.int .i64 0, Value.slice none 0 0, Value.slice none 0 0, Value.slice none 0 0] 77)
  clear hw1
  have k4 : W1.cell? ⟨w.heap.size, 4, none⟩ = some (.slice a2 n.attrs.length c2) := hX.out.cell 4 rfl
  obtain ⟨r0, r1, r2, r3, r4, r5, r6, r7, r8⟩ := hR.out.nine
  obtain ⟨f0, f1, f2, f3, f4, f5, f6, f7, f8⟩ := hR.out.thaw9
  go_loop [8] (fun i => ∃ k : Nat, k ≤ n.attrs.length ∧ i = .int .i64 (k : Int) ∧ Hid ((n.attrs.take k).any (isA nm kd) = false)) (fun i => n.attrs.length - (intOf i).toNat)
  case atStart => exact ⟨0, Nat.zero_le _, rfl, Lib.hid (by simp)⟩
  case round =>
    obtain ⟨k, hk, rfl, hT⟩ := hrel
    by_cases hkl : k < n.attrs.length
    · have hki : (k : Int) < (n.attrs.length : Int) := by omega
      obtain ⟨a, ha⟩ : ∃ a, n.attrs[k]? = some a := ⟨_, List.getElem?_eq_getElem hkl⟩
      obtain ⟨b, off, cap, hv, hb, hrd⟩ := HN.out.ia.rows k a ha
      obtain ⟨rfl, _, rfl⟩ := Value.slice.inj hv
      obtain ⟨vd, vx, vi, hc9, hn9⟩ := hrd k a ha
      obtain ⟨c0, c1, c2, c3, c4, c5, c6, c7, c8⟩ := hc9.below hb hB1.out
      obtain ⟨ad, cd, rfl⟩ := hn9.id.shape
      obtain ⟨ax, cx, rfl⟩ := hn9.ix.shape
      obtain ⟨ai, ci, rfl⟩ := hn9.ii.shape
      have HN9 := Lib.hid hn9
      have HA := Lib.hid ha
      clear hv hrd hc9 hn9 ha
      by_cases hnm : a.name.toList = nm.toList
      · by_cases hkd : a.kind = kd
        · have hf : Hid (findA n.attrs nm kd = some a) := Lib.hid (find_at hT.out HA.out (isA_is hnm hkd))
          have hkb : (a.kind == kd) = true := by simpa using hkd
          have hnb : (a.name.toList == nm.toList) = true := by simpa using hnm
          clear hkd
          go_wp2
          have hp := hR.out.put (.string a.name) (.int .i64 a.kind) (.int .i64 a.f) (.int .i64 a.i) (.string a.s) (.int .i64 a.typ) (.slice ad a.dims.length cd) (.slice ax a.data.length cx) (.slice ai a.ints.length ci)
          have hq : Below w.heap.size w (put9 W1 (w.heap.size + 1) (.string a.name) (.int .i64 a.kind) (.int .i64 a.f) (.int .i64 a.i) (.string a.s) (.int .i64 a.typ) (.slice ad a.dims.length cd) (.slice ax a.data.length cx) (.slice ai a.ints.length ci)) := below_put9 hB1.out (by omega)
          have hn9 : AttrN (put9 W1 (w.heap.size + 1) (.string a.name) (.int .i64 a.kind) (.int .i64 a.f) (.int .i64 a.i) (.string a.s) (.int .i64 a.typ) (.slice ad a.dims.length cd) (.slice ax a.data.length cx) (.slice ai a.ints.length ci)) a (.slice ad a.dims.length cd) (.slice ax a.data.length cx) (.slice ai a.ints.length ci) := HN9.out.below hq
          clear c0 c1 c2 c3 c4 c5 c6 c7 c8
          obtain ⟨c0, c1, c2, c3, c4, c5, c6, c7, c8⟩ := hp.nine
          unfold put9 at c0 c1 c2 c3 c4 c5 c6 c7 c8 hq hn9
          refine bodyPost_ret (v := .tuple #[.agg #[.string a.name, .int .i64 a.kind, .int .i64 a.f, .int .i64 a.i, .string a.s, .int .i64 a.typ, .slice ad a.dims.length cd, .slice ax a.data.length cx, .slice ai a.ints.length ci], .bool true]) (by simp [results, Tryz.f102, go_sem, c0, c1, c2, c3, c4, c5, c6, c7, c8]) rfl ?_
          rw [hf.out]
          exact ⟨hq, _, rfl, _, _, _, rfl, hn9⟩
        · have hkb : (a.kind == kd) = false := by simpa using hkd
          have hnb : (a.name.toList == nm.toList) = true := by simpa using hnm
          have hT' : Hid ((n.attrs.take (k + 1)).any (isA nm kd) = false) := Lib.hid (take_any HA.out hT.out (isA_not_kind hkd))
          go_wp2
          go_round
          case rel => exact ⟨k + 1, by omega, by go_num, hT'⟩
          case measure => simp [intOf]; omega
      · have hnb : (a.name.toList == nm.toList) = false := by simpa using hnm
        have hT' : Hid ((n.attrs.take (k + 1)).any (isA nm kd) = false) := Lib.hid (take_any HA.out hT.out (isA_not_name hnm))
        go_wp2
        go_round
        case rel => exact ⟨k + 1, by omega, by go_num, hT'⟩
        case measure => simp [intOf]; omega
    · have hki : ¬ (k : Int) < (n.attrs.length : Int) := by omega
      obtain rfl : k = n.attrs.length := by omega
      have hf : Hid (findA n.attrs nm kd = none) := Lib.hid (find_not (by have := hT.out; rwa [List.take_length] at this))
      go_wp2
      have hp := hR.out.put (.string ⟨#[]⟩) (.int .i64 0) (.int .i64 0) (.int .i64 0) (.string ⟨#[]⟩) (.int .i64 0) (.slice none 0 0) (.slice none 0 0) (.slice none 0 0)
      have hq : Below w.heap.size w (put9 W1 (w.heap.size + 1) (.string ⟨#[]⟩) (.int .i64 0) (.int .i64 0) (.int .i64 0) (.string ⟨#[]⟩) (.int .i64 0) (.slice none 0 0) (.slice none 0 0) (.slice none 0 0)) := below_put9 hB1.out (by omega)
      obtain ⟨c0, c1, c2, c3, c4, c5, c6, c7, c8⟩ := hp.nine
      unfold put9 at c0 c1 c2 c3 c4 c5 c6 c7 c8 hq
      refine bodyPost_ret (v := .tuple #[.agg #[.string ⟨#[]⟩, .int .i64 0, .int .i64 0, .int .i64 0, .string ⟨#[]⟩, .int .i64 0, .slice none 0 0, .slice none 0 0, .slice none 0 0], .bool false]) (by simp [results, Tryz.f102, go_sem, c0, c1, c2, c3, c4, c5, c6, c7, c8]) rfl ?_
      rw [hf.out]
      exact ⟨hq, _, rfl, AttrV.zero _⟩

end Go.Proofs.YtlbhepfbogcipaaGreatDoor

namespace Go.Proofs.YtlbhepfbogcipaaGreatDoor
namespace Fl
open Ieee

/-- The magnitude of a rung, in units of '2 ^ leastPlace'. -/
def mg (f : Format) (r : Nat) : Nat :=
  if r < f.binade then r else (f.binade + r % f.binade) * 2 ^ (r / f.binade - 1)

theorem binade_pos (f : Format) : 0 < f.binade := Nat.two_pow_pos _

theorem mg_low {f : Format} {r : Nat} (h : r < f.binade) : mg f r = r := by
  unfold mg; rw [if_pos h]

theorem mg_high {f : Format} {r : Nat} (h : f.binade ≤ r) : mg f r = (f.binade + r % f.binade) * 2 ^ (r / f.binade - 1) := by
  unfold mg; rw [if_neg (by omega)]

theorem mg_zero (f : Format) : mg f 0 = 0 := mg_low (binade_pos f)

theorem cut_le {neg : Bool} {n drop N : Nat} (h : n ≤ N * 2 ^ drop) : Toward.even.cut neg n drop ≤ N := by
  have hlog : n < 2 ^ (n.log2 + 1) := Nat.lt_log2_self
  unfold Toward.cut
  simp only [Nat.shiftLeft_eq, Nat.one_mul]
  by_cases hd : drop ≤ n.log2 + 2
  · rw [Nat.min_eq_left hd]
    have hp : 0 < 2 ^ drop := Nat.two_pow_pos _
    generalize 2 ^ drop = g at *
    have hdm := Nat.div_add_mod n g
    have hm := Nat.mod_lt n hp
    have hle : n / g ≤ N := Nat.div_le_of_le_mul (by rw [Nat.mul_comm]; exact h)
    by_cases he : n / g = N
    · have hz : n % g = 0 := by
        rw [he] at hdm
        have : g * N = N * g := Nat.mul_comm _ _
        omega
      have h0 : (decide (g < 2 * (n % g)) || (g == 2 * (n % g) && n / g % 2 == 1)) = false := by
        rw [hz]; simp; omega
      rw [h0]; simp; omega
    · have := Bool.toNat_le (decide (g < 2 * (n % g)) || (g == 2 * (n % g) && n / g % 2 == 1))
      omega
  · have hmin : min drop (n.log2 + 2) = n.log2 + 2 := Nat.min_eq_right (by omega)
    rw [hmin]
    have h2 : 2 ^ (n.log2 + 2) = 2 * 2 ^ (n.log2 + 1) := by rw [Nat.pow_succ]; omega
    have hlt : n < 2 ^ (n.log2 + 2) := by omega
    rw [Nat.div_eq_of_lt hlt, Nat.mod_eq_of_lt hlt]
    have h0 : (decide (2 ^ (n.log2 + 2) < 2 * n) || (2 ^ (n.log2 + 2) == 2 * n && 0 % 2 == 1)) = false := by
      simp; omega
    rw [h0]; simp

theorem le_cut {neg : Bool} {n drop N : Nat} (h : N * 2 ^ drop ≤ n) : N ≤ Toward.even.cut neg n drop := by
  have hlog : n < 2 ^ (n.log2 + 1) := Nat.lt_log2_self
  unfold Toward.cut
  simp only [Nat.shiftLeft_eq, Nat.one_mul]
  by_cases hd : drop ≤ n.log2 + 2
  · rw [Nat.min_eq_left hd]
    have hp : 0 < 2 ^ drop := Nat.two_pow_pos _
    have := (Nat.le_div_iff_mul_le hp (x := N) (y := n)).2 h
    omega
  · have h1 : 2 ^ (n.log2 + 1) ≤ 2 ^ drop := Nat.pow_le_pow_right (by decide) (by omega)
    have : N = 0 := by
      rcases Nat.eq_zero_or_pos N with h0 | h0
      · exact h0
      · have : 1 * 2 ^ drop ≤ N * 2 ^ drop := Nat.mul_le_mul_right _ h0
        omega
    rw [this]; exact Nat.zero_le _

/-- The rung that 'nearest' finds. -/
def rnd (f : Format) (mag : Nat) (place : Int) : Nat :=
  if mag = 0 then 0 else
  let last := max (place + mag.log2 - f.fractionBits) f.leastPlace
  let kept := Toward.even.cut false (mag <<< (place - last).toNat) (last - place).toNat
  min ((last - f.leastPlace).toNat * f.binade + kept) f.infRung

theorem nearest_eq (f : Format) (neg : Bool) (mag : Nat) (place : Int) : f.nearest neg mag place = f.word neg (rnd f mag place) := by
  unfold Format.nearest rnd
  by_cases h : mag = 0
  · rw [if_pos h, if_pos h]
  · rw [if_neg h, if_neg h]; rfl

/-- What is needed of the digits kept, over plain numbers: 'V / D' is the number in units of the least place. -/
structure Near (B E K V D : Nat) : Prop where
  up : ∀ N, V ≤ N * (2 ^ E * D) → K ≤ N
  down : ∀ N, N * (2 ^ E * D) ≤ V → N ≤ K
  lt : V < 2 * B * (2 ^ E * D)
  ge : E = 0 ∨ B * (2 ^ E * D) ≤ V

theorem near_of (f : Format) {mag : Nat} (place : Int) (hm : mag ≠ 0) :
    ∃ E K, rnd f mag place = min (E * f.binade + K) f.infRung ∧
      Near f.binade E K (mag * 2 ^ (place - f.leastPlace).toNat) (2 ^ (f.leastPlace - place).toNat) := by
  have h1 : 2 ^ mag.log2 ≤ mag := Nat.log2_self_le hm
  have h2 : mag < 2 ^ (mag.log2 + 1) := Nat.lt_log2_self
  generalize hlg : mag.log2 = lg at *
  let last := max (place + lg - f.fractionBits) f.leastPlace
  have hlast : last = max (place + lg - f.fractionBits) f.leastPlace := rfl
  refine ⟨(last - f.leastPlace).toNat, Toward.even.cut false (mag <<< (place - last).toNat) (last - place).toNat, ?_, ?_⟩
  · unfold rnd; rw [if_neg hm, hlg]
  · generalize hE : (last - f.leastPlace).toNat = E
    generalize hu : (place - last).toNat = u
    generalize hd : (last - place).toNat = dn
    generalize ha : (place - f.leastPlace).toNat = a
    generalize hq : (f.leastPlace - place).toNat = d
    have hbin : f.binade = 2 ^ f.fractionBits := rfl
    generalize hfb : f.fractionBits = fb at *
    have hpw : 2 ^ u * (2 ^ E * 2 ^ d) = 2 ^ dn * 2 ^ a := by
      rw [← Nat.pow_add, ← Nat.pow_add, ← Nat.pow_add]
      congr 1
      omega
    have hpd : 0 < 2 ^ dn := Nat.two_pow_pos _
    have hpE : 0 < 2 ^ E * 2 ^ d := Nat.mul_pos (Nat.two_pow_pos _) (Nat.two_pow_pos _)
    refine ⟨?_, ?_, ?_, ?_⟩
    · intro N h
      refine cut_le ?_
      rw [Nat.shiftLeft_eq]
      refine Nat.le_of_mul_le_mul_right ?_ hpE
      calc mag * 2 ^ u * (2 ^ E * 2 ^ d) = 2 ^ dn * (mag * 2 ^ a) := by
            rw [Nat.mul_assoc, hpw]; ac_rfl
        _ ≤ 2 ^ dn * (N * (2 ^ E * 2 ^ d)) := Nat.mul_le_mul_left _ h
        _ = N * 2 ^ dn * (2 ^ E * 2 ^ d) := by ac_rfl
    · intro N h
      refine le_cut ?_
      rw [Nat.shiftLeft_eq]
      refine Nat.le_of_mul_le_mul_right ?_ hpE
      calc N * 2 ^ dn * (2 ^ E * 2 ^ d) = 2 ^ dn * (N * (2 ^ E * 2 ^ d)) := by ac_rfl
        _ ≤ 2 ^ dn * (mag * 2 ^ a) := Nat.mul_le_mul_left _ h
        _ = mag * 2 ^ u * (2 ^ E * 2 ^ d) := by
            rw [Nat.mul_assoc, hpw]; ac_rfl
    · rw [hbin]
      have h3 : mag * 2 ^ a < 2 ^ (lg + 1) * 2 ^ a := Nat.mul_lt_mul_of_pos_right h2 (Nat.two_pow_pos _)
      refine Nat.lt_of_lt_of_le h3 ?_
      rw [show 2 * 2 ^ fb * (2 ^ E * 2 ^ d) = 2 ^ (fb + 1 + (E + d)) from by
        rw [Nat.pow_add, Nat.pow_add 2 E d, Nat.pow_succ]; ac_rfl, ← Nat.pow_add]
      exact Nat.pow_le_pow_right (by decide) (by omega)
    · by_cases h0 : E = 0
      · exact Or.inl h0
      · right
        rw [hbin]
        have h3 : 2 ^ lg * 2 ^ a ≤ mag * 2 ^ a := Nat.mul_le_mul_right _ h1
        refine Nat.le_trans ?_ h3
        rw [← Nat.pow_add, ← Nat.pow_add, ← Nat.pow_add]
        exact Nat.pow_le_pow_right (by decide) (by omega)

theorem near_le {f : Format} {E K V D c : Nat} (hD : 0 < D) (h : Near f.binade E K V D) (hc : V ≤ mg f c * D) : E * f.binade + K ≤ c := by
  have hB := binade_pos f
  obtain ⟨up, down, lt, ge⟩ := h
  have hk2 : K ≤ 2 * f.binade := up _ (Nat.le_of_lt lt)
  by_cases hlow : c < f.binade
  · rw [mg_low hlow] at hc
    rcases ge with h0 | h0
    · subst h0
      have := up c (by simpa using hc)
      omega
    · have h1 : f.binade * (2 ^ E * D) ≤ c * D := Nat.le_trans h0 hc
      have h2 : f.binade * D ≤ f.binade * (2 ^ E * D) := by
        refine Nat.mul_le_mul_left _ ?_
        exact Nat.le_mul_of_pos_left _ (Nat.two_pow_pos _)
      have := Nat.le_of_mul_le_mul_right (Nat.le_trans h2 h1) hD
      omega
  · have hge : f.binade ≤ c := by omega
    rw [mg_high hge] at hc
    have hdm := Nat.div_add_mod c f.binade
    have hmod := Nat.mod_lt c hB
    have hq1 : 1 ≤ c / f.binade := (Nat.le_div_iff_mul_le hB).2 (by omega)
    generalize hq : c / f.binade = q at *
    generalize ht : c % f.binade = t at *
    rcases Nat.lt_trichotomy E (q - 1) with hlt | heq | hgt
    · have : (E + 2) * f.binade ≤ q * f.binade := Nat.mul_le_mul_right _ (by omega)
      have e1 : (E + 2) * f.binade = E * f.binade + 2 * f.binade := Nat.add_mul _ _ _
      have e2 : q * f.binade = f.binade * q := Nat.mul_comm _ _
      omega
    · subst heq
      have := up (f.binade + t) (by rw [← Nat.mul_assoc]; exact hc)
      have e1 : f.binade * q = (q - 1) * f.binade + f.binade := by
        rw [Nat.mul_comm, ← Nat.succ_mul]; congr 1; omega
      omega
    · rcases ge with h0 | h0
      · omega
      · exfalso
        have h1 : f.binade * (2 ^ E * D) ≤ (f.binade + t) * 2 ^ (q - 1) * D := Nat.le_trans h0 hc
        have h2 : f.binade * 2 ^ E ≤ (f.binade + t) * 2 ^ (q - 1) := by
          refine Nat.le_of_mul_le_mul_right ?_ hD
          rw [Nat.mul_assoc]; exact h1
        have h3 : 2 ^ (q - 1 + 1) ≤ 2 ^ E := Nat.pow_le_pow_right (by decide) (by omega)
        have h4 : f.binade * 2 ^ (q - 1 + 1) ≤ f.binade * 2 ^ E := Nat.mul_le_mul_left _ h3
        have h5 : (f.binade + t) * 2 ^ (q - 1) < 2 * f.binade * 2 ^ (q - 1) := Nat.mul_lt_mul_of_pos_right (by omega) (Nat.two_pow_pos _)
        have h6 : f.binade * 2 ^ (q - 1 + 1) = 2 * f.binade * 2 ^ (q - 1) := by rw [Nat.pow_succ]; ac_rfl
        omega

theorem le_near {f : Format} {E K V D c : Nat} (h : Near f.binade E K V D) (hc : mg f c * D ≤ V) : c ≤ E * f.binade + K := by
  have hB := binade_pos f
  obtain ⟨up, down, lt, ge⟩ := h
  have hkB : E = 0 ∨ f.binade ≤ K := ge.imp id (fun h => down _ h)
  by_cases hlow : c < f.binade
  · rw [mg_low hlow] at hc
    rcases hkB with h0 | h0
    · subst h0
      have := down c (by simpa using hc)
      omega
    · omega
  · have hge : f.binade ≤ c := by omega
    rw [mg_high hge] at hc
    have hdm := Nat.div_add_mod c f.binade
    have hmod := Nat.mod_lt c hB
    have hq1 : 1 ≤ c / f.binade := (Nat.le_div_iff_mul_le hB).2 (by omega)
    generalize hq : c / f.binade = q at *
    generalize ht : c % f.binade = t at *
    rcases Nat.lt_trichotomy E (q - 1) with hlt | heq | hgt
    · exfalso
      have h3 : 2 ^ (E + 1) ≤ 2 ^ (q - 1) := Nat.pow_le_pow_right (by decide) (by omega)
      have h4 : 2 * f.binade * (2 ^ E * D) ≤ (f.binade + t) * 2 ^ (q - 1) * D := by
        calc 2 * f.binade * (2 ^ E * D) = f.binade * 2 ^ (E + 1) * D := by rw [Nat.pow_succ]; ac_rfl
          _ ≤ f.binade * 2 ^ (q - 1) * D := Nat.mul_le_mul_right _ (Nat.mul_le_mul_left _ h3)
          _ ≤ (f.binade + t) * 2 ^ (q - 1) * D := Nat.mul_le_mul_right _ (Nat.mul_le_mul_right _ (by omega))
      omega
    · subst heq
      have := down (f.binade + t) (by rw [← Nat.mul_assoc]; exact hc)
      have e1 : f.binade * q = (q - 1) * f.binade + f.binade := by
        rw [Nat.mul_comm, ← Nat.succ_mul]; congr 1; omega
      omega
    · rcases hkB with h0 | h0
      · omega
      · have h1 : q * f.binade ≤ E * f.binade := Nat.mul_le_mul_right _ (by omega)
        have e2 : q * f.binade = f.binade * q := Nat.mul_comm _ _
        omega

/-- WHAT IS NOT ABOVE A RUNG ROUNDS TO NO HIGHER ONE. -/
theorem rnd_le {f : Format} {mag : Nat} {place : Int} {c : Nat}
    (h : mag * 2 ^ (place - f.leastPlace).toNat ≤ mg f c * 2 ^ (f.leastPlace - place).toNat) : rnd f mag place ≤ c := by
  by_cases hm : mag = 0
  · unfold rnd; rw [if_pos hm]; omega
  · obtain ⟨E, K, he, hn⟩ := near_of f place hm
    rw [he]
    have := near_le (Nat.two_pow_pos _) hn h
    omega

/-- WHAT IS NOT BELOW A RUNG ROUNDS TO NO LOWER ONE. -/
theorem le_rnd {f : Format} {mag : Nat} {place : Int} {c : Nat} (hc : c ≤ f.infRung)
    (h : mg f c * 2 ^ (f.leastPlace - place).toNat ≤ mag * 2 ^ (place - f.leastPlace).toNat) : c ≤ rnd f mag place := by
  by_cases hm : mag = 0
  · subst hm
    have h0 : mg f c = 0 := by
      rw [Nat.zero_mul] at h
      have := Nat.le_zero.1 h
      rcases Nat.mul_eq_zero.1 this with h1 | h1
      · exact h1
      · have := Nat.two_pow_pos (f.leastPlace - place).toNat; omega
    have hB := binade_pos f
    by_cases hlow : c < f.binade
    · rw [mg_low hlow] at h0; omega
    · rw [mg_high (by omega)] at h0
      have := Nat.two_pow_pos (c / f.binade - 1)
      rcases Nat.mul_eq_zero.1 h0 with h1 | h1 <;> omega
  · obtain ⟨E, K, he, hn⟩ := near_of f place hm
    rw [he]
    have := le_near hn h
    omega

theorem rnd_le_inf (f : Format) (mag : Nat) (place : Int) : rnd f mag place ≤ f.infRung := by
  by_cases hm : mag = 0
  · unfold rnd; rw [if_pos hm]; omega
  · obtain ⟨E, K, he, hn⟩ := near_of f place hm
    rw [he]; exact Nat.min_le_right _ _

theorem mg_lt {f : Format} {a b : Nat} (h : a < b) : mg f a < mg f b := by
  have hB := binade_pos f
  by_cases hb : b < f.binade
  · rw [mg_low hb, mg_low (by omega)]; exact h
  · rw [mg_high (r := b) (by omega)]
    have hq1 : 1 ≤ b / f.binade := (Nat.le_div_iff_mul_le hB).2 (by omega)
    have hdb := Nat.div_add_mod b f.binade
    by_cases ha : a < f.binade
    · rw [mg_low ha]
      have : (f.binade + b % f.binade) * 1 ≤ (f.binade + b % f.binade) * 2 ^ (b / f.binade - 1) := Nat.mul_le_mul_left _ (Nat.two_pow_pos _)
      omega
    · rw [mg_high (r := a) (by omega)]
      have hda := Nat.div_add_mod a f.binade
      have hma := Nat.mod_lt a hB
      have hmb := Nat.mod_lt b hB
      have hqa : 1 ≤ a / f.binade := (Nat.le_div_iff_mul_le hB).2 (by omega)
      generalize a / f.binade = p at *
      generalize b / f.binade = q at *
      generalize a % f.binade = s at *
      generalize b % f.binade = t at *
      rcases Nat.lt_trichotomy p q with hlt | heq | hgt
      · have h1 : (f.binade + s) * 2 ^ (p - 1) < 2 * f.binade * 2 ^ (p - 1) := Nat.mul_lt_mul_of_pos_right (by omega) (Nat.two_pow_pos _)
        have h2 : 2 * f.binade * 2 ^ (p - 1) = f.binade * 2 ^ (p - 1 + 1) := by rw [Nat.pow_succ]; ac_rfl
        have h3 : 2 ^ (p - 1 + 1) ≤ 2 ^ (q - 1) := Nat.pow_le_pow_right (by decide) (by omega)
        have h4 : f.binade * 2 ^ (p - 1 + 1) ≤ (f.binade + t) * 2 ^ (q - 1) := Nat.mul_le_mul (by omega) h3
        omega
      · subst heq
        refine Nat.mul_lt_mul_of_pos_right (by omega) (Nat.two_pow_pos _)
      · exfalso
        have : f.binade * (q + 1) ≤ f.binade * p := Nat.mul_le_mul_left _ (by omega)
        rw [Nat.mul_add] at this
        omega

theorem mg_le {f : Format} {a b : Nat} (h : a ≤ b) : mg f a ≤ mg f b := by
  rcases Nat.lt_or_eq_of_le h with h | h
  · exact Nat.le_of_lt (mg_lt h)
  · rw [h]; exact Nat.le_refl _

theorem mg_lt_iff {f : Format} {a b : Nat} : mg f a < mg f b ↔ a < b := by
  constructor
  · intro h
    rcases Nat.lt_or_ge a b with h1 | h1
    · exact h1
    · have := mg_le (f := f) h1; omega
  · exact mg_lt

theorem mg_inj {f : Format} {a b : Nat} (h : mg f a = mg f b) : a = b := by
  rcases Nat.lt_trichotomy a b with h1 | h1 | h1
  · have := mg_lt (f := f) h1; omega
  · exact h1
  · have := mg_lt (f := f) h1; omega

/-- A number that IS a rung's magnitude rounds to that rung. -/
theorem rnd_eq {f : Format} {mag : Nat} {place : Int} {c : Nat} (hc : c ≤ f.infRung)
    (h : mag * 2 ^ (place - f.leastPlace).toNat = mg f c * 2 ^ (f.leastPlace - place).toNat) : rnd f mag place = c :=
  Nat.le_antisymm (rnd_le (Nat.le_of_eq h)) (le_rnd hc (Nat.le_of_eq h.symm))

/-- A whole number of units with at most one digit more than the fraction IS a rung's magnitude. -/
theorem mg_exact {f : Format} (m e : Nat) (h : m < 2 * f.binade) : ∃ c, mg f c = m * 2 ^ e := by
  have hB := binade_pos f
  induction e generalizing m with
  | zero =>
    refine ⟨m, ?_⟩
    by_cases hlow : m < f.binade
    · rw [mg_low hlow]; simp
    · have h1 : m / f.binade = 1 := by
        refine Nat.div_eq_of_lt_le ?_ ?_ <;> omega
      rw [mg_high (by omega), h1]
      have := Nat.div_add_mod m f.binade
      rw [h1] at this
      simp; omega
  | succ e ih =>
    by_cases hlow : m < f.binade
    · obtain ⟨c, hc⟩ := ih (2 * m) (by omega)
      exact ⟨c, by rw [hc, Nat.pow_succ]; ac_rfl⟩
    · refine ⟨(e + 1 + 1) * f.binade + (m - f.binade), ?_⟩
      have ht : m - f.binade < f.binade := by omega
      have hbig : f.binade ≤ (e + 1 + 1) * f.binade + (m - f.binade) := by
        have := Nat.mul_le_mul_right f.binade (show 1 ≤ e + 1 + 1 by omega); omega
      have hdiv : ((e + 1 + 1) * f.binade + (m - f.binade)) / f.binade = e + 1 + 1 := by
        rw [Nat.mul_comm, Nat.mul_add_div hB, Nat.div_eq_of_lt ht]
      have hmod : ((e + 1 + 1) * f.binade + (m - f.binade)) % f.binade = m - f.binade := by
        rw [Nat.mul_comm, Nat.mul_add_mod, Nat.mod_eq_of_lt ht]
      rw [mg_high hbig, hdiv, hmod]
      rw [show f.binade + (m - f.binade) = m by omega]
      rfl

/-! ### words -/

def rung (f : Format) (w : Nat) : Nat := w % f.signWeight
def sgn (f : Format) (w : Nat) : Bool := w / f.signWeight % 2 == 1
/-- Is a word a NaN? -/
def isNaN (f : Format) (w : Nat) : Bool := decide (f.infRung < w % f.signWeight)
/-- A word's number in units of the least place (an infinity's: as if its rung were a number's). -/
def sv (f : Format) (w : Nat) : Int := if sgn f w then -(mg f (rung f w) : Int) else (mg f (rung f w) : Int)

theorem read_fin {f : Format} {w : Nat} (h : rung f w < f.infRung) :
    ∃ m p, f.read w = .number (sgn f w) m p ∧ f.leastPlace ≤ p ∧ m * 2 ^ (p - f.leastPlace).toNat = mg f (rung f w) := by
  unfold Format.read
  simp only [rung] at h ⊢
  by_cases h1 : w % f.signWeight < f.binade
  · rw [if_pos h1]
    refine ⟨_, _, rfl, Int.le_refl _, ?_⟩
    rw [mg_low h1]; simp
  · rw [if_neg h1, if_pos h]
    refine ⟨_, _, rfl, by omega, ?_⟩
    rw [mg_high (by omega)]
    congr 2
    omega

theorem read_inf {f : Format} (hf : f.binade ≤ f.infRung) {w : Nat} (h : rung f w = f.infRung) : f.read w = .infinity (sgn f w) := by
  unfold Format.read
  simp only [rung] at h ⊢
  rw [h, if_neg (by omega), if_neg (by omega), if_pos rfl]
  rfl

theorem read_nan {f : Format} (hf : f.binade ≤ f.infRung) {w : Nat} (h : isNaN f w = true) : f.read w = .nan (sgn f w) (rung f w - f.infRung) := by
  unfold Format.read
  simp only [isNaN, decide_eq_true_eq] at h
  rw [if_neg (by omega), if_neg (by omega), if_neg (by omega)]
  rfl

theorem signed_eq (s : Bool) (m k : Nat) : signed s m k = if s then -((m * 2 ^ k : Nat) : Int) else ((m * 2 ^ k : Nat) : Int) := by
  unfold signed; simp only [Nat.shiftLeft_eq]

/-- Over any common place that is no less than the least one, the whole numbers are the magnitudes again. -/
theorem signed_sv {f : Format} {w m : Nat} {p b : Int} (hL : f.leastPlace ≤ b) (hb : b ≤ p) (h : m * 2 ^ (p - f.leastPlace).toNat = mg f (rung f w)) :
    signed (sgn f w) m (p - b).toNat * ((2 ^ (b - f.leastPlace).toNat : Nat) : Int) = sv f w := by
  have e : (p - f.leastPlace).toNat = (p - b).toNat + (b - f.leastPlace).toNat := by omega
  rw [e, Nat.pow_add, ← Nat.mul_assoc] at h
  rw [signed_eq]
  unfold sv
  rw [← h]
  cases sgn f w <;> simp [Int.neg_mul]

theorem compare_mul (x y : Int) {c : Nat} (h : 0 < c) : compare (x * (c : Int)) (y * (c : Int)) = compare x y := by
  have hc : (0 : Int) < c := by omega
  rcases Int.lt_trichotomy x y with h1 | h1 | h1
  · have h2 : x * (c : Int) < y * (c : Int) := Int.mul_lt_mul_of_pos_right h1 hc
    rw [Int.compare_eq_lt.2 h1, Int.compare_eq_lt.2 h2]
  · rw [h1]; simp
  · have h2 : y * (c : Int) < x * (c : Int) := Int.mul_lt_mul_of_pos_right h1 hc
    rw [Int.compare_eq_gt.2 h1, Int.compare_eq_gt.2 h2]

theorem sv_abs_lt {f : Format} {w : Nat} (h : rung f w < f.infRung) : -(mg f f.infRung : Int) < sv f w ∧ sv f w < (mg f f.infRung : Int) := by
  have := mg_lt (f := f) h
  unfold sv
  split <;> constructor <;> omega

/-- ORDER IS THE ORDER OF THE WHOLE NUMBERS. -/
theorem order_eq {f : Format} (hf : f.binade ≤ f.infRung) {a b : Nat} (ha : isNaN f a = false) (hb : isNaN f b = false) :
    f.order a b = some (compare (sv f a) (sv f b)) := by
  have hB := binade_pos f
  have hpos : 0 < mg f f.infRung := by
    have := mg_lt (f := f) (show 0 < f.infRung by omega); omega
  simp only [isNaN, decide_eq_false_iff_not, Nat.not_lt] at ha hb
  unfold Format.order
  rcases Nat.lt_or_eq_of_le ha with ha | ha <;> rcases Nat.lt_or_eq_of_le hb with hb | hb
  · obtain ⟨m, p, e1, h1, g1⟩ := read_fin (f := f) (w := a) ha
    obtain ⟨n, q, e2, h2, g2⟩ := read_fin (f := f) (w := b) hb
    rw [e1, e2]
    simp only [Datum.order]
    congr 1
    have k1 := signed_sv (f := f) (w := a) (b := min p q) (by omega) (by omega) g1
    have k2 := signed_sv (f := f) (w := b) (b := min p q) (by omega) (by omega) g2
    rw [← k1, ← k2, compare_mul _ _ (Nat.two_pow_pos _)]
  · obtain ⟨m, p, e1, h1, g1⟩ := read_fin (f := f) (w := a) ha
    rw [e1, read_inf hf hb]
    simp only [Datum.order]
    congr 1
    have := sv_abs_lt ha
    have e : sv f b = if sgn f b then -(mg f f.infRung : Int) else (mg f f.infRung : Int) := by unfold sv; rw [show rung f b = f.infRung from hb]
    rw [e]
    cases sgn f b
    · exact (Int.compare_eq_lt.2 (by simp; omega)).symm
    · exact (Int.compare_eq_gt.2 (by simp; omega)).symm
  · obtain ⟨m, p, e1, h1, g1⟩ := read_fin (f := f) (w := b) hb
    rw [e1, read_inf hf ha]
    simp only [Datum.order]
    congr 1
    have := sv_abs_lt hb
    have e : sv f a = if sgn f a then -(mg f f.infRung : Int) else (mg f f.infRung : Int) := by unfold sv; rw [show rung f a = f.infRung from ha]
    rw [e]
    cases sgn f a
    · exact (Int.compare_eq_gt.2 (by simp; omega)).symm
    · exact (Int.compare_eq_lt.2 (by simp; omega)).symm
  · rw [read_inf hf ha, read_inf hf hb]
    simp only [Datum.order]
    congr 1
    have ea : sv f a = if sgn f a then -(mg f f.infRung : Int) else (mg f f.infRung : Int) := by unfold sv; rw [show rung f a = f.infRung from ha]
    have eb : sv f b = if sgn f b then -(mg f f.infRung : Int) else (mg f f.infRung : Int) := by unfold sv; rw [show rung f b = f.infRung from hb]
    rw [ea, eb]
    cases sgn f a <;> cases sgn f b
    · simp
    · exact (Int.compare_eq_gt.2 (by simp; omega)).symm
    · exact (Int.compare_eq_lt.2 (by simp; omega)).symm
    · simp

theorem order_nan_left {f : Format} (hf : f.binade ≤ f.infRung) {a b : Nat} (ha : isNaN f a = true) : f.order a b = none := by
  unfold Format.order; rw [read_nan hf ha]; cases f.read b <;> rfl

theorem order_nan_right {f : Format} (hf : f.binade ≤ f.infRung) {a b : Nat} (hb : isNaN f b = true) : f.order a b = none := by
  unfold Format.order; rw [read_nan hf hb]; cases f.read a <;> rfl

end Fl
end Go.Proofs.YtlbhepfbogcipaaGreatDoor

set_option linter.unusedVariables false
namespace Go.Proofs.YtlbhepfbogcipaaGreatDoor
namespace Fl
open Ieee Go.RowKit

theorem okSn : single.binade ≤ single.infRung := by decide
theorem nan_self (a : Nat) : (single.order a a != some .eq) = isNaN single a := by
  cases h : isNaN single a
  · rw [order_eq okSn h h]; simp
  · rw [order_nan_left okSn h]; rfl
theorem nan_refl (a : Nat) : (single.order a a = some .eq) = (isNaN single a = false) := by
  have h := nan_self a
  cases g : isNaN single a <;> rw [g] at h <;> simpa using h
theorem and_infN {x : Nat} : (x &&& 2139095040 = 2139095040) ↔ x / 8388608 % 256 = 255 := by
  have e1 : (x &&& 2139095040) % 2 ^ 23 = 0 := by rw [Nat.and_mod_two_pow]; simp
  have e2 : (x &&& 2139095040) / 2 ^ 23 = x / 2 ^ 23 % 256 := by
    rw [Nat.and_div_two_pow]
    exact Nat.and_two_pow_sub_one_eq_mod _ 8
  have h2 := Nat.div_add_mod (x &&& 2139095040) (2 ^ 23)
  rw [e1, e2] at h2
  constructor
  · intro h; omega
  · intro h; rw [show (8388608 : Nat) = 2 ^ 23 from rfl] at h; rw [h] at h2; omega
theorem nan_bits {x : Nat} : isNaN single x = (decide (x / 8388608 % 256 = 255) && decide (x % 8388608 ≠ 0)) := by
  unfold isNaN
  rw [show single.infRung = 2139095040 by decide, show single.signWeight = 2147483648 by decide, Bool.eq_iff_iff]
  simp only [decide_eq_true_eq, Bool.and_eq_true]
  omega
theorem wraps_i64n (n : Int) (h₀ : 0 ≤ n) (h₁ : n < 2 ^ 63) : IntKind.i64.wrap n = n := by rw [IntKind.wrap_i64]; omega
theorem bits_andN {a b : Nat} (ha : a < 2 ^ 63) (hb : b < 2 ^ 63) : bits .and .i64 (a : Int) (b : Int) = ((a &&& b : Nat) : Int) :=
  (bits_nat .i64 63 (by decide) wraps_i64n a b ha hb).1

/-- What num.Check's test of Float's bits comes to. -/
theorem okW_nan (x : Int) : okW x = (decide (0 ≤ x) && decide (x < 4294967296) && (!isNaN single (x % 4294967296).toNat || x == 2143289344)) := by
  unfold okW
  by_cases h : x / 4294967296 = 0
  · obtain ⟨n, rfl⟩ := Int.eq_ofNat_of_zero_le (show 0 ≤ x by omega)
    have hn : n < 4294967296 := by omega
    have e1 : bits .and .i64 (n : Int) 2139095040 = ((n &&& 2139095040 : Nat) : Int) := bits_andN (b := 2139095040) (by omega) (by decide)
    have e2 : bits .and .i64 (n : Int) 8388607 = ((n &&& 8388607 : Nat) : Int) := bits_andN (b := 8388607) (by omega) (by decide)
    rw [e1, e2, show n &&& 8388607 = n % 8388608 from Nat.and_two_pow_sub_one_eq_mod _ 23]
    have e3 : ((n : Int) % 4294967296).toNat = n := by omega
    rw [e3, nan_bits]
    have h3 := and_infN (x := n)
    have h4 : (((n &&& 2139095040 : Nat) : Int) = 2139095040) ↔ n / 8388608 % 256 = 255 := by rw [← h3]; omega
    have h5 : (((n % 8388608 : Nat) : Int) = 0) ↔ n % 8388608 = 0 := by omega
    have h6 : (0 : Int) ≤ (n : Int) := by omega
    have h7 : (n : Int) < 4294967296 := by omega
    rw [Bool.eq_iff_iff]
    simp only [Bool.and_eq_true, Bool.or_eq_true, Bool.not_eq_true', decide_eq_true_eq, Bool.and_eq_false_iff, decide_eq_false_iff_not, h4, h5, h, h6, h7, beq_iff_eq, Bool.not_eq_false', true_and, and_true, ne_eq]
    constructor
    · intro g; exact g.imp (fun g => g.imp id (fun g => by simpa using g)) id
    · intro g; exact g.imp (fun g => g.imp id (fun g => by simpa using g)) id
  · have h1 : ¬ (0 ≤ x ∧ x < 4294967296) := by omega
    rcases (by omega : ¬ 0 ≤ x ∨ ¬ x < 4294967296) with g | g <;> simp [g, h]

theorem fltval {k : FloatKind} {a b : Nat} (h : a = b) : Value.float k a = Value.float k b := by rw [h]

theorem run_from32 (n : Int) (w : World) : (callFunc 61 #[.int .u32 n]).run Tryz.prog w = .ok (.value (.float .f32 n.toNat)) w := by
  rw [run_callFunc_extern (e := Extern.MathFloatBits.float32frombits) Tryz.func61 (by kernel_rfl) (by kernel_rfl) (by kernel_rfl) (by kernel_rfl)]; rfl
attribute [local go_sem] run_from32

theorem rf_one (x : Int) (w : World) :
    Calls Tryz.prog 52 #[.int .i64 x] w fun e w' => e = .returned (.float .f32 (x % 4294967296).toNat) ∧ w = w' := by
  go_enter Tryz.func52, Tryz.ntmps52
  go_wp2
  go_ret
  go_light
  exact ⟨ret_val (fltval (by simp)), rfl⟩

attribute [local irreducible] isNaN sv mg okW

set_option maxHeartbeats 400000 in
/-- THE REFERENCE's CHECK. -/
theorem rchk_any (t x : Int) (w : World) :
    Calls Tryz.prog 45 #[.int .i64 t, .int .i64 x] w fun e w' => e = .returned (.bool (chk t x)) ∧ w = w' := by
  have HR := Lib.hid (okW_nan x)
  have HN := Lib.hid fun n => show (FloatKind.f32.format.order n n = some .eq) = (isNaN single n = false) from nan_refl n
  go_enter Tryz.func45, Tryz.ntmps45
  go_wp2_with (go_at_call 52; refine (rf_one _ _).mono ?_; rintro e w' ⟨rfl, rfl⟩)
  all_goals (go_ret; go_light; refine ⟨ret_val (bool_val ?_), rfl⟩)
  all_goals (have hr := HR.out; have hn := HN.out; clear HR HN; (try simp only [hn, Bool.beq_eq_decide_eq] at *); unfold chk; grind)

end Fl
end Go.Proofs.YtlbhepfbogcipaaGreatDoor

set_option linter.unusedVariables false
set_option linter.unusedSimpArgs false
namespace Go.Proofs.YtlbhepfbogcipaaGreatDoor
open Go.RowKit

theorem FmsIn.parts {w : World} {v : Value} {fs : List Fm} (h : FmsIn w v fs) : ∃ ao : Option Addr, v = .slice ao fs.length fs.length ∧ (ao = none → fs.length = 0 ∧ fs.length = 0) ∧ (∀ b, ao = some b → ∀ j u, (fs.flatMap Fm.cells)[j]? = some u → w.cell? (b.add j) = some u) ∧ fs.length ≤ 100 := by
  cases h with
  | empty => exact ⟨none, rfl, fun _ => ⟨rfl, rfl⟩, fun b h => (by cases h), by simp⟩
  | row b _ h0 hb hr hlen =>
    refine ⟨_, rfl, fun h => (by cases h), fun b' h j u hu => ?_, hlen⟩
    obtain rfl := Option.some.inj h
    have hj : j / 3 < fs.length := by
      have := (List.getElem?_eq_some_iff.1 hu).1
      have e : (fs.flatMap Fm.cells).length = fs.length * 3 := by
        clear hu hr hlen h0 h this
        induction fs with
        | nil => rfl
        | cons f fs ih => rw [List.flatMap_cons, List.length_append, ih]; simp [Fm.cells]; omega
      omega
    obtain ⟨f, hf⟩ : ∃ f, fs[j / 3]? = some f := ⟨_, List.getElem?_eq_getElem hj⟩
    obtain ⟨h1, h2, h3⟩ := hr _ f hf
    rw [add_off]
    have hm : j % 3 = 0 ∨ j % 3 = 1 ∨ j % 3 = 2 := by omega
    have hd : j = j / 3 * 3 + j % 3 := by omega
    have key : ∀ i (x : Value), f.cells[i]? = some x → j % 3 = i → x = u := fun i x hx hi => by
      have := fm_get hf hx
      rw [← hi, ← hd, hu] at this
      exact (Option.some.inj this).symm
    rcases hm with hm | hm | hm
    · rw [← key 0 _ rfl hm, show 0 + j = 0 + j / 3 * 3 by omega]; exact h1
    · rw [← key 1 _ rfl hm, show 0 + j = 0 + j / 3 * 3 + 1 by omega]; exact h2
    · rw [← key 2 _ rfl hm, show 0 + j = 0 + j / 3 * 3 + 2 by omega]; exact h3

theorem info_form : (Tryz.prog.info? 139).map (fun i => (i.zero, i.size, i.bytes)) = some (some (.agg #[.string ⟨#[]⟩, .int .i64 0, .bool false]), 3, 32) := by kernel_rfl

/-- The form of what follows. -/
def thenF : Fm := ⟨⟨#[116, 104, 101, 110]⟩, 3, false⟩

/-! ### plain -/

def sameN (a : At) (f : Fm) : Bool := decide (f.name = a.name)
def clash (a : At) (f : Fm) : Bool := decide (f.name = a.name) && !decide (f.kind = a.kind)

def rattE (fs : List Fm) (ats : List At) (i : Nat) (a : At) : Int :=
  if fs.any (clash a) = true then 4 else if fs.any (sameN a) = false then 5 else if (ats.take i).any (fun b => decide (b.name = a.name)) = true then 4 else if a.kind = 1 ∧ chk 1 a.f = false then 4 else 0

def rloopA (fs : List Fm) (ats : List At) : Nat → List At → Int
  | _, [] => 0
  | k, a :: t => if rattE fs ats k a = 0 then rloopA fs ats (k + 1) t else rattE fs ats k a

theorem rloopA_hit {fs : List Fm} {ats : List At} {k : Nat} {a : At} (h : ats[k]? = some a) (g : rattE fs ats k a ≠ 0) : rloopA fs ats k (ats.drop k) = rattE fs ats k a := by
  obtain ⟨hlt, e⟩ := List.getElem?_eq_some_iff.1 h
  rw [List.drop_eq_getElem_cons hlt, e]
  unfold rloopA
  rw [if_neg g]
theorem rloopA_next {fs : List Fm} {ats : List At} {k : Nat} {a : At} (h : ats[k]? = some a) (g : rattE fs ats k a = 0) : rloopA fs ats k (ats.drop k) = rloopA fs ats (k + 1) (ats.drop (k + 1)) := by
  obtain ⟨hlt, e⟩ := List.getElem?_eq_some_iff.1 h
  conv => lhs; rw [List.drop_eq_getElem_cons hlt, e]
  conv => lhs; unfold rloopA
  rw [if_pos g]
theorem rloopA_end {fs : List Fm} {ats : List At} : rloopA fs ats ats.length (ats.drop ats.length) = 0 := by
  rw [List.drop_length]; unfold rloopA; rfl

def rformE (ats : List At) (f : Fm) : Int := if f.must = true ∧ (findA ats f.name f.kind).isSome = false then 4 else 0
def rloopF (ats : List At) : List Fm → Int
  | [] => 0
  | f :: t => if rformE ats f = 0 then rloopF ats t else rformE ats f
theorem rloopF_hit {ats : List At} {fs : List Fm} {k : Nat} {f : Fm} (h : fs[k]? = some f) (g : rformE ats f ≠ 0) : rloopF ats (fs.drop k) = rformE ats f := by
  obtain ⟨hlt, e⟩ := List.getElem?_eq_some_iff.1 h
  rw [List.drop_eq_getElem_cons hlt, e]
  unfold rloopF
  rw [if_neg g]
theorem rloopF_next {ats : List At} {fs : List Fm} {k : Nat} {f : Fm} (h : fs[k]? = some f) (g : rformE ats f = 0) : rloopF ats (fs.drop k) = rloopF ats (fs.drop (k + 1)) := by
  obtain ⟨hlt, e⟩ := List.getElem?_eq_some_iff.1 h
  conv => lhs; rw [List.drop_eq_getElem_cons hlt, e]
  conv => lhs; unfold rloopF
  rw [if_pos g]
theorem rloopF_end {ats : List At} {fs : List Fm} : rloopF ats (fs.drop fs.length) = 0 := by
  rw [List.drop_length]; unfold rloopF; rfl

def rattrsE (ats : List At) (fs : List Fm) : Int := if rloopA fs ats 0 ats = 0 then rloopF ats fs else rloopA fs ats 0 ats
theorem rattrsE_hit {ats : List At} {fs : List Fm} {k : Nat} {a : At} {x : Int} (hE : rloopA fs ats 0 ats = rloopA fs ats k (ats.drop k)) (ha : ats[k]? = some a) (e : rattE fs ats k a = x) (hx : x ≠ 0) : rattrsE ats fs = x := by
  have h1 : rloopA fs ats 0 ats = x := by rw [hE, rloopA_hit ha (by rw [e]; exact hx), e]
  unfold rattrsE
  rw [if_neg (by rw [h1]; exact hx), h1]
theorem rattrsE_form {ats : List At} {fs : List Fm} {k : Nat} {f : Fm} {x : Int} (h0 : rloopA fs ats 0 ats = 0) (hE : rloopF ats fs = rloopF ats (fs.drop k)) (hf : fs[k]? = some f) (e : rformE ats f = x) (hx : x ≠ 0) : rattrsE ats fs = x := by
  unfold rattrsE
  rw [if_pos h0, hE, rloopF_hit hf (by rw [e]; exact hx), e]
theorem rattrsE_good {ats : List At} {fs : List Fm} (h0 : rloopA fs ats 0 ats = 0) (hE : rloopF ats fs = 0) : rattrsE ats fs = 0 := by
  unfold rattrsE
  rw [if_pos h0, hE]

theorem rattE_clash {fs : List Fm} {ats : List At} {i : Nat} {a : At} (h : fs.any (clash a) = true) : rattE fs ats i a = 4 := by unfold rattE; rw [if_pos h]
theorem rattE_none {fs : List Fm} {ats : List At} {i : Nat} {a : At} (h : fs.any (clash a) = false) (g : fs.any (sameN a) = false) : rattE fs ats i a = 5 := by unfold rattE; rw [if_neg (by rw [h]; decide), if_pos g]
theorem rattE_twice {fs : List Fm} {ats : List At} {i : Nat} {a : At} (h : fs.any (clash a) = false) (g : fs.any (sameN a) = true) (t : (ats.take i).any (fun b => decide (b.name = a.name)) = true) : rattE fs ats i a = 4 := by unfold rattE; rw [if_neg (by rw [h]; decide), if_neg (by rw [g]; decide), if_pos t]
theorem rattE_float {fs : List Fm} {ats : List At} {i : Nat} {a : At} (h : fs.any (clash a) = false) (g : fs.any (sameN a) = true) (t : (ats.take i).any (fun b => decide (b.name = a.name)) = false) (f : a.kind = 1 ∧ chk 1 a.f = false) : rattE fs ats i a = 4 := by unfold rattE; rw [if_neg (by rw [h]; decide), if_neg (by rw [g]; decide), if_neg (by rw [t]; decide), if_pos f]
theorem rattE_good {fs : List Fm} {ats : List At} {i : Nat} {a : At} (h : fs.any (clash a) = false) (g : fs.any (sameN a) = true) (t : (ats.take i).any (fun b => decide (b.name = a.name)) = false) (f : ¬ (a.kind = 1 ∧ chk 1 a.f = false)) : rattE fs ats i a = 0 := by unfold rattE; rw [if_neg (by rw [h]; decide), if_neg (by rw [g]; decide), if_neg (by rw [t]; decide), if_neg f]

theorem anyF_step {p : Fm → Bool} {fs : List Fm} {k : Nat} {f : Fm} (hf : fs[k]? = some f) : (fs.take (k + 1)).any p = ((fs.take k).any p || p f) := by
  rw [List.take_add_one, List.any_append, hf]
  simp
theorem anyF_hit {p : Fm → Bool} {fs : List Fm} {k : Nat} {f : Fm} (hf : fs[k]? = some f) (h : p f = true) : fs.any p = true := List.any_eq_true.2 ⟨f, List.mem_of_getElem? hf, h⟩

theorem rformE_bad {ats : List At} {f : Fm} (h : f.must = true) (g : (findA ats f.name f.kind).isSome = false) : rformE ats f = 4 := by unfold rformE; rw [if_pos ⟨h, g⟩]
theorem rformE_opt {ats : List At} {f : Fm} (h : f.must = false) : rformE ats f = 0 := by unfold rformE; rw [if_neg (fun c => by rw [h] at c; exact absurd c.1 (by decide))]
theorem rformE_has {ats : List At} {f : Fm} (g : (findA ats f.name f.kind).isSome = true) : rformE ats f = 0 := by unfold rformE; rw [if_neg (fun c => by rw [g] at c; exact absurd c.2 (by decide))]

end Go.Proofs.YtlbhepfbogcipaaGreatDoor

set_option linter.unusedVariables false
set_option linter.unusedSimpArgs false
namespace Go.Proofs.YtlbhepfbogcipaaGreatDoor
open Go.RowKit

attribute [local irreducible] rattE rloopA rformE rloopF rattrsE chk findA

theorem sameN_true {a : At} {f : Fm} (h : f.name.toList = a.name.toList) : sameN a f = true := by unfold sameN; simp [toList_inj h]
theorem sameN_false {a : At} {f : Fm} (h : ¬ f.name.toList = a.name.toList) : sameN a f = false := by unfold sameN; simp [str_ne h]
theorem clash_name {a : At} {f : Fm} (h : ¬ f.name.toList = a.name.toList) : clash a f = false := by unfold clash; simp [str_ne h]
theorem clash_kind {a : At} {f : Fm} (h : f.kind = a.kind) : clash a f = false := by unfold clash; simp [h]
theorem clash_true {a : At} {f : Fm} (h : f.name.toList = a.name.toList) (g : ¬ f.kind = a.kind) : clash a f = true := by unfold clash; simp [toList_inj h, g]

theorem flat_len : ∀ gs : List Fm, (gs.flatMap Fm.cells).length = gs.length * 3
  | [] => rfl
  | f :: fs => by rw [List.flatMap_cons, List.length_append, flat_len fs]; simp [Fm.cells]; omega

theorem forms_at {w : World} {B : Nat} {vl : Value} {fs : List Fm} (h0 : 0 < fs.length) (h : w.ownsRow B 139 3 vl fs.length (fs.flatMap Fm.cells)) : ∃ g cap, vl = .slice (some ⟨g, 0, none⟩) fs.length cap ∧ g < w.heap.size ∧ ReadsF w g 0 fs := by
  obtain ⟨g, cap, rfl, _, hlt⟩ := h.form h0
  refine ⟨g, cap, rfl, hlt, fun j f hj => ?_⟩
  have hcell : ∀ (i : Nat) u, f.cells[i]? = some u → w.cell? ⟨g, 0 + j * 3 + i, none⟩ = some u := fun i u hu => by
    have := h.cells (g := g) rfl _ u (fm_get hj hu)
    rw [add_off] at this
    rw [show 0 + j * 3 + i = 0 + (j * 3 + i) by omega]
    exact this
  exact ⟨hcell 0 _ rfl, hcell 1 _ rfl, hcell 2 _ rfl⟩

set_option maxRecDepth 100000 in
set_option maxHeartbeats 3000000 in
theorem rattrs_any {w : World} {v vl : Value} {n : Nd} {gs : List Fm} (h : NodeV w v n) (hl : FmsIn w vl gs) :
    Calls Tryz.prog 90 #[v, vl] w fun e w' => e = .returned (.int .i64 (rattrsE n.attrs (gs ++ [thenF]))) ∧ Below w.heap.size w w' := by
  obtain ⟨i0, hi, hz0, hz1, hz2⟩ := info_parts info_form
  obtain ⟨fs, hfs⟩ : ∃ fs, fs = gs ++ [thenF] := ⟨_, rfl⟩
  rw [← hfs]
  have HF := Lib.hid hfs
  clear hfs
  obtain ⟨vin, vat, rfl, hn⟩ := h
  obtain ⟨a1, c1, rfl⟩ := hn.is.form
  obtain ⟨a2, c2, rfl⟩ := hn.ia.form
  have hal := hn.ia.len
  have hb1 : Below w.heap.size w (w.alloc (Obj.cells #[.string n.op, .string n.name, .slice a1 n.ins.length c1, .string n.out, .slice a2 n.attrs.length c2] 47)) := (Below.refl _ w).alloc (Nat.le_refl _) _
  have HB1 := Lib.hid hb1
  have HL1 := Lib.hid (hl.below hb1)
  have HN := Lib.hid hn
  obtain ⟨ao, rfl, hx1, hx2, hg100⟩ := hl.parts
  clear hx1 hx2
  clear hn hb1 hl
  unfold Nd.val
  go_enter Tryz.func90, Tryz.ntmps90
  go_wp2_with fail
  have HA1 := Lib.hid (BoxN.new w #[.string n.op, .string n.name, .slice a1 n.ins.length c1, .string n.out, .slice a2 n.attrs.length c2] 47)
  generalize w.alloc _ = w1 at HB1 HL1 HA1 ⊢
  refine (ropt_any _ _ _).mono ?_
  rintro e w2 ⟨rfl, B2⟩
  have HB2 := Lib.hid (HB1.out.trans (B2.mono HB1.out.size))
  have HL2 := Lib.hid (HL1.out.below B2)
  have HA2 := Lib.hid (HA1.out.below' B2)
  clear B2 HB1 HL1 HA1
  have HP : Hid (∀ o, FmsIn (w2.alloc o) (.slice ao gs.length gs.length) gs) := Lib.hid fun o => HL2.out.below ((Below.refl _ _).alloc (Nat.le_refl _) _)
  have HP2 : Hid (∀ o, (ao = none → gs.length = 0 ∧ gs.length = 0) ∧ (∀ b, ao = some b → ∀ j u, (gs.flatMap Fm.cells)[j]? = some u → (w2.alloc o).cell? (b.add j) = some u)) := Lib.hid fun o => by
    obtain ⟨ao', hv, h1, h2, _⟩ := (HP.out o).parts
    obtain ⟨rfl, _, _⟩ := Value.slice.inj hv
    exact ⟨h1, h2⟩
  have HFL := Lib.hid (flat_len gs)
  have HPn := Lib.hid (HP2.out (.cells #[] 0)).1
  go_wp2_with (at_builtin; go_must (refine wpList_append_grows _ rfl _ _ 131 rfl 139 i0 (.agg #[.string ⟨#[]⟩, .int .i64 0, .bool false]) 3 32 Tryz.underlying131 hi hz0 hz1 hz2 rfl (by decide) ao gs.length gs.length (gs.flatMap Fm.cells) rfl HPn.out HFL.out (HP2.out _).2 ⟨w2.heap.size, 0, none⟩ 1 1 (#[.string ⟨#[116, 104, 101, 110]⟩, .int .i64 3, .bool false] : Array Value).toList rfl rfl (World.news_of_block (heap_alloc_new w2 _)) (by simp [Value.oneCell']) (by omega) (by unfold maxLen; omega) (by omega) ?_))
  intro vl w3 hown hgrow
  have hB3 : Below w.heap.size w w3 := (HB2.out.alloc HB2.out.size _).grown hgrow (by simp only [World.size_alloc]; have := HB2.out.size; omega) (fun k h => by cases h)
  have hA3 := HA2.out.below' (((Below.refl _ w2).alloc (Nat.le_refl _) _).grown hgrow (by simp only [World.size_alloc]; omega) (fun k h => by cases h))
  have hfl : fs.length = gs.length + 1 := by rw [HF.out]; simp
  obtain ⟨g, cap, rfl, hg3, hR3⟩ := forms_at (fs := fs) (by omega) (by rw [hfl, HF.out]; simpa [thenF, Fm.cells] using hown)
  have HB3 := Lib.hid hB3
  have HA3 := Lib.hid hA3
  have HR3 := Lib.hid hR3
  have HFN : Hid (fs.length ≤ 101) := Lib.hid (by omega)
  clear hB3 hA3 hR3 hfl hgrow hown HA2 HB2 HP HP2 HPn HL2 HFL hi hz0 hz1 hz2
  go_wp2
  go_loopw [5] (fun i wr => ∃ k : Nat, k ≤ n.attrs.length ∧ i = .int .i64 (k : Int) ∧ Hid (rloopA fs n.attrs 0 n.attrs = rloopA fs n.attrs k (n.attrs.drop k)) ∧ Hid (Below w3.heap.size w3 wr)) (fun i _ => n.attrs.length - (intOf i).toNat)
  case atStart => exact ⟨0, Nat.zero_le _, rfl, Lib.hid rfl, Lib.hid (Below.refl _ _)⟩
  case round =>
    obtain ⟨k, hk, rfl, hE, hW⟩ := hrel
    have p4 : wr.cell? ⟨w.heap.size, 4, none⟩ = some (.slice a2 n.attrs.length c2) := (HA3.out.below' hW.out).cell 4 rfl
    by_cases hkl : k < n.attrs.length
    · have hki : (k : Int) < (n.attrs.length : Int) := by omega
      obtain ⟨a, ha⟩ : ∃ a, n.attrs[k]? = some a := ⟨_, List.getElem?_eq_getElem hkl⟩
      obtain ⟨ba, oa, capa, hv, hba, hrd⟩ := HN.out.ia.rows k a ha
      obtain ⟨rfl, hle, rfl⟩ := Value.slice.inj hv
      clear hle
      obtain ⟨vd, vx, vi, hc9, hn9⟩ := hrd k a ha
      obtain ⟨c0, c1, c2, c3, c4, c5, c6, c7, c8⟩ := hc9.below hba (HB3.out.trans (hW.out.mono HB3.out.size))
      obtain ⟨ad, cd, rfl⟩ := hn9.id.shape
      obtain ⟨ax, cx, rfl⟩ := hn9.ix.shape
      obtain ⟨ai, ci, rfl⟩ := hn9.ii.shape
      have HRD := Lib.hid hrd
      have HA := Lib.hid ha
      clear hv hrd hc9 hn9 ha
      go_wp2
      have HX := Lib.hid (BoxN.new wr #[.string a.name, .int .i64 a.kind, .int .i64 a.f, .int .i64 a.i, .string a.s, .int .i64 a.typ, .slice ad a.dims.length cd, .slice ax a.data.length cx, .slice ai a.ints.length ci] 77)
      have HW1 : Hid (Below w3.heap.size w3 (wr.alloc (.cells #[.string a.name, .int .i64 a.kind, .int .i64 a.f, .int .i64 a.i, .string a.s, .int .i64 a.typ, .slice ad a.dims.length cd, .slice ax a.data.length cx, .slice ai a.ints.length ci] 77))) := Lib.hid (hW.out.alloc hW.out.size _)
      generalize hW1 : wr.alloc _ = W1 at HX HW1 ⊢
      clear hW1 hW p4 c0 c1 c2 c3 c4 c5 c6 c7 c8
      generalize wr.heap.size = B at HX ⊢
      go_loopw [7, 8] (fun kn i wr => ∃ (j : Nat) (kb : Bool), j ≤ fs.length ∧ i = .int .i64 (j : Int) ∧ kn = .bool kb ∧ Hid (kb = (fs.take j).any (sameN a)) ∧ Hid ((fs.take j).any (clash a) = false) ∧ Hid (Below W1.heap.size W1 wr)) (fun _ i _ => fs.length - (intOf i).toNat)
      case atStart => exact ⟨0, false, Nat.zero_le _, rfl, rfl, Lib.hid (by simp), Lib.hid (by simp), Lib.hid (Below.refl _ _)⟩
      case round =>
        obtain ⟨j, kb, hj, rfl, rfl, hKB, hCL, hW2⟩ := hrel
        have hBX : BoxN wr B #[.string a.name, .int .i64 a.kind, .int .i64 a.f, .int .i64 a.i, .string a.s, .int .i64 a.typ, .slice ad a.dims.length cd, .slice ax a.data.length cx, .slice ai a.ints.length ci] 77 := HX.out.below' hW2.out
        have e0 := hBX.cell 0 rfl
        have e1 := hBX.cell 1 rfl
        have e2 := hBX.cell 2 rfl
        have hB5 : Below w3.heap.size w3 wr := HW1.out.trans (hW2.out.mono HW1.out.size)
        have HB5 := Lib.hid hB5
        have HB6 := Lib.hid (HB3.out.trans (hB5.mono HB3.out.size))
        clear hBX
        have hfn := HFN.out
        by_cases hjl : j < fs.length
        · have hji : (j : Int) < (fs.length : Int) := by omega
          obtain ⟨f, hf⟩ : ∃ f, fs[j]? = some f := ⟨_, List.getElem?_eq_getElem hjl⟩
          obtain ⟨f0, f1, f2⟩ := (HR3.out.below hg3 hB5) j f hf
          simp only [Nat.zero_add] at f0 f1 f2
          have HFJ := Lib.hid hf
          clear hf hB5
          by_cases hnm : f.name.toList = a.name.toList
          · have hnb : (f.name.toList == a.name.toList) = true := by simpa using hnm
            by_cases hkd : f.kind = a.kind
            · have hkb : (f.kind == a.kind) = true := by simpa using hkd
              have HK' : Hid (true = (fs.take (j + 1)).any (sameN a)) := Lib.hid (by rw [anyF_step HFJ.out, sameN_true hnm]; simp)
              have HC' : Hid ((fs.take (j + 1)).any (clash a) = false) := Lib.hid (by rw [anyF_step HFJ.out, hCL.out, clash_kind hkd]; rfl)
              clear hnm hkd
              go_wp2
              go_quiet (fail)
              go_wp2
              go_quiet (fail)
              go_wp2
              go_roundw
              case rel => exact ⟨j + 1, true, by omega, by go_num, rfl, HK', HC', Lib.hid (below_drewN hW2.out _)⟩
              case measure => simp [intOf]; omega
            · have hkb : (f.kind == a.kind) = false := by simpa using hkd
              have HR := Lib.hid (rattrsE_hit hE.out HA.out (rattE_clash (anyF_hit HFJ.out (clash_true hnm hkd))) (by decide))
              clear hnm hkd
              go_wp2
              go_quiet (fail)
              go_wp2
              go_quiet (fail)
              go_wp2
              go_ret
              exact ⟨ret_val (congrArg (Value.int .i64) HR.out).symm, by first | exact below_drewN HB6.out _ | exact below_drewN (below_drewN HB6.out _) _⟩
          · have hnb : (f.name.toList == a.name.toList) = false := by simpa using hnm
            have HK' : Hid (kb = (fs.take (j + 1)).any (sameN a)) := Lib.hid (by rw [anyF_step HFJ.out, sameN_false hnm, ← hKB.out]; simp)
            have HC' : Hid ((fs.take (j + 1)).any (clash a) = false) := Lib.hid (by rw [anyF_step HFJ.out, hCL.out, clash_name hnm]; rfl)
            clear hnm
            go_wp2
            go_quiet (fail)
            go_wp2
            go_roundw
            case rel => exact ⟨j + 1, kb, by omega, by go_num, rfl, HK', HC', Lib.hid (below_drewN hW2.out _)⟩
            case measure => simp [intOf]; omega
        · have hji : ¬ (j : Int) < (fs.length : Int) := by omega
          obtain rfl : j = fs.length := by omega
          have HCA : Hid (fs.any (clash a) = false) := Lib.hid (by have := hCL.out; rwa [List.take_length] at this)
          have HSA : Hid (kb = fs.any (sameN a)) := Lib.hid (by have := hKB.out; rwa [List.take_length] at this)
          clear hKB hCL hB5
          cases kb with
          | false =>
            have HR := Lib.hid (rattrsE_hit hE.out HA.out (rattE_none HCA.out HSA.out.symm) (by decide))
            go_wp2
            go_ret
            exact ⟨ret_val (congrArg (Value.int .i64) HR.out).symm, HB6.out⟩
          | true =>
            go_wp2
            generalize hwq : wr = W2 at *
            clear hwq e0 e1 e2
            go_loopw [9] (fun i wr => ∃ j : Nat, j ≤ k ∧ i = .int .i64 (j : Int) ∧ Hid ((n.attrs.take j).any (fun b => decide (b.name = a.name)) = false) ∧ Hid (Below W2.heap.size W2 wr)) (fun i _ => k - (intOf i).toNat)
            case atStart => exact ⟨0, Nat.zero_le _, rfl, Lib.hid (by simp), Lib.hid (Below.refl _ _)⟩
            case round =>
              obtain ⟨j, hj2, rfl, hTW, hW3⟩ := hrel
              have hB7 : Below w3.heap.size w3 wr := HB5.out.trans (hW3.out.mono HB5.out.size)
              have p4 : wr.cell? ⟨w.heap.size, 4, none⟩ = some (.slice (some ⟨ba, oa, none⟩) n.attrs.length c2) := (HA3.out.below' hB7).cell 4 rfl
              have hBX : BoxN wr B #[.string a.name, .int .i64 a.kind, .int .i64 a.f, .int .i64 a.i, .string a.s, .int .i64 a.typ, .slice ad a.dims.length cd, .slice ax a.data.length cx, .slice ai a.ints.length ci] 77 := HX.out.below' (hW2.out.trans (hW3.out.mono hW2.out.size))
              have e0 := hBX.cell 0 rfl
              have e1 := hBX.cell 1 rfl
              have e2 := hBX.cell 2 rfl
              have HB7 := Lib.hid hB7
              have HB8 := Lib.hid (HB3.out.trans (hB7.mono HB3.out.size))
              clear hBX hB7
              by_cases hjk : j < k
              · have hji2 : (j : Int) < (k : Int) := by omega
                obtain ⟨b, hb⟩ : ∃ b, n.attrs[j]? = some b := ⟨_, List.getElem?_eq_getElem (by omega)⟩
                obtain ⟨xd, xx, xi, hc9, hn9⟩ := HRD.out j b hb
                have d0 := (hc9.below hba HB8.out).c0
                have HBJ := Lib.hid hb
                clear hc9 hn9 hb
                by_cases hnm : b.name.toList = a.name.toList
                · have hnb : (b.name.toList == a.name.toList) = true := by simpa using hnm
                  have HR := Lib.hid (rattrsE_hit hE.out HA.out (rattE_twice HCA.out HSA.out.symm (List.any_eq_true.2 ⟨b, List.mem_of_getElem? (i := j) (by rw [List.getElem?_take]; simp [hjk, HBJ.out]), by simp [toList_inj hnm]⟩)) (by decide))
                  clear hnm
                  go_wp2
                  go_quiet (fail)
                  go_wp2
                  go_ret
                  exact ⟨ret_val (congrArg (Value.int .i64) HR.out).symm, below_drewN HB8.out _⟩
                · have hnb : (b.name.toList == a.name.toList) = false := by simpa using hnm
                  have HT' : Hid ((n.attrs.take (j + 1)).any (fun b => decide (b.name = a.name)) = false) := Lib.hid (take_any HBJ.out hTW.out (by simp [str_ne hnm]))
                  clear hnm
                  go_wp2
                  go_quiet (fail)
                  go_wp2
                  go_roundw
                  case rel => exact ⟨j + 1, by omega, by go_num, HT', Lib.hid (below_drewN hW3.out _)⟩
                  case measure => simp [intOf]; omega
              · have hji2 : ¬ (j : Int) < (k : Int) := by omega
                obtain rfl : j = k := by omega
                by_cases hk1 : a.kind = 1
                · have hkb : (a.kind == 1) = true := by simpa using hk1
                  go_wp2_with fail
                  refine (Fl.rchk_any _ _ _).mono ?_
                  rintro e w5 ⟨rfl, rfl⟩
                  cases hck : chk 1 a.f with
                  | false =>
                    have HR := Lib.hid (rattrsE_hit hE.out HA.out (rattE_float HCA.out HSA.out.symm hTW.out ⟨hk1, hck⟩) (by decide))
                    clear hck
                    go_wp2
                    go_ret
                    exact ⟨ret_val (congrArg (Value.int .i64) HR.out).symm, HB8.out⟩
                  | true =>
                    have HG := Lib.hid (rloopA_next HA.out (rattE_good HCA.out HSA.out.symm hTW.out (fun h => by rw [hck] at h; exact absurd h.2 (by decide))))
                    clear hck
                    go_wp2
                    go_roundw
                    case rel => exact ⟨j + 1, by omega, by go_num, Lib.hid (hE.out.trans HG.out), HB7⟩
                    case measure => simp [intOf]; omega
                · have hkb : (a.kind == 1) = false := by simpa using hk1
                  have HG := Lib.hid (rloopA_next HA.out (rattE_good HCA.out HSA.out.symm hTW.out (fun h => hk1 h.1)))
                  go_wp2
                  go_roundw
                  case rel => exact ⟨j + 1, by omega, by go_num, Lib.hid (hE.out.trans HG.out), HB7⟩
                  case measure => simp [intOf]; omega
    · have hki : ¬ (k : Int) < (n.attrs.length : Int) := by omega
      obtain rfl : k = n.attrs.length := by omega
      have HE0 : Hid (rloopA fs n.attrs 0 n.attrs = 0) := Lib.hid (hE.out.trans rloopA_end)
      clear hE
      go_wp2
      generalize hwq : wr = W2 at *
      clear hwq p4
      go_loopw [10] (fun i wr => ∃ j : Nat, j ≤ fs.length ∧ i = .int .i64 (j : Int) ∧ Hid (rloopF n.attrs fs = rloopF n.attrs (fs.drop j)) ∧ Hid (Below w3.heap.size w3 wr)) (fun i _ => fs.length - (intOf i).toNat)
      case atStart => exact ⟨0, Nat.zero_le _, rfl, Lib.hid rfl, hW⟩
      case round =>
        obtain ⟨j, hj, rfl, hE, hW3⟩ := hrel
        have hfn := HFN.out
        by_cases hjl : j < fs.length
        · have hji : (j : Int) < (fs.length : Int) := by omega
          obtain ⟨f, hf⟩ : ∃ f, fs[j]? = some f := ⟨_, List.getElem?_eq_getElem hjl⟩
          have HFJ := Lib.hid hf
          have HS : Hid (∀ W', Below w3.heap.size w3 W' → BoxN W' w.heap.size #[Value.string n.op, Value.string n.name, Value.slice a1 n.ins.length c1, Value.string n.out, Value.slice a2 n.attrs.length c2] 47 ∧ W'.cell? ⟨g, j * 3, none⟩ = some (.string f.name) ∧ W'.cell? ⟨g, j * 3 + 1, none⟩ = some (.int .i64 f.kind) ∧ W'.cell? ⟨g, j * 3 + 2, none⟩ = some (.bool f.must)) := Lib.hid fun W' h => by
            have := (HR3.out.below hg3 h) j f HFJ.out
            simp only [Nat.zero_add] at this
            exact ⟨HA3.out.below' h, this⟩
          obtain ⟨a0, ha0⟩ : ∃ a0, (findA n.attrs f.name f.kind).getD At.zero = a0 := ⟨_, rfl⟩
          obtain ⟨okb, hok⟩ : ∃ okb, (findA n.attrs f.name f.kind).isSome = okb := ⟨_, rfl⟩
          have HC : Hid (∀ W, Below w3.heap.size w3 W → Calls Tryz.prog 102 #[.agg #[Value.string n.op, Value.string n.name, Value.slice a1 n.ins.length c1, Value.string n.out, Value.slice a2 n.attrs.length c2], .string f.name, .int .i64 f.kind] W fun e w' => Below W.heap.size W w' ∧ ∃ va, e = .returned (.tuple #[va, .bool okb]) ∧ AttrV w' va a0) := Lib.hid fun W h => by
            rw [← ha0, ← hok]
            have := rfind_any ⟨_, _, rfl, HN.out.below (HB3.out.trans (h.mono HB3.out.size))⟩ f.name f.kind
            unfold Nd.val at this
            exact this
          have HOK := Lib.hid hok
          clear hf hok ha0
          go_wp2_with fail
          refine wp_region_tree 17 (Pl.reads [0, 1, 2, 3, 4, 5, 6, 7, 8, 9, 10] (.two 11 (Pl.reads [12, 13, 14] (.act 15 (.act 16 .tail))) 15 (.act 11 (Pl.reads [12, 13, 14] (.act 16 .tail))))) (fun W' => Below w3.heap.size w3 W') (by kernel_rfl) (by kernel_rfl) (fun _ d _ _ _ h => by cases d <;> exact h) hW3.out.drew ?_
          simp only [Pl.reads]
          have B0 : Hid (Below w3.heap.size w3 wr.drew) := Lib.hid hW3.out.drew
          generalize wr.drew = wD at B0 ⊢
          repeat
            refine tree_read (v := ?_) rfl (Or.inl ⟨by rfl, ?_⟩) ?_
            rotate_left
            · intro w' hSw
              obtain ⟨s1, f0, f1, f2⟩ := HS.out w' hSw
              obtain ⟨e0, e1, e2, e3, e4⟩ := s1.five
              clear s1
              go_simp
              try with_reducible rfl
            try simp only [Act.put, List.getElem_toArray, List.getElem_cons_zero, List.getElem_cons_succ, List.setIfInBounds_toArray, List.set_cons_zero, List.set_cons_succ]
          refine tree_two rfl rfl (fun K' hK => ?_) (fun K' hK => ?_)
          · go_simp
            refine (HC.out _ B0.out).mono ?_
            rintro e w5 ⟨B, va, rfl, vd, vx, vi, rfl, hna⟩
            obtain ⟨ad, cd, rfl⟩ := hna.id.shape
            obtain ⟨ax, cx, rfl⟩ := hna.ix.shape
            obtain ⟨ai, ci, rfl⟩ := hna.ii.shape
            clear hna
            unfold At.val
            have B1 : Hid (Below w3.heap.size w3 w5) := Lib.hid (B0.out.trans (B.mono B0.out.size))
            refine hK.out _ _ B1.out ?_
            clear hK K' B
            repeat
              refine tree_read (v := ?_) rfl (Or.inl ⟨by rfl, ?_⟩) ?_
              rotate_left
              · intro w' hSw
                obtain ⟨s1, f0, f1, f2⟩ := HS.out w' hSw
                obtain ⟨e0, e1, e2, e3, e4⟩ := s1.five
                clear s1
                go_simp
                try with_reducible rfl
              try simp only [Act.put, List.getElem_toArray, List.getElem_cons_zero, List.getElem_cons_succ, List.setIfInBounds_toArray, List.set_cons_zero, List.set_cons_succ]
            refine tree_act rfl (fun K' hK => ?_)
            go_simp
            have HP := Lib.hid (BoxN.new w5 #[Value.string ⟨#[]⟩, Value.int .i64 0, Value.int .i64 0, Value.int .i64 0, Value.string ⟨#[]⟩, Value.int .i64 0, Value.slice none 0 0, Value.slice none 0 0, Value.slice none 0 0] 77)
            have HQ6 : Hid (Below w3.heap.size w3 (w5.alloc (.cells #[Value.string ⟨#[]⟩, Value.int .i64 0, Value.int .i64 0, Value.int .i64 0, Value.string ⟨#[]⟩, Value.int .i64 0, Value.slice none 0 0, Value.slice none 0 0, Value.slice none 0 0] 77))) := Lib.hid (B1.out.alloc B1.out.size _)
            refine hK.out _ _ HQ6.out ?_
            clear hK K'
            have hP : w3.heap.size ≤ w5.heap.size := B1.out.size
            generalize w5.alloc _ = w6 at HP HQ6 ⊢
            generalize w5.heap.size = P at HP hP ⊢
            obtain ⟨t0, t1, t2, t3, t4, t5, t6, t7, t8⟩ := HP.out.thaw9
            obtain ⟨r0, r1, r2, r3, r4, r5, r6, r7, r8⟩ := HP.out.nine
            have hQ7 := below_put9 (v0 := .string a0.name) (v1 := .int .i64 a0.kind) (v2 := .int .i64 a0.f) (v3 := .int .i64 a0.i) (v4 := .string a0.s) (v5 := .int .i64 a0.typ) (v6 := .slice ad a0.dims.length cd) (v7 := .slice ax a0.data.length cx) (v8 := .slice ai a0.ints.length ci) HQ6.out hP
            have HQ7 := Lib.hid hQ7
            have hf2 := ((HS.out _ hQ7).2.2.2)
            have HF2 := Lib.hid hf2
            clear hf2 hQ7
            refine tree_act rfl (fun K' hK => ?_)
            go_simp
            refine hK.out _ (put9 w6 P _ _ _ _ _ _ _ _ _) HQ7.out ?_
            generalize put9 w6 P _ _ _ _ _ _ _ _ _ = w7 at HQ7 HF2 ⊢
            clear hK K' t0 t1 t2 t3 t4 t5 t6 t7 t8 r0 r1 r2 r3 r4 r5 r6 r7 r8 HP HQ6 HC HS B0
            refine tree_tail rfl ?_
            simp only [List.toList_toArray, List.drop_succ_cons, List.drop_zero]
            have f2 := HF2.out
            obtain ⟨mb, hmb⟩ : ∃ mb, f.must = mb := ⟨_, rfl⟩
            rw [hmb] at f2
            have HMB := Lib.hid hmb
            clear hmb HF2
            cases mb with
            | false =>
              have HN' := Lib.hid (hE.out.trans (rloopF_next HFJ.out (rformE_opt HMB.out)))
              go_wp2
              go_roundw
              case rel => exact ⟨j + 1, by omega, by go_num, HN', HQ7⟩
              case measure => simp [intOf]; omega
            | true =>
              cases okb with
              | false =>
                have HR := Lib.hid (rattrsE_form HE0.out hE.out HFJ.out (rformE_bad HMB.out HOK.out) (by decide))
                go_wp2
                go_ret
                exact ⟨ret_val (congrArg (Value.int .i64) HR.out).symm, HB3.out.trans (HQ7.out.mono HB3.out.size)⟩
              | true =>
                have HN' := Lib.hid (hE.out.trans (rloopF_next HFJ.out (rformE_has HOK.out)))
                go_wp2
                go_roundw
                case rel => exact ⟨j + 1, by omega, by go_num, HN', HQ7⟩
                case measure => simp [intOf]; omega
          · go_simp
            have HP0 := Lib.hid (BoxN.new wD #[Value.string ⟨#[]⟩, Value.int .i64 0, Value.int .i64 0, Value.int .i64 0, Value.string ⟨#[]⟩, Value.int .i64 0, Value.slice none 0 0, Value.slice none 0 0, Value.slice none 0 0] 77)
            have B1 : Hid (Below w3.heap.size w3 (wD.alloc (.cells #[Value.string ⟨#[]⟩, Value.int .i64 0, Value.int .i64 0, Value.int .i64 0, Value.string ⟨#[]⟩, Value.int .i64 0, Value.slice none 0 0, Value.slice none 0 0, Value.slice none 0 0] 77))) := Lib.hid (B0.out.alloc B0.out.size _)
            refine hK.out _ _ B1.out ?_
            clear hK K'
            have hP : w3.heap.size ≤ wD.heap.size := B0.out.size
            generalize wD.alloc _ = w4 at HP0 B1 ⊢
            generalize wD.heap.size = P at HP0 hP ⊢
            refine tree_act rfl (fun K' hK => ?_)
            go_simp
            refine (HC.out _ B1.out).mono ?_
            rintro e w6 ⟨B, va, rfl, vd, vx, vi, rfl, hna⟩
            obtain ⟨ad, cd, rfl⟩ := hna.id.shape
            obtain ⟨ax, cx, rfl⟩ := hna.ix.shape
            obtain ⟨ai, ci, rfl⟩ := hna.ii.shape
            clear hna
            unfold At.val
            have HQ6 : Hid (Below w3.heap.size w3 w6) := Lib.hid (B1.out.trans (B.mono B1.out.size))
            have HP := Lib.hid (HP0.out.below' B)
            refine hK.out _ _ HQ6.out ?_
            clear hK K' B HP0
            repeat
              refine tree_read (v := ?_) rfl (Or.inl ⟨by rfl, ?_⟩) ?_
              rotate_left
              · intro w' hSw
                obtain ⟨s1, f0, f1, f2⟩ := HS.out w' hSw
                obtain ⟨e0, e1, e2, e3, e4⟩ := s1.five
                clear s1
                go_simp
                try with_reducible rfl
              try simp only [Act.put, List.getElem_toArray, List.getElem_cons_zero, List.getElem_cons_succ, List.setIfInBounds_toArray, List.set_cons_zero, List.set_cons_succ]
            obtain ⟨t0, t1, t2, t3, t4, t5, t6, t7, t8⟩ := HP.out.thaw9
            obtain ⟨r0, r1, r2, r3, r4, r5, r6, r7, r8⟩ := HP.out.nine
            have hQ7 := below_put9 (v0 := .string a0.name) (v1 := .int .i64 a0.kind) (v2 := .int .i64 a0.f) (v3 := .int .i64 a0.i) (v4 := .string a0.s) (v5 := .int .i64 a0.typ) (v6 := .slice ad a0.dims.length cd) (v7 := .slice ax a0.data.length cx) (v8 := .slice ai a0.ints.length ci) HQ6.out hP
            have HQ7 := Lib.hid hQ7
            have hf2 := ((HS.out _ hQ7).2.2.2)
            have HF2 := Lib.hid hf2
            clear hf2 hQ7
            refine tree_act rfl (fun K' hK => ?_)
            go_simp
            refine hK.out _ (put9 w6 P _ _ _ _ _ _ _ _ _) HQ7.out ?_
            generalize put9 w6 P _ _ _ _ _ _ _ _ _ = w7 at HQ7 HF2 ⊢
            clear hK K' t0 t1 t2 t3 t4 t5 t6 t7 t8 r0 r1 r2 r3 r4 r5 r6 r7 r8 HP HQ6 HC HS B0
            refine tree_tail rfl ?_
            simp only [List.toList_toArray, List.drop_succ_cons, List.drop_zero]
            have f2 := HF2.out
            obtain ⟨mb, hmb⟩ : ∃ mb, f.must = mb := ⟨_, rfl⟩
            rw [hmb] at f2
            have HMB := Lib.hid hmb
            clear hmb HF2
            cases mb with
            | false =>
              have HN' := Lib.hid (hE.out.trans (rloopF_next HFJ.out (rformE_opt HMB.out)))
              go_wp2
              go_roundw
              case rel => exact ⟨j + 1, by omega, by go_num, HN', HQ7⟩
              case measure => simp [intOf]; omega
            | true =>
              cases okb with
              | false =>
                have HR := Lib.hid (rattrsE_form HE0.out hE.out HFJ.out (rformE_bad HMB.out HOK.out) (by decide))
                go_wp2
                go_ret
                exact ⟨ret_val (congrArg (Value.int .i64) HR.out).symm, HB3.out.trans (HQ7.out.mono HB3.out.size)⟩
              | true =>
                have HN' := Lib.hid (hE.out.trans (rloopF_next HFJ.out (rformE_has HOK.out)))
                go_wp2
                go_roundw
                case rel => exact ⟨j + 1, by omega, by go_num, HN', HQ7⟩
                case measure => simp [intOf]; omega
        · have hji : ¬ (j : Int) < (fs.length : Int) := by omega
          obtain rfl : j = fs.length := by omega
          have HR := Lib.hid (rattrsE_good HE0.out (hE.out.trans rloopF_end))
          go_wp2
          go_ret
          exact ⟨ret_val (congrArg (Value.int .i64) HR.out).symm, HB3.out.trans (hW3.out.mono HB3.out.size)⟩

end Go.Proofs.YtlbhepfbogcipaaGreatDoor

set_option linter.unusedVariables false
set_option linter.unusedSimpArgs false
namespace Go.Proofs.YtlbhepfbogcipaaGreatDoor
open Go.RowKit

theorem size_l (s : ByteArray) : s.data.toList.length = s.size := Array.length_toList
theorem getD_at {l : List UInt8} {i : Nat} (h : i < l.length) : l.getD i 0 = l[i] := by simp [List.getD, List.getElem?_eq_getElem h]
theorem drop_size (s : ByteArray) : s.data.toList.drop s.size = [] := by rw [← size_l, List.drop_length]

/-- What has been read of a joined text, with its commas. -/
def pre (done : List ByteArray) : List UInt8 := done.flatMap fun x => x.data.toList ++ [44]

theorem pre_snoc (done : List ByteArray) (p : ByteArray) : pre (done ++ [p]) = pre done ++ (p.data.toList ++ [44]) := by
  simp [pre]

theorem joinD_cons {a : List UInt8} {l : List (List UInt8)} (h : l ≠ []) : joinD (a :: l) = a ++ 44 :: joinD l := by
  cases l with
  | nil => exact absurd rfl h
  | cons b t => rfl

theorem pre_join : ∀ (done : List ByteArray) (r : List (List UInt8)), r ≠ [] → joinD (done.map (·.data.toList) ++ r) = pre done ++ joinD r
  | [], r, h => by simp [pre]
  | a :: t, r, h => by
    rw [List.map_cons, List.cons_append, joinD_cons (by simp [h]), pre_join t r h]
    simp [pre]

theorem split_ex : ∀ L : List UInt8, ∃ rs : List (List UInt8), rs ≠ [] ∧ (∀ x ∈ rs, NoC x) ∧ joinD rs = L
  | [] => ⟨[[]], by simp, by simp [NoC], rfl⟩
  | c :: L => by
    obtain ⟨rs, h0, h1, h2⟩ := split_ex L
    cases rs with
    | nil => exact absurd rfl h0
    | cons r t =>
      by_cases hc : c = 44
      · refine ⟨[] :: r :: t, by simp, ?_, ?_⟩
        · intro x hx
          rcases List.mem_cons.1 hx with rfl | hx
          · simp [NoC]
          · exact h1 x hx
        · rw [joinD_cons (by simp), h2, hc]; rfl
      · refine ⟨(c :: r) :: t, by simp, ?_, ?_⟩
        · intro x hx
          rcases List.mem_cons.1 hx with rfl | hx
          · intro y hy
            rcases List.mem_cons.1 hy with rfl | hy
            · exact hc
            · exact h1 r (by simp) y hy
          · exact h1 x (by simp [hx])
        · rw [← h2]
          cases t with
          | nil => rfl
          | cons b t => rfl

def bArr (l : List UInt8) : ByteArray := ⟨l.toArray⟩
theorem bArr_data (l : List UInt8) : (bArr l).data.toList = l := by simp [bArr]
theorem map_bArr (rs : List (List UInt8)) : (rs.map bArr).map (·.data.toList) = rs := by
  rw [List.map_map]
  have : ((fun x : ByteArray => x.data.toList) ∘ bArr) = id := funext fun l => bArr_data l
  rw [this, List.map_id]

/-- The parts, with any tail behind the part just read. -/
theorem split_scan {s : ByteArray} {done : List ByteArray} {p : ByteArray} {r : List UInt8} (hd : ∀ x ∈ done, NoC x.data.toList) (hp : NoC p.data.toList) (hs : s.data.toList = pre done ++ (p.data.toList ++ r)) (hr : r = [] ∨ ∃ t, r = 44 :: t) :
    ∃ tl, splitL s = done ++ p :: tl ∧ (r = [] → tl = []) := by
  rcases hr with rfl | ⟨t, rfl⟩
  · refine ⟨[], splitL_join (by simp) ?_ ?_, fun _ => rfl⟩
    · intro x hx
      rcases List.mem_append.1 hx with hx | hx
      · exact hd x hx
      · obtain rfl : x = p := by simpa using hx
        exact hp
    · rw [hs, List.map_append, pre_join _ _ (by simp)]
      simp [joinD]
  · obtain ⟨rs, h0, h1, h2⟩ := split_ex t
    refine ⟨rs.map bArr, splitL_join (by simp) ?_ ?_, fun h => (by cases h)⟩
    · intro x hx
      rcases List.mem_append.1 hx with hx | hx
      · exact hd x hx
      · rcases List.mem_cons.1 hx with rfl | hx
        · exact hp
        · obtain ⟨y, hy, rfl⟩ := List.mem_map.1 hx
          rw [bArr_data]
          exact h1 y hy
    · rw [hs, List.map_append, pre_join _ _ (by simp), List.map_cons, map_bArr, joinD_cons h0, h2]

theorem then_scan_bad {ats : List At} {a : At} (hf : findA ats ⟨#[116, 104, 101, 110]⟩ 3 = some a) {done : List ByteArray} {p : ByteArray} {r : List UInt8} (hd : ∀ x ∈ done, NoC x.data.toList) (hp : NoC p.data.toList) (hs : a.s.data.toList = pre done ++ (p.data.toList ++ r)) (hr : r = [] ∨ ∃ t, r = 44 :: t)
    (ho : oneB p = false) : thenE ats = ([], 4) := by
  obtain ⟨tl, e, _⟩ := split_scan hd hp hs hr
  exact thenE_bad hf (by rw [e]; exact List.any_eq_true.2 ⟨p, by simp, by simp [ho]⟩)
theorem then_scan_good {ats : List At} {a : At} (hf : findA ats ⟨#[116, 104, 101, 110]⟩ 3 = some a) {done : List ByteArray} {p : ByteArray} (hd : ∀ x ∈ done, NoC x.data.toList) (h1 : ∀ x ∈ done, oneB x = true) (hp : NoC p.data.toList) (hs : a.s.data.toList = pre done ++ p.data.toList)
    (ho : oneB p = true) : thenE ats = (done ++ [p], 0) := by
  obtain ⟨tl, e, g⟩ := split_scan (r := []) hd hp (by simpa using hs) (Or.inl rfl)
  rw [g rfl] at e
  rw [thenE_good hf (by
    rw [e, List.any_eq_false]
    intro x hx
    rcases List.mem_append.1 hx with hx | hx
    · simp [h1 x hx]
    · obtain rfl : x = p := by simpa using hx
      simp [ho]), e]

/-- The scan's state: F is where the part under way begins, k where it is read. -/
structure Scan (s : ByteArray) (F k : Nat) (done : List ByteArray) : Prop where
  hF : F ≤ k
  hk : k ≤ s.size
  hpre : s.data.toList.take F = pre done
  hno : ∀ i, F ≤ i → i < k → s.data.toList.getD i 0 ≠ 44
  hd : ∀ x ∈ done, NoC x.data.toList
  h1 : ∀ x ∈ done, oneB x = true

theorem Scan.start (s : ByteArray) : Scan s 0 0 [] := ⟨Nat.le_refl _, Nat.zero_le _, rfl, fun i _ h => by omega, by simp, by simp⟩
theorem Scan.next {s : ByteArray} {F k : Nat} {done : List ByteArray} (h : Scan s F k done) (hk : k < s.size) (hc : s.data.toList.getD k 0 ≠ 44) : Scan s F (k + 1) done :=
  ⟨Nat.le_trans h.hF (Nat.le_succ _), hk, h.hpre, fun i h1 h2 => by
    by_cases e : i = k
    · subst e; exact hc
    · exact h.hno i h1 (by omega), h.hd, h.h1⟩

/-- The part under way. -/
def part (s : ByteArray) (F k : Nat) : ByteArray := s.extract F k
theorem part_data {s : ByteArray} {F k : Nat} : (part s F k).data.toList = (s.data.toList.drop F).take (k - F) := by
  unfold part
  rw [ByteArray.data_extract, Array.toList_extract, List.extract_eq_take_drop]

theorem Scan.noC {s : ByteArray} {F k : Nat} {done : List ByteArray} (h : Scan s F k done) : NoC (part s F k).data.toList := by
  rw [part_data]
  intro x hx
  obtain ⟨i, hi, rfl⟩ := List.mem_iff_getElem.1 hx
  have hl : i < k - F := by simp at hi; omega
  have := h.hno (F + i) (by omega) (by omega)
  have hs : F + i < s.data.toList.length := by rw [size_l]; have := h.hk; omega
  rw [getD_at hs] at this
  simpa using this

theorem Scan.text {s : ByteArray} {F k : Nat} {done : List ByteArray} (h : Scan s F k done) : s.data.toList = pre done ++ ((part s F k).data.toList ++ s.data.toList.drop k) := by
  have e := h.hF
  rw [part_data, ← h.hpre]
  conv => lhs; rw [← List.take_append_drop F s.data.toList]
  congr 1
  conv => lhs; rw [← List.take_append_drop (k - F) (s.data.toList.drop F)]
  rw [List.drop_drop, show F + (k - F) = k by omega]

theorem Scan.tail {s : ByteArray} {F k : Nat} {done : List ByteArray} (h : Scan s F k done) (hc : k = s.size ∨ (k < s.size ∧ s.data.toList.getD k 0 = 44)) : s.data.toList.drop k = [] ∨ ∃ t, s.data.toList.drop k = 44 :: t := by
  rcases hc with rfl | ⟨h1, h2⟩
  · left; exact drop_size s
  · right
    have hs : k < s.data.toList.length := by rw [size_l]; exact h1
    rw [getD_at hs] at h2
    exact ⟨_, by rw [List.drop_eq_getElem_cons hs, h2]⟩

theorem Scan.bad {ats : List At} {a : At} (hf : findA ats ⟨#[116, 104, 101, 110]⟩ 3 = some a) {F k : Nat} {done : List ByteArray} (h : Scan a.s F k done) (hc : k = a.s.size ∨ (k < a.s.size ∧ a.s.data.toList.getD k 0 = 44)) (ho : oneB (part a.s F k) = false) : thenE ats = ([], 4) :=
  then_scan_bad hf h.hd h.noC h.text (h.tail hc) ho
theorem Scan.comma {s : ByteArray} {F k : Nat} {done : List ByteArray} (h : Scan s F k done) (hk : k < s.size) (hc : s.data.toList.getD k 0 = 44) (ho : oneB (part s F k) = true) : Scan s (k + 1) (k + 1) (done ++ [part s F k]) := by
  have hs : k < s.data.toList.length := by rw [size_l]; exact hk
  rw [getD_at hs] at hc
  refine ⟨Nat.le_refl _, hk, ?_, fun i h1 h2 => by omega, ?_, ?_⟩
  · rw [pre_snoc, List.take_succ_eq_append_getElem hs, hc, ← List.append_assoc]
    congr 1
    have := h.text
    rw [← List.append_assoc] at this
    have e : (pre done ++ (part s F k).data.toList).length = k := by
      have l1 : (pre done).length = F := by rw [← h.hpre, List.length_take]; have := h.hF; omega
      have l2 : (part s F k).data.toList.length = k - F := by rw [part_data, List.length_take, List.length_drop]; omega
      rw [List.length_append, l1, l2]; have := h.hF; omega
    rw [this, List.take_append_of_le_length (by omega)]
    exact List.take_of_length_le (by omega)
  · intro x hx
    rcases List.mem_append.1 hx with hx | hx
    · exact h.hd x hx
    · obtain rfl : x = part s F k := by simpa using hx
      exact h.noC
  · intro x hx
    rcases List.mem_append.1 hx with hx | hx
    · exact h.h1 x hx
    · obtain rfl : x = part s F k := by simpa using hx
      exact ho
theorem Scan.good {ats : List At} {a : At} (hf : findA ats ⟨#[116, 104, 101, 110]⟩ 3 = some a) {F : Nat} {done : List ByteArray} (h : Scan a.s F a.s.size done) (ho : oneB (part a.s F a.s.size) = true) : thenE ats = (done ++ [part a.s F a.s.size], 0) :=
  then_scan_good hf h.hd h.h1 h.noC (by
    have := h.text
    rwa [drop_size, List.append_nil] at this) ho

theorem Scan.good' {ats : List At} {a : At} (hf : findA ats ⟨#[116, 104, 101, 110]⟩ 3 = some a) {F k : Nat} {done : List ByteArray} (h : Scan a.s F k done) (hk : k = a.s.size) (ho : oneB (part a.s F k) = true) : thenE ats = (done ++ [part a.s F k], 0) := by
  subst hk; exact h.good hf ho
theorem byte_eq {s : ByteArray} {k : Nat} (h : k < s.size) (hc : s.data.toList.getD k 0 = 44) : (((s[k]'h).toNat : Int) != 44) = false := by
  have hs : k < s.data.toList.length := by rw [size_l]; exact h
  rw [getD_at hs] at hc
  have : s[k]'h = 44 := hc
  rw [this]; rfl
theorem byte_ne {s : ByteArray} {k : Nat} (h : k < s.size) (hc : s.data.toList.getD k 0 ≠ 44) : (((s[k]'h).toNat : Int) != 44) = true := by
  have hs : k < s.data.toList.length := by rw [size_l]; exact h
  rw [getD_at hs] at hc
  have h1 : s[k]'h ≠ 44 := hc
  have h2 : (s[k]'h).toNat ≠ 44 := fun e => h1 (UInt8.toNat_inj.1 e)
  simp only [bne_iff_ne, ne_eq]
  omega

end Go.Proofs.YtlbhepfbogcipaaGreatDoor

set_option linter.unusedVariables false
set_option linter.unusedSimpArgs false
namespace Go.Proofs.YtlbhepfbogcipaaGreatDoor
open Go.RowKit

set_option maxRecDepth 100000 in
set_option maxHeartbeats 2000000 in
theorem rfind_at {w0 w : World} {v : Value} {n : Nd} (h : NodeV w0 v n) (hB0 : Below w0.heap.size w0 w) (nm : ByteArray) (kd : Int) :
    Calls Tryz.prog 102 #[v, .string nm, .int .i64 kd] w fun e w' => Below w.heap.size w w' ∧ ∃ va, e = .returned (.tuple #[va, .bool (findA n.attrs nm kd).isSome]) ∧ AttrV w0 va ((findA n.attrs nm kd).getD At.zero) := by
  obtain ⟨vin, vat, rfl, hn⟩ := h
  obtain ⟨a1, c1, rfl⟩ := hn.is.form
  obtain ⟨a2, c2, rfl⟩ := hn.ia.form
  have hal := hn.ia.len
  have HN := Lib.hid hn
  have HB0 := Lib.hid hB0
  clear hn hB0
  unfold Nd.val
  go_enter Tryz.func102, Tryz.ntmps102
  go_wp2_with fail
  generalize hw1 : (w.alloc _).alloc _ = W1
  have hB1 : Hid (Below w.heap.size w W1) := Lib.hid (by rw [← hw1]; exact ((Below.refl _ w).alloc (Nat.le_refl _) _).alloc (by simp) _)
  have hX : Hid (BoxN W1 w.heap.size #[Value.string n.op, Value.string n.name, Value.slice a1 n.ins.length c1, Value.string n.out, Value.slice a2 n.attrs.length c2] 47) := Lib.hid (by rw [← hw1]; exact (BoxN.new w _ _).below' ((Below.refl _ _).alloc (Nat.le_refl _) _))
  have hR : Hid (BoxN W1 (w.heap.size + 1) #[Value.string ⟨#[]⟩, Value.int .i64 0, Value.int .i64 0, Value.int .i64 0, Value.string ⟨#[]⟩, Value.int .i64 0, Value.slice none 0 0, Value.slice none 0 0, Value.slice none 0 0] 77) := Lib.hid (by rw [← hw1]; simpa using BoxN.new (w.alloc (Obj.cells #[Value.string n.op, Value.string n.name, Value.slice a1 n.ins.length c1, Value.string n.out, Value.slice a2 n.attrs.length c2] 47)) #[Value.string ⟨#[]⟩, Value.int .i64 0, Value.int .i64 0, Value.int .i64 0, Value.string ⟨#[]⟩, Value.int .i64 0, Value.slice none 0 0, Value.slice none 0 0, Value.slice none 0 0] 77)
  clear hw1
  have k4 : W1.cell? ⟨w.heap.size, 4, none⟩ = some (.slice a2 n.attrs.length c2) := hX.out.cell 4 rfl
  obtain ⟨r0, r1, r2, r3, r4, r5, r6, r7, r8⟩ := hR.out.nine
  obtain ⟨f0, f1, f2, f3, f4, f5, f6, f7, f8⟩ := hR.out.thaw9
  go_loop [8] (fun i => ∃ k : Nat, k ≤ n.attrs.length ∧ i = .int .i64 (k : Int) ∧ Hid ((n.attrs.take k).any (isA nm kd) = false)) (fun i => n.attrs.length - (intOf i).toNat)
  case atStart => exact ⟨0, Nat.zero_le _, rfl, Lib.hid (by simp)⟩
  case round =>
    obtain ⟨k, hk, rfl, hT⟩ := hrel
    by_cases hkl : k < n.attrs.length
    · have hki : (k : Int) < (n.attrs.length : Int) := by omega
      obtain ⟨a, ha⟩ : ∃ a, n.attrs[k]? = some a := ⟨_, List.getElem?_eq_getElem hkl⟩
      obtain ⟨b, off, cap, hv, hb, hrd⟩ := HN.out.ia.rows k a ha
      obtain ⟨rfl, _, rfl⟩ := Value.slice.inj hv
      obtain ⟨vd, vx, vi, hc9, hn9⟩ := hrd k a ha
      obtain ⟨c0, c1, c2, c3, c4, c5, c6, c7, c8⟩ := hc9.below hb (HB0.out.trans (hB1.out.mono HB0.out.size))
      obtain ⟨ad, cd, rfl⟩ := hn9.id.shape
      obtain ⟨ax, cx, rfl⟩ := hn9.ix.shape
      obtain ⟨ai, ci, rfl⟩ := hn9.ii.shape
      have HN9 := Lib.hid hn9
      have HA := Lib.hid ha
      clear hv hrd hc9 hn9 ha
      by_cases hnm : a.name.toList = nm.toList
      · by_cases hkd : a.kind = kd
        · have hf : Hid (findA n.attrs nm kd = some a) := Lib.hid (find_at hT.out HA.out (isA_is hnm hkd))
          have hkb : (a.kind == kd) = true := by simpa using hkd
          have hnb : (a.name.toList == nm.toList) = true := by simpa using hnm
          clear hkd
          go_wp2
          have hp := hR.out.put (.string a.name) (.int .i64 a.kind) (.int .i64 a.f) (.int .i64 a.i) (.string a.s) (.int .i64 a.typ) (.slice ad a.dims.length cd) (.slice ax a.data.length cx) (.slice ai a.ints.length ci)
          have hq : Below w.heap.size w (put9 W1 (w.heap.size + 1) (.string a.name) (.int .i64 a.kind) (.int .i64 a.f) (.int .i64 a.i) (.string a.s) (.int .i64 a.typ) (.slice ad a.dims.length cd) (.slice ax a.data.length cx) (.slice ai a.ints.length ci)) := below_put9 hB1.out (by omega)
          have hn9 := HN9.out
          clear c0 c1 c2 c3 c4 c5 c6 c7 c8
          obtain ⟨c0, c1, c2, c3, c4, c5, c6, c7, c8⟩ := hp.nine
          unfold put9 at c0 c1 c2 c3 c4 c5 c6 c7 c8 hq
          refine bodyPost_ret (v := .tuple #[.agg #[.string a.name, .int .i64 a.kind, .int .i64 a.f, .int .i64 a.i, .string a.s, .int .i64 a.typ, .slice ad a.dims.length cd, .slice ax a.data.length cx, .slice ai a.ints.length ci], .bool true]) (by simp [results, Tryz.f102, go_sem, c0, c1, c2, c3, c4, c5, c6, c7, c8]) rfl ?_
          rw [hf.out]
          exact ⟨hq, _, rfl, _, _, _, rfl, hn9⟩
        · have hkb : (a.kind == kd) = false := by simpa using hkd
          have hnb : (a.name.toList == nm.toList) = true := by simpa using hnm
          have hT' : Hid ((n.attrs.take (k + 1)).any (isA nm kd) = false) := Lib.hid (take_any HA.out hT.out (isA_not_kind hkd))
          go_wp2
          go_round
          case rel => exact ⟨k + 1, by omega, by go_num, hT'⟩
          case measure => simp [intOf]; omega
      · have hnb : (a.name.toList == nm.toList) = false := by simpa using hnm
        have hT' : Hid ((n.attrs.take (k + 1)).any (isA nm kd) = false) := Lib.hid (take_any HA.out hT.out (isA_not_name hnm))
        go_wp2
        go_round
        case rel => exact ⟨k + 1, by omega, by go_num, hT'⟩
        case measure => simp [intOf]; omega
    · have hki : ¬ (k : Int) < (n.attrs.length : Int) := by omega
      obtain rfl : k = n.attrs.length := by omega
      have hf : Hid (findA n.attrs nm kd = none) := Lib.hid (find_not (by have := hT.out; rwa [List.take_length] at this))
      go_wp2
      have hp := hR.out.put (.string ⟨#[]⟩) (.int .i64 0) (.int .i64 0) (.int .i64 0) (.string ⟨#[]⟩) (.int .i64 0) (.slice none 0 0) (.slice none 0 0) (.slice none 0 0)
      have hq : Below w.heap.size w (put9 W1 (w.heap.size + 1) (.string ⟨#[]⟩) (.int .i64 0) (.int .i64 0) (.int .i64 0) (.string ⟨#[]⟩) (.int .i64 0) (.slice none 0 0) (.slice none 0 0) (.slice none 0 0)) := below_put9 hB1.out (by omega)
      obtain ⟨c0, c1, c2, c3, c4, c5, c6, c7, c8⟩ := hp.nine
      unfold put9 at c0 c1 c2 c3 c4 c5 c6 c7 c8 hq
      refine bodyPost_ret (v := .tuple #[.agg #[.string ⟨#[]⟩, .int .i64 0, .int .i64 0, .int .i64 0, .string ⟨#[]⟩, .int .i64 0, .slice none 0 0, .slice none 0 0, .slice none 0 0], .bool false]) (by simp [results, Tryz.f102, go_sem, c0, c1, c2, c3, c4, c5, c6, c7, c8]) rfl ?_
      rw [hf.out]
      exact ⟨hq, _, rfl, AttrV.zero _⟩

end Go.Proofs.YtlbhepfbogcipaaGreatDoor

set_option linter.unusedVariables false
set_option linter.unusedSimpArgs false
namespace Go.Proofs.YtlbhepfbogcipaaGreatDoor
open Go.RowKit

attribute [local irreducible] thenE splitL findA oneB

set_option maxRecDepth 100000 in
set_option maxHeartbeats 3000000 in
theorem rthen_any {w : World} {v : Value} {n : Nd} (h : NodeV w v n) :
    Calls Tryz.prog 91 #[v] w fun e w' => Below w.heap.size w w' ∧ ∃ v', e = .returned (.tuple #[v', .int .i64 (thenE n.attrs).2]) ∧ StrsIn w' v' (thenE n.attrs).1 := by
  obtain ⟨i0, hi, hz0, hz1, hz2⟩ := info_parts info_string
  obtain ⟨vin, vat, rfl, hn⟩ := h
  obtain ⟨a1, c1, rfl⟩ := hn.is.form
  obtain ⟨a2, c2, rfl⟩ := hn.ia.form
  have HN := Lib.hid hn
  clear hn
  unfold Nd.val
  go_enter Tryz.func91, Tryz.ntmps91
  go_wp2_with fail
  have hB1 : Hid (Below w.heap.size w (w.alloc (Obj.cells #[Value.string n.op, Value.string n.name, Value.slice a1 n.ins.length c1, Value.string n.out, Value.slice a2 n.attrs.length c2] 47))) := Lib.hid ((Below.refl _ w).alloc (Nat.le_refl _) _)
  generalize w.alloc _ = W1 at hB1 ⊢
  have HC := Lib.hid (rfind_any ⟨_, _, rfl, HN.out.below hB1.out⟩ ⟨#[116, 104, 101, 110]⟩ 3)
  unfold Nd.val at HC
  cases hfa : findA n.attrs ⟨#[116, 104, 101, 110]⟩ 3 with
  | none =>
    rw [hfa] at HC
    have HT := Lib.hid (thenE_none hfa)
    clear hfa
    refine HC.out.mono ?_
    rintro e w5 ⟨B5, va, rfl, vd, vx, vi, rfl, hna⟩
    obtain ⟨ad, cd, rfl⟩ := hna.id.shape
    obtain ⟨ax, cx, rfl⟩ := hna.ix.shape
    obtain ⟨ai, ci, rfl⟩ := hna.ii.shape
    have HB5 := Lib.hid (hB1.out.trans (B5.mono hB1.out.size))
    simp only [Option.isSome_none, Option.getD_none]
    unfold At.val
    clear hna B5 HC hB1
    go_wp2_with fail
    go_ret2
    rw [HT.out]
    exact ⟨HB5.out.alloc HB5.out.size _, _, rfl, .empty _ _⟩
  | some a =>
    rw [hfa] at HC
    have HT := Lib.hid hfa
    clear hfa
    refine HC.out.mono ?_
    rintro e w5 ⟨B5, va, rfl, vd, vx, vi, rfl, hna⟩
    simp only [Option.isSome_some, Option.getD_some] at hna ⊢
    obtain ⟨ad, cd, rfl⟩ := hna.id.shape
    obtain ⟨ax, cx, rfl⟩ := hna.ix.shape
    obtain ⟨ai, ci, rfl⟩ := hna.ii.shape
    have hzs := hna.zs
    have HB5 := Lib.hid (hB1.out.trans (B5.mono hB1.out.size))
    unfold At.val
    clear hna B5 HC hB1
    go_wp2_with fail
    have HX := Lib.hid (BoxN.new w5 #[.string a.name, .int .i64 a.kind, .int .i64 a.f, .int .i64 a.i, .string a.s, .int .i64 a.typ, .slice ad a.dims.length cd, .slice ax a.data.length cx, .slice ai a.ints.length ci] 77)
    have HB6 : Hid (Below w.heap.size w (w5.alloc (.cells #[.string a.name, .int .i64 a.kind, .int .i64 a.f, .int .i64 a.i, .string a.s, .int .i64 a.typ, .slice ad a.dims.length cd, .slice ax a.data.length cx, .slice ai a.ints.length ci] 77))) := Lib.hid (HB5.out.alloc HB5.out.size _)
    generalize w5.alloc _ = W6 at HX HB6 ⊢
    clear HB5
    generalize w5.heap.size = B at HX ⊢
    generalize hsz : a.s.size = sz at hzs
    have HSZ := Lib.hid hsz
    clear hsz
    go_loopw [6, 7, 8] (fun ov fv iv wr => ∃ (done : List ByteArray) (F k pl : Nat), iv = .int .i64 (k : Int) ∧ fv = .int .i64 (F : Int) ∧ pl ≤ k ∧ k ≤ sz + 1 ∧ Hid (done.length = pl) ∧ Hid (wr.ownsRow W6.heap.size 9 1 ov pl (done.map Value.string)) ∧ Hid (Below W6.heap.size W6 wr) ∧ F ≤ k ∧ Hid ((k ≤ sz ∧ Scan a.s F k done) ∨ (k = sz + 1 ∧ thenE n.attrs = (done, 0)))) (fun _ _ iv _ => sz + 1 - (intOf iv).toNat)
    case atStart => exact ⟨[], 0, 0, 0, rfl, rfl, Nat.le_refl _, Nat.zero_le _, Lib.hid rfl, Lib.hid (World.ownsRow_nil _ _ _ _), Lib.hid (Below.refl _ _), Nat.le_refl _, Lib.hid (Or.inl ⟨Nat.zero_le _, Scan.start _⟩)⟩
    case round =>
      obtain ⟨done, F, k, pl, rfl, rfl, hpl, hk, hPL, hown, hB, hFk, hSt⟩ := hrel
      have k4 : wr.cell? ⟨B, 4, none⟩ = some (.string a.s) := (HX.out.below' hB.out).cell 4 rfl
      have hsz := HSZ.out
      by_cases hle : k ≤ sz
      · have hS : Scan a.s F k done := by
          rcases hSt.out with ⟨_, h⟩ | ⟨h, _⟩
          · exact h
          · omega
        have HSC := Lib.hid hS
        have hki : (k : Int) ≤ (a.s.size : Int) := by omega
        clear hS hSt
        by_cases hlt : k < sz
        · have hkl : (k : Int) < (a.s.size : Int) := by omega
          have hks : k < a.s.size := by omega
          by_cases hc : a.s.data.toList.getD k 0 = 44
          · have hcb := byte_eq hks hc
            have HCC := Lib.hid hc
            clear hc
            go_wp2_with fail
            refine (rone_any _ _).mono ?_
            rintro e w3 ⟨rfl, B3⟩
            have hB3 := Lib.hid (hB.out.trans (B3.mono hB.out.size))
            have hown3 := Lib.hid (owns_below hown.out B3)
            have k4' : w3.cell? ⟨B, 4, none⟩ = some (.string a.s) := (HX.out.below' hB3.out).cell 4 rfl
            clear B3 hB hown k4
            cases ho : oneB (a.s.extract F k) with
            | false =>
              have HT2 := Lib.hid (HSC.out.bad HT.out (Or.inr ⟨by omega, HCC.out⟩) ho)
              clear ho
              go_wp2
              go_ret2
              rw [HT2.out]
              exact ⟨HB6.out.trans (hB3.out.mono HB6.out.size), _, rfl, .empty _ _⟩
            | true =>
              have HO := Lib.hid ho
              clear ho
              go_wp2_with (at_builtin; refine wpList_append_own _ rfl _ _ 44 rfl W6.heap.size 9 i0 (.string ⟨#[]⟩) 1 16 Tryz.underlying44 hi hz0 hz1 hz2 rfl (by decide) _ _ _ rfl (hown3.out.alloc _) ⟨w3.heap.size, 0, none⟩ 1 1 (#[.string (a.s.extract F k)] : Array Value).toList rfl rfl (World.news_of_block (heap_alloc_new w3 _)) (by simp [Value.oneCell']) ?A3 ?A4 ?A5 ?_)
              case A3 => unfold maxLen; omega
              case A4 => omega
              case A5 => have := hB3.out.size; simp; omega
              intro v' w4 hown' hgrow _
              have hb4 : Hid (Below W6.heap.size W6 w4) := Lib.hid ((hB3.out.alloc hB3.out.size _).grown hgrow (by have := hB3.out.size; simp; omega) fun g hg => (hown3.out.lt g hg).1)
              have ho4 : Hid (w4.ownsRow W6.heap.size 9 1 v' (pl + 1) ((done ++ [a.s.extract F k]).map Value.string)) := Lib.hid (by rw [List.map_append]; exact hown')
              have hl4 : Hid ((done ++ [a.s.extract F k]).length = pl + 1) := Lib.hid (by rw [List.length_append, hPL.out]; rfl)
              have hst4 : Hid ((k + 1 ≤ sz ∧ Scan a.s (k + 1) (k + 1) (done ++ [a.s.extract F k])) ∨ (k + 1 = sz + 1 ∧ thenE n.attrs = (done ++ [a.s.extract F k], 0))) := Lib.hid (Or.inl ⟨by omega, HSC.out.comma (by omega) HCC.out HO.out⟩)
              clear hown' hgrow hown3 hB3
              go_wp2_with fail
              go_roundw
              case rel => exact ⟨_, k + 1, k + 1, pl + 1, by go_num, by go_num, by omega, by omega, hl4, ho4, hb4, Nat.le_refl _, hst4⟩
              case measure => simp [intOf]; omega
          · have hcb := byte_ne hks hc
            have HSN := Lib.hid (HSC.out.next hks hc)
            clear hc
            go_wp2_with fail
            go_roundw
            case rel => exact ⟨done, F, k + 1, pl, by go_num, rfl, by omega, by omega, hPL, hown, hB, by omega, Lib.hid (Or.inl ⟨by omega, HSN.out⟩)⟩
            case measure => simp [intOf]; omega
        · have hkl : ¬ (k : Int) < (a.s.size : Int) := by omega
          go_wp2_with fail
          refine (rone_any _ _).mono ?_
          rintro e w3 ⟨rfl, B3⟩
          have hB3 := Lib.hid (hB.out.trans (B3.mono hB.out.size))
          have hown3 := Lib.hid (owns_below hown.out B3)
          have k4' : w3.cell? ⟨B, 4, none⟩ = some (.string a.s) := (HX.out.below' hB3.out).cell 4 rfl
          clear B3 hB hown k4
          cases ho : oneB (a.s.extract F k) with
          | false =>
            have HT2 := Lib.hid (HSC.out.bad HT.out (Or.inl (by omega)) ho)
            clear ho
            go_wp2
            go_ret2
            rw [HT2.out]
            exact ⟨HB6.out.trans (hB3.out.mono HB6.out.size), _, rfl, .empty _ _⟩
          | true =>
            have HO := Lib.hid ho
            clear ho
            go_wp2_with (at_builtin; refine wpList_append_own _ rfl _ _ 44 rfl W6.heap.size 9 i0 (.string ⟨#[]⟩) 1 16 Tryz.underlying44 hi hz0 hz1 hz2 rfl (by decide) _ _ _ rfl (hown3.out.alloc _) ⟨w3.heap.size, 0, none⟩ 1 1 (#[.string (a.s.extract F k)] : Array Value).toList rfl rfl (World.news_of_block (heap_alloc_new w3 _)) (by simp [Value.oneCell']) ?B3 ?B4 ?B5 ?_)
            case B3 => unfold maxLen; omega
            case B4 => omega
            case B5 => have := hB3.out.size; simp; omega
            intro v' w4 hown' hgrow _
            have hb4 : Hid (Below W6.heap.size W6 w4) := Lib.hid ((hB3.out.alloc hB3.out.size _).grown hgrow (by have := hB3.out.size; simp; omega) fun g hg => (hown3.out.lt g hg).1)
            have ho4 : Hid (w4.ownsRow W6.heap.size 9 1 v' (pl + 1) ((done ++ [a.s.extract F k]).map Value.string)) := Lib.hid (by rw [List.map_append]; exact hown')
            have hl4 : Hid ((done ++ [a.s.extract F k]).length = pl + 1) := Lib.hid (by rw [List.length_append, hPL.out]; rfl)
            have hst4 : Hid ((k + 1 ≤ sz ∧ Scan a.s (k + 1) (k + 1) (done ++ [a.s.extract F k])) ∨ (k + 1 = sz + 1 ∧ thenE n.attrs = (done ++ [a.s.extract F k], 0))) := Lib.hid (Or.inr ⟨by omega, HSC.out.good' HT.out (by omega) HO.out⟩)
            clear hown' hgrow hown3 hB3
            go_wp2_with fail
            go_roundw
            case rel => exact ⟨_, k + 1, k + 1, pl + 1, by go_num, by go_num, by omega, by omega, hl4, ho4, hb4, Nat.le_refl _, hst4⟩
            case measure => simp [intOf]; omega
      · have hki : ¬ (k : Int) ≤ (a.s.size : Int) := by omega
        have hE := hSt.out
        rcases hE with ⟨h, _⟩ | ⟨_, h⟩
        · omega
        · have HT2 := Lib.hid h
          have HS2 : Hid (StrsIn wr u6 done) := Lib.hid (StrsIn.own hown.out hPL.out (by omega))
          clear h hSt
          go_wp2_with fail
          go_ret2
          rw [HT2.out]
          exact ⟨HB6.out.trans (hB.out.mono HB6.out.size), _, rfl, HS2.out⟩

end Go.Proofs.YtlbhepfbogcipaaGreatDoor

set_option linter.unusedVariables false
set_option linter.unusedSimpArgs false
namespace Go.Proofs.YtlbhepfbogcipaaGreatDoor
open Go.RowKit

theorem ints_at {w : World} {v : Value} {zs : List Int} (h : IntsIn w v zs) {k : Nat} (hk : k < zs.length) : ∃ b off cap, v = .slice (some ⟨b, off, none⟩) zs.length cap ∧ b < w.heap.size ∧ w.cell? ⟨b, off + k, none⟩ = some (.int .i64 (zs.getD k 0)) := by
  cases h with
  | empty a0 cap => simp at hk
  | row b off cap _ h0 hc hb hr hlen hw => exact ⟨b, off, cap, rfl, hb, hr k hk⟩
theorem ints_len {w : World} {v : Value} {zs : List Int} (h : IntsIn w v zs) : zs.length * 8 ≤ 140737488351232 := by
  cases h with
  | empty a0 cap => decide
  | row b off cap _ h0 hc hb hr hlen hw => exact hlen

theorem rtyped_any (t : Int) (w : World) : Calls Tryz.prog 33 #[.int .i64 t] w fun e w' => e = .returned (.bool (chk t 0)) ∧ w = w' := by
  go_enter Tryz.func33, Tryz.ntmps33
  go_wp2_with (go_at_call 45; refine (Fl.rchk_any t 0 w).mono ?_; rintro e w' ⟨rfl, rfl⟩)
  go_ret
  exact ⟨rfl, rfl⟩

attribute [local irreducible] pbE cnt chk

set_option maxRecDepth 100000 in
set_option maxHeartbeats 4000000 in
theorem rpb_any (t : Int) (dims data : List Int) {w : World} {vd vx : Value} (hd : IntsIn w vd dims) (hx : IntsIn w vx data) :
    Calls Tryz.prog 70 #[.agg #[.int .i64 t, vd, vx]] w fun e w' => e = .returned (.int .i64 (pbE t dims data)) ∧ Below w.heap.size w w' := by
  obtain ⟨ad, cd, rfl⟩ := hd.shape
  obtain ⟨ax, cx, rfl⟩ := hx.shape
  have hxl := ints_len hx
  have HD := Lib.hid hd
  have HX := Lib.hid hx
  clear hd hx
  go_enter Tryz.func70, Tryz.ntmps70
  go_wp2_with fail
  generalize hw1 : w.alloc (Obj.cells #[Value.int IntKind.i64 t, Value.slice ad dims.length cd, Value.slice ax data.length cx] 52) = W1
  have hB1 : Hid (Below w.heap.size w W1) := Lib.hid (by rw [← hw1]; exact (Below.refl _ w).alloc (Nat.le_refl _) _)
  have hX1 : Hid (BoxN W1 w.heap.size #[Value.int IntKind.i64 t, Value.slice ad dims.length cd, Value.slice ax data.length cx] 52) := Lib.hid (by rw [← hw1]; exact BoxN.new w _ _)
  clear hw1
  have k0 : W1.cell? ⟨w.heap.size, 0, none⟩ = some (.int .i64 t) := hX1.out.cell 0 rfl
  have k1 : W1.cell? ⟨w.heap.size, 1, none⟩ = some (.slice ad dims.length cd) := hX1.out.cell 1 rfl
  have k2 : W1.cell? ⟨w.heap.size, 2, none⟩ = some (.slice ax data.length cx) := hX1.out.cell 2 rfl
  have HT := Lib.hid (fun W => rtyped_any t W)
  have HC := Lib.hid (rcount_any (HD.out.below hB1.out))
  refine (HT.out _).mono ?_
  rintro e w2 ⟨rfl, rfl⟩
  cases ht : chk t 0 with
  | false =>
    have e := Lib.hid (pbE_type (dims := dims) (data := data) ht)
    clear ht
    go_wp2_with fail
    go_ret
    exact ⟨ret_val (int_val e.out.symm), hB1.out⟩
  | true =>
    have HTT := Lib.hid ht
    clear ht
    go_wp2_with fail
    refine HC.out.mono ?_
    rintro e w2 ⟨rfl, rfl⟩
    generalize hc : cnt dims = c at HC ⊢
    obtain ⟨c, ce⟩ := c
    have E1 := Lib.hid (show (cnt dims).1 = c by rw [hc])
    have E2 := Lib.hid (show (cnt dims).2 = ce by rw [hc])
    clear hc HC
    by_cases hg : ce = 0
    · subst hg
      by_cases hl : (data.length : Int) = c
      · have HLL := Lib.hid (hl.trans E1.out.symm)
        subst hl
        have HS : Hid (∀ W', Below W1.heap.size W1 W' → W'.cell? ⟨w.heap.size, 0, none⟩ = some (.int .i64 t) ∧ W'.cell? ⟨w.heap.size, 2, none⟩ = some (.slice ax data.length cx)) := Lib.hid fun W' h => ⟨(hX1.out.below' h).cell 0 rfl, (hX1.out.below' h).cell 2 rfl⟩
        go_wp2_with fail
        clear k0 k1 k2
        go_loopw [5] (fun i wr => ∃ k : Nat, k ≤ data.length ∧ i = .int .i64 (k : Int) ∧ Hid ((data.take k).any (fun x => !chk t x) = false) ∧ Hid (Below W1.heap.size W1 wr)) (fun i _ => data.length - (intOf i).toNat)
        case atStart => exact ⟨0, Nat.zero_le _, rfl, Lib.hid (by simp), Lib.hid (Below.refl _ _)⟩
        case round =>
          obtain ⟨k, hk, rfl, hA, hW⟩ := hrel
          by_cases hkl : k < data.length
          · have hki : (k : Int) < (data.length : Int) := by omega
            obtain ⟨b, off, cap, hv, hb, hcell⟩ := ints_at HX.out hkl
            obtain ⟨rfl, hle, rfl⟩ := Value.slice.inj hv
            clear hle hv
            have HDC : Hid (∀ W', Below W1.heap.size W1 W' → W'.cell? ⟨b, off + k, none⟩ = some (.int .i64 (data.getD k 0))) := Lib.hid fun W' h => ((hB1.out.trans (h.mono hB1.out.size)).cell (p := ⟨b, off + k, none⟩) hb).trans hcell
            have HZ : Hid (data[k]? = some (data.getD k 0)) := Lib.hid (by simp [List.getD, List.getElem?_eq_getElem hkl])
            clear hcell
            generalize data.getD k 0 = z at HDC HZ
            have HK := Lib.hid (fun W => Fl.rchk_any t z W)
            go_wp2_with fail
            refine wp_region_plan 8 [0, 1, 2, 3, 4, 5, 6, 7] (fun W' => Below W1.heap.size W1 W') (by kernel_rfl) (by kernel_rfl) (fun _ d _ _ _ h => by cases d <;> exact h) hW.out.drew ?_
            have B0 : Hid (Below W1.heap.size W1 wr.drew) := Lib.hid hW.out.drew
            generalize wr.drew = wD at B0 ⊢
            repeat
              refine plan_read (v := ?_) rfl rfl (Or.inl ⟨by rfl, ?_⟩) ?_
              rotate_left
              · intro w' hSw
                obtain ⟨s0, s2⟩ := HS.out w' hSw
                have s3 := HDC.out w' hSw
                go_simp
                try with_reducible rfl
              try simp only [Act.put, List.getElem_toArray, List.getElem_cons_zero, List.getElem_cons_succ, List.setIfInBounds_toArray, List.set_cons_zero, List.set_cons_succ]
            refine plan_act rfl rfl (fun K' hK => ?_)
            go_simp
            refine (HK.out _).mono ?_
            rintro e w5 ⟨rfl, rfl⟩
            refine hK.out _ _ B0.out ?_
            clear hK K'
            refine plan_tail rfl ?_
            simp only [List.toList_toArray, List.drop_succ_cons, List.drop_zero]
            cases hz : chk t z with
            | false =>
              have e := Lib.hid (pbE_bad HTT.out E2.out HLL.out (List.any_eq_true.2 ⟨z, List.mem_of_getElem? HZ.out, by simp [hz]⟩))
              clear hz
              go_wp2
              go_ret
              exact ⟨ret_val (congrArg (Value.int .i64) e.out).symm, hB1.out.trans (B0.out.mono hB1.out.size)⟩
            | true =>
              have hA' : Hid ((data.take (k + 1)).any (fun x => !chk t x) = false) := Lib.hid (take_any HZ.out hA.out (by simp [hz]))
              clear hz
              go_wp2
              go_roundw
              case rel => exact ⟨k + 1, by omega, by go_num, hA', B0⟩
              case measure => simp [intOf]; omega
          · have hki : ¬ (k : Int) < (data.length : Int) := by omega
            obtain rfl : k = data.length := by omega
            have e := Lib.hid (pbE_good HTT.out E2.out HLL.out (by have := hA.out; rwa [List.take_length] at this))
            go_wp2
            go_ret
            exact ⟨ret_val (congrArg (Value.int .i64) e.out).symm, hB1.out.trans (hW.out.mono hB1.out.size)⟩
      · have e := Lib.hid (pbE_len (data := data) HTT.out E2.out (by rw [E1.out]; exact hl))
        go_wp2_with fail
        go_ret
        exact ⟨ret_val (congrArg (Value.int .i64) e.out).symm, hB1.out⟩
    · have e := Lib.hid ((pbE_dims (data := data) HTT.out (by rw [E2.out]; exact hg)).trans E2.out)
      go_wp2_with fail
      go_ret
      exact ⟨ret_val (congrArg (Value.int .i64) e.out).symm, hB1.out⟩

set_option maxRecDepth 100000 in
set_option maxHeartbeats 4000000 in
theorem rvalue_any {w : World} {v : Value} {n : Nd} (h : NodeV w v n) :
    Calls Tryz.prog 92 #[v] w fun e w' => Below w.heap.size w w' ∧ ∃ vd vx, e = .returned (.agg #[.int .i64 ((findA n.attrs ⟨#[118, 97, 108, 117, 101]⟩ 4).getD At.zero).typ, vd, vx]) ∧ IntsIn w' vd ((findA n.attrs ⟨#[118, 97, 108, 117, 101]⟩ 4).getD At.zero).dims ∧ IntsIn w' vx ((findA n.attrs ⟨#[118, 97, 108, 117, 101]⟩ 4).getD At.zero).data := by
  obtain ⟨vin, vat, rfl, hn⟩ := h
  obtain ⟨a1, c1, rfl⟩ := hn.is.form
  obtain ⟨a2, c2, rfl⟩ := hn.ia.form
  have HN := Lib.hid hn
  clear hn
  unfold Nd.val
  go_enter Tryz.func92, Tryz.ntmps92
  go_wp2_with fail
  generalize hw1 : (w.alloc _).alloc _ = W1
  have hB1 : Hid (Below w.heap.size w W1) := Lib.hid (by rw [← hw1]; exact ((Below.refl _ w).alloc (Nat.le_refl _) _).alloc (by simp) _)
  have hR : Hid (BoxN W1 (w.heap.size + 1) #[Value.int .i64 0, Value.slice none 0 0, Value.slice none 0 0] 52) := Lib.hid (by rw [← hw1]; simpa using BoxN.new (w.alloc (Obj.cells #[Value.string n.op, Value.string n.name, Value.slice a1 n.ins.length c1, Value.string n.out, Value.slice a2 n.attrs.length c2] 47)) #[Value.int .i64 0, Value.slice none 0 0, Value.slice none 0 0] 52)
  clear hw1
  have HC := Lib.hid (rfind_at ⟨_, _, rfl, HN.out⟩ hB1.out ⟨#[118, 97, 108, 117, 101]⟩ 4)
  unfold Nd.val at HC
  generalize (findA n.attrs ⟨#[118, 97, 108, 117, 101]⟩ 4).isSome = ok at HC
  obtain ⟨a, ha⟩ : ∃ a, (findA n.attrs ⟨#[118, 97, 108, 117, 101]⟩ 4).getD At.zero = a := ⟨_, rfl⟩
  rw [ha] at HC
  have HA := Lib.hid ha
  clear ha
  refine HC.out.mono ?_
  rintro e w5 ⟨B5, va, rfl, vd, vx, vi, rfl, hna⟩
  obtain ⟨ad, cd, rfl⟩ := hna.id.shape
  obtain ⟨ax, cx, rfl⟩ := hna.ix.shape
  obtain ⟨ai, ci, rfl⟩ := hna.ii.shape
  have HR5 := Lib.hid (hR.out.below' B5)
  have HB5 := Lib.hid (hB1.out.trans (B5.mono hB1.out.size))
  have HNA := Lib.hid hna
  unfold At.val
  clear hna B5 HC hB1 hR
  have hQ := fun o => HR5.out.below' ((Below.refl _ w5).alloc (Nat.le_refl _) o)
  have r0 := fun o => (hQ o).three.1
  have r1 := fun o => (hQ o).three.2.1
  have r2 := fun o => (hQ o).three.2.2
  have t0 := fun o => (hQ o).thaw3.1
  have t1 := fun o => (hQ o).thaw3.2.1
  have t2 := fun o => (hQ o).thaw3.2.2
  clear hQ
  go_wp2_with fail
  have HB6 := Lib.hid (HB5.out.alloc HB5.out.size (.cells #[.string a.name, .int .i64 a.kind, .int .i64 a.f, .int .i64 a.i, .string a.s, .int .i64 a.typ, .slice ad a.dims.length cd, .slice ax a.data.length cx, .slice ai a.ints.length ci] 77))
  have HP := Lib.hid ((HR5.out.below' ((Below.refl _ w5).alloc (Nat.le_refl _) (.cells #[.string a.name, .int .i64 a.kind, .int .i64 a.f, .int .i64 a.i, .string a.s, .int .i64 a.typ, .slice ad a.dims.length cd, .slice ax a.data.length cx, .slice ai a.ints.length ci] 77))).put3 (.int .i64 a.typ) (.slice ad a.dims.length cd) (.slice ax a.data.length cx))
  have HB7 := Lib.hid (below_put3 (v0 := .int .i64 a.typ) (v1 := .slice ad a.dims.length cd) (v2 := .slice ax a.data.length cx) HB6.out (b := w.heap.size + 1) (by omega))
  obtain ⟨c0, c1, c2⟩ := HP.out.three
  have hq := HB7.out
  unfold put3 at c0 c1 c2 hq
  refine bodyPost_ret (v := .agg #[.int .i64 a.typ, .slice ad a.dims.length cd, .slice ax a.data.length cx]) (by simp [results, Tryz.f92, go_sem, c0, c1, c2]) rfl ?_
  rw [HA.out]
  exact ⟨hq, _, _, rfl, HNA.out.id.below hq, HNA.out.ix.below hq⟩

end Go.Proofs.YtlbhepfbogcipaaGreatDoor

set_option linter.unusedVariables false
set_option linter.unusedSimpArgs false
namespace Go.Proofs.YtlbhepfbogcipaaGreatDoor
open Go.RowKit

/-- A node's error, as the reference says. -/
def refP (n : Nd) : Int :=
  if (refOf n.op).ok = false then 5
  else if (n.ins.length : Int) < (refOf n.op).least then 4
  else if (refOf n.op).most < (n.ins.length : Int) then 4
  else if n.out = ⟨#[]⟩ then 5
  else if hasS n.ins ⟨#[]⟩ = true then 5
  else if rattrsE n.attrs ((refOf n.op).forms ++ [thenF]) ≠ 0 then rattrsE n.attrs ((refOf n.op).forms ++ [thenF])
  else if (thenE n.attrs).2 ≠ 0 then (thenE n.attrs).2
  else if n.op = ⟨#[67, 111, 110, 115, 116, 97, 110, 116]⟩ then pbE ((findA n.attrs ⟨#[118, 97, 108, 117, 101]⟩ 4).getD At.zero).typ ((findA n.attrs ⟨#[118, 97, 108, 117, 101]⟩ 4).getD At.zero).dims ((findA n.attrs ⟨#[118, 97, 108, 117, 101]⟩ 4).getD At.zero).data
  else 0

section
variable {n : Nd}
theorem refP_none (h : (refOf n.op).ok = false) : refP n = 5 := by unfold refP; rw [if_pos h]
theorem refP_least (h : (refOf n.op).ok = true) (g : (n.ins.length : Int) < (refOf n.op).least) : refP n = 4 := by unfold refP; rw [if_neg (by rw [h]; decide), if_pos g]
theorem refP_most (h : (refOf n.op).ok = true) (g : ¬ (n.ins.length : Int) < (refOf n.op).least) (m : (refOf n.op).most < (n.ins.length : Int)) : refP n = 4 := by unfold refP; rw [if_neg (by rw [h]; decide), if_neg g, if_pos m]
structure FineR (n : Nd) : Prop where
  h : (refOf n.op).ok = true
  g : ¬ (n.ins.length : Int) < (refOf n.op).least
  m : ¬ (refOf n.op).most < (n.ins.length : Int)
theorem refP_out (h : FineR n) (o : n.out = ⟨#[]⟩) : refP n = 5 := by unfold refP; rw [if_neg (by rw [h.h]; decide), if_neg h.g, if_neg h.m, if_pos o]
theorem refP_ins (h : FineR n) (o : ¬ n.out = ⟨#[]⟩) (i : hasS n.ins ⟨#[]⟩ = true) : refP n = 5 := by unfold refP; rw [if_neg (by rw [h.h]; decide), if_neg h.g, if_neg h.m, if_neg o, if_pos i]
structure FineS (n : Nd) : Prop extends FineR n where
  o : ¬ n.out = ⟨#[]⟩
  i : hasS n.ins ⟨#[]⟩ = false
theorem refP_attrs (h : FineS n) (a : rattrsE n.attrs ((refOf n.op).forms ++ [thenF]) ≠ 0) : refP n = rattrsE n.attrs ((refOf n.op).forms ++ [thenF]) := by
  unfold refP; rw [if_neg (by rw [h.h]; decide), if_neg h.g, if_neg h.m, if_neg h.o, if_neg (by rw [h.i]; decide), if_pos a]
theorem refP_then (h : FineS n) (a : rattrsE n.attrs ((refOf n.op).forms ++ [thenF]) = 0) (t : (thenE n.attrs).2 ≠ 0) : refP n = (thenE n.attrs).2 := by
  unfold refP; rw [if_neg (by rw [h.h]; decide), if_neg h.g, if_neg h.m, if_neg h.o, if_neg (by rw [h.i]; decide), if_neg (fun c => c a), if_pos t]
theorem refP_const (h : FineS n) (a : rattrsE n.attrs ((refOf n.op).forms ++ [thenF]) = 0) (t : (thenE n.attrs).2 = 0) (c : n.op = ⟨#[67, 111, 110, 115, 116, 97, 110, 116]⟩) :
    refP n = pbE ((findA n.attrs ⟨#[118, 97, 108, 117, 101]⟩ 4).getD At.zero).typ ((findA n.attrs ⟨#[118, 97, 108, 117, 101]⟩ 4).getD At.zero).dims ((findA n.attrs ⟨#[118, 97, 108, 117, 101]⟩ 4).getD At.zero).data := by
  unfold refP; rw [if_neg (by rw [h.h]; decide), if_neg h.g, if_neg h.m, if_neg h.o, if_neg (by rw [h.i]; decide), if_neg (fun c => c a), if_neg (fun c => c t), if_pos c]
theorem refP_end (h : FineS n) (a : rattrsE n.attrs ((refOf n.op).forms ++ [thenF]) = 0) (t : (thenE n.attrs).2 = 0) (c : ¬ n.op = ⟨#[67, 111, 110, 115, 116, 97, 110, 116]⟩) : refP n = 0 := by
  unfold refP; rw [if_neg (by rw [h.h]; decide), if_neg h.g, if_neg h.m, if_neg h.o, if_neg (by rw [h.i]; decide), if_neg (fun c => c a), if_neg (fun c => c t), if_neg c]
end

attribute [local irreducible] refOf rattrsE thenE findA pbE hasS refP

set_option maxRecDepth 100000 in
set_option maxHeartbeats 3000000 in
theorem rcheck_any {w : World} {v : Value} {n : Nd} (h : NodeV w v n) :
    Calls Tryz.prog 71 #[v] w fun e w' => e = .returned (.int .i64 (refP n)) ∧ Below w.heap.size w w' := by
  obtain ⟨vin, vat, rfl, hn⟩ := h
  obtain ⟨a1, c1, rfl⟩ := hn.is.form
  obtain ⟨a2, c2, rfl⟩ := hn.ia.form
  have hil := hn.is.len
  have HN := Lib.hid hn
  clear hn
  unfold Nd.val
  go_enter Tryz.func71, Tryz.ntmps71
  go_wp2_with fail
  have hB1 : Hid (Below w.heap.size w (w.alloc (Obj.cells #[Value.string n.op, Value.string n.name, Value.slice a1 n.ins.length c1, Value.string n.out, Value.slice a2 n.attrs.length c2] 47))) := Lib.hid ((Below.refl _ w).alloc (Nat.le_refl _) _)
  have hA1 := Lib.hid (BoxN.new w #[Value.string n.op, Value.string n.name, Value.slice a1 n.ins.length c1, Value.string n.out, Value.slice a2 n.attrs.length c2] 47)
  generalize w.alloc _ = W1 at hB1 hA1 ⊢
  refine (rof_any n.op _).mono ?_
  rintro e w2 ⟨B2, vf, rfl, hf⟩
  have HF := Lib.hid hf
  obtain ⟨ao, rfl, hx1, hx2, hx3⟩ := hf.parts
  clear hx1 hx2 hx3
  have HB2 := Lib.hid (hB1.out.trans (B2.mono hB1.out.size))
  have HA2 := Lib.hid (hA1.out.below' B2)
  obtain ⟨k0, k1, k2, k3, k4⟩ := HA2.out.five
  clear hf B2 hB1 hA1
  cases hok : (refOf n.op).ok with
  | false =>
    have HR := Lib.hid (refP_none hok)
    clear hok
    go_wp2
    go_ret
    exact ⟨ret_val (congrArg (Value.int .i64) HR.out).symm, HB2.out⟩
  | true =>
    have HOK := Lib.hid hok
    clear hok
    by_cases hl : (n.ins.length : Int) < (refOf n.op).least
    · have HR := Lib.hid (refP_least HOK.out hl)
      go_wp2
      go_ret
      exact ⟨ret_val (congrArg (Value.int .i64) HR.out).symm, HB2.out⟩
    · by_cases hm : (refOf n.op).most < (n.ins.length : Int)
      · have HR := Lib.hid (refP_most HOK.out hl hm)
        go_wp2
        go_ret
        exact ⟨ret_val (congrArg (Value.int .i64) HR.out).symm, HB2.out⟩
      · have HFR : Hid (FineR n) := Lib.hid ⟨HOK.out, hl, hm⟩
        cases ho : (n.out.toList == ([] : List UInt8)) with
        | true =>
          have HR := Lib.hid (refP_out HFR.out (empty_of ho))
          go_wp2
          go_ret
          exact ⟨ret_val (congrArg (Value.int .i64) HR.out).symm, HB2.out⟩
        | false =>
          have HO := Lib.hid (empty_not ho)
          go_wp2_with fail
          refine (ramong_any (HN.out.is.below HB2.out) _).mono ?_
          rintro e w3 ⟨rfl, rfl⟩
          cases hi : hasS n.ins ⟨#[]⟩ with
          | true =>
            have HR := Lib.hid (refP_ins HFR.out HO.out hi)
            clear hi
            go_wp2
            go_ret
            exact ⟨ret_val (congrArg (Value.int .i64) HR.out).symm, HB2.out⟩
          | false =>
            have HFS : Hid (FineS n) := Lib.hid { HFR.out with o := HO.out, i := hi }
            clear hi
            go_wp2_with fail
            refine (rattrs_any ⟨_, _, rfl, HN.out.below HB2.out⟩ HF.out).mono ?_
            rintro e w4 ⟨rfl, B4⟩
            have HB4 := Lib.hid (HB2.out.trans (B4.mono HB2.out.size))
            have HA4 := Lib.hid (HA2.out.below' B4)
            clear k0 k1 k2 k3 k4 B4 HA2 HF
            obtain ⟨k0, k1, k2, k3, k4⟩ := HA4.out.five
            generalize hre : rattrsE n.attrs ((refOf n.op).forms ++ [thenF]) = re
            have HRE := Lib.hid hre
            clear hre
            by_cases he : re = 0
            · have heb : (re != 0) = false := by simpa using he
              have HEZ := Lib.hid (HRE.out.trans he)
              clear he
              go_wp2_with fail
              refine (rthen_any ⟨_, _, rfl, HN.out.below HB4.out⟩).mono ?_
              rintro e w5 ⟨B5, vt, rfl, -⟩
              have HB5 := Lib.hid (HB4.out.trans (B5.mono HB4.out.size))
              have HA5 := Lib.hid (HA4.out.below' B5)
              clear k0 k1 k2 k3 k4 B5 HA4
              obtain ⟨k0, k1, k2, k3, k4⟩ := HA5.out.five
              generalize hte : (thenE n.attrs).2 = te
              have HTE := Lib.hid hte
              clear hte
              by_cases ht : te = 0
              · have htb : (te == 0) = true := by simpa using ht
                have HTZ := Lib.hid (HTE.out.trans ht)
                clear ht
                cases hcb : (n.op.toList == ([67, 111, 110, 115, 116, 97, 110, 116] : List UInt8)) with
                | true =>
                  have HR := Lib.hid (refP_const HFS.out HEZ.out HTZ.out (lit_eq hcb))
                  go_wp2_with fail
                  refine (rvalue_any ⟨_, _, rfl, HN.out.below HB5.out⟩).mono ?_
                  rintro e w6 ⟨B6, vd, vx, rfl, hvd, hvx⟩
                  have HB6 := Lib.hid (HB5.out.trans (B6.mono HB5.out.size))
                  clear B6
                  go_wp2_with fail
                  refine (rpb_any _ _ _ hvd hvx).mono ?_
                  rintro e w7 ⟨rfl, B7⟩
                  have HB7 := Lib.hid (HB6.out.trans (B7.mono HB6.out.size))
                  clear B7 hvd hvx
                  go_wp2
                  go_ret
                  exact ⟨ret_val (congrArg (Value.int .i64) HR.out).symm, HB7.out⟩
                | false =>
                  have HR := Lib.hid (refP_end HFS.out HEZ.out HTZ.out (lit_ne hcb))
                  go_wp2
                  go_ret
                  exact ⟨ret_val (congrArg (Value.int .i64) (HR.out.trans (HTZ.out.symm.trans HTE.out))).symm, HB5.out⟩
              · have htb : (te == 0) = false := by simpa using ht
                have HR := Lib.hid ((refP_then HFS.out HEZ.out (by rw [HTE.out]; exact ht)).trans HTE.out)
                clear ht
                go_wp2
                go_ret
                exact ⟨ret_val (congrArg (Value.int .i64) HR.out).symm, HB5.out⟩
            · have heb : (re != 0) = true := by simpa using he
              have HR := Lib.hid ((refP_attrs HFS.out (by rw [HRE.out]; exact he)).trans HRE.out)
              clear he
              go_wp2
              go_ret
              exact ⟨ret_val (congrArg (Value.int .i64) HR.out).symm, HB4.out⟩

end Go.Proofs.YtlbhepfbogcipaaGreatDoor

set_option linter.unusedVariables false
namespace Go.Proofs.YtlbhepfbogcipaaGreatDoor
open Go.RowKit

/-- The value of Constant. -/
def valueE (n : Nd) : Int :=
  match findA n.attrs ⟨#[118, 97, 108, 117, 101]⟩ 4 with
  | none => 0
  | some a => if n.op = ⟨#[67, 111, 110, 115, 116, 97, 110, 116]⟩ then pbE a.typ a.dims a.data else 0

theorem checkP_split {n : Nd} (h1 : (rulP n.op).2 = true) (h2 : ¬ (n.ins.length : Int) < (rulP n.op).1.least) (h3 : ¬ (rulP n.op).1.most < (n.ins.length : Int)) (h4 : ¬ n.out = ⟨#[]⟩) (h5 : ¬ hasS n.ins ⟨#[]⟩ = true) :
    checkP n = if attrsE n.attrs (wordsL (ruleB (rulP n.op).1)) ≠ 0 then attrsE n.attrs (wordsL (ruleB (rulP n.op).1)) else if (thenE n.attrs).2 ≠ 0 then (thenE n.attrs).2 else valueE n := by
  unfold checkP
  rw [if_neg (by rw [h1]; decide), if_neg h2, if_neg h3, if_neg h4, if_neg h5]
  rfl

structure Zero (n : Nd) : Prop where
  ok : (rulP n.op).2 = true
  least : ¬ (n.ins.length : Int) < (rulP n.op).1.least
  most : ¬ (rulP n.op).1.most < (n.ins.length : Int)
  out : ¬ n.out = ⟨#[]⟩
  ins : ¬ hasS n.ins ⟨#[]⟩ = true
  att : attrsE n.attrs (wordsL (ruleB (rulP n.op).1)) = 0
  thn : (thenE n.attrs).2 = 0
  val : valueE n = 0

theorem Zero.check {n : Nd} (h : Zero n) : checkP n = 0 := by
  rw [checkP_split h.ok h.least h.most h.out h.ins, if_neg (by simp [h.att]), if_neg (by simp [h.thn])]
  exact h.val

theorem zero_of {n : Nd} (h : checkP n = 0) : Zero n := by
  by_cases h1 : (rulP n.op).2 = false
  · rw [checkP_none h1] at h; cases h
  have h1' : (rulP n.op).2 = true := by simpa using h1
  by_cases h2 : (n.ins.length : Int) < (rulP n.op).1.least
  · rw [checkP_least h1' h2] at h; cases h
  by_cases h3 : (rulP n.op).1.most < (n.ins.length : Int)
  · rw [checkP_most h1' h2 h3] at h; cases h
  by_cases h4 : n.out = ⟨#[]⟩
  · rw [checkP_out h1' h2 h3 h4] at h; cases h
  by_cases h5 : hasS n.ins ⟨#[]⟩ = true
  · rw [checkP_ins ⟨h1', h2, h3, h4⟩ h5] at h; cases h
  rw [checkP_split h1' h2 h3 h4 h5] at h
  by_cases h6 : attrsE n.attrs (wordsL (ruleB (rulP n.op).1)) = 0
  · rw [if_neg (by simp [h6])] at h
    by_cases h7 : (thenE n.attrs).2 = 0
    · rw [if_neg (by simp [h7])] at h
      exact ⟨h1', h2, h3, h4, h5, h6, h7, h⟩
    · rw [if_pos h7] at h; exact absurd h h7
  · rw [if_pos h6] at h; exact absurd h h6

/-! ### attributes -/

def okA (ws : List ByteArray) (a : At) : Prop := ∃ s, ws.find? (hasW a.name) = some s ∧ kindL (letter s (a.name.size + 1)) = a.kind ∧ ¬ (a.kind = 1 ∧ chk 1 a.f = false)

theorem attE_zero {ws : List ByteArray} {A : List At} {i : Nat} {a : At} : attE ws A i a = 0 ↔ okA ws a ∧ (A.take i).any (fun b => decide (b.name = a.name)) = false := by
  constructor
  · intro h
    cases hf : ws.find? (hasW a.name) with
    | none => rw [attE_none hf] at h; cases h
    | some s =>
      by_cases hk : kindL (letter s (a.name.size + 1)) = a.kind
      · by_cases ht : (A.take i).any (fun b => decide (b.name = a.name)) = true
        · rw [attE_twice hf hk ht] at h; cases h
        · have ht' := eq_false_of_ne_true ht
          by_cases hx : a.kind = 1 ∧ chk 1 a.f = false
          · rw [attE_float hf hk ht' hx] at h; cases h
          · exact ⟨⟨s, hf, hk, hx⟩, ht'⟩
      · rw [attE_kind hf hk] at h; cases h
  · rintro ⟨⟨s, hf, hk, hx⟩, ht⟩
    exact attE_good hf hk ht hx

theorem loopA_zero {ws : List ByteArray} {A : List At} : ∀ (l : List At) (k : Nat), loopA ws A k l = 0 ↔ ∀ j a, l[j]? = some a → attE ws A (k + j) a = 0
  | [], k => by simp [loopA]
  | b :: l, k => by
    unfold loopA
    constructor
    · intro h j a hj
      by_cases h0 : attE ws A k b = 0
      · rw [if_pos h0] at h
        cases j with
        | zero =>
          obtain rfl := Option.some.inj hj
          exact h0
        | succ j =>
          have := (loopA_zero l (k + 1)).1 h j a hj
          rwa [show k + 1 + j = k + (j + 1) by omega] at this
      · rw [if_neg h0] at h; exact absurd h h0
    · intro h
      rw [if_pos (show attE ws A k b = 0 from h 0 b rfl)]
      refine (loopA_zero l (k + 1)).2 fun j a hj => ?_
      have := h (j + 1) a hj
      rwa [show k + 1 + j = k + (j + 1) by omega]

theorem loopA_skip {ws : List ByteArray} {A : List At} : ∀ (l r : List At) (k : Nat), (∀ j a, l[j]? = some a → attE ws A (k + j) a = 0) → loopA ws A k (l ++ r) = loopA ws A (k + l.length) r
  | [], r, k, _ => rfl
  | b :: l, r, k, h => by
    show loopA ws A k (b :: (l ++ r)) = _
    rw [loopA, if_pos (show attE ws A k b = 0 from h 0 b rfl), loopA_skip l r (k + 1) fun j a hj => by
      have := h (j + 1) a hj
      rwa [show k + 1 + j = k + (j + 1) by omega]]
    rw [List.length_cons, show k + 1 + l.length = k + (l.length + 1) by omega]

theorem nodup_names {A : List At} : (A.map (·.name)).Nodup ↔ ∀ (i j : Nat) (a b : At), i < j → A[i]? = some a → A[j]? = some b → a.name ≠ b.name := by
  unfold List.Nodup
  rw [List.pairwise_iff_getElem]
  constructor
  · intro h i j a b hij hi hj
    obtain ⟨hi', rfl⟩ := List.getElem?_eq_some_iff.1 hi
    obtain ⟨hj', rfl⟩ := List.getElem?_eq_some_iff.1 hj
    have := h i j (by simpa using hi') (by simpa using hj') hij
    simpa using this
  · intro h i j hi hj hij
    rw [List.length_map] at hi hj
    have := h i j _ _ hij (List.getElem?_eq_getElem hi) (List.getElem?_eq_getElem hj)
    simpa using this

/-- The attributes may be. -/
theorem loopA_good {ws : List ByteArray} {A : List At} : loopA ws A 0 A = 0 ↔ (∀ a ∈ A, okA ws a) ∧ (A.map (·.name)).Nodup := by
  rw [loopA_zero]
  constructor
  · intro h
    have h' : ∀ (j : Nat) a, A[j]? = some a → okA ws a ∧ (A.take j).any (fun b => decide (b.name = a.name)) = false := fun j a hj => by
      have := h j a hj
      rw [Nat.zero_add] at this
      exact attE_zero.1 this
    refine ⟨fun a ha => ?_, ?_⟩
    · obtain ⟨j, hj⟩ := List.getElem?_of_mem ha
      exact (h' j a hj).1
    · rw [nodup_names]
      intro i j a b hij hi hj e
      obtain ⟨hi', rfl⟩ := List.getElem?_eq_some_iff.1 hi
      have hjl := (List.getElem?_eq_some_iff.1 hj).1
      have := List.any_eq_false.1 (h' j _ hj).2 (A[i]) (by rw [List.mem_take_iff_getElem]; exact ⟨i, by omega, rfl⟩)
      exact this (by simp [e])
  · rintro ⟨h1, h2⟩ j a hj
    rw [Nat.zero_add]
    refine attE_zero.2 ⟨h1 a (List.mem_of_getElem? hj), List.any_eq_false.2 fun b hb => ?_⟩
    rw [List.mem_take_iff_getElem] at hb
    obtain ⟨i, hi, rfl⟩ := hb
    have hjl := (List.getElem?_eq_some_iff.1 hj).1
    have hil : i < A.length := by omega
    have := nodup_names.1 h2 i j _ a (by omega) (List.getElem?_eq_getElem hil) hj
    simpa using this

theorem attrsE_zero {A : List At} {ws : List ByteArray} : attrsE A ws = 0 ↔ loopA ws A 0 A = 0 ∧ loopW A ws = 0 := by
  unfold attrsE
  split
  · rename_i h; exact ⟨fun g => ⟨h, g⟩, fun g => g.2⟩
  · rename_i h; exact ⟨fun g => absurd g h, fun g => absurd g.1 h⟩

/-- An attribute once more. -/
theorem twice_plain {n : Nd} (h : checkP n = 0) {a : At} (ha : a ∈ n.attrs) : checkP { n with attrs := n.attrs ++ [a] } = 4 := by
  have z := zero_of h
  have hA := (attrsE_zero.1 z.att).1
  have hz := (loopA_zero n.attrs 0).1 hA
  have e : attrsE (n.attrs ++ [a]) (wordsL (ruleB (rulP n.op).1)) = 4 := by
    have e1 : loopA (wordsL (ruleB (rulP n.op).1)) (n.attrs ++ [a]) 0 (n.attrs ++ [a]) = 4 := by
      rw [loopA_skip n.attrs [a] 0 fun j b hj => ?_]
      · obtain ⟨j, hj⟩ := List.getElem?_of_mem ha
        have h0 := hz j a hj
        obtain ⟨⟨s, hf, hk, hx⟩, _⟩ := attE_zero.1 h0
        have e2 : attE (wordsL (ruleB (rulP n.op).1)) (n.attrs ++ [a]) (0 + n.attrs.length) a = 4 := by
          refine attE_twice hf hk ?_
          rw [Nat.zero_add, List.take_left]
          exact List.any_eq_true.2 ⟨a, ha, by simp⟩
        unfold loopA
        rw [if_neg (by rw [e2]; decide), e2]
      · have h0 := hz j b hj
        obtain ⟨h1, h2⟩ := attE_zero.1 h0
        refine attE_zero.2 ⟨h1, ?_⟩
        have hjl := (List.getElem?_eq_some_iff.1 hj).1
        rw [List.take_append_of_le_length (by omega)]
        exact h2
    unfold attrsE
    rw [if_neg (by rw [e1]; decide), e1]
  rw [checkP_split (n := { n with attrs := n.attrs ++ [a] }) z.ok z.least z.most z.out z.ins]
  show (if attrsE (n.attrs ++ [a]) (wordsL (ruleB (rulP n.op).1)) ≠ 0 then _ else _) = _
  rw [e]
  rfl

theorem find_perm {A B : List At} (hp : A.Perm B) (hn : (A.map (·.name)).Nodup) (nm : ByteArray) (kd : Int) : findA A nm kd = findA B nm kd := by
  unfold findA
  have hname : ∀ a, isA nm kd a = true → a.name = nm := fun a h => by
    unfold isA at h
    simp only [Bool.and_eq_true, decide_eq_true_eq] at h
    exact h.1
  cases h : A.find? (isA nm kd) with
  | none =>
    symm
    rw [List.find?_eq_none] at h ⊢
    exact fun x hx => h x (hp.mem_iff.2 hx)
  | some a =>
    cases h2 : B.find? (isA nm kd) with
    | none =>
      rw [List.find?_eq_none] at h2
      exact absurd (List.find?_some h) (h2 a (hp.mem_iff.1 (List.mem_of_find?_eq_some h)))
    | some b =>
      have e1 := hname a (List.find?_some h)
      have e2 := hname b (List.find?_some h2)
      have ma := List.mem_of_find?_eq_some h
      have mb := hp.mem_iff.2 (List.mem_of_find?_eq_some h2)
      obtain ⟨i, hi⟩ := List.getElem?_of_mem ma
      obtain ⟨j, hj⟩ := List.getElem?_of_mem mb
      rw [nodup_names] at hn
      rcases Nat.lt_trichotomy i j with hlt | rfl | hlt
      · exact absurd (by rw [e1, e2]) (hn i j a b hlt hi hj)
      · rw [hi] at hj; exact hj
      · exact absurd (by rw [e1, e2]) (hn j i b a hlt hj hi)

/-- The attributes in another order. -/
theorem turned_plain {n : Nd} (h : checkP n = 0) {B : List At} (hp : n.attrs.Perm B) : checkP { n with attrs := B } = 0 := by
  have z := zero_of h
  obtain ⟨hA, hW⟩ := attrsE_zero.1 z.att
  obtain ⟨h1, h2⟩ := loopA_good.1 hA
  have hf := find_perm hp h2
  refine Zero.check (n := { n with attrs := B }) ⟨z.ok, z.least, z.most, z.out, z.ins, ?_, ?_, ?_⟩
  · refine attrsE_zero.2 ⟨loopA_good.2 ⟨fun a ha => h1 a (hp.mem_iff.2 ha), (hp.map _).nodup_iff.1 h2⟩, ?_⟩
    have e : ∀ ws, loopW B ws = loopW n.attrs ws := fun ws => by
      induction ws with
      | nil => rfl
      | cons s t ih =>
        have e1 : wordE B s = wordE n.attrs s := by unfold wordE; rw [hf]
        unfold loopW
        rw [e1, ih]
    exact (e _).trans hW
  · have e : thenE B = thenE n.attrs := by unfold thenE; rw [hf]
    show (thenE B).2 = 0
    rw [e]; exact z.thn
  · have := z.val
    unfold valueE at this ⊢
    rw [hf] at this
    exact this

/-- Other names. -/
theorem names_plain {n m : Nd} (ho : m.op = n.op) (ha : m.attrs = n.attrs) (hl : m.ins.length = n.ins.length) (h1 : ¬ n.out = ⟨#[]⟩) (h2 : ¬ m.out = ⟨#[]⟩) (h3 : ∀ s ∈ n.ins, ¬ s = ⟨#[]⟩) (h4 : ∀ s ∈ m.ins, ¬ s = ⟨#[]⟩) : checkP m = checkP n := by
  have g3 : ¬ hasS n.ins ⟨#[]⟩ = true := fun h => h3 _ (hasS_iff.1 h) rfl
  have g4 : ¬ hasS m.ins ⟨#[]⟩ = true := fun h => h4 _ (hasS_iff.1 h) rfl
  by_cases a1 : (rulP n.op).2 = false
  · rw [checkP_none a1, checkP_none (by rw [ho]; exact a1)]
  have a1' : (rulP n.op).2 = true := by simpa using a1
  by_cases a2 : (n.ins.length : Int) < (rulP n.op).1.least
  · rw [checkP_least a1' a2, checkP_least (by rw [ho]; exact a1') (by rw [ho, hl]; exact a2)]
  by_cases a3 : (rulP n.op).1.most < (n.ins.length : Int)
  · rw [checkP_most a1' a2 a3, checkP_most (by rw [ho]; exact a1') (by rw [ho, hl]; exact a2) (by rw [ho, hl]; exact a3)]
  rw [checkP_split a1' a2 a3 h1 g3, checkP_split (by rw [ho]; exact a1') (by rw [ho, hl]; exact a2) (by rw [ho, hl]; exact a3) h2 g4]
  unfold valueE
  rw [ho, ha]

end Go.Proofs.YtlbhepfbogcipaaGreatDoor

set_option linter.unusedVariables false
set_option linter.unusedSimpArgs false
namespace Go.Proofs.YtlbhepfbogcipaaGreatDoor
open Go.RowKit

/-- Does a word say what a form says? -/
def checkW (s : ByteArray) (f : Fm) : Bool :=
  decide (wordN s = f.name) && decide (Lib.hasSuffix (wordK s).data.toList [42] = f.must) && decide (kindL (letter (wordK s ++ (⟨#[32]⟩ : ByteArray)) 0) = f.kind) && decide (kindL (letter s (f.name.size + 1)) = f.kind)
    && decide (s.data.toList = f.name.data.toList ++ 32 :: s.data.toList.drop (f.name.data.toList.length + 1)) && f.name.data.toList.all (fun x => decide (x ≠ 32)) && (s.data.toList.drop (f.name.data.toList.length + 1)).all (fun x => decide (x ≠ 32))

structure Word (s : ByteArray) (f : Fm) : Prop where
  n : wordN s = f.name
  m : Lib.hasSuffix (wordK s).data.toList [42] = f.must
  k : kindL (letter (wordK s ++ (⟨#[32]⟩ : ByteArray)) 0) = f.kind
  l : kindL (letter s (f.name.size + 1)) = f.kind
  t : s.data.toList = f.name.data.toList ++ 32 :: s.data.toList.drop (f.name.data.toList.length + 1)
  a : ∀ x ∈ f.name.data.toList, x ≠ 32
  b : ∀ x ∈ s.data.toList.drop (f.name.data.toList.length + 1), x ≠ 32

theorem word_of {s : ByteArray} {f : Fm} (h : checkW s f = true) : Word s f := by
  unfold checkW at h
  simp only [Bool.and_eq_true, decide_eq_true_eq, List.all_eq_true] at h
  obtain ⟨⟨⟨⟨⟨⟨h1, h2⟩, h3⟩, h4⟩, h5⟩, h6⟩, h7⟩ := h
  exact ⟨h1, h2, h3, h4, h5, h6, h7⟩

theorem prefix_space : ∀ (nm n r : List UInt8), (∀ x ∈ n, x ≠ 32) → (∀ x ∈ r, x ≠ 32) → (nm ++ [32]) <+: (n ++ 32 :: r) → nm = n
  | [], [], _, _, _, _ => rfl
  | [], x :: n, r, hn, _, h => by
    obtain ⟨t, ht⟩ := h
    simp only [List.nil_append, List.cons_append, List.cons.injEq] at ht
    exact absurd ht.1.symm (hn x (by simp))
  | y :: nm, [], r, _, hr, h => by
    obtain ⟨t, ht⟩ := h
    simp only [List.cons_append, List.nil_append, List.cons.injEq] at ht
    have : (32 : UInt8) ∈ r := by rw [← ht.2]; simp
    exact absurd rfl (hr 32 this)
  | y :: nm, x :: n, r, hn, hr, h => by
    obtain ⟨t, ht⟩ := h
    simp only [List.cons_append, List.cons.injEq] at ht
    rw [prefix_space nm n r (fun z hz => hn z (by simp [hz])) hr ⟨t, by simpa using ht.2⟩, ht.1]

theorem Word.has {s : ByteArray} {f : Fm} (h : Word s f) (nm : ByteArray) : hasW nm s = decide (f.name = nm) := by
  unfold hasW Lib.hasPrefix
  by_cases e : f.name = nm
  · rw [decide_eq_true e, List.isPrefixOf_iff_prefix]
    refine ⟨s.data.toList.drop (f.name.data.toList.length + 1), ?_⟩
    conv => rhs; rw [h.t]
    rw [← e]; simp
  · rw [decide_eq_false e]
    cases hp : (nm.data.toList ++ [32]).isPrefixOf s.data.toList with
    | false => rfl
    | true =>
      exfalso
      have h2 := List.isPrefixOf_iff_prefix.1 hp
      rw [h.t] at h2
      exact e (data_inj (prefix_space _ _ _ h.a h.b h2)).symm

theorem has_empty (nm : ByteArray) : hasW nm ⟨#[]⟩ = false := by
  unfold hasW Lib.hasPrefix
  cases hp : (nm.data.toList ++ [32]).isPrefixOf (⟨#[]⟩ : ByteArray).data.toList with
  | false => rfl
  | true =>
    obtain ⟨t, ht⟩ := List.isPrefixOf_iff_prefix.1 hp
    have := congrArg List.length ht
    simp at this

theorem wordE_empty (A : List At) : wordE A ⟨#[]⟩ = 0 := by
  unfold wordE
  rw [if_neg]
  intro c
  have : Lib.hasSuffix (wordK ⟨#[]⟩).data.toList [42] = false := by decide +kernel
  rw [this] at c
  exact absurd c.1 (by decide)

theorem Word.err {s : ByteArray} {f : Fm} (h : Word s f) (A : List At) : wordE A s = rformE A f := by
  unfold wordE rformE
  rw [h.n, h.m, h.k]

/-- Words against forms. -/
def corr : List ByteArray → List Fm → Bool
  | [], [] => true
  | [], _ :: _ => false
  | s :: ws, [] => decide (s = ⟨#[]⟩) && corr ws []
  | s :: ws, f :: t => (decide (s = ⟨#[]⟩) && corr ws (f :: t)) || (checkW s f && corr ws t)

inductive Corr : List ByteArray → List Fm → Prop
  | nil : Corr [] []
  | skip {ws : List ByteArray} {fs : List Fm} (h : Corr ws fs) : Corr (⟨#[]⟩ :: ws) fs
  | word {s : ByteArray} {f : Fm} {ws : List ByteArray} {fs : List Fm} (w : Word s f) (h : Corr ws fs) : Corr (s :: ws) (f :: fs)

theorem corr_of : ∀ {ws : List ByteArray} {fs : List Fm}, corr ws fs = true → Corr ws fs
  | [], [], _ => .nil
  | [], _ :: _, h => by cases h
  | s :: ws, [], h => by
    unfold corr at h
    rw [Bool.and_eq_true, decide_eq_true_eq] at h
    obtain ⟨rfl, h⟩ := h
    exact .skip (corr_of h)
  | s :: ws, f :: t, h => by
    unfold corr at h
    rw [Bool.or_eq_true, Bool.and_eq_true, Bool.and_eq_true, decide_eq_true_eq] at h
    rcases h with ⟨rfl, h⟩ | ⟨h1, h2⟩
    · exact .skip (corr_of h)
    · exact .word (word_of h1) (corr_of h2)

theorem Corr.find {ws : List ByteArray} {fs : List Fm} (h : Corr ws fs) (nm : ByteArray) :
    (ws.find? (hasW nm) = none ∧ ∀ f ∈ fs, f.name ≠ nm) ∨ ∃ s f, ws.find? (hasW nm) = some s ∧ f ∈ fs ∧ f.name = nm ∧ kindL (letter s (nm.size + 1)) = f.kind := by
  induction h with
  | nil => exact .inl ⟨rfl, by simp⟩
  | skip h ih =>
    rw [List.find?_cons_of_neg (by rw [has_empty]; decide)]
    exact ih
  | @word s f ws fs w h ih =>
    by_cases e : f.name = nm
    · refine .inr ⟨s, f, ?_, by simp, e, by rw [← e]; exact w.l⟩
      rw [List.find?_cons_of_pos]
      rw [w.has, decide_eq_true e]
    · rw [List.find?_cons_of_neg (by rw [w.has, decide_eq_false e]; decide)]
      rcases ih with ⟨h1, h2⟩ | ⟨s', f', h1, h2, h3, h4⟩
      · refine .inl ⟨h1, fun g hg => ?_⟩
        rcases List.mem_cons.1 hg with rfl | hg
        · exact e
        · exact h2 g hg
      · exact .inr ⟨s', f', h1, List.mem_cons_of_mem _ h2, h3, h4⟩

theorem Corr.loop {ws : List ByteArray} {fs : List Fm} (h : Corr ws fs) (A : List At) : loopW A ws = rloopF A fs := by
  induction h with
  | nil => rfl
  | skip h ih => unfold loopW; rw [if_pos (wordE_empty A), ih]
  | word w h ih => unfold loopW rloopF; rw [w.err, ih]

theorem uniq {fs : List Fm} (hn : (fs.map (·.name)).Nodup) {f g : Fm} (hf : f ∈ fs) (hg : g ∈ fs) (e : f.name = g.name) : f = g := by
  induction fs with
  | nil => cases hf
  | cons x t ih =>
    rw [List.map_cons, List.nodup_cons] at hn
    rcases List.mem_cons.1 hf with h1 | h1 <;> rcases List.mem_cons.1 hg with h2 | h2
    · rw [h1, h2]
    · exact absurd (by rw [← h1, e]; exact List.mem_map_of_mem h2) hn.1
    · exact absurd (by rw [← h2, ← e]; exact List.mem_map_of_mem h1) hn.1
    · exact ih hn.2 h1 h2

theorem Corr.att {ws : List ByteArray} {fs : List Fm} (h : Corr ws fs) (hn : (fs.map (·.name)).Nodup) (A : List At) (i : Nat) (a : At) : attE ws A i a = rattE fs A i a := by
  unfold attE rattE
  rcases h.find a.name with ⟨h1, h2⟩ | ⟨s, f, h1, h2, h3, h4⟩
  · rw [h1]
    have c1 : fs.any (clash a) = false := List.any_eq_false.2 fun g hg => by simp [clash, h2 g hg]
    have c2 : fs.any (sameN a) = false := List.any_eq_false.2 fun g hg => by simp [sameN, h2 g hg]
    simp [c1, c2]
  · rw [h1]
    have c2 : fs.any (sameN a) = true := List.any_eq_true.2 ⟨f, h2, by simp [sameN, h3]⟩
    by_cases hk : f.kind = a.kind
    · have c1 : fs.any (clash a) = false := List.any_eq_false.2 fun g hg => by
        by_cases e : g.name = a.name
        · have := uniq hn hg h2 (e.trans h3.symm)
          subst this
          simp [clash, hk]
        · simp [clash, e]
      simp [c1, c2, h4, hk]
    · have c1 : fs.any (clash a) = true := List.any_eq_true.2 ⟨f, h2, by simp [clash, h3, hk]⟩
      simp [c1, h4, hk]

theorem Corr.atts {ws : List ByteArray} {fs : List Fm} (h : Corr ws fs) (hn : (fs.map (·.name)).Nodup) (A : List At) : ∀ (l : List At) (k : Nat), loopA ws A k l = rloopA fs A k l
  | [], k => rfl
  | a :: t, k => by unfold loopA rloopA; rw [h.att hn, h.atts hn A t]

theorem Corr.attrs {ws : List ByteArray} {fs : List Fm} (h : Corr ws fs) (hn : (fs.map (·.name)).Nodup) (A : List At) : attrsE A ws = rattrsE A fs := by
  unfold attrsE rattrsE
  rw [h.atts hn, h.loop]

/-! ### the two tables -/

structure Agree (r : Rul) (o : Ofs) : Prop where
  ok : o.ok = true
  least : o.least = r.least
  most : o.most = r.most
  corr : Corr (wordsL (ruleB r)) (o.forms ++ [thenF])
  nodup : ((o.forms ++ [thenF]).map (·.name)).Nodup

def agreeB (r : Rul) (o : Ofs) : Bool := o.ok && decide (o.least = r.least) && decide (o.most = r.most) && corr (wordsL (ruleB r)) (o.forms ++ [thenF]) && decide (((o.forms ++ [thenF]).map (·.name)).Nodup)
theorem agree_of {r : Rul} {o : Ofs} (h : agreeB r o = true) : Agree r o := by
  unfold agreeB at h
  simp only [Bool.and_eq_true, decide_eq_true_eq] at h
  obtain ⟨⟨⟨⟨h1, h2⟩, h3⟩, h4⟩, h5⟩ := h
  exact ⟨h1, h2, h3, corr_of h4, h5⟩

theorem tab_agree : (tab0.all fun p => agreeB p.2 (refOf ⟨p.1.toArray⟩)) = true := by decide +kernel
theorem one_agree : agreeB ⟨1, 1, []⟩ ⟨1, 1, [], true⟩ = true := by decide +kernel

theorem look_at {tab : List (List UInt8 × Rul)} {op : ByteArray} {r : Rul} (h : look tab op = some r) : (op.toList, r) ∈ tab := by
  induction tab with
  | nil => cases h
  | cons p t ih =>
    obtain ⟨l, r2⟩ := p
    unfold look at h
    split at h
    · next e => cases h; rw [eq_of_beq e]; exact List.mem_cons_self ..
    · exact List.mem_cons_of_mem _ (ih h)
theorem look_out {tab : List (List UInt8 × Rul)} {op : ByteArray} (h : look tab op = none) : ∀ l ∈ tab.map Prod.fst, op.toList ≠ l := by
  induction tab with
  | nil => simp
  | cons p t ih =>
    obtain ⟨l, r2⟩ := p
    unfold look at h
    split at h
    · cases h
    · next e =>
      intro x hx
      rcases List.mem_cons.1 hx with rfl | hx
      · simpa using e
      · exact ih h x hx
theorem lookR_out {tab : List (List UInt8 × Int × Int × List Fm)} {op : ByteArray} (h : ∀ l ∈ tab.map Prod.fst, op.toList ≠ l) : lookR tab op = none := by
  induction tab with
  | nil => rfl
  | cons p t ih =>
    obtain ⟨l, r2⟩ := p
    rw [lookR_miss (by simpa using h l (by simp))]
    exact ih fun x hx => h x (by simp [hx])

theorem in_tab : ((rtab0.map Prod.fst ++ twosL.map (fun s : ByteArray => s.toList) ++ [[71, 108, 111, 98, 97, 108, 65, 118, 101, 114, 97, 103, 101, 80, 111, 111, 108], [77, 97, 116, 77, 117, 108]]).all fun l => (tab0.map Prod.fst).contains l) = true := by decide +kernel

theorem refOf_out {op : ByteArray} (h : look tab0 op = none) (h1 : oneB op = false) : (refOf op).ok = false := by
  have hx : ∀ l, l ∈ rtab0.map Prod.fst ++ twosL.map (fun s : ByteArray => s.toList) ++ [[71, 108, 111, 98, 97, 108, 65, 118, 101, 114, 97, 103, 101, 80, 111, 111, 108], [77, 97, 116, 77, 117, 108]] → op.toList ≠ l := fun l hl => by
    have := List.all_eq_true.1 in_tab l hl
    exact look_out h l (by simpa using this)
  have hG : (op.toList == ([71, 108, 111, 98, 97, 108, 65, 118, 101, 114, 97, 103, 101, 80, 111, 111, 108] : List UInt8)) = false := by simpa using hx _ (by simp)
  have hM : (op.toList == ([77, 97, 116, 77, 117, 108] : List UInt8)) = false := by simpa using hx _ (by simp)
  have h2 : hasS twosL op = false := by
    cases e : hasS twosL op with
    | false => rfl
    | true => exact absurd rfl (hx op.toList (by rw [List.mem_append, List.mem_append]; exact .inl (.inr (List.mem_map_of_mem (hasS_iff.1 e)))))
  have hL : lookR rtab0 op = none := lookR_out fun l hl => hx l (by rw [List.mem_append, List.mem_append]; exact .inl (.inl hl))
  rw [Plain.of ⟨h1, hG, h2, hM⟩, hL]

theorem agree_op (op : ByteArray) : (refOf op).ok = (rulP op).2 ∧ ((rulP op).2 = true → Agree (rulP op).1 (refOf op)) := by
  cases h : look tab0 op with
  | some r =>
    have hm := look_at h
    have ha := agree_of (List.all_eq_true.1 tab_agree _ hm)
    have e : (⟨op.toList.toArray⟩ : ByteArray) = op := (lit_eq (s := op) (l := op.toList) (by simp)).symm
    rw [e] at ha
    rw [rulP_hit h]
    exact ⟨ha.ok, fun _ => ha⟩
  | none =>
    rw [rulP_miss h]
    cases h1 : oneB op with
    | true =>
      have e : refOf op = ⟨1, 1, [], true⟩ := by unfold refOf; rw [if_pos (Or.inl h1)]
      rw [e]
      exact ⟨rfl, fun _ => agree_of one_agree⟩
    | false => exact ⟨refOf_out h h1, fun c => (by cases c)⟩

theorem rloopF_mem {A : List At} : ∀ {fs : List Fm}, rloopF A fs = 0 → ∀ f ∈ fs, rformE A f = 0
  | [], _, f, hf => by cases hf
  | g :: t, h, f, hf => by
    unfold rloopF at h
    split at h
    · next e =>
      rcases List.mem_cons.1 hf with rfl | hf
      · exact e
      · exact rloopF_mem h f hf
    · next e => exact absurd h e
theorem rattrs_mem {A : List At} {fs : List Fm} (h : rattrsE A fs = 0) {f : Fm} (hf : f ∈ fs) (hm : f.must = true) : (findA A f.name f.kind).isSome = true := by
  unfold rattrsE at h
  split at h
  · have := rloopF_mem h f hf
    unfold rformE at this
    cases e : (findA A f.name f.kind).isSome with
    | true => rfl
    | false => rw [if_pos ⟨hm, e⟩] at this; cases this
  · next e => exact absurd h e

theorem const_forms : (refOf ⟨#[67, 111, 110, 115, 116, 97, 110, 116]⟩).forms = [⟨⟨#[118, 97, 108, 117, 101]⟩, 4, true⟩] := by kernel_rfl

/-- THE REFERENCE's ANSWER IS THE SCHEMA's. -/
theorem refP_checkP (n : Nd) : refP n = checkP n := by
  obtain ⟨h0, h1⟩ := agree_op n.op
  unfold refP checkP
  rw [h0]
  cases hok : (rulP n.op).2 with
  | false => rw [if_pos rfl, if_pos rfl]
  | true =>
    obtain ⟨g1, g2, g3, g4, g5⟩ := h1 hok
    rw [if_neg (show ¬ (true = false) by decide), if_neg (show ¬ (true = false) by decide), g2, g3, g4.attrs g5]
    by_cases c1 : (n.ins.length : Int) < (rulP n.op).1.least
    · rw [if_pos c1, if_pos c1]
    rw [if_neg c1, if_neg c1]
    by_cases c2 : (rulP n.op).1.most < (n.ins.length : Int)
    · rw [if_pos c2, if_pos c2]
    rw [if_neg c2, if_neg c2]
    by_cases c3 : n.out = ⟨#[]⟩
    · rw [if_pos c3, if_pos c3]
    rw [if_neg c3, if_neg c3]
    by_cases c4 : hasS n.ins ⟨#[]⟩ = true
    · rw [if_pos c4, if_pos c4]
    rw [if_neg c4, if_neg c4]
    by_cases c5 : rattrsE n.attrs ((refOf n.op).forms ++ [thenF]) ≠ 0
    · rw [if_pos c5, if_pos c5]
    rw [if_neg c5, if_neg c5]
    by_cases c6 : (thenE n.attrs).2 ≠ 0
    · rw [if_pos c6, if_pos c6]
    rw [if_neg c6, if_neg c6]
    cases hf : findA n.attrs ⟨#[118, 97, 108, 117, 101]⟩ 4 with
    | some a => rfl
    | none =>
      by_cases c7 : n.op = ⟨#[67, 111, 110, 115, 116, 97, 110, 116]⟩
      · exfalso
        have h := rattrs_mem (A := n.attrs) (fs := (refOf n.op).forms ++ [thenF]) (by simpa using c5) (f := ⟨⟨#[118, 97, 108, 117, 101]⟩, 4, true⟩) (by rw [c7, const_forms]; simp) rfl
        rw [hf] at h
        cases h
      · rw [if_neg c7]

end Go.Proofs.YtlbhepfbogcipaaGreatDoor
