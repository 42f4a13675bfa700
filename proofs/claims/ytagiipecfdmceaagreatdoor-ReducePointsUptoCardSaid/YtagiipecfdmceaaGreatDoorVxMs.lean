/- The walks of shape.Count and of the reference's Count. -/
import Derived.Test.YtagiipecfdmceaaGreatDoorViewAs
import Derived.RangeFuncFrom
import Derived.RangeFuncBox
import Derived.RangeFuncLeaves
import Derived.Shelf.Abstract
import Derived.OwnWalkIn
import Derived.TacticsInMore
import Derived.LoopNIn
import Derived.LoopIn
import Derived.Maps.AppendAt
import Derived.Deep.Draws
import Derived.Sort.QuietIn
import Derived.RegionIn
import Derived.Shelf.RegionOpen
import Derived.Test.YtagiipecfdmceaaGreatDoorShelf
import Derived.Test.YtagiipecfdmceaaGreatDoorSchCos
import Derived.Test.YtagiipecfdmceaaGreatDoorOpens
import Derived.Laws.OwnMore
set_option linter.unusedVariables false
namespace Go.Proofs.YtagiipecfdmceaaGreatDoor.Vx
open Go.RowKit

theorem cnt_low {zs : List Int} (h : zs.any (fun d => decide (d < 1)) = true) : cnt zs = (0, 4) := by unfold cnt; rw [if_pos h]
theorem cnt_long {zs : List Int} (h : zs.any (fun d => decide (d < 1)) = false) (g : 6 < zs.length) : cnt zs = (0, 6) := by
  unfold cnt; rw [h, if_neg (by decide), if_pos g]
theorem cnt_loop {zs : List Int} (h : zs.any (fun d => decide (d < 1)) = false) (g : ¬ 6 < zs.length) : cnt zs = cntLoop 1 zs := by
  unfold cnt; rw [h, if_neg (by decide), if_neg g]
theorem low_not {zs : List Int} (h : zs.any (fun d => decide (d < 1)) = false) {k : Nat} (hk : k < zs.length) : 1 ≤ zs.getD k 0 := by
  have := List.any_eq_false.1 h _ (getD_mem hk)
  simpa using this
theorem loop_next {zs : List Int} {k : Nat} {n : Int} (h : k < zs.length) : cntLoop n (zs.drop k) = if 65536 < n * zs.getD k 0 then (0, 6) else cntLoop (n * zs.getD k 0) (zs.drop (k + 1)) := by
  rw [drop_next h]; rfl
theorem loop_end {zs : List Int} {k : Nat} {n : Int} (h : ¬ k < zs.length) : cntLoop n (zs.drop k) = (n, 0) := by
  rw [List.drop_eq_nil_of_le (by omega)]; rfl

theorem mul_big {n d : Int} (h1 : 1 ≤ n) (h : 65536 < d) : 65536 < n * d := by
  have : 1 * d ≤ n * d := Int.mul_le_mul_of_nonneg_right h1 (by omega)
  omega
theorem mul_pos' {n d : Int} (h1 : 1 ≤ n) (h : 1 ≤ d) : 1 ≤ n * d := by
  have : 1 * 1 ≤ n * d := Int.mul_le_mul h1 h (by decide) (by omega)
  omega
attribute [local irreducible] cnt cntLoop

/-! ### shape.Count -/

def LowF (fn : Value) (p : Int → Bool) : Prop := (fn = .func (.func 58) #[] #[] ∧ p = fun d => decide (d < 1)) ∨ (fn = .func (.func 141) #[] #[] ∧ p = fun d => decide (d < 0 ∨ 65536 < d))

/-- The number of the first that a test holds of, or -1. -/
def fidx (p : Int → Bool) (zs : List Int) : Int := if zs.any p then (zs.findIdx p : Int) else -1

theorem findIdx_at {p : Int → Bool} {zs : List Int} {k : Nat} (hk : k < zs.length) (h : (zs.take k).any p = false) (g : p (zs.getD k 0) = true) : fidx p zs = k := by
  have e : zs = zs.take k ++ zs.getD k 0 :: zs.drop (k + 1) := by rw [← drop_next hk, List.take_append_drop]
  have ha : zs.any p = true := List.any_eq_true.2 ⟨_, getD_mem hk, g⟩
  unfold fidx
  rw [if_pos ha]
  have h3 : zs.findIdx p = k := by
    rw [List.findIdx_eq (by omega)]
    have h5 : zs[k] = zs.getD k 0 := by simp [List.getD, List.getElem?_eq_getElem hk]
    refine ⟨by rw [h5]; exact g, fun j hj => ?_⟩
    have h4 := List.any_eq_false.1 h (zs[j]'(by omega)) (by
      rw [List.mem_take_iff_getElem]
      exact ⟨j, by omega, rfl⟩)
    simpa using h4
  rw [h3]

theorem take_any_next {p : Int → Bool} {zs : List Int} {k : Nat} (hk : k < zs.length) (h : (zs.take k).any p = false) (g : p (zs.getD k 0) = false) : (zs.take (k + 1)).any p = false := by
  rw [List.take_add_one, List.any_append, h]
  have h5 : zs[k]? = some (zs.getD k 0) := by simp [List.getD, List.getElem?_eq_getElem hk]
  rw [h5]
  simpa using g

set_option maxHeartbeats 1000000 in
theorem indexLow_row (b off cap : Nat) (zs : List Int) (hlen : zs.length * 8 ≤ 140737488351232) (hw : Hid (∀ z ∈ zs, InI z)) (w : World) (hr : Hid (Reads w b off zs)) (fn : Value) (p : Int → Bool) (hp : LowF fn p) :
    Calls Tryz.prog 113 #[.slice (some ⟨b, off, none⟩) zs.length cap, fn] w fun e w' => e = .returned (.int .i64 (fidx p zs)) ∧ w = w' := by
  rcases hp with ⟨rfl, hp⟩ | ⟨rfl, hp⟩
  all_goals
    have HP := Lib.hid hp
    clear hp
    go_enter Tryz.func113, Tryz.ntmps113
    go_wp2
    go_loop [8] (fun i => ∃ k : Nat, k ≤ zs.length ∧ i = .int .i64 (k : Int) ∧ Hid ((zs.take k).any p = false)) (fun i => zs.length - (intOf i).toNat)
    case atStart => exact ⟨0, Nat.zero_le _, rfl, Lib.hid (by simp)⟩
    case round =>
      obtain ⟨k, hk, rfl, hany⟩ := hrel
      by_cases hkl : k < zs.length
      · have hcx := hr.out k hkl
        have hn := Lib.hid (@findIdx_at p _ _ hkl hany.out)
        have hn2 := Lib.hid (@take_any_next p _ _ hkl hany.out)
        have hI := (hw.out _ (getD_mem hkl)).1
        have hI2 := (hw.out _ (getD_mem hkl)).2
        generalize zs.getD k 0 = z at *
        go_wp2
        all_goals first
          | (go_ret
             refine ⟨ret_val (int_val ?_), rfl⟩
             exact (hn.out (by rw [HP.out]; simp; omega)).symm)
          | (go_round
             case rel => exact ⟨k + 1, by omega, by go_num, Lib.hid (hn2.out (by rw [HP.out]; simp; omega))⟩
             case measure => simp [intOf]; omega)
      · have ek : k = zs.length := by omega
        have e : Hid (fidx p zs = -1) := Lib.hid (by
          have := hany.out
          rw [ek, List.take_length] at this
          unfold fidx; rw [this]; rfl)
        go_wp2
        go_ret
        exact ⟨ret_val (int_val e.out.symm), rfl⟩

theorem indexLow_empty (a0 : Option Addr) (cap : Nat) (w : World) (fn : Value) (p : Int → Bool) (hp : LowF fn p) :
    Calls Tryz.prog 113 #[.slice a0 0 cap, fn] w fun e w' => e = .returned (.int .i64 (fidx p [])) ∧ w = w' := by
  have e : fidx p [] = -1 := rfl
  rw [e]
  rcases hp with ⟨rfl, hp⟩ | ⟨rfl, hp⟩
  all_goals
    go_enter Tryz.func113, Tryz.ntmps113
    go_wp2
    go_rounds 1
    go_ret
    exact ⟨rfl, rfl⟩

theorem indexLow_any {w : World} {v : Value} {zs : List Int} (h : IntsIn w v zs) (fn : Value) (p : Int → Bool) (hp : LowF fn p) :
    Calls Tryz.prog 113 #[v, fn] w fun e w' => e = .returned (.int .i64 (fidx p zs)) ∧ w = w' := by
  cases h with
  | empty a0 cap => exact indexLow_empty a0 cap w fn p hp
  | row b off cap _ h0 hc hb hr hlen hw => exact indexLow_row b off cap zs hlen (Lib.hid hw) w (Lib.hid hr) fn p hp

theorem fidx_ge (p : Int → Bool) (zs : List Int) : decide (0 ≤ fidx p zs) = zs.any p := by
  unfold fidx
  cases zs.any p
  · rfl
  · simp

theorem containsLow_any {w : World} {v : Value} {zs : List Int} (h : IntsIn w v zs) (fn : Value) (p : Int → Bool) (hp : LowF fn p) :
    Calls Tryz.prog 57 #[v, fn] w fun e w' => e = .returned (.bool (zs.any p)) ∧ w = w' := by
  have H := Lib.hid (indexLow_any h fn p hp)
  have hg := Lib.hid (fidx_ge p zs)
  go_enter Tryz.func57, Tryz.ntmps57
  go_wp2_with (go_at_call 113; refine H.out.mono ?_; rintro e w' ⟨rfl, rfl⟩)
  go_ret
  refine ⟨ret_val (bool_val ?_), rfl⟩
  have := hg.out
  simpa using this

set_option maxHeartbeats 1000000 in
theorem count_row (b off cap : Nat) (zs : List Int) (hlen : zs.length * 8 ≤ 140737488351232) (hw : Hid (∀ z ∈ zs, InI z)) (w : World) (hr : Hid (Reads w b off zs)) (hin : Hid (IntsIn w (.slice (some ⟨b, off, none⟩) zs.length cap) zs)) :
    Calls Tryz.prog 27 #[.slice (some ⟨b, off, none⟩) zs.length cap] w fun e w' => e = .returned (.tuple #[.int .i64 (cnt zs).1, .int .i64 (cnt zs).2]) ∧ w = w' := by
  have H := Lib.hid (containsLow_any hin.out (.func (.func 58) #[] #[]) _ (Or.inl ⟨rfl, rfl⟩))
  cases hb1 : zs.any (fun d => decide (d < 1))
  · rw [hb1] at H
    by_cases h6 : 6 < zs.length
    · have e : cnt zs = (0, 6) := cnt_long hb1 h6
      rw [e]
      clear hb1
      go_enter Tryz.func27, Tryz.ntmps27
      go_wp2_with (go_at_call 57; refine H.out.mono ?_; rintro e w' ⟨rfl, rfl⟩)
      go_ret2
      exact ⟨rfl, rfl⟩
    · have hlow := Lib.hid hb1
      have h6' : zs.length ≤ 6 := by omega
      clear hb1
      go_enter Tryz.func27, Tryz.ntmps27
      go_wp2_with (go_at_call 57; refine H.out.mono ?_; rintro e w' ⟨rfl, rfl⟩)
      go_loop [4, 14] (fun n i => ∃ (m : Int) (k : Nat), k ≤ zs.length ∧ 1 ≤ m ∧ m ≤ 65536 ∧ n = .int .i64 m ∧ i = .int .i64 (k : Int) ∧ Hid (cnt zs = cntLoop m (zs.drop k))) (fun _ i => zs.length - (intOf i).toNat)
      case atStart => exact ⟨1, 0, Nat.zero_le _, by omega, by omega, rfl, rfl, Lib.hid (by rw [cnt_loop hlow.out (by omega)]; simp)⟩
      case round =>
        obtain ⟨m, k, hk, hm1, hm2, rfl, rfl, hc⟩ := hrel
        by_cases hkl : k < zs.length
        · have hcx := hr.out k hkl
          have hn := Lib.hid (loop_next (n := m) hkl)
          have h1 := low_not hlow.out hkl
          have hI2 := (hw.out _ (getD_mem hkl)).2
          generalize zs.getD k 0 = z at *
          have hq := quo_test (n := m) (d := z) hm1
          rw [Int.tdiv_eq_ediv_of_nonneg (by decide)] at hq
          have hq0 : wrap64 (65536 / m) = 65536 / m := by
            have h3 : 65536 / m ≤ 65536 := Int.ediv_le_self _ (by decide)
            have h4 : 0 ≤ 65536 / m := Int.ediv_nonneg (by decide) (by omega)
            unfold wrap64; omega
          have hm0 : (m == 0) = false := by simp; omega
          by_cases hb2 : 65536 < m * z
          · have e : Hid (cnt zs = (0, 6)) := Lib.hid (by rw [hc.out, hn.out, if_pos hb2])
            have hlt : 65536 / m < z := hq.2 hb2
            clear hq hb2
            skip
            go_wp2
            go_ret2
            exact ⟨ret2_val (int_val (by rw [e.out])) (int_val (by rw [e.out])), rfl⟩
          · have e : Hid (cnt zs = cntLoop (m * z) (zs.drop (k + 1))) := Lib.hid (by rw [hc.out, hn.out, if_neg hb2])
            have hp := mul_pos' hm1 h1
            have hle : ¬ 65536 / m < z := fun h => hb2 (hq.1 h)
            clear hq
            skip
            go_wp2
            go_round
            case rel => exact ⟨m * z, k + 1, by omega, hp, by omega, by go_num, by go_num, e⟩
            case measure => simp [intOf]; omega
        · have e : Hid (cnt zs = (m, 0)) := Lib.hid (by rw [hc.out, loop_end hkl])
          have ek : k = zs.length := by omega
          go_wp2
          go_ret2
          exact ⟨ret2_val (int_val (by rw [e.out])) (int_val (by rw [e.out])), rfl⟩
  · rw [hb1] at H
    have e : cnt zs = (0, 4) := cnt_low hb1
    rw [e]
    clear hb1
    go_enter Tryz.func27, Tryz.ntmps27
    go_wp2_with (go_at_call 57; refine H.out.mono ?_; rintro e w' ⟨rfl, rfl⟩)
    go_ret2
    exact ⟨rfl, rfl⟩

theorem count_empty (a0 : Option Addr) (cap : Nat) (w : World) :
    Calls Tryz.prog 27 #[.slice a0 0 cap] w fun e w' => e = .returned (.tuple #[.int .i64 (cnt []).1, .int .i64 (cnt []).2]) ∧ w = w' := by
  have H := Lib.hid (containsLow_any (IntsIn.empty (w := w) a0 cap) (.func (.func 58) #[] #[]) _ (Or.inl ⟨rfl, rfl⟩))
  have e : cnt [] = (1, 0) := by unfold cnt; unfold cntLoop; decide
  rw [e]
  rw [show ([] : List Int).any (fun d => decide (d < 1)) = false from rfl] at H
  go_enter Tryz.func27, Tryz.ntmps27
  go_wp2_with (go_at_call 57; refine H.out.mono ?_; rintro e w' ⟨rfl, rfl⟩)
  go_rounds 1
  go_ret2
  exact ⟨rfl, rfl⟩

/-- COUNT. -/
theorem count_any {w : World} {v : Value} {zs : List Int} (h : IntsIn w v zs) :
    Calls Tryz.prog 27 #[v] w fun e w' => e = .returned (.tuple #[.int .i64 (cnt zs).1, .int .i64 (cnt zs).2]) ∧ w = w' := by
  have h' := h
  cases h with
  | empty a0 cap => exact count_empty a0 cap w
  | row b off cap _ h0 hc hb hr hlen hw => exact count_row b off cap zs hlen (Lib.hid hw) w (Lib.hid hr) (Lib.hid h')

end Go.Proofs.YtagiipecfdmceaaGreatDoor.Vx

set_option linter.unusedVariables false
namespace Go.Proofs.YtagiipecfdmceaaGreatDoor.Vx
namespace Vw

/-- The product of dimensions. -/
def pr : List Int → Int
  | [] => 1
  | d :: ds => d * pr ds

/-- The coordinates of element k. -/
def crd : List Int → Int → List Int
  | [], _ => []
  | _ :: ds, k => k / pr ds :: crd ds (k % pr ds)

/-- Where coordinates come to. -/
def plc : List Int → List Int → Int
  | s :: ss, c :: cs => c * s + plc ss cs
  | _, _ => 0

def zeros : List Int → List Int
  | [] => []
  | _ :: ds => 0 :: zeros ds

def Pos (ds : List Int) : Prop := ∀ d ∈ ds, 1 ≤ d

theorem Pos.head {d : Int} {ds : List Int} (h : Pos (d :: ds)) : 1 ≤ d := h d (by simp)
theorem Pos.tail {d : Int} {ds : List Int} (h : Pos (d :: ds)) : Pos ds := fun x hx => h x (by simp [hx])

theorem pr_pos : ∀ {ds : List Int}, Pos ds → 1 ≤ pr ds
  | [], _ => by decide
  | d :: ds, h => mul_pos' h.head (pr_pos h.tail)

theorem crd_zero : ∀ {ds : List Int}, crd ds 0 = zeros ds
  | [] => rfl
  | d :: ds => by simp [crd, zeros, crd_zero]

theorem crd_length : ∀ {ds : List Int} {k : Int}, (crd ds k).length = ds.length
  | [], _ => rfl
  | d :: ds, k => by simp [crd, crd_length]

end Vw
end Go.Proofs.YtagiipecfdmceaaGreatDoor.Vx

set_option linter.unusedVariables false
namespace Go.Proofs.YtagiipecfdmceaaGreatDoor.Vx
open Go Go.RowKit

variable {F : Fence} {n : Nat} {P : Program}

/-- A statement on worlds that abides new blocks, and whatever is written into block B. -/
def AbC {β : Type} (B : Nat) (J : β → World → Prop) : Prop :=
  ∀ s A A' row, J s A → A.grownBy A' row → (∀ r, row = some r → r = B) → J s A'

end Go.Proofs.YtagiipecfdmceaaGreatDoor.Vx

set_option linter.unusedVariables false
namespace Go.Proofs.YtagiipecfdmceaaGreatDoor.Vx
open Go.RowKit

theorem _root_.Go.Proofs.YtagiipecfdmceaaGreatDoor.IntsIn.form {w : World} {v : Value} {zs : List Int} (h : IntsIn w v zs) : ∃ a cap, v = .slice a zs.length cap := by
  cases h with
  | empty a0 cap => exact ⟨a0, cap, rfl⟩
  | row b off cap _ h0 hc hb hr hlen hw => exact ⟨_, cap, rfl⟩

/-- Is a stride out of its bounds? -/
def farS (d : Int) : Bool := decide (d < 0 ∨ 65536 < d)

/-- May a view be? -/
def mayV (off : Int) (ds ss : List Int) : Bool := decide ((cnt ds).2 = 0) && decide (ss.length = ds.length) && decide (0 ≤ off) && decide (off < 65536) && !ss.any farS

attribute [local irreducible] cnt

end Go.Proofs.YtagiipecfdmceaaGreatDoor.Vx

set_option linter.unusedVariables false
namespace Go.Proofs.YtagiipecfdmceaaGreatDoor.Vx
open Go.RowKit Go.Shelf Vw

attribute [local go_sem] Oper.semAt_some

/-! ### a row of numbers of the call's own -/

def intCells (xs : List Int) : Array Value := (xs.map (Value.int .i64)).toArray
/-- Block B is a row of these numbers. -/
def RowAt (w : World) (B : Nat) (xs : List Int) : Prop := w.heap[B]? = some (.cells (intCells xs) 3 (0, 0))

theorem RowAt.lt {w : World} {B : Nat} {xs : List Int} (h : RowAt w B xs) : B < w.heap.size := (Array.getElem?_eq_some_iff.1 h).1
theorem RowAt.cell {w : World} {B : Nat} {xs : List Int} (h : RowAt w B xs) {j : Nat} (hj : j < xs.length) : w.cell? ⟨B, j, none⟩ = some (.int .i64 (xs.getD j 0)) := by
  simp [World.cell?, show w.heap[B]? = _ from h, intCells, List.getElem?_eq_getElem hj, List.getD]
theorem RowAt.frozen {w : World} {B : Nat} {xs : List Int} (h : RowAt w B xs) (j : Nat) : w.frozen? ⟨B, j, none⟩ = false := by
  simp [World.frozen?, show w.heap[B]? = _ from h]
theorem RowAt.set {w : World} {B : Nat} {xs : List Int} (h : RowAt w B xs) (j : Nat) (x : Int) : RowAt (w.setCell ⟨B, j, none⟩ (.int .i64 x)) B (xs.set j x) := by
  obtain ⟨hlt, hk⟩ := Array.getElem?_eq_some_iff.1 h
  show (w.heap.modify B _)[B]? = _
  rw [Array.getElem?_eq_getElem (by rw [Array.size_modify]; exact hlt), Array.getElem_modify_self, hk]
  simp [intCells, List.map_set]
theorem RowAt.keep {w w' : World} {B : Nat} {xs : List Int} (h : RowAt w B xs) (g : w'.heap[B]? = w.heap[B]?) : RowAt w' B xs := g.trans h
theorem RowAt.new (w : World) (xs : List Int) : RowAt (w.alloc (.cells (intCells xs) 3)) w.heap.size xs := World.alloc_heap_new w _

theorem info_int : (Tryz.prog.info? 3).map (fun i => (i.zero, i.size, i.bytes)) = some (some (.int .i64 0), 1, 8) := by kernel_rfl

theorem run_make_ints (w : World) (r : Nat) (hr : r ≤ 100000) : (Instr.makeSlice 28 (.int .i64 (r : Int)) (.int .i64 (r : Int))).run Tryz.prog w = .ok (.slice (some ⟨w.heap.size, 0, none⟩) r r) (w.alloc (.cells (intCells (List.replicate r 0)) 3)) := by
  obtain ⟨i0, hi, hz0, hz1, hz2⟩ := info_parts info_int
  have := run_make (P := Tryz.prog) w 28 3 i0 (.int .i64 0) Tryz.underlying28 hi hz0 .i64 .i64 (r : Int) (r : Int) (by omega) (by omega) (by rw [hz2]; omega) (by omega)
  rw [this]
  have e : madeCells (Value.int .i64 0).cells (((r : Int).toNat) * i0.size) = intCells (List.replicate r 0) := by
    rw [hz1]
    refine Array.toList_inj.1 ?_
    have h2 := toList_madeCells_one (.int .i64 0) r
    simpa [intCells, Value.cells] using h2
  rw [e]
  simp

theorem zeros_rep : ∀ {ds : List Int}, zeros ds = List.replicate ds.length 0
  | [] => rfl
  | d :: ds => by simp [zeros, zeros_rep, List.replicate_succ]

theorem crd_inj : ∀ {ds : List Int} {k m : Int}, Pos ds → 0 ≤ k → k < pr ds → 0 ≤ m → m < pr ds → crd ds k = crd ds m → k = m
  | [], k, m, _, h0, h1, g0, g1, _ => by simp [pr] at h1 g1; omega
  | d :: ds, k, m, h, h0, h1, g0, g1, e => by
    have hP := pr_pos h.tail
    simp only [crd, List.cons.injEq] at e
    have := crd_inj (ds := ds) h.tail (Int.emod_nonneg k (by omega)) (Int.emod_lt_of_pos k (by omega)) (Int.emod_nonneg m (by omega)) (Int.emod_lt_of_pos m (by omega)) e.2
    have h2 := Int.mul_ediv_add_emod k (pr ds)
    have h3 := Int.mul_ediv_add_emod m (pr ds)
    rw [e.1] at h2
    omega

open Classical in
/-- How many are still to come, read off the row. -/
noncomputable def left (B : Nat) (ds : List Int) (w : World) : Nat :=
  if h : ∃ k : Int, 0 ≤ k ∧ k < pr ds ∧ RowAt w B (crd ds k) then (pr ds - Classical.choose h).toNat else 0

/-- The places that a view shows, in their order. -/
def places (off : Int) (ds ss : List Int) (n : Nat) : List Int := (List.range n).map fun (k : Nat) => off + plc ss (crd ds (k : Int))

end Go.Proofs.YtagiipecfdmceaaGreatDoor.Vx

set_option linter.unusedVariables false
namespace Go.Proofs.YtagiipecfdmceaaGreatDoor.Vx
open Go.RowKit Go.Shelf Vw

attribute [local go_sem] Oper.semAt_some

theorem grown_set (W : World) (b j : Nat) (v : Value) : W.grownBy (W.setCell ⟨b, j, none⟩ v) (some b) :=
  ⟨rfl, rfl, rfl, (KeepsWalks.setCell W _ v).size, fun k _ hk => Below.heap_setCell _ _ _ k (fun e => hk (by rw [e]))⟩
theorem grown_drew (W : World) (row : Option Nat) : W.grownBy W.drew row := ⟨rfl, rfl, rfl, Nat.le_refl _, fun _ _ _ => rfl⟩

/-- Where the rows of a view lie, and its box. -/
structure Stands (w0 : World) (bv : Nat) (off : Int) (a1 a2 : Option Addr) (c1 c2 r : Nat) (W : World) : Prop where
  box : W.heap[bv]? = some (.cells #[.int .i64 off, .slice a1 r c1, .slice a2 r c2] 73 (0, 0))
  below : Below w0.heap.size w0 W

/-- The state between two steps. -/
def St (w0 : World) (bv B : Nat) (off : Int) (a1 a2 : Option Addr) (c1 c2 r : Nat) (J : List Int → World → Prop) (pre xs : List Int) (W : World) : Prop :=
  Stands w0 bv off a1 a2 c1 c2 r W ∧ RowAt W B xs ∧ J pre W

variable {w0 : World} {bv B : Nat} {off : Int} {a1 a2 : Option Addr} {c1 c2 r : Nat} {J : List Int → World → Prop} {pre xs : List Int} {W : World}

theorem St.set (h : St w0 bv B off a1 a2 c1 c2 r J pre xs W) (hJ : AbC B J) (hbv : bv ≠ B) (hB : w0.heap.size ≤ B) (j : Nat) (x : Int) : St w0 bv B off a1 a2 c1 c2 r J pre (xs.set j x) (W.setCell ⟨B, j, none⟩ (.int .i64 x)) :=
  ⟨⟨(Below.heap_setCell _ _ _ bv hbv).trans h.1.box, h.1.below.setCell (p := ⟨B, j, none⟩) hB _⟩, h.2.1.set j x, hJ _ _ _ _ h.2.2 (grown_set W B j _) (fun r e => by cases e; rfl)⟩
theorem St.drew (h : St w0 bv B off a1 a2 c1 c2 r J pre xs W) (hJ : AbC B J) : St w0 bv B off a1 a2 c1 c2 r J pre xs W.drew :=
  ⟨⟨h.1.box, h.1.below.drew⟩, h.2.1, hJ _ _ _ none h.2.2 (grown_drew W none) (fun r e => by cases e)⟩
theorem St.drewN (h : St w0 bv B off a1 a2 c1 c2 r J pre xs W) (hJ : AbC B J) (q : Nat) : St w0 bv B off a1 a2 c1 c2 r J pre xs (W.drewN q) :=
  ⟨⟨h.1.box, ⟨h.1.below.os, h.1.below.tape, h.1.below.output, h.1.below.size, h.1.below.block⟩⟩, h.2.1, hJ _ _ _ none h.2.2 ⟨rfl, rfl, rfl, Nat.le_refl _, fun _ _ _ => rfl⟩ (fun r e => by cases e)⟩
theorem take_set {c : List Int} {i : Nat} {t : List Int} {x : Int} (hi : i < c.length) : (c.take (i + 1) ++ t).set i x = c.take i ++ x :: t := by
  rw [List.take_add_one, List.getElem?_eq_getElem hi]
  simp only [Option.toList_some, List.append_assoc]
  rw [List.set_append_right _ _ (by simp; omega)]
  simp [Nat.min_eq_left (Nat.le_of_lt hi)]
theorem set_at {c : List Int} {i : Nat} {t : List Int} {x y : Int} (hi : i ≤ c.length) : (c.take i ++ x :: t).set i y = c.take i ++ y :: t := by
  rw [List.set_append_right _ _ (by simp; omega)]
  simp [Nat.min_eq_left hi]
theorem St.set0 {c t : List Int} {i : Nat} {x : Int} (h : St w0 bv B off a1 a2 c1 c2 r J pre (c.take i ++ x :: t) W) (hJ : AbC B J) (hbv : bv ≠ B) (hB : w0.heap.size ≤ B) (hi : i ≤ c.length) (y : Int) :
    St w0 bv B off a1 a2 c1 c2 r J pre (c.take i ++ y :: t) (W.setCell ⟨B, i, none⟩ (.int .i64 y)) := by
  have := h.set hJ hbv hB i y
  rwa [set_at hi] at this

end Go.Proofs.YtagiipecfdmceaaGreatDoor.Vx

set_option linter.unusedVariables false
namespace Go.Proofs.YtagiipecfdmceaaGreatDoor.Vx
open Go.RowKit Go.Shelf Vw

attribute [local go_sem] Oper.semAt_some
attribute [local irreducible] crd plc zeros pr places

end Go.Proofs.YtagiipecfdmceaaGreatDoor.Vx

set_option linter.unusedVariables false
namespace Go.Proofs.YtagiipecfdmceaaGreatDoor.Vx
open Go.RowKit Go.Shelf Vw

attribute [local go_sem] Oper.semAt_some

variable {w0 : World} {R1 R2 R3 S B : Nat} {dv : Value} {data all pre : List Int}

theorem info_int64 : (Tryz.prog.info? 2).map (fun i => (i.zero, i.size, i.bytes)) = some (some (.int .i64 0), 1, 8) := by kernel_rfl

/-- What a view shows: none: it may not be, or the elements do not reach. -/
def readL (off : Int) (ds ss data : List Int) : Option (List Int) :=
  if mayV off ds ss = true ∧ ∀ p ∈ places off ds ss (pr ds).toNat, p < data.length then some ((places off ds ss (pr ds).toNat).map fun p => data.getD p.toNat 0) else none

attribute [local irreducible] crd plc zeros pr places mayV

attribute [local irreducible] readL

end Go.Proofs.YtagiipecfdmceaaGreatDoor.Vx

set_option linter.unusedVariables false
namespace Go.Proofs.YtagiipecfdmceaaGreatDoor.Vx
open Go.RowKit Vw

theorem cnt_ok : ∀ {zs : List Int} {n m : Int}, (∀ d ∈ zs, 1 ≤ d) → 1 ≤ n → n ≤ 65536 → cntLoop n zs = (m, 0) → m = n * pr zs ∧ n * pr zs ≤ 65536 ∧ ∀ d ∈ zs, d ≤ 65536
  | [], n, m, _, h1, h2, h => by
    simp only [cntLoop, Prod.mk.injEq, and_true] at h
    simp [pr, ← h, h2]
  | d :: ds, n, m, hp, h1, h2, h => by
    have hd := hp d (by simp)
    simp only [cntLoop] at h
    by_cases g : 65536 < n * d
    · rw [if_pos g] at h; simp at h
    · rw [if_neg g] at h
      have hn := mul_pos' h1 hd
      obtain ⟨a, b, c⟩ := cnt_ok (zs := ds) (n := n * d) (m := m) (fun x hx => hp x (by simp [hx])) hn (by omega) h
      have e : n * d * pr ds = n * pr (d :: ds) := by simp [pr, Int.mul_assoc]
      refine ⟨by rw [← e]; exact a, by rw [← e]; exact b, ?_⟩
      intro x hx
      rcases List.mem_cons.1 hx with rfl | hx
      · by_cases h3 : 65536 < x
        · exact absurd (mul_big h1 h3) g
        · omega
      · exact c x hx

/-- Dimensions that may be. -/
theorem cnt_good {zs : List Int} (h : (cnt zs).2 = 0) : (∀ d ∈ zs, 1 ≤ d ∧ d ≤ 65536) ∧ zs.length ≤ 6 ∧ (cnt zs).1 = pr zs ∧ pr zs ≤ 65536 := by
  cases ha : zs.any (fun d => decide (d < 1))
  · by_cases g : 6 < zs.length
    · rw [cnt_long ha g] at h; simp at h
    · rw [cnt_loop ha g] at h ⊢
      have hp : ∀ d ∈ zs, 1 ≤ d := fun d hd => by
        have := List.any_eq_false.1 ha d hd
        simpa using this
      obtain ⟨a, b, c⟩ := cnt_ok (n := 1) (m := (cntLoop 1 zs).1) hp (by decide) (by decide) (by rw [← h])
      rw [Int.one_mul] at a b
      exact ⟨fun d hd => ⟨hp d hd, c d hd⟩, by omega, a, b⟩
  · rw [cnt_low ha] at h; simp at h

end Go.Proofs.YtagiipecfdmceaaGreatDoor.Vx

set_option linter.unusedVariables false
namespace Go.Proofs.YtagiipecfdmceaaGreatDoor.Vx
open Go.RowKit Vw

/-- How far the next element stands, in each dimension. -/
def strd : List Int → List Int
  | [] => []
  | _ :: ds => pr ds :: strd ds

theorem strd_length : ∀ {ds : List Int}, (strd ds).length = ds.length
  | [] => rfl
  | _ :: ds => by simp [strd, strd_length]

theorem pr_drop : ∀ {zs : List Int} {j : Nat}, (∀ d ∈ zs, 1 ≤ d) → 1 ≤ pr (zs.drop j) ∧ pr (zs.drop j) ≤ pr zs
  | zs, 0, h => ⟨pr_pos h, by simp⟩
  | [], j + 1, h => by simp [pr]
  | d :: ds, j + 1, h => by
    have ih := pr_drop (zs := ds) (j := j) (fun x hx => h x (by simp [hx]))
    have h1 := h d (by simp)
    have h2 : 1 * pr ds ≤ d * pr ds := Int.mul_le_mul_of_nonneg_right h1 (by omega)
    simp only [List.drop_succ_cons, pr]
    omega

/-- The row after some steps. -/
def strRow (zs : List Int) (m : Nat) : List Int := List.replicate m 0 ++ strd (zs.drop m)

theorem strRow_length {zs : List Int} {m : Nat} (h : m ≤ zs.length) : (strRow zs m).length = zs.length := by
  simp [strRow, strd_length]; omega
theorem strRow_step {zs : List Int} {j : Nat} (h : j < zs.length) : (strRow zs (j + 1)).set j (pr (zs.drop (j + 1))) = strRow zs j := by
  unfold strRow
  rw [drop_next h, List.replicate_succ', List.append_assoc, List.set_append_right _ _ (by simp)]
  simp [strd]
theorem strRow_zero (zs : List Int) : strRow zs 0 = strd zs := by simp [strRow]
theorem strRow_full (zs : List Int) : strRow zs zs.length = List.replicate zs.length 0 := by simp [strRow, strd]
theorem pr_next {zs : List Int} {j : Nat} (h : j < zs.length) : pr (zs.drop (j + 1)) * zs.getD j 0 = pr (zs.drop j) := by
  rw [drop_next h]; simp [pr, Int.mul_comm]

attribute [local irreducible] cnt strd pr strRow

theorem strides_bad {w : World} {v : Value} {zs : List Int} (h : Hid (IntsIn w v zs)) (he : Hid ((cnt zs).2 ≠ 0)) (w : World) (h2 : Hid (IntsIn w v zs)) :
    Calls Tryz.prog 79 #[v] w fun e w' => e = .returned (.tuple #[.slice none 0 0, .int .i64 (cnt zs).2]) ∧ w = w' := by
  have HC := Lib.hid (count_any h2.out)
  have hne := he.out
  generalize cnt zs = cc at *
  go_enter Tryz.func79, Tryz.ntmps79
  go_wp2_with (go_at_call 27; refine HC.out.mono ?_; rintro e w' ⟨rfl, rfl⟩)
  all_goals first
    | (go_ret2; exact ⟨rfl, rfl⟩)
    | (exfalso; have h3 := he.out; simp_all)

set_option maxHeartbeats 1000000 in
theorem strides_row (b off cap : Nat) (zs : List Int) (w : World) (hlen : zs.length ≤ 6) (hb : b < w.heap.size) (hr : Hid (Reads w b off zs)) (hin : Hid (IntsIn w (.slice (some ⟨b, off, none⟩) zs.length cap) zs)) (hp : Hid (∀ d ∈ zs, 1 ≤ d ∧ d ≤ 65536)) (hN : Hid (pr zs ≤ 65536)) (he : Hid ((cnt zs).2 = 0)) :
    Calls Tryz.prog 79 #[.slice (some ⟨b, off, none⟩) zs.length cap] w fun e w' => e = .returned (.tuple #[.slice (some ⟨w.heap.size, 0, none⟩) zs.length zs.length, .int .i64 0]) ∧ RowAt w' w.heap.size (strd zs) ∧ Below w.heap.size w w' := by
  have HC := Lib.hid (count_any hin.out)
  rw [show cnt zs = ((cnt zs).1, 0) by rw [← he.out]] at HC
  generalize (cnt zs).1 = c1 at *
  have hmk := fun w => run_make_ints w zs.length (by omega)
  have hrow : Hid (RowAt (w.alloc (.cells (intCells (List.replicate zs.length 0)) 3)) w.heap.size (strRow zs zs.length)) := Lib.hid (by rw [strRow_full]; exact RowAt.new w _)
  have hbel : Hid (Below w.heap.size w (w.alloc (.cells (intCells (List.replicate zs.length 0)) 3))) := Lib.hid ((Below.refl _ w).alloc (Nat.le_refl _) _)
  have hpr0 : Hid (pr (zs.drop zs.length) = 1) := Lib.hid (by rw [List.drop_length]; unfold pr; rfl)
  go_enter Tryz.func79, Tryz.ntmps79
  go_wp2_with (go_at_call 27; refine HC.out.mono ?_; rintro e w' ⟨rfl, rfl⟩)
  go_loopw [7, 23] (fun n i wr => ∃ m k : Nat, Hid (k + m = zs.length) ∧ n = .int .i64 (pr (zs.drop m)) ∧ i = .int .i64 (k : Int) ∧ Hid (RowAt wr w.heap.size (strRow zs m)) ∧ Hid (Below w.heap.size w wr)) (fun _ i _ => zs.length - (intOf i).toNat)
  case atStart => exact ⟨zs.length, 0, Lib.hid (by omega), by rw [hpr0.out], rfl, hrow, hbel⟩
  case round =>
    obtain ⟨m, k, hkm, rfl, rfl, hrw, hbl⟩ := hrel
    have hm : m ≤ zs.length := by have := hkm.out; omega
    rcases (match m with | 0 => Or.inl rfl | i + 1 => Or.inr ⟨i, rfl⟩ : m = 0 ∨ ∃ i, m = i + 1) with e0 | ⟨j, e0⟩
    · subst e0
      obtain rfl : k = zs.length := by have := hkm.out; omega
      go_wp2
      go_ret2
      exact ⟨rfl, by rw [← strRow_zero]; exact hrw.out, hbl.out⟩
    · subst e0
      have hj : j < zs.length := by omega
      have hcx := (hbl.out.cell (p := ⟨b, off + j, none⟩) hb).trans (hr.out j hj)
      have hfz := hrw.out.frozen j
      have hcell := hrw.out.cell (j := j) (by rw [strRow_length hm]; omega)
      have hset : Hid (RowAt (wr.setCell ⟨w.heap.size, j, none⟩ (.int .i64 (pr (zs.drop (j + 1))))) w.heap.size (strRow zs j)) := Lib.hid (by rw [← strRow_step hj]; exact hrw.out.set j _)
      have hb3 : Hid (Below w.heap.size w (wr.setCell ⟨w.heap.size, j, none⟩ (.int .i64 (pr (zs.drop (j + 1)))))) := Lib.hid (hbl.out.setCell (p := ⟨w.heap.size, j, none⟩) (Nat.le_refl _) _)
      have hcx2 := (hb3.out.cell (p := ⟨b, off + j, none⟩) hb).trans (hr.out j hj)
      have hpn := Lib.hid (pr_next hj)
      have hd := hp.out _ (getD_mem hj)
      have hq := pr_drop (zs := zs) (j := j + 1) (fun d hd => (hp.out d hd).1)
      have hq2 := pr_drop (zs := zs) (j := j) (fun d hd => (hp.out d hd).1)
      have hN2 := hN.out
      have hkl : k < zs.length := by have := hkm.out; omega
      have hidx : (zs.length : Int) - 1 - (k : Int) = (j : Int) := by have := hkm.out; omega
      generalize hpj : pr (zs.drop (j + 1)) = pj at *
      have hmul : pj * zs.getD j 0 = pr (zs.drop j) := hpn.out
      generalize zs.getD j 0 = z at *
      generalize hpj2 : pr (zs.drop j) = pj2 at *
      have HP2 := Lib.hid hpj2
      clear hpj hpj2
      go_wp2
      go_roundw
      case rel => exact ⟨j, k + 1, Lib.hid (by have := hkm.out; omega), by rw [HP2.out], by go_num, hset, hb3⟩
      case measure => simp [intOf]; omega


/-- A slice of numbers in memory of the call's own. -/
def Fresh (B : Nat) (w' : World) (v : Value) (zs : List Int) : Prop :=
  (zs = [] ∧ ∃ a0 cap, v = .slice a0 0 cap) ∨ ∃ g cap cur, v = .slice (some ⟨g, 0, none⟩) zs.length cap ∧ B ≤ g ∧ w'.heap[g]? = some (.cells cur 3 (0, 0)) ∧ zs.length ≤ cap ∧ cur.toList.take zs.length = zs.map (Value.int .i64)

theorem Fresh.ints {B : Nat} {w' : World} {v : Value} {zs : List Int} (h : Fresh B w' v zs) (hlen : zs.length * 8 ≤ 140737488351232) (hw : ∀ z ∈ zs, InI z) : IntsIn w' v zs := by
  rcases h with ⟨rfl, a0, cap, rfl⟩ | ⟨g, cap, cur, rfl, hB, hg, hc, ht⟩
  · exact .empty a0 cap
  · by_cases h0 : zs = []
    · subst h0; exact .empty _ cap
    · refine .row g 0 cap zs h0 hc (Array.getElem?_eq_some_iff.1 hg).1 (fun j hj => ?_) hlen hw
      have h2 : (cur.toList.take zs.length)[j]? = (zs.map (Value.int .i64))[j]? := by rw [ht]
      rw [List.getElem?_take_of_lt hj, List.getElem?_map, List.getElem?_eq_getElem hj] at h2
      simp only [Option.map_some, Array.getElem?_toList] at h2
      have h3 : w'.cell? ⟨g, 0 + j, none⟩ = cur[0 + j]? := by simp [World.cell?, hg]
      rw [h3, Nat.zero_add, h2]
      simp [List.getD, List.getElem?_eq_getElem hj]

theorem Fresh.row {B g : Nat} {w' : World} {zs : List Int} {n : Nat} (h : RowAt w' g zs) (hB : B ≤ g) (hn : n = zs.length) : Fresh B w' (.slice (some ⟨g, 0, none⟩) n n) zs := by
  subst hn
  exact Or.inr ⟨g, zs.length, _, rfl, hB, h, Nat.le_refl _, by simp [intCells, List.take_of_length_le]⟩

theorem Fresh.below {B : Nat} {w w' : World} {v : Value} {zs : List Int} (h : Fresh B w v zs) (hb : Below w.heap.size w w') : Fresh B w' v zs := by
  rcases h with h | ⟨g, cap, cur, e, hB, hg, hc, ht⟩
  · exact Or.inl h
  · exact Or.inr ⟨g, cap, cur, e, hB, (hb.block g (Array.getElem?_eq_some_iff.1 hg).1).trans hg, hc, ht⟩

theorem strides_empty (a0 : Option Addr) (cap : Nat) (w : World) :
    Calls Tryz.prog 79 #[.slice a0 0 cap] w fun e w' => e = .returned (.tuple #[.slice (some ⟨w.heap.size, 0, none⟩) 0 0, .int .i64 0]) ∧ RowAt w' w.heap.size (strd []) ∧ Below w.heap.size w w' := by
  have HC := Lib.hid (count_any (IntsIn.empty (w := w) a0 cap))
  rw [show cnt [] = (1, 0) by unfold cnt cntLoop; decide] at HC
  have hmk : ∀ w : World, (Instr.makeSlice 28 (.int .i64 0) (.int .i64 0)).run Tryz.prog w = .ok (.slice (some ⟨w.heap.size, 0, none⟩) 0 0) (w.alloc (.cells (intCells (List.replicate 0 0)) 3)) := fun w => run_make_ints w 0 (by omega)
  have hrow : Hid (RowAt (w.alloc (.cells (intCells (List.replicate 0 0)) 3)) w.heap.size (strd [])) := Lib.hid (by unfold strd; exact RowAt.new w _)
  have hbel : Hid (Below w.heap.size w (w.alloc (.cells (intCells (List.replicate 0 0)) 3))) := Lib.hid ((Below.refl _ w).alloc (Nat.le_refl _) _)
  go_enter Tryz.func79, Tryz.ntmps79
  go_wp2_with (go_at_call 27; refine HC.out.mono ?_; rintro e w' ⟨rfl, rfl⟩)
  go_rounds 1
  go_ret2
  exact ⟨rfl, hrow.out, hbel.out⟩

/-- What comes out of Strides. -/
def StrOut (w : World) (zs : List Int) (e : Ending) (w' : World) : Prop :=
  Below w.heap.size w w' ∧ (((cnt zs).2 ≠ 0 ∧ e = .returned (.tuple #[.slice none 0 0, .int .i64 (cnt zs).2])) ∨ ((cnt zs).2 = 0 ∧ ∃ v, e = .returned (.tuple #[v, .int .i64 0]) ∧ Fresh w.heap.size w' v (strd zs)))

theorem strides_any {w : World} {v : Value} {zs : List Int} (h : IntsIn w v zs) : Calls Tryz.prog 79 #[v] w (StrOut w zs) := by
  by_cases he : (cnt zs).2 = 0
  · have hg := cnt_good he
    have h' := h
    cases h with
    | empty a0 cap =>
      refine (strides_empty a0 cap w).mono ?_
      rintro e w' ⟨h1, h2, h3⟩
      exact ⟨h3, Or.inr ⟨he, _, h1, Fresh.row h2 (Nat.le_refl _) (by unfold strd; rfl)⟩⟩
    | row b off cap _ h0 hc hb hr hlen hw =>
      refine (strides_row b off cap zs w hg.2.1 hb (Lib.hid hr) (Lib.hid h') (Lib.hid hg.1) (Lib.hid hg.2.2.2) (Lib.hid he)).mono ?_
      rintro e w' ⟨h1, h2, h3⟩
      exact ⟨h3, Or.inr ⟨he, _, h1, Fresh.row h2 (Nat.le_refl _) (by rw [strd_length])⟩⟩
  · refine (strides_bad (w := w) (Lib.hid h) (Lib.hid he) w (Lib.hid h)).mono ?_
    rintro e w' ⟨h1, rfl⟩
    exact ⟨Below.refl _ _, Or.inl ⟨he, h1⟩⟩

end Go.Proofs.YtagiipecfdmceaaGreatDoor.Vx

set_option linter.unusedVariables false
namespace Go.Proofs.YtagiipecfdmceaaGreatDoor.Vx
open Go.RowKit Vw

theorem cnt_pos {ds : List Int} (h : (cnt ds).2 = 0) : Pos ds := fun d hd => ((cnt_good h).1 d hd).1

/-- A row of cells whose first hold these numbers. -/
def RowC (w : World) (g : Nat) (xs : List Int) : Prop := ∃ cur, w.heap[g]? = some (.cells cur 3 (0, 0)) ∧ cur.toList.take xs.length = xs.map (Value.int .i64) ∧ xs.length ≤ cur.size

theorem RowC.cell {w : World} {g : Nat} {xs : List Int} (h : RowC w g xs) {j : Nat} (hj : j < xs.length) : w.cell? ⟨g, j, none⟩ = some (.int .i64 (xs.getD j 0)) := by
  obtain ⟨cur, h1, h2, h3⟩ := h
  have h4 : (cur.toList.take xs.length)[j]? = (xs.map (Value.int .i64))[j]? := by rw [h2]
  rw [List.getElem?_take_of_lt hj, List.getElem?_map, List.getElem?_eq_getElem hj] at h4
  simp only [Option.map_some, Array.getElem?_toList] at h4
  have h5 : w.cell? ⟨g, j, none⟩ = cur[j]? := by simp [World.cell?, h1]
  rw [h5, h4]
  simp [List.getD, List.getElem?_eq_getElem hj]
theorem RowC.frozen {w : World} {g : Nat} {xs : List Int} (h : RowC w g xs) (j : Nat) : w.frozen? ⟨g, j, none⟩ = false := by
  obtain ⟨cur, h1, _⟩ := h
  simp [World.frozen?, h1]
theorem RowC.lt {w : World} {g : Nat} {xs : List Int} (h : RowC w g xs) : g < w.heap.size := by
  obtain ⟨cur, h1, _⟩ := h
  exact (Array.getElem?_eq_some_iff.1 h1).1
theorem RowC.set {w : World} {g : Nat} {xs : List Int} (h : RowC w g xs) (j : Nat) (x : Int) : RowC (w.setCell ⟨g, j, none⟩ (.int .i64 x)) g (xs.set j x) := by
  obtain ⟨cur, h1, h2, h3⟩ := h
  obtain ⟨hlt, hk⟩ := Array.getElem?_eq_some_iff.1 h1
  refine ⟨cur.setIfInBounds j (.int .i64 x), ?_, ?_, by simpa using h3⟩
  · show (w.heap.modify g _)[g]? = _
    rw [Array.getElem?_eq_getElem (by rw [Array.size_modify]; exact hlt), Array.getElem_modify_self, hk]
    rfl
  · rw [List.length_set, List.map_set, ← h2, Array.toList_setIfInBounds, List.take_set]
theorem RowC.keep {w w' : World} {g : Nat} {xs : List Int} (h : RowC w g xs) (e : w'.heap[g]? = w.heap[g]?) : RowC w' g xs := by
  obtain ⟨cur, h1, h2⟩ := h
  exact ⟨cur, e.trans h1, h2⟩
theorem Fresh.rowC {B : Nat} {w : World} {v : Value} {xs : List Int} (h : Fresh B w v xs) (h0 : xs ≠ []) : ∃ g cap, v = .slice (some ⟨g, 0, none⟩) xs.length cap ∧ B ≤ g ∧ xs.length ≤ cap ∧ RowC w g xs := by
  rcases h with ⟨e, _⟩ | ⟨g, cap, cur, rfl, hB, hg, hc, ht⟩
  · exact absurd e h0
  · refine ⟨g, cap, rfl, hB, hc, cur, hg, ht, ?_⟩
    have := congrArg List.length ht
    simp at this; omega

theorem Fresh.of_owns {B : Nat} {w : World} {v : Value} {zs : List Int} (h : w.ownsRow B 3 1 v zs.length (zs.map (Value.int .i64))) : Fresh B w v zs := by
  obtain ⟨h1, h2⟩ := h
  rcases h2 with ⟨rfl, h0⟩ | ⟨g, cap, cur, rfl, hb, hg, hn, hc, hs, ht⟩
  · exact Or.inl ⟨List.length_eq_zero_iff.1 h0, none, 0, rfl⟩
  · exact Or.inr ⟨g, cap, cur, rfl, hb, hg, hn, by simpa using ht⟩

theorem clone_any {w : World} {v : Value} {zs : List Int} (h : IntsIn w v zs) :
    Calls Tryz.prog 31 #[v] w fun e w' => ∃ v', e = .returned v' ∧ Fresh w.heap.size w' v' zs ∧ Below w.heap.size w w' := by
  cases h with
  | empty a0 cap =>
    cases a0 with
    | none =>
      refine (Tryz.slices_Clone_int_nil 0 cap w).mono ?_
      rintro e w' ⟨rfl, rfl⟩
      exact ⟨_, rfl, Or.inl ⟨rfl, none, 0, rfl⟩, Below.refl _ _⟩
    | some a =>
      refine (Tryz.slices_Clone_int_zero a cap w).mono ?_
      rintro e w' ⟨v', rfl, h1, _, h2⟩
      exact ⟨v', rfl, Fresh.of_owns (zs := []) h1, h2⟩
  | row b off cap _ h0 hc hb hr hlen hw =>
    refine (Tryz.slices_Clone_int b off zs.length cap zs w (Nat.le_refl _) (by omega) hr).mono ?_
    rintro e w' ⟨v', rfl, h1, _, h2⟩
    rw [List.take_length] at h1
    exact ⟨v', rfl, Fresh.of_owns h1, h2⟩

theorem Fresh.form {B : Nat} {w : World} {v : Value} {zs : List Int} (h : Fresh B w v zs) : ∃ a cap, v = .slice a zs.length cap := by
  rcases h with ⟨rfl, a0, cap, rfl⟩ | ⟨g, cap, cur, rfl, _⟩
  · exact ⟨a0, cap, rfl⟩
  · exact ⟨_, cap, rfl⟩

theorem Fresh.nil (B : Nat) (w : World) (a : Option Addr) (c : Nat) : Fresh B w (.slice a 0 c) [] := Or.inl ⟨rfl, a, c, rfl⟩

end Go.Proofs.YtagiipecfdmceaaGreatDoor.Vx

set_option linter.unusedVariables false
namespace Go.Proofs.YtagiipecfdmceaaGreatDoor.Vb
open Go.RowKit Vx Vx.Vw

def Fresh (B : Nat) (w : World) (v : Value) (zs : List Int) : Prop := w.ownsRow B 3 1 v zs.length (zs.map (Value.int .i64))
theorem Fresh.of_owns {B : Nat} {w : World} {v : Value} {zs : List Int} (h : w.ownsRow B 3 1 v zs.length (zs.map (Value.int .i64))) : Fresh B w v zs := h
theorem Fresh.ints {B : Nat} {w' : World} {v : Value} {zs : List Int} (h : Fresh B w' v zs) (hlen : zs.length * 8 ≤ 140737488351232) (hw : ∀ z ∈ zs, InI z) : IntsIn w' v zs := IntsIn.of_owns (B := B) (t := 3) h (by omega) hw
theorem Fresh.below {B : Nat} {w w' : World} {v : Value} {zs : List Int} (h : Fresh B w v zs) (hb : Below w.heap.size w w') : Fresh B w' v zs := owns_below h hb
theorem Fresh.form {B : Nat} {w : World} {v : Value} {zs : List Int} (h : Fresh B w v zs) : ∃ a cap, v = .slice a zs.length cap := owns_form h
theorem Fresh.row {B g : Nat} {w' : World} {zs : List Int} {n : Nat} (h : RowAt w' g zs) (hB : B ≤ g) (hn : n = zs.length) (hm : n ≤ 1000000) : Fresh B w' (.slice (some ⟨g, 0, none⟩) n n) zs := by
  subst hn
  refine ⟨by simp, .inr ⟨g, zs.length, intCells zs, rfl, hB, h, Nat.le_refl _, ?_, ?_, ?_⟩⟩
  · unfold maxLen; omega
  · simp [intCells]
  · simp only [intCells, Nat.mul_one]
    rw [List.take_of_length_le (by simp)]
theorem Fresh.at {B : Nat} {w : World} {a : Option Addr} {n c j : Nat} {xs : List Int} (h : Fresh B w (.slice a n c) xs) (hn : xs.length = n) (hj : j < n) : ∃ g, a = some ⟨g, 0, none⟩ ∧ B ≤ g ∧ w.cell? ⟨g, j, none⟩ = some (.int .i64 (xs.getD j 0)) ∧ w.frozen? ⟨g, j, none⟩ = false ∧ ∀ x : Int, Fresh B (w.setCell ⟨g, j, none⟩ (.int .i64 x)) (.slice (some ⟨g, 0, none⟩) n c) (xs.set j x) := by
  subst hn
  obtain ⟨g, cap, e, hB, hg⟩ := World.ownsRow.form h (by omega)
  obtain ⟨rfl, -, rfl⟩ := Value.slice.inj e
  refine ⟨g, rfl, hB, ?_, World.ownsRow.frozenAt h j, fun x => ?_⟩
  · have := World.ownsRow.cells h (g := g) rfl j (.int .i64 (xs.getD j 0)) (by rw [List.getElem?_map, int_at hj]; rfl)
    rwa [show (⟨g, 0, none⟩ : Addr).add j = ⟨g, j, none⟩ from by rw [add_some, Nat.zero_add]] at this
  · unfold Fresh
    rw [List.length_set, List.map_set]
    exact (World.ownsRow.stored h j _).1
theorem clone_any {w : World} {v : Value} {zs : List Int} (h : IntsIn w v zs) :
    Calls Tryz.prog 31 #[v] w fun e w' => ∃ v', e = .returned v' ∧ Fresh w.heap.size w' v' zs ∧ Below w.heap.size w w' := by
  cases h with
  | empty a0 cap =>
    cases a0 with
    | none =>
      refine (Tryz.slices_Clone_int_nil 0 cap w).mono ?_
      rintro e w' ⟨rfl, rfl⟩
      exact ⟨_, rfl, World.ownsRow_nil _ _ _ _, Below.refl _ _⟩
    | some a =>
      refine (Tryz.slices_Clone_int_zero a cap w).mono ?_
      rintro e w' ⟨v', rfl, h1, _, h2⟩
      exact ⟨v', rfl, Fresh.of_owns (zs := []) h1, h2⟩
  | row b off cap _ h0 hc hb hr hlen hw =>
    refine (Tryz.slices_Clone_int b off zs.length cap zs w (Nat.le_refl _) (by omega) hr).mono ?_
    rintro e w' ⟨v', rfl, h1, _, h2⟩
    rw [List.take_length] at h1
    exact ⟨v', rfl, Fresh.of_owns h1, h2⟩

end Go.Proofs.YtagiipecfdmceaaGreatDoor.Vb

set_option linter.unusedVariables false
namespace Go.Proofs.YtagiipecfdmceaaGreatDoor.Vb
open Go.RowKit Vx Vx.Vw

/-- The dimension at a place from the back. -/
def bk (zs : List Int) (i : Nat) : Int := if zs.length ≤ i then 1 else zs.getD (zs.length - 1 - i) 0

def outL (a b : List Int) : List Int := (List.range (max a.length b.length)).map fun j => max (bk a (max a.length b.length - 1 - j)) (bk b (max a.length b.length - 1 - j))
def Co1 (a b : List Int) (i : Nat) : Prop := bk a i = bk b i ∨ bk a i = 1 ∨ bk b i = 1
def Co (a b : List Int) (k : Nat) : Prop := ∀ i, i < k → Co1 a b i
instance (a b : List Int) (k : Nat) : Decidable (Co a b k) := by unfold Co Co1; infer_instance

/-- What comes out of Broadcast. -/
def bcO (a b : List Int) : Int × List Int := if (cnt a).2 ≠ 0 then ((cnt a).2, []) else if (cnt b).2 ≠ 0 then ((cnt b).2, []) else if Co a b (max a.length b.length) then (if (cnt (outL a b)).2 ≠ 0 then ((cnt (outL a b)).2, []) else (0, outL a b)) else (4, [])

theorem outL_length (a b : List Int) : (outL a b).length = max a.length b.length := by simp [outL]
theorem outL_get {a b : List Int} {j : Nat} (h : j < max a.length b.length) : (outL a b).getD j 0 = max (bk a (max a.length b.length - 1 - j)) (bk b (max a.length b.length - 1 - j)) := by
  simp [outL, List.getD, h]
theorem bk_out {zs : List Int} {i : Nat} (h : zs.length ≤ i) : bk zs i = 1 := by unfold bk; rw [if_pos h]
theorem bk_in {zs : List Int} {i : Nat} (h : i < zs.length) : bk zs i = zs.getD (zs.length - 1 - i) 0 := by unfold bk; rw [if_neg (by omega)]

/-- A longer list of dimensions, so far. -/
def BcTo (L S : List Int) (i : Nat) (xs : List Int) : Prop := xs.length = L.length ∧ (∀ j, j < L.length - S.length + i → xs.getD j 0 = (outL L S).getD j 0) ∧ (∀ j, L.length - S.length + i ≤ j → xs.getD j 0 = L.getD j 0)

theorem BcTo.len {L S xs : List Int} {i : Nat} (h : BcTo L S i xs) : xs.length = L.length := h.1
theorem BcTo.here {L S xs : List Int} {i : Nat} (h : BcTo L S i xs) : xs.getD (L.length - S.length + i) 0 = L.getD (L.length - S.length + i) 0 := h.2.2 _ (Nat.le_refl _)
theorem BcTo.zero {L S : List Int} (hL : Pos L) (hl : S.length ≤ L.length) : BcTo L S 0 L := by
  refine ⟨rfl, fun j hj => ?_, fun j _ => rfl⟩
  have hm : max L.length S.length = L.length := by omega
  rw [outL_get (by omega), hm, bk_in (by omega), bk_out (zs := S) (by omega), show L.length - 1 - (L.length - 1 - j) = j by omega]
  have := hL _ (getD_mem (zs := L) (k := j) (by omega))
  omega
/-- A round's two dimensions. -/
theorem bc_pair {L S : List Int} {i : Nat} (hl : S.length ≤ L.length) (hi : i < S.length) : (outL L S).getD (L.length - S.length + i) 0 = max (L.getD (L.length - S.length + i) 0) (S.getD i 0) ∧ (Co1 L S (S.length - 1 - i) ↔ (L.getD (L.length - S.length + i) 0 = S.getD i 0 ∨ L.getD (L.length - S.length + i) 0 = 1 ∨ S.getD i 0 = 1)) := by
  have hm : max L.length S.length = L.length := by omega
  have e1 : bk L (S.length - 1 - i) = L.getD (L.length - S.length + i) 0 := by rw [bk_in (by omega), show L.length - 1 - (S.length - 1 - i) = L.length - S.length + i by omega]
  have e2 : bk S (S.length - 1 - i) = S.getD i 0 := by rw [bk_in (by omega), show S.length - 1 - (S.length - 1 - i) = i by omega]
  refine ⟨?_, by unfold Co1; rw [e1, e2]⟩
  rw [outL_get (by omega), hm, show L.length - 1 - (L.length - S.length + i) = S.length - 1 - i by omega, e1, e2]
theorem BcTo.put {L S xs : List Int} {i : Nat} (h : BcTo L S i xs) (hl : S.length ≤ L.length) (hi : i < S.length) (h1 : L.getD (L.length - S.length + i) 0 = 1) (h2 : 1 ≤ S.getD i 0) : BcTo L S (i + 1) (xs.set (L.length - S.length + i) (S.getD i 0)) := by
  refine ⟨by rw [List.length_set]; exact h.1, fun j hj => ?_, fun j hj => ?_⟩
  · by_cases e : j = L.length - S.length + i
    · subst e
      rw [(bc_pair hl hi).1, h1]
      have : (xs.set (L.length - S.length + i) (S.getD i 0)).getD (L.length - S.length + i) 0 = S.getD i 0 := by
        have hlt : L.length - S.length + i < xs.length := by have := h.1; omega
        simp [List.getD, hlt]
      rw [this]; omega
    · have : (xs.set (L.length - S.length + i) (S.getD i 0)).getD j 0 = xs.getD j 0 := by simp [List.getD, List.getElem?_set_ne (Ne.symm e)]
      rw [this]; exact h.2.1 j (by omega)
  · have : (xs.set (L.length - S.length + i) (S.getD i 0)).getD j 0 = xs.getD j 0 := by simp [List.getD, List.getElem?_set_ne (show L.length - S.length + i ≠ j by omega)]
    rw [this]; exact h.2.2 j (by omega)
theorem BcTo.all {L S xs : List Int} (h : BcTo L S S.length xs) (hl : S.length ≤ L.length) : xs = outL L S := by
  refine List.ext_getElem (by rw [h.1, outL_length]; omega) fun j h1 h2 => ?_
  have := h.2.1 j (by have := h.1; omega)
  simpa [List.getD, List.getElem?_eq_getElem h1, List.getElem?_eq_getElem h2] using this
/-- The shorter one's rounds, so far. -/
def CoS (L S : List Int) (i : Nat) : Prop := ∀ k, k < i → Co1 L S (S.length - 1 - k)
theorem CoS.zero (L S : List Int) : CoS L S 0 := fun k hk => by omega
theorem CoS.next {L S : List Int} {i : Nat} (h : CoS L S i) (g : Co1 L S (S.length - 1 - i)) : CoS L S (i + 1) := fun k hk => by
  by_cases e : k = i
  · subst e; exact g
  · exact h k (by omega)
theorem CoS.all {L S : List Int} (h : CoS L S S.length) (n : Nat) : Co L S n := fun i hi => by
  by_cases h1 : i < S.length
  · have := h (S.length - 1 - i) (by omega)
    rwa [show S.length - 1 - (S.length - 1 - i) = i by omega] at this
  · exact Or.inr (Or.inr (bk_out (by omega)))

attribute [local irreducible] cnt outL Co1 Co BcTo CoS bk

/-- Two lists of dimensions, the first ones of which may be. -/
def Two (xa xb : List Int) (k : Nat) : Prop := (1 ≤ k → (cnt xa).2 = 0) ∧ (2 ≤ k → (cnt xb).2 = 0)

end Go.Proofs.YtagiipecfdmceaaGreatDoor.Vb

set_option linter.unusedVariables false
namespace Go.Proofs.YtagiipecfdmceaaGreatDoor.Vb
open Go.RowKit Vx Vx.Vw

/-- What has come, from the back. -/
def RbTo (a b : List Int) (n k : Nat) (xs : List Int) : Prop := xs.length = n ∧ ∀ i, i < k → xs.getD (n - 1 - i) 0 = (outL a b).getD (n - 1 - i) 0

theorem RbTo.len {a b xs : List Int} {n k : Nat} (h : RbTo a b n k xs) : xs.length = n := h.1
theorem RbTo.zero (a b : List Int) (n : Nat) : RbTo a b n 0 (List.replicate n 0) := ⟨by simp, fun i hi => by omega⟩
theorem RbTo.step {a b xs : List Int} {n k p : Nat} (h : RbTo a b n k xs) (hn : n = max a.length b.length) (hk : k < n) (hp : p = n - 1 - k) : RbTo a b n (k + 1) (xs.set p (max (bk a k) (bk b k))) := by
  refine ⟨by rw [List.length_set]; exact h.1, fun i hi => ?_⟩
  by_cases e : i = k
  · subst e
    rw [outL_get (by omega), ← hn, show n - 1 - (n - 1 - i) = i by omega, hp]
    have hlt : n - 1 - i < xs.length := by have := h.1; omega
    simp [List.getD, hlt]
  · have : (xs.set p (max (bk a k) (bk b k))).getD (n - 1 - i) 0 = xs.getD (n - 1 - i) 0 := by simp [List.getD, List.getElem?_set_ne (show p ≠ n - 1 - i by omega)]
    rw [this]; exact h.2 i (by omega)
theorem RbTo.all {a b xs : List Int} {n : Nat} (h : RbTo a b n n xs) (hn : n = max a.length b.length) : xs = outL a b := by
  refine List.ext_getElem (by rw [h.1, outL_length, hn]) fun j h1 h2 => ?_
  have := h.2 (n - 1 - j) (by have := h.1; omega)
  rw [show n - 1 - (n - 1 - j) = j by have := h.1; omega] at this
  simpa [List.getD, List.getElem?_eq_getElem h1, List.getElem?_eq_getElem h2] using this
theorem Co.zero (a b : List Int) : Co a b 0 := fun i hi => by omega
theorem Co.next {a b : List Int} {k : Nat} (h : Co a b k) (g : Co1 a b k) : Co a b (k + 1) := fun i hi => by
  by_cases e : i = k
  · subst e; exact g
  · exact h i (by omega)
attribute [local irreducible] cnt outL Co1 Co bk RbTo

end Go.Proofs.YtagiipecfdmceaaGreatDoor.Vb

set_option linter.unusedVariables false
namespace Go.Proofs.YtagiipecfdmceaaGreatDoor.Vx
open Go.RowKit Vw

/-- A box of three cells. -/
def Box3 (W : World) (b : Nat) (x y z : Value) : Prop := W.heap[b]? = some (.cells #[x, y, z] 73 (0, 0))

theorem Box3.frozen {W : World} {b : Nat} {x y z : Value} (h : Box3 W b x y z) (j : Nat) : W.frozen? ⟨b, j, none⟩ = false := by simp [World.frozen?, show W.heap[b]? = _ from h]
theorem Box3.c0 {W : World} {b : Nat} {x y z : Value} (h : Box3 W b x y z) : W.cell? ⟨b, 0, none⟩ = some x := by simp [World.cell?, show W.heap[b]? = _ from h]
theorem Box3.c1 {W : World} {b : Nat} {x y z : Value} (h : Box3 W b x y z) : W.cell? ⟨b, 1, none⟩ = some y := by simp [World.cell?, show W.heap[b]? = _ from h]
theorem Box3.c2 {W : World} {b : Nat} {x y z : Value} (h : Box3 W b x y z) : W.cell? ⟨b, 2, none⟩ = some z := by simp [World.cell?, show W.heap[b]? = _ from h]
theorem Box3.modify {W : World} {b : Nat} {x y z : Value} (h : Box3 W b x y z) (j : Nat) (v : Value) : (W.setCell ⟨b, j, none⟩ v).heap[b]? = some (.cells (#[x, y, z].setIfInBounds j v) 73 (0, 0)) := by
  obtain ⟨hlt, hk⟩ := Array.getElem?_eq_some_iff.1 h
  show (W.heap.modify b _)[b]? = _
  rw [Array.getElem?_eq_getElem (by rw [Array.size_modify]; exact hlt), Array.getElem_modify_self, hk]
  rfl
theorem Box3.set0 {W : World} {b : Nat} {x y z : Value} (h : Box3 W b x y z) (v : Value) : Box3 (W.setCell ⟨b, 0, none⟩ v) b v y z := h.modify 0 v
theorem Box3.set1 {W : World} {b : Nat} {x y z : Value} (h : Box3 W b x y z) (v : Value) : Box3 (W.setCell ⟨b, 1, none⟩ v) b x v z := h.modify 1 v
theorem Box3.set2 {W : World} {b : Nat} {x y z : Value} (h : Box3 W b x y z) (v : Value) : Box3 (W.setCell ⟨b, 2, none⟩ v) b x y v := h.modify 2 v
theorem Box3.new (W : World) (x y z : Value) : Box3 (W.alloc (.cells #[x, y, z] 73)) W.heap.size x y z := World.alloc_heap_new W _
theorem Box3.lt {W : World} {b : Nat} {x y z : Value} (h : Box3 W b x y z) : b < W.heap.size := (Array.getElem?_eq_some_iff.1 h).1
theorem Box3.below {W W' : World} {b : Nat} {x y z : Value} (h : Box3 W b x y z) (hb : Below W.heap.size W W') : Box3 W' b x y z := (hb.block b h.lt).trans h

/-- A view stored into a box. -/
def put3 (W : World) (b : Nat) (x y z : Value) : World := ((W.setCell ⟨b, 0, none⟩ x).setCell ⟨b, 1, none⟩ y).setCell ⟨b, 2, none⟩ z
theorem Box3.put {W : World} {b : Nat} {x y z : Value} (h : Box3 W b x y z) (x' y' z' : Value) : Box3 (put3 W b x' y' z') b x' y' z' := ((h.set0 x').set1 y').set2 z'
theorem below_put {n : Nat} {A W : World} {b : Nat} {x y z : Value} (h : Below n A W) (hb : n ≤ b) : Below n A (put3 W b x y z) :=
  ((h.setCell (p := ⟨b, 0, none⟩) hb _).setCell (p := ⟨b, 1, none⟩) hb _).setCell (p := ⟨b, 2, none⟩) hb _
theorem put_other {W : World} {b k : Nat} {x y z : Value} (h : k ≠ b) : (put3 W b x y z).heap[k]? = W.heap[k]? :=
  (Below.heap_setCell _ _ _ k h).trans ((Below.heap_setCell _ _ _ k h).trans (Below.heap_setCell _ _ _ k h))

/-- What is the call's own stays so while a box below it is written. -/
theorem Fresh.put {B B' : Nat} {w : World} {v : Value} {zs : List Int} {b : Nat} {x y z : Value} (h : Fresh B w v zs) (hb : b < B) (hB : B' ≤ B) : Fresh B' (put3 w b x y z) v zs := by
  rcases h with h | ⟨g, cap, cur, e, hg, hh, r⟩
  · exact Or.inl h
  · exact Or.inr ⟨g, cap, cur, e, by omega, (put_other (by omega)).trans hh, r⟩

/-- What comes out as a view and an error. -/
def ViewOut (w : World) (o : Int × Int × List Int × List Int) (e : Ending) (w' : World) : Prop :=
  Below w.heap.size w w' ∧ ((o.1 ≠ 0 ∧ e = .returned (.tuple #[.agg #[.int .i64 0, .slice none 0 0, .slice none 0 0], .int .i64 o.1])) ∨
    (o.1 = 0 ∧ ∃ d s, e = .returned (.tuple #[.agg #[.int .i64 o.2.1, d, s], .int .i64 0]) ∧ Fresh w.heap.size w' d o.2.2.1 ∧ Fresh w.heap.size w' s o.2.2.2))

def wholeO (zs : List Int) : Int × Int × List Int × List Int := if (cnt zs).2 = 0 then (0, 0, zs, strd zs) else ((cnt zs).2, 0, [], [])

attribute [local irreducible] cnt strd

set_option maxHeartbeats 1000000 in
theorem whole_any {w : World} {v : Value} {zs : List Int} (h : IntsIn w v zs) : Calls Tryz.prog 34 #[v] w (ViewOut w (wholeO zs)) := by
  obtain ⟨a1, c1, rfl⟩ := h.form
  have hA : Below w.heap.size w (w.alloc (.cells #[.int .i64 0, .slice none 0 0, .slice none 0 0] 73)) := (Below.refl _ w).alloc (Nat.le_refl _) _
  have HS := Lib.hid (strides_any (h.below hA))
  have hbox : Hid ((w.alloc (.cells #[.int .i64 0, .slice none 0 0, .slice none 0 0] 73)).heap[w.heap.size]? = some (.cells #[.int .i64 0, .slice none 0 0, .slice none 0 0] 73 (0, 0))) := Lib.hid (World.alloc_heap_new w _)
  have HA := Lib.hid hA
  have HI := Lib.hid (h.below hA)
  clear hA
  go_enter Tryz.func34, Tryz.ntmps34
  go_wp2_with fail
  refine HS.out.mono ?_
  rintro e w1 ⟨hB1, (⟨hne, rfl⟩ | ⟨he, s, rfl, hf⟩)⟩
  · have hb1 : Box3 w1 w.heap.size (.int .i64 0) (.slice none 0 0) (.slice none 0 0) := (Box3.new w _ _ _).below hB1
    have k0 := hb1.c0
    have k1 := hb1.c1
    have k2 := hb1.c2
    have f0 := hb1.frozen 0
    have f1 := hb1.frozen 1
    have f2 := hb1.frozen 2
    generalize hcc : (cnt zs).2 = cc at *
    have hO : Hid (wholeO zs = (cc, 0, [], [])) := Lib.hid (by unfold wholeO; rw [hcc, if_neg hne])
    have hp : Hid (Box3 (put3 w1 w.heap.size (.int .i64 0) (.slice none 0 0) (.slice none 0 0)) w.heap.size (.int .i64 0) (.slice none 0 0) (.slice none 0 0)) := Lib.hid (hb1.put _ _ _)
    have hbl : Hid (Below w.heap.size w (put3 w1 w.heap.size (.int .i64 0) (.slice none 0 0) (.slice none 0 0))) := Lib.hid (below_put (HA.out.trans (hB1.mono (by simp))) (Nat.le_refl _))
    have hNE := Lib.hid hne
    clear hb1 hcc
    have hcb : (cc != 0) = true := by simpa using hne
    go_wp2
    have c0 := hp.out.c0
    have c1' := hp.out.c1
    have c2 := hp.out.c2
    unfold put3 at c0 c1' c2
    exact bodyPost_ret (v := .tuple #[.agg #[.int .i64 0, .slice none 0 0, .slice none 0 0], .int .i64 cc]) (by simp [results, Tryz.f34, go_sem, c0, c1', c2]) rfl ⟨hbl.out, by rw [hO.out]; exact Or.inl ⟨hNE.out, rfl⟩⟩
  · have hO : Hid (wholeO zs = (0, 0, zs, strd zs)) := Lib.hid (by unfold wholeO; rw [if_pos he])
    have HC := Lib.hid (clone_any (HI.out.below hB1))
    have hb1 := Lib.hid ((Box3.new w (.int .i64 0) (.slice none 0 0) (.slice none 0 0)).below hB1)
    have hF := Lib.hid hf
    obtain ⟨av, cs, rfl⟩ := hf.form
    have HB1 := Lib.hid hB1
    clear hf hB1 he
    go_wp2_with fail
    refine HC.out.mono ?_
    rintro e w2 ⟨d, rfl, hfd, hB2⟩
    obtain ⟨ad, cd, rfl⟩ := hfd.form
    have hb2 := hb1.out.below hB2
    have k0 := hb2.c0
    have k1 := hb2.c1
    have k2 := hb2.c2
    have f0 := hb2.frozen 0
    have f1 := hb2.frozen 1
    have f2 := hb2.frozen 2
    have hp : Hid (Box3 (put3 w2 w.heap.size (.int .i64 0) (.slice ad zs.length cd) (.slice av (strd zs).length cs)) w.heap.size (.int .i64 0) (.slice ad zs.length cd) (.slice av (strd zs).length cs)) := Lib.hid (hb2.put _ _ _)
    have hz1 : w.heap.size < w1.heap.size := by have := HB1.out.size; simp at this; omega
    have hz2 : w1.heap.size ≤ w2.heap.size := hB2.size
    have hbl : Hid (Below w.heap.size w (put3 w2 w.heap.size (.int .i64 0) (.slice ad zs.length cd) (.slice av (strd zs).length cs))) := Lib.hid (below_put ((HA.out.trans (HB1.out.mono (by simp))).trans (hB2.mono (by omega))) (Nat.le_refl _))
    have hd2 : Hid (Fresh w.heap.size (put3 w2 w.heap.size (.int .i64 0) (.slice ad zs.length cd) (.slice av (strd zs).length cs)) (.slice ad zs.length cd) zs) := Lib.hid (hfd.put (by omega) (by omega))
    have hs2 : Hid (Fresh w.heap.size (put3 w2 w.heap.size (.int .i64 0) (.slice ad zs.length cd) (.slice av (strd zs).length cs)) (.slice av (strd zs).length cs) (strd zs)) := Lib.hid ((hF.out.below hB2).put (B' := w.heap.size) (by simp) (by simp))
    clear hb2 hfd hB2
    go_wp2
    have c0 := hp.out.c0
    have c1' := hp.out.c1
    have c2 := hp.out.c2
    have hbl2 := hbl.out
    have hd3 := hd2.out
    have hs3 := hs2.out
    unfold put3 at c0 c1' c2 hbl2 hd3 hs3
    exact bodyPost_ret (v := .tuple #[.agg #[.int .i64 0, .slice ad zs.length cd, .slice av (strd zs).length cs], .int .i64 0]) (by simp [results, Tryz.f34, go_sem, c0, c1', c2]) rfl ⟨hbl2, by rw [hO.out]; exact Or.inr ⟨rfl, _, _, rfl, hd3, hs3⟩⟩

end Go.Proofs.YtagiipecfdmceaaGreatDoor.Vx

set_option linter.unusedVariables false
namespace Go.Proofs.YtagiipecfdmceaaGreatDoor.Vx
open Go.RowKit Vw Vb

/-- The strides of a view that is spread. -/
def spA (ds ss W : List Int) (j : Nat) : Int := if W.length - ds.length ≤ j ∧ ds.getD (j - (W.length - ds.length)) 0 = W.getD j 0 then ss.getD (j - (W.length - ds.length)) 0 else 0
def spS (ds ss W : List Int) : List Int := (List.range W.length).map (spA ds ss W)
theorem spS_length (ds ss W : List Int) : (spS ds ss W).length = W.length := by simp [spS]
theorem spS_get {ds ss W : List Int} {j : Nat} (h : j < W.length) : (spS ds ss W).getD j 0 = spA ds ss W j := by simp [spS, List.getD, h]

/-- What comes out of Spread. -/
def spO (off : Int) (ds ss W : List Int) : Int × Int × List Int × List Int :=
  if mayV off ds ss = false then (1, 0, [], []) else if (bcO ds W).1 ≠ 0 then ((bcO ds W).1, 0, [], []) else if (bcO ds W).2 ≠ W then (4, 0, [], []) else (0, off, W, spS ds ss W)

/-- The strides, so far. -/
def SpTo (ds ss W : List Int) (i : Nat) (xs : List Int) : Prop := xs.length = W.length ∧ (∀ j, j < W.length - ds.length + i → j < W.length → xs.getD j 0 = spA ds ss W j) ∧ (∀ j, W.length - ds.length + i ≤ j → xs.getD j 0 = 0)

theorem SpTo.len {ds ss W xs : List Int} {i : Nat} (h : SpTo ds ss W i xs) : xs.length = W.length := h.1
theorem SpTo.zero (ds ss W : List Int) : SpTo ds ss W 0 (List.replicate W.length 0) := by
  have hz : ∀ j, (List.replicate W.length (0 : Int)).getD j 0 = 0 := fun j => by
    by_cases h : j < W.length
    · simp [List.getD, h]
    · simp [List.getD, h]
  refine ⟨by simp, fun j hj _ => ?_, fun j _ => hz j⟩
  rw [hz]; unfold spA; rw [if_neg (by omega)]
theorem SpTo.put {ds ss W xs : List Int} {i : Nat} (h : SpTo ds ss W i xs) (hl : ds.length ≤ W.length) (hi : i < ds.length) (e : ds.getD i 0 = W.getD (W.length - ds.length + i) 0) : SpTo ds ss W (i + 1) (xs.set (W.length - ds.length + i) (ss.getD i 0)) := by
  refine ⟨by rw [List.length_set]; exact h.1, fun j hj hjW => ?_, fun j hj => ?_⟩
  · by_cases ej : j = W.length - ds.length + i
    · subst ej
      have hlt : W.length - ds.length + i < xs.length := by rw [h.1]; exact hjW
      unfold spA
      rw [if_pos ⟨by omega, by rw [show W.length - ds.length + i - (W.length - ds.length) = i by omega]; exact e⟩, show W.length - ds.length + i - (W.length - ds.length) = i by omega]
      simp [List.getD, hlt]
    · have : (xs.set (W.length - ds.length + i) (ss.getD i 0)).getD j 0 = xs.getD j 0 := by simp [List.getD, List.getElem?_set_ne (Ne.symm ej)]
      rw [this]; exact h.2.1 j (by omega) hjW
  · have : (xs.set (W.length - ds.length + i) (ss.getD i 0)).getD j 0 = xs.getD j 0 := by simp [List.getD, List.getElem?_set_ne (show W.length - ds.length + i ≠ j by omega)]
    rw [this]; exact h.2.2 j (by omega)
theorem SpTo.all {ds ss W xs : List Int} (h : SpTo ds ss W ds.length xs) (hl : ds.length ≤ W.length) : xs = spS ds ss W := by
  refine List.ext_getElem (by rw [h.1, spS_length]) fun j h1 h2 => ?_
  have hj : j < W.length := by rw [← h.1]; exact h1
  have := h.2.1 j (by omega) hj
  rw [← spS_get hj] at this
  simpa [List.getD, List.getElem?_eq_getElem h1, List.getElem?_eq_getElem h2] using this

attribute [local irreducible] cnt mayV bcO outL spS spA SpTo spO

end Go.Proofs.YtagiipecfdmceaaGreatDoor.Vx

set_option linter.unusedVariables false
namespace Go.Proofs.YtagiipecfdmceaaGreatDoor.Vx
open Go.RowKit Vw Vb

theorem strd_le : ∀ {zs : List Int}, (∀ d ∈ zs, 1 ≤ d ∧ d ≤ 65536) → pr zs ≤ 65536 → ∀ z ∈ strd zs, 1 ≤ z ∧ z ≤ 65536
  | [], _, _, z, hz => by simp [strd] at hz
  | d :: ds, h, g, z, hz => by
    have hp : Pos ds := fun x hx => (h x (List.mem_cons_of_mem _ hx)).1
    have h1 := pr_pos hp
    have hd := (h d (List.mem_cons_self ..)).1
    rw [pr] at g
    have h2 : pr ds ≤ 65536 := by
      have := Int.mul_le_mul_of_nonneg_right hd (by omega : 0 ≤ pr ds)
      rw [Int.one_mul] at this
      omega
    rw [strd] at hz
    rcases List.mem_cons.1 hz with rfl | hz
    · exact ⟨h1, h2⟩
    · exact strd_le (fun x hx => h x (List.mem_cons_of_mem _ hx)) h2 z hz
def Val : List Int → List Int → Prop
  | [], [] => True
  | d :: ds, c :: cs => (0 ≤ c ∧ c < d) ∧ Val ds cs
  | _, _ => False
theorem val_plc : ∀ {ds cs : List Int}, Pos ds → Val ds cs → (0 ≤ plc (strd ds) cs ∧ plc (strd ds) cs < pr ds) ∧ crd ds (plc (strd ds) cs) = cs
  | [], [], _, _ => by simp [strd, plc, pr, crd]
  | [], _ :: _, _, h => h.elim
  | _ :: _, [], _, h => h.elim
  | d :: ds, c :: cs, hp, h => by
    obtain ⟨⟨h1, h2⟩, h3⟩ := h
    obtain ⟨⟨i1, i2⟩, i3⟩ := val_plc hp.tail h3
    have hpp := pr_pos hp.tail
    simp only [strd, plc, pr, crd]
    generalize plc (strd ds) cs = r at *
    generalize pr ds = P at *
    have m1 : 0 ≤ c * P := Int.mul_nonneg h1 (by omega)
    have m2 : (c + 1) * P ≤ d * P := Int.mul_le_mul_of_nonneg_right (by omega) (by omega)
    rw [Int.add_mul, Int.one_mul] at m2
    have e1 : (c * P + r) / P = c := by
      rw [Int.add_comm, Int.add_mul_ediv_right _ _ (by omega), Int.ediv_eq_zero_of_lt i1 i2]; omega
    have e2 : (c * P + r) % P = r := by
      rw [Int.add_comm, Int.add_mul_emod_self_right, Int.emod_eq_of_lt i1 i2]
    rw [e1, e2, i3]
    exact ⟨⟨by omega, by omega⟩, rfl⟩
theorem crd_val : ∀ {ds : List Int} {k : Int}, Pos ds → 0 ≤ k → k < pr ds → Val ds (crd ds k)
  | [], k, _, _, _ => trivial
  | d :: ds, k, hp, h0, h1 => by
    have hpp := pr_pos hp.tail
    simp only [pr] at h1
    refine ⟨⟨Int.ediv_nonneg h0 (by omega), Int.ediv_lt_of_lt_mul (by omega) h1⟩, ?_⟩
    exact crd_val hp.tail (Int.emod_nonneg k (by omega)) (Int.emod_lt_of_pos k (by omega))
def ownc : List Int → List Int → List Int
  | d :: ds, c :: cs => (if d = 1 then 0 else c) :: ownc ds cs
  | _, _ => []
def Cmp : List Int → List Int → Prop
  | [], [] => True
  | d :: ds, w :: ws => (d = w ∨ d = 1) ∧ Cmp ds ws
  | _, _ => False
theorem ownc_val : ∀ {ds ws cs : List Int}, Cmp ds ws → Val ws cs → Val ds (ownc ds cs)
  | [], [], [], _, _ => trivial
  | d :: ds, w :: ws, c :: cs, h1, h2 => by
    refine ⟨?_, ownc_val h1.2 h2.2⟩
    obtain ⟨g1, g2⟩ := h2.1
    by_cases f : d = 1
    · rw [if_pos f]; omega
    · rw [if_neg f]
      have := h1.1.resolve_right f
      omega
  | [], _ :: _, _, h, _ => h.elim
  | _ :: _, [], _, h, _ => h.elim
  | _, _ :: _, [], _, h => h.elim
  | _, [], _ :: _, _, h => h.elim
theorem cmp_of : ∀ {ds ws : List Int}, ws.length = ds.length → (∀ i, i < ds.length → ds.getD i 0 = ws.getD i 0 ∨ ds.getD i 0 = 1) → Cmp ds ws
  | [], [], _, _ => trivial
  | [], _ :: _, h, _ => by simp at h
  | _ :: _, [], h, _ => by simp at h
  | d :: ds, w :: ws, h, g => ⟨by simpa using g 0 (by simp), cmp_of (by simpa using h) fun i hi => by simpa using g (i + 1) (by simpa using hi)⟩
theorem ownc_self : ∀ {W cs : List Int}, Val W cs → ownc W cs = cs
  | [], [], _ => by simp [ownc]
  | [], _ :: _, h => h.elim
  | _ :: _, [], h => h.elim
  | d :: ds, c :: cs, h => by
    obtain ⟨⟨h1, h2⟩, h3⟩ := h
    rw [ownc, ownc_self h3]
    congr 1
    first | omega | (split <;> omega)

end Go.Proofs.YtagiipecfdmceaaGreatDoor.Vx
