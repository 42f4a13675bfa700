/- The walks of shape.Count and of the reference's Count. -/
import Derived.Test.YtagiipecfdmceaaGreatDoorViewA
import Derived.RangeFuncFrom
import Derived.RangeFuncBox
import Derived.RangeFuncLeaves
import Derived.Shelf.Abstract
import Derived.OwnWalkIn
import Derived.TacticsInMore
import Derived.LoopNIn
import Derived.LoopIn
import Derived.Maps.AppendAt
import Derived.Deep.Draws
import Derived.Sort.QuietIn
import Derived.RegionIn
import Derived.Shelf.RegionOpen
import Derived.Test.YtagiipecfdmceaaGreatDoorShelf
import Derived.Test.YtagiipecfdmceaaGreatDoorSchCo
import Derived.Test.YtagiipecfdmceaaGreatDoorOpen
import Derived.Laws.OwnMore
set_option linter.unusedVariables false
namespace Go.Proofs.YtagiipecfdmceaaGreatDoor.Vx
open Go.RowKit

theorem any_next {zs : List Int} {k : Nat} (h : k < zs.length) (p : Int → Bool) : (zs.drop k).any p = (p (zs.getD k 0) || (zs.drop (k + 1)).any p) := by
  rw [drop_next h]; rfl

theorem cnt_low {zs : List Int} (h : zs.any (fun d => decide (d < 1)) = true) : cnt zs = (0, 4) := by unfold cnt; rw [if_pos h]
theorem cnt_long {zs : List Int} (h : zs.any (fun d => decide (d < 1)) = false) (g : 6 < zs.length) : cnt zs = (0, 6) := by
  unfold cnt; rw [h, if_neg (by decide), if_pos g]
theorem cnt_loop {zs : List Int} (h : zs.any (fun d => decide (d < 1)) = false) (g : ¬ 6 < zs.length) : cnt zs = cntLoop 1 zs := by
  unfold cnt; rw [h, if_neg (by decide), if_neg g]
theorem low_not {zs : List Int} (h : zs.any (fun d => decide (d < 1)) = false) {k : Nat} (hk : k < zs.length) : 1 ≤ zs.getD k 0 := by
  have := List.any_eq_false.1 h _ (getD_mem hk)
  simpa using this
theorem any_end {zs : List Int} {k : Nat} (p : Int → Bool) (h : ¬ k < zs.length) : (zs.drop k).any p = false := by
  rw [List.drop_eq_nil_of_le (by omega)]; rfl
theorem loop_next {zs : List Int} {k : Nat} {n : Int} (h : k < zs.length) : cntLoop n (zs.drop k) = if 65536 < n * zs.getD k 0 then (0, 6) else cntLoop (n * zs.getD k 0) (zs.drop (k + 1)) := by
  rw [drop_next h]; rfl
theorem loop_end {zs : List Int} {k : Nat} {n : Int} (h : ¬ k < zs.length) : cntLoop n (zs.drop k) = (n, 0) := by
  rw [List.drop_eq_nil_of_le (by omega)]; rfl

theorem mul_big {n d : Int} (h1 : 1 ≤ n) (h : 65536 < d) : 65536 < n * d := by
  have : 1 * d ≤ n * d := Int.mul_le_mul_of_nonneg_right h1 (by omega)
  omega
theorem mul_pos' {n d : Int} (h1 : 1 ≤ n) (h : 1 ≤ d) : 1 ≤ n * d := by
  have : 1 * 1 ≤ n * d := Int.mul_le_mul h1 h (by decide) (by omega)
  omega
theorem mul_top {n d : Int} (h1 : 1 ≤ n) (h2 : n ≤ 65536) (h3 : 1 ≤ d) (h : d ≤ 65536) : n * d ≤ 4294967296 := by
  have : n * d ≤ 65536 * 65536 := Int.mul_le_mul h2 h (by omega) (by omega)
  omega

attribute [local irreducible] cnt cntLoop

/-! ### shape.Count -/

def LowF (fn : Value) (p : Int → Bool) : Prop := (fn = .func (.func 58) #[] #[] ∧ p = fun d => decide (d < 1)) ∨ (fn = .func (.func 141) #[] #[] ∧ p = fun d => decide (d < 0 ∨ 65536 < d))

/-- The number of the first that a test holds of, or -1. -/
def fidx (p : Int → Bool) (zs : List Int) : Int := if zs.any p then (zs.findIdx p : Int) else -1

theorem findIdx_at {p : Int → Bool} {zs : List Int} {k : Nat} (hk : k < zs.length) (h : (zs.take k).any p = false) (g : p (zs.getD k 0) = true) : fidx p zs = k := by
  have e : zs = zs.take k ++ zs.getD k 0 :: zs.drop (k + 1) := by rw [← drop_next hk, List.take_append_drop]
  have ha : zs.any p = true := List.any_eq_true.2 ⟨_, getD_mem hk, g⟩
  unfold fidx
  rw [if_pos ha]
  have h3 : zs.findIdx p = k := by
    rw [List.findIdx_eq (by omega)]
    have h5 : zs[k] = zs.getD k 0 := by simp [List.getD, List.getElem?_eq_getElem hk]
    refine ⟨by rw [h5]; exact g, fun j hj => ?_⟩
    have h4 := List.any_eq_false.1 h (zs[j]'(by omega)) (by
      rw [List.mem_take_iff_getElem]
      exact ⟨j, by omega, rfl⟩)
    simpa using h4
  rw [h3]

theorem take_any_next {p : Int → Bool} {zs : List Int} {k : Nat} (hk : k < zs.length) (h : (zs.take k).any p = false) (g : p (zs.getD k 0) = false) : (zs.take (k + 1)).any p = false := by
  rw [List.take_add_one, List.any_append, h]
  have h5 : zs[k]? = some (zs.getD k 0) := by simp [List.getD, List.getElem?_eq_getElem hk]
  rw [h5]
  simpa using g

set_option maxHeartbeats 1000000 in
theorem indexLow_row (b off cap : Nat) (zs : List Int) (hlen : zs.length * 8 ≤ 140737488351232) (hw : Hid (∀ z ∈ zs, InI z)) (w : World) (hr : Hid (Reads w b off zs)) (fn : Value) (p : Int → Bool) (hp : LowF fn p) :
    Calls Tryz.prog 113 #[.slice (some ⟨b, off, none⟩) zs.length cap, fn] w fun e w' => e = .returned (.int .i64 (fidx p zs)) ∧ w = w' := by
  rcases hp with ⟨rfl, hp⟩ | ⟨rfl, hp⟩
  all_goals
    have HP := Lib.hid hp
    clear hp
    go_enter Tryz.func113, Tryz.ntmps113
    go_wp2
    go_loop [8] (fun i => ∃ k : Nat, k ≤ zs.length ∧ i = .int .i64 (k : Int) ∧ Hid ((zs.take k).any p = false)) (fun i => zs.length - (intOf i).toNat)
    case atStart => exact ⟨0, Nat.zero_le _, rfl, Lib.hid (by simp)⟩
    case round =>
      obtain ⟨k, hk, rfl, hany⟩ := hrel
      by_cases hkl : k < zs.length
      · have hcx := hr.out k hkl
        have hn := Lib.hid (@findIdx_at p _ _ hkl hany.out)
        have hn2 := Lib.hid (@take_any_next p _ _ hkl hany.out)
        have hI := (hw.out _ (getD_mem hkl)).1
        have hI2 := (hw.out _ (getD_mem hkl)).2
        generalize zs.getD k 0 = z at *
        go_wp2
        all_goals first
          | (go_ret
             refine ⟨ret_val (int_val ?_), rfl⟩
             exact (hn.out (by rw [HP.out]; simp; omega)).symm)
          | (go_round
             case rel => exact ⟨k + 1, by omega, by go_num, Lib.hid (hn2.out (by rw [HP.out]; simp; omega))⟩
             case measure => simp [intOf]; omega)
      · have ek : k = zs.length := by omega
        have e : Hid (fidx p zs = -1) := Lib.hid (by
          have := hany.out
          rw [ek, List.take_length] at this
          unfold fidx; rw [this]; rfl)
        go_wp2
        go_ret
        exact ⟨ret_val (int_val e.out.symm), rfl⟩

theorem indexLow_empty (a0 : Option Addr) (cap : Nat) (w : World) (fn : Value) (p : Int → Bool) (hp : LowF fn p) :
    Calls Tryz.prog 113 #[.slice a0 0 cap, fn] w fun e w' => e = .returned (.int .i64 (fidx p [])) ∧ w = w' := by
  have e : fidx p [] = -1 := rfl
  rw [e]
  rcases hp with ⟨rfl, hp⟩ | ⟨rfl, hp⟩
  all_goals
    go_enter Tryz.func113, Tryz.ntmps113
    go_wp2
    go_rounds 1
    go_ret
    exact ⟨rfl, rfl⟩

theorem indexLow_any {w : World} {v : Value} {zs : List Int} (h : IntsIn w v zs) (fn : Value) (p : Int → Bool) (hp : LowF fn p) :
    Calls Tryz.prog 113 #[v, fn] w fun e w' => e = .returned (.int .i64 (fidx p zs)) ∧ w = w' := by
  cases h with
  | empty a0 cap => exact indexLow_empty a0 cap w fn p hp
  | row b off cap _ h0 hc hb hr hlen hw => exact indexLow_row b off cap zs hlen (Lib.hid hw) w (Lib.hid hr) fn p hp

theorem fidx_ge (p : Int → Bool) (zs : List Int) : decide (0 ≤ fidx p zs) = zs.any p := by
  unfold fidx
  cases zs.any p
  · rfl
  · simp

theorem containsLow_any {w : World} {v : Value} {zs : List Int} (h : IntsIn w v zs) (fn : Value) (p : Int → Bool) (hp : LowF fn p) :
    Calls Tryz.prog 57 #[v, fn] w fun e w' => e = .returned (.bool (zs.any p)) ∧ w = w' := by
  have H := Lib.hid (indexLow_any h fn p hp)
  have hg := Lib.hid (fidx_ge p zs)
  go_enter Tryz.func57, Tryz.ntmps57
  go_wp2_with (go_at_call 113; refine H.out.mono ?_; rintro e w' ⟨rfl, rfl⟩)
  go_ret
  refine ⟨ret_val (bool_val ?_), rfl⟩
  have := hg.out
  simpa using this

set_option maxHeartbeats 1000000 in
theorem count_row (b off cap : Nat) (zs : List Int) (hlen : zs.length * 8 ≤ 140737488351232) (hw : Hid (∀ z ∈ zs, InI z)) (w : World) (hr : Hid (Reads w b off zs)) (hin : Hid (IntsIn w (.slice (some ⟨b, off, none⟩) zs.length cap) zs)) :
    Calls Tryz.prog 27 #[.slice (some ⟨b, off, none⟩) zs.length cap] w fun e w' => e = .returned (.tuple #[.int .i64 (cnt zs).1, .int .i64 (cnt zs).2]) ∧ w = w' := by
  have H := Lib.hid (containsLow_any hin.out (.func (.func 58) #[] #[]) _ (Or.inl ⟨rfl, rfl⟩))
  cases hb1 : zs.any (fun d => decide (d < 1))
  · rw [hb1] at H
    by_cases h6 : 6 < zs.length
    · have e : cnt zs = (0, 6) := cnt_long hb1 h6
      rw [e]
      clear hb1
      go_enter Tryz.func27, Tryz.ntmps27
      go_wp2_with (go_at_call 57; refine H.out.mono ?_; rintro e w' ⟨rfl, rfl⟩)
      go_ret2
      exact ⟨rfl, rfl⟩
    · have hlow := Lib.hid hb1
      have h6' : zs.length ≤ 6 := by omega
      clear hb1
      go_enter Tryz.func27, Tryz.ntmps27
      go_wp2_with (go_at_call 57; refine H.out.mono ?_; rintro e w' ⟨rfl, rfl⟩)
      go_loop [4, 14] (fun n i => ∃ (m : Int) (k : Nat), k ≤ zs.length ∧ 1 ≤ m ∧ m ≤ 65536 ∧ n = .int .i64 m ∧ i = .int .i64 (k : Int) ∧ Hid (cnt zs = cntLoop m (zs.drop k))) (fun _ i => zs.length - (intOf i).toNat)
      case atStart => exact ⟨1, 0, Nat.zero_le _, by omega, by omega, rfl, rfl, Lib.hid (by rw [cnt_loop hlow.out (by omega)]; simp)⟩
      case round =>
        obtain ⟨m, k, hk, hm1, hm2, rfl, rfl, hc⟩ := hrel
        by_cases hkl : k < zs.length
        · have hcx := hr.out k hkl
          have hn := Lib.hid (loop_next (n := m) hkl)
          have h1 := low_not hlow.out hkl
          have hI2 := (hw.out _ (getD_mem hkl)).2
          generalize zs.getD k 0 = z at *
          have hq := quo_test (n := m) (d := z) hm1
          rw [Int.tdiv_eq_ediv_of_nonneg (by decide)] at hq
          have hq0 : wrap64 (65536 / m) = 65536 / m := by
            have h3 : 65536 / m ≤ 65536 := Int.ediv_le_self _ (by decide)
            have h4 : 0 ≤ 65536 / m := Int.ediv_nonneg (by decide) (by omega)
            unfold wrap64; omega
          have hm0 : (m == 0) = false := by simp; omega
          by_cases hb2 : 65536 < m * z
          · have e : Hid (cnt zs = (0, 6)) := Lib.hid (by rw [hc.out, hn.out, if_pos hb2])
            have hlt : 65536 / m < z := hq.2 hb2
            clear hq hb2
            skip
            go_wp2
            go_ret2
            exact ⟨ret2_val (int_val (by rw [e.out])) (int_val (by rw [e.out])), rfl⟩
          · have e : Hid (cnt zs = cntLoop (m * z) (zs.drop (k + 1))) := Lib.hid (by rw [hc.out, hn.out, if_neg hb2])
            have hp := mul_pos' hm1 h1
            have hle : ¬ 65536 / m < z := fun h => hb2 (hq.1 h)
            clear hq
            skip
            go_wp2
            go_round
            case rel => exact ⟨m * z, k + 1, by omega, hp, by omega, by go_num, by go_num, e⟩
            case measure => simp [intOf]; omega
        · have e : Hid (cnt zs = (m, 0)) := Lib.hid (by rw [hc.out, loop_end hkl])
          have ek : k = zs.length := by omega
          go_wp2
          go_ret2
          exact ⟨ret2_val (int_val (by rw [e.out])) (int_val (by rw [e.out])), rfl⟩
  · rw [hb1] at H
    have e : cnt zs = (0, 4) := cnt_low hb1
    rw [e]
    clear hb1
    go_enter Tryz.func27, Tryz.ntmps27
    go_wp2_with (go_at_call 57; refine H.out.mono ?_; rintro e w' ⟨rfl, rfl⟩)
    go_ret2
    exact ⟨rfl, rfl⟩

theorem count_empty (a0 : Option Addr) (cap : Nat) (w : World) :
    Calls Tryz.prog 27 #[.slice a0 0 cap] w fun e w' => e = .returned (.tuple #[.int .i64 (cnt []).1, .int .i64 (cnt []).2]) ∧ w = w' := by
  have H := Lib.hid (containsLow_any (IntsIn.empty (w := w) a0 cap) (.func (.func 58) #[] #[]) _ (Or.inl ⟨rfl, rfl⟩))
  have e : cnt [] = (1, 0) := by unfold cnt; unfold cntLoop; decide
  rw [e]
  rw [show ([] : List Int).any (fun d => decide (d < 1)) = false from rfl] at H
  go_enter Tryz.func27, Tryz.ntmps27
  go_wp2_with (go_at_call 57; refine H.out.mono ?_; rintro e w' ⟨rfl, rfl⟩)
  go_rounds 1
  go_ret2
  exact ⟨rfl, rfl⟩

/-- COUNT. -/
theorem count_any {w : World} {v : Value} {zs : List Int} (h : IntsIn w v zs) :
    Calls Tryz.prog 27 #[v] w fun e w' => e = .returned (.tuple #[.int .i64 (cnt zs).1, .int .i64 (cnt zs).2]) ∧ w = w' := by
  have h' := h
  cases h with
  | empty a0 cap => exact count_empty a0 cap w
  | row b off cap _ h0 hc hb hr hlen hw => exact count_row b off cap zs hlen (Lib.hid hw) w (Lib.hid hr) (Lib.hid h')

end Go.Proofs.YtagiipecfdmceaaGreatDoor.Vx

set_option linter.unusedVariables false
namespace Go.Proofs.YtagiipecfdmceaaGreatDoor.Vx
namespace Vw

/-- The product of dimensions. -/
def pr : List Int → Int
  | [] => 1
  | d :: ds => d * pr ds

/-- The coordinates of element k. -/
def crd : List Int → Int → List Int
  | [], _ => []
  | _ :: ds, k => k / pr ds :: crd ds (k % pr ds)

/-- Where coordinates come to. -/
def plc : List Int → List Int → Int
  | s :: ss, c :: cs => c * s + plc ss cs
  | _, _ => 0

def zeros : List Int → List Int
  | [] => []
  | _ :: ds => 0 :: zeros ds

/-- The next coordinates. -/
def nxt : List Int → List Int → Option (List Int)
  | d :: ds, c :: cs => match nxt ds cs with
    | some t => some (c :: t)
    | none => if c + 1 < d then some ((c + 1) :: zeros ds) else none
  | _, _ => none

def Pos (ds : List Int) : Prop := ∀ d ∈ ds, 1 ≤ d

theorem Pos.head {d : Int} {ds : List Int} (h : Pos (d :: ds)) : 1 ≤ d := h d (by simp)
theorem Pos.tail {d : Int} {ds : List Int} (h : Pos (d :: ds)) : Pos ds := fun x hx => h x (by simp [hx])

theorem pr_pos : ∀ {ds : List Int}, Pos ds → 1 ≤ pr ds
  | [], _ => by decide
  | d :: ds, h => mul_pos' h.head (pr_pos h.tail)

theorem crd_zero : ∀ {ds : List Int}, crd ds 0 = zeros ds
  | [] => rfl
  | d :: ds => by simp [crd, zeros, crd_zero]

theorem crd_length : ∀ {ds : List Int} {k : Int}, (crd ds k).length = ds.length
  | [], _ => rfl
  | d :: ds, k => by simp [crd, crd_length]

theorem zeros_length : ∀ {ds : List Int}, (zeros ds).length = ds.length
  | [] => rfl
  | d :: ds => by simp [zeros, zeros_length]

theorem nxt_crd : ∀ {ds : List Int} {k : Int}, Pos ds → 0 ≤ k → k < pr ds → nxt ds (crd ds k) = if k + 1 < pr ds then some (crd ds (k + 1)) else none
  | [], k, _, h0, h1 => by
    have : k = 0 := by simp [pr] at h1; omega
    subst this
    simp [nxt, pr]
  | d :: ds, k, h, h0, h1 => by
    have hP := pr_pos h.tail
    have hd := h.head
    have hm0 := Int.emod_nonneg k (show pr ds ≠ 0 by omega)
    have hm1 := Int.emod_lt_of_pos k (show 0 < pr ds by omega)
    have ih := nxt_crd (ds := ds) (k := k % pr ds) h.tail hm0 hm1
    have hdm := Int.mul_ediv_add_emod k (pr ds)
    have hq0 : 0 ≤ k / pr ds := Int.ediv_nonneg h0 (by omega)
    have hqd : k / pr ds < d := Int.ediv_lt_of_lt_mul (by omega) h1
    show (match nxt ds (crd ds (k % pr ds)) with | some t => some (k / pr ds :: t) | none => if k / pr ds + 1 < d then some ((k / pr ds + 1) :: zeros ds) else none) = if k + 1 < d * pr ds then some ((k + 1) / pr ds :: crd ds ((k + 1) % pr ds)) else none
    rw [ih]
    generalize pr ds = P at *
    generalize hq : k / P = q at *
    generalize hr : k % P = r at *
    by_cases g : r + 1 < P
    · rw [if_pos g]
      have e1 : (k + 1) / P = q := by
        rw [← hdm, show P * q + r + 1 = (r + 1) + P * q by omega, Int.add_mul_ediv_left _ _ (by omega), Int.ediv_eq_zero_of_lt (by omega) g]; omega
      have e2 : (k + 1) % P = r + 1 := by
        rw [← hdm, show P * q + r + 1 = (r + 1) + P * q by omega, Int.add_mul_emod_self_left, Int.emod_eq_of_lt (by omega) g]
      have e3 : k + 1 < d * P := by
        have : (q + 1) * P ≤ d * P := Int.mul_le_mul_of_nonneg_right (by omega) (by omega)
        have e4 : (q + 1) * P = P * q + P := by rw [Int.add_mul, Int.mul_comm]; omega
        omega
      rw [if_pos e3, e1, e2]
    · rw [if_neg g]
      have hr1 : r + 1 = P := by omega
      have e0 : k + 1 = P * (q + 1) := by rw [← hdm, Int.mul_add]; omega
      have e1 : (k + 1) / P = q + 1 := by rw [e0, Int.mul_ediv_cancel_left _ (by omega)]
      have e2 : (k + 1) % P = 0 := by rw [e0, Int.mul_emod_right]
      by_cases g2 : q + 1 < d
      · have e3 : k + 1 < d * P := by
          rw [e0, Int.mul_comm]; exact Int.mul_lt_mul_of_pos_right g2 (by omega)
        simp only [if_pos g2, if_pos e3, e1, e2, crd_zero]
      · have e3 : ¬ k + 1 < d * P := by
          have : d * P ≤ (q + 1) * P := Int.mul_le_mul_of_nonneg_right (by omega) (by omega)
          rw [e0, Int.mul_comm P]; omega
        simp only [if_neg g2, if_neg e3]

theorem crd_range : ∀ {ds : List Int} {k : Int}, Pos ds → 0 ≤ k → k < pr ds → ∀ j, j < ds.length → 0 ≤ (crd ds k).getD j 0 ∧ (crd ds k).getD j 0 < ds.getD j 0
  | [], k, _, _, _, j, hj => by simp at hj
  | d :: ds, k, h, h0, h1, j, hj => by
    have hP := pr_pos h.tail
    cases j with
    | zero =>
      show 0 ≤ k / pr ds ∧ k / pr ds < d
      exact ⟨Int.ediv_nonneg h0 (by omega), Int.ediv_lt_of_lt_mul (by omega) h1⟩
    | succ j =>
      have := crd_range (ds := ds) (k := k % pr ds) h.tail (Int.emod_nonneg k (by omega)) (Int.emod_lt_of_pos k (by omega)) j (by simpa using hj)
      simpa [crd] using this

/-- The next coordinates, from a place on. -/
theorem nxt_at : ∀ {ds cs : List Int} {i : Nat} {t : List Int}, cs.length = ds.length → i ≤ ds.length → nxt (ds.drop i) (cs.drop i) = some t → nxt ds cs = some (cs.take i ++ t)
  | ds, cs, 0, t, _, _, h => by simpa using h
  | [], cs, i + 1, t, _, hi, _ => by simp at hi
  | d :: ds, [], i + 1, t, hl, _, _ => by simp at hl
  | d :: ds, c :: cs, i + 1, t, hl, hi, h => by
    have := nxt_at (ds := ds) (cs := cs) (i := i) (t := t) (by simpa using hl) (by simpa using hi) (by simpa using h)
    simp [nxt, this]

theorem nxt_here {ds cs : List Int} {i : Nat} (hl : cs.length = ds.length) (hi : i < ds.length) (h : nxt (ds.drop (i + 1)) (cs.drop (i + 1)) = none) :
    nxt (ds.drop i) (cs.drop i) = if cs.getD i 0 + 1 < ds.getD i 0 then some ((cs.getD i 0 + 1) :: zeros (ds.drop (i + 1))) else none := by
  rw [drop_next hi, drop_next (zs := cs) (by omega)]
  simp only [nxt, h]

/-- Where they come to, in two parts. -/
theorem plc_split : ∀ {ss cs : List Int} {i : Nat}, i ≤ ss.length → i ≤ cs.length → plc ss cs = plc (ss.take i) (cs.take i) + plc (ss.drop i) (cs.drop i)
  | ss, cs, 0, _, _ => by simp [plc]
  | [], _, i + 1, h, _ => by simp at h
  | _ :: _, [], i + 1, _, h => by simp at h
  | s :: ss, c :: cs, i + 1, h, g => by
    have := plc_split (ss := ss) (cs := cs) (i := i) (by simpa using h) (by simpa using g)
    simp only [plc, List.take_succ_cons, List.drop_succ_cons]
    omega

theorem plc_zeros : ∀ {ss ds : List Int}, plc ss (zeros ds) = 0
  | [], _ => by simp [plc]
  | s :: ss, [] => by simp [plc, zeros]
  | s :: ss, d :: ds => by simp [plc, zeros, plc_zeros]

end Vw
end Go.Proofs.YtagiipecfdmceaaGreatDoor.Vx

set_option linter.unusedVariables false
namespace Go.Proofs.YtagiipecfdmceaaGreatDoor.Vx
open Go Go.RowKit

variable {F : Fence} {n : Nat} {P : Program}

/-- A statement on worlds that abides new blocks, and whatever is written into block B. -/
def AbC {β : Type} (B : Nat) (J : β → World → Prop) : Prop :=
  ∀ s A A' row, J s A → A.grownBy A' row → (∀ r, row = some r → r = B) → J s A'

/-- The iterator's contract: called in a world of B blocks it may lay block B and write it between two rounds; 'Kp' is what a round that goes on must keep. -/
def SeqCells (F : Fence) (n : Nat) (P : Program) (g : Nat) (lb : Array Value) (Kp : World → World → Prop) (B : Nat) (all : List Int) (w : World) : Prop :=
  ∀ (l : Nat) (J Jx : List Int → World → Prop) (W : World), Below w.heap.size w W → W.heap.size = B → AbC B J → AbC B Jx →
    (∀ pre x W1, J pre W1 → B < W1.heap.size → (∃ rest, all = pre ++ x :: rest) → YieldAt F (n - 1) P l #[.int .i64 x] W1 fun e W' =>
      (e = .returned (.bool true) ∧ J (pre ++ [x]) W' ∧ Kp W1 W') ∨ (e = .returned (.bool false) ∧ Jx (pre ++ [x]) W')) →
    J [] W →
    CallsIn F n P g (#[.func (.yield l) #[] #[]] ++ lb) W fun e W' => (∃ v, e = .returned v) ∧ (J all W' ∨ ∃ pre, Jx pre W')

/-- How a round's body may end. -/
def bodyEnd (Kp : World → World → Prop) (I Ix : List Int → World → Prop) (xs : List Int) (W : World) : Exit → Act → World → Prop
  | .normal, _, W' => KeepsOthers W W' ∧ Kp W W' ∧ I xs W'
  | .ret, _, W' => KeepsOthers W W' ∧ Ix xs W'
  | _, _, _ => False

theorem keep_block {A A' : World} {row : Option Nat} {B l : Nat} {o : Obj} (hg : A.grownBy A' row) (hr : ∀ r, row = some r → r = B) (hl : A.heap[l]? = some o) (hne : l ≠ B) : A'.heap[l]? = some o :=
  (hg.block l (Array.getElem?_eq_some_iff.1 hl).1 (fun e => hne (hr l e.symm))).trans hl

/-- THE CALLER's LAW. -/
theorem range_cells {g : Operand} {p : Tmp} {assign body : Code} {Q : Exit → Act → World → Prop} {a : Act} {w : World}
    (hro : F.round = none) (h1 : 1 ≤ n) {gf : Nat} {lb : Array Value} (hg : a.eval g = .func (.func gf) #[] lb) (hF : F.fn gf) (eg : ∀ args w, (callFunc gf args).run P w = .ok (.enter gf args) w)
    {Kp : World → World → Prop} {all : List Int} {w0 : World} (hseq : SeqCells F (n - 1) P gf lb Kp (w.heap.size + 2) all w0) (hb0 : Below w0.heap.size w0 w)
    (hKt : ∀ {A B C : World}, Kp A B → Kp B C → Kp A C) (hKl : ∀ (W : World) (o o' : Obj), W.heap[w.heap.size + 1]? = some o → Kp W (W.putObj (w.heap.size + 1) o'))
    (I Ix : List Int → World → Prop) (hI : OwnFrom w.heap.size I) (hIx : OwnFrom w.heap.size Ix) (hIc : AbC (w.heap.size + 2) I) (hIxc : AbC (w.heap.size + 2) Ix) (h0 : I [] w) (a₁ : Int → Act)
    (hassign : ∀ (l : Nat) (x : Int) (W : World) (K : Act → World → Prop), K (a₁ x) W →
      assign.wpIn (F.inRound l) (n - 1 - 1) P (Exit.then K (fun _ _ _ => False)) { tmps := a.tmps.setIfInBounds p (.int .i64 x), defers := [] } W)
    (hbody : ∀ (l : Nat) (pre : List Int) (x : Int) (W : World), I pre W → w.heap.size + 2 < W.heap.size → (∃ rest, all = pre ++ x :: rest) → body.wpIn (F.inRound l) (n - 1 - 1) P (bodyEnd Kp I Ix (pre ++ [x]) W) (a₁ x) W)
    (hdone : ∀ (D : Nat) (W : World), w.heap.size ≤ D → I all W → W.heap[D]? = some (.deferred (some [])) → Q .normal { a with defers := { target := .collected D, args := #[] } :: a.defers } W)
    (hstop : ∀ (D : Nat) (pre : List Int) (W : World), w.heap.size ≤ D → Ix pre W → W.heap[D]? = some (.deferred (some [])) → Code.ret.wpIn F n P Q { a with defers := { target := .collected D, args := #[] } :: a.defers } W) :
    (Code.rangeFunc g #[p] assign body).wpIn F n P Q a w := by
  refine wpIn_rangeFunc fun fn hfn => ?_
  rw [hro]
  obtain ⟨rec, hrec⟩ : ∃ rec : LoopState → Option Code → Loop, rec = fun st pe => { state := st, pending := pe, fn, tmps := a.tmps, params := #[p], assign, body, defers := w.heap.size } := ⟨_, rfl⟩
  generalize hS : w.heap.size = S at *
  obtain ⟨W1, hW1⟩ : ∃ W1, (w.alloc (.deferred (some []))).alloc (.loop (rec .ready none)) = W1 := ⟨_, rfl⟩
  have z1 : W1.heap.size = S + 2 := by rw [← hW1]; simp [hS]
  have l1 : W1.heap[S + 1]? = some (.loop (rec .ready none)) := by
    have := World.alloc_heap_new (w.alloc (.deferred (some []))) (.loop (rec .ready none))
    rw [World.size_alloc, hS] at this
    rw [← hW1]; exact this
  have d1 : W1.heap[S]? = some (.deferred (some [])) := by
    rw [← hW1, Below.heap_alloc _ _ _ (by simp [hS])]
    have := World.alloc_heap_new w (.deferred (some []))
    rwa [hS] at this
  have i1 : I [] W1 := by rw [← hW1]; exact hI.alloc _ (hI.alloc _ h0)
  have b1 : Below w0.heap.size w0 W1 := by
    rw [← hW1]
    exact (hb0.alloc hb0.size _).alloc (by have := hb0.size; simp; omega) _
  refine ⟨S + 1, [{ target := .collected S, args := #[] }], W1, { target := .fn (.func gf) lb, args := #[.func (.yield (S + 1)) #[] #[]] }, W1, gf, #[.func (.yield (S + 1)) #[] #[]] ++ lb, W1, ?_, ?_, ?_, ?_, fun _ => h1, ?_⟩
  · rw [← hW1, hrec, ← hS]
    exact run_enterLoop_outer _ _ _ _ _
  · simp only [resolve, hg]
    simp [go_sem]
  · intro f' hf'
    simp [Target.leads] at hf'
    subst hf'; exact hF
  · simp [invoke, go_sem, eg]
  -- what goes through the iterator: the caller's own word, the loop's record, the block for the deferred calls
  have step : ∀ (K : List Int → World → Prop), AbC (S + 2) K → ∀ o : Obj, AbC (S + 2) (fun pre W => K pre W ∧ W.heap[S + 1]? = some o ∧ W.heap[S]? = some (.deferred (some []))) := fun K hK o s A A' row hs hg' hr =>
    ⟨hK s A A' row hs.1 hg' hr, keep_block hg' hr hs.2.1 (by omega), keep_block hg' hr hs.2.2 (by omega)⟩
  refine (hseq (S + 1) (fun pre W => I pre W ∧ W.heap[S + 1]? = some (.loop (rec .ready none)) ∧ W.heap[S]? = some (.deferred (some [])))
    (fun pre W => Ix pre W ∧ W.heap[S + 1]? = some (.loop (rec .done (some .ret))) ∧ W.heap[S]? = some (.deferred (some []))) W1 b1 z1 (step I hIc _) (step Ix hIxc _) ?_ ⟨i1, l1, d1⟩).mono ?_
  · rintro pre x W ⟨hi, hl, hd⟩ hz hx
    have hlt : S + 1 < W.heap.size := (Array.getElem?_eq_some_iff.1 hl).1
    have hy := run_yield (P := P) (args := #[.int .i64 x]) hl (by rw [hrec]; rfl)
    rw [hrec] at hy
    refine ⟨fn, _, assign, body, hy, roundIn_of_wpIn hfn ?_⟩
    have ez : ((#[p].zip #[Value.int .i64 x]).foldl (fun t (p, v) => t.setIfInBounds p v) a.tmps) = a.tmps.setIfInBounds p (.int .i64 x) := by simp
    rw [ez]
    refine hassign _ x W _ ?_
    refine ⟨_, run_beginRound hl (by rw [hrec]), ?_⟩
    generalize hW2 : W.putObj (S + 1) (.loop { rec .ready none with state := .busy }) = W2
    have l2 : W2.heap[S + 1]? = some (.loop { rec .ready none with state := .busy }) := by rw [← hW2]; exact World.putObj_heap_same hlt
    have d2 : W2.heap[S]? = some (.deferred (some [])) := by rw [← hW2]; exact (World.putObj_heap_other (by omega)).trans hd
    have k2 : Kp W W2 := by rw [← hW2]; exact hKl _ _ _ hl
    have i2 : I pre W2 := by rw [← hW2]; exact hI.putObj _ hi (by omega) hl rfl
    have z2 : S + 2 < W2.heap.size := by rw [← hW2]; simpa [World.putObj] using hz
    refine wpIn_mono (hbody _ pre x W2 i2 z2 hx) ?_
    rintro e a3 W3 hp
    have fin : ∀ (jump : Option Code), KeepsOthers W2 W3 → W3.heap[S + 1]? = some (.loop { rec .ready none with state := .busy }) ∧ W3.heap[S]? = some (.deferred (some [])) ∧
        (Instr.endRound (S + 1) jump).run P W3 = .ok (.bool jump.isNone) (W3.putObj (S + 1) (.loop (rec (if jump.isNone then .ready else .done) jump))) := fun jump hk => by
      have l3 := hk.same _ _ l2 rfl
      refine ⟨l3, hk.same _ _ d2 rfl, ?_⟩
      have := run_endRound (P := P) jump l3
      rw [hrec] at this ⊢
      exact this
    have own : ∀ o', W3.heap[S + 1]? = some (.loop { rec .ready none with state := .busy }) → (W3.putObj (S + 1) o').heap[S + 1]? = some o' := fun o' h => World.putObj_heap_same (Array.getElem?_eq_some_iff.1 h).1
    cases e with
    | normal =>
      obtain ⟨hk, hkp, hi3⟩ := hp
      obtain ⟨l3, d3, hr⟩ := fin none hk
      exact ⟨_, _, hr, .inl ⟨rfl, ⟨hI.putObj _ hi3 (by omega) l3 rfl, own _ l3, (World.putObj_heap_other (by omega)).trans d3⟩, hKt (hKt k2 hkp) (hKl _ _ _ l3)⟩⟩
    | ret =>
      obtain ⟨hk, hi3⟩ := hp
      obtain ⟨l3, d3, hr⟩ := fin (some .ret) hk
      exact ⟨_, _, hr, .inr ⟨rfl, hIx.putObj _ hi3 (by omega) l3 rfl, own _ l3, (World.putObj_heap_other (by omega)).trans d3⟩⟩
    | exit id => exact hp.elim
    | goto t => exact hp.elim
    | panic ch => exact hp.elim
    | outgrown => exact hp.elim
  · rintro e W2 ⟨⟨v, rfl⟩, (⟨hi, hl, hd⟩ | ⟨pre, hi, hl, hd⟩)⟩
    all_goals
      have he := run_endLoop (P := P) hl (by rw [hrec]; simp)
      rw [hrec] at he
    · exact ⟨none, _, he, hdone _ _ (by omega) (hI.putObj _ hi (by omega) hl rfl) ((World.putObj_heap_other (by omega)).trans hd)⟩
    · exact ⟨some .ret, _, he, hstop _ pre _ (by omega) (hIx.putObj _ hi (by omega) hl rfl) ((World.putObj_heap_other (by omega)).trans hd)⟩

end Go.Proofs.YtagiipecfdmceaaGreatDoor.Vx

set_option linter.unusedVariables false
namespace Go.Proofs.YtagiipecfdmceaaGreatDoor.Vx
open Go.RowKit

theorem _root_.Go.Proofs.YtagiipecfdmceaaGreatDoor.IntsIn.form {w : World} {v : Value} {zs : List Int} (h : IntsIn w v zs) : ∃ a cap, v = .slice a zs.length cap := by
  cases h with
  | empty a0 cap => exact ⟨a0, cap, rfl⟩
  | row b off cap _ h0 hc hb hr hlen hw => exact ⟨_, cap, rfl⟩

/-- Is a stride out of its bounds? -/
def farS (d : Int) : Bool := decide (d < 0 ∨ 65536 < d)

/-- May a view be? -/
def mayV (off : Int) (ds ss : List Int) : Bool := decide ((cnt ds).2 = 0) && decide (ss.length = ds.length) && decide (0 ≤ off) && decide (off < 65536) && !ss.any farS

attribute [local irreducible] cnt

set_option maxHeartbeats 1000000 in
theorem fine_any {w : World} {off : Int} {d s : Value} {ds ss : List Int} (hd : IntsIn w d ds) (hs : IntsIn w s ss) :
    Calls Tryz.prog 80 #[.agg #[.int .i64 off, d, s]] w fun e w' => e = .returned (.bool (mayV off ds ss)) ∧ Below w.heap.size w w' := by
  have hb : Below w.heap.size w (w.alloc (.cells #[.int .i64 off, d, s] 73)) := (Below.refl _ w).alloc (Nat.le_refl _) _
  have HC := Lib.hid (count_any (hd.below hb))
  have HF := Lib.hid (containsLow_any (hs.below hb) (.func (.func 141) #[] #[]) _ (Or.inr ⟨rfl, rfl⟩))
  obtain ⟨a1, c1, rfl⟩ := hd.form
  obtain ⟨a2, c2, rfl⟩ := hs.form
  have hl1 := hd.wf.1
  have hl2 := hs.wf.1
  have HB := Lib.hid hb
  have e : Hid (mayV off ds ss = (decide ((cnt ds).2 = 0) && decide (ss.length = ds.length) && decide (0 ≤ off) && decide (off < 65536) && !ss.any (fun d => decide (d < 0 ∨ 65536 < d)))) := Lib.hid rfl
  generalize cnt ds = cc at *
  generalize ss.any (fun d => decide (d < 0 ∨ 65536 < d)) = fa at *
  clear hd hs hb
  go_enter Tryz.func80, Tryz.ntmps80
  go_wp2_with (first | (go_at_call 27; refine HC.out.mono ?_; rintro e w' ⟨rfl, rfl⟩) | (go_at_call 57; refine HF.out.mono ?_; rintro e w' ⟨rfl, rfl⟩))
  all_goals
    go_ret
    go_light
    refine ⟨ret_val (bool_val ?_), HB.out⟩
    rw [e.out]
    grind

end Go.Proofs.YtagiipecfdmceaaGreatDoor.Vx

set_option linter.unusedVariables false
namespace Go.Proofs.YtagiipecfdmceaaGreatDoor.Vx
open Go.RowKit Go.Shelf Vw

attribute [local go_sem] Oper.semAt_some

/-! ### a row of numbers of the call's own -/

def intCells (xs : List Int) : Array Value := (xs.map (Value.int .i64)).toArray
/-- Block B is a row of these numbers. -/
def RowAt (w : World) (B : Nat) (xs : List Int) : Prop := w.heap[B]? = some (.cells (intCells xs) 3 (0, 0))

theorem RowAt.lt {w : World} {B : Nat} {xs : List Int} (h : RowAt w B xs) : B < w.heap.size := (Array.getElem?_eq_some_iff.1 h).1
theorem RowAt.cell {w : World} {B : Nat} {xs : List Int} (h : RowAt w B xs) {j : Nat} (hj : j < xs.length) : w.cell? ⟨B, j, none⟩ = some (.int .i64 (xs.getD j 0)) := by
  simp [World.cell?, show w.heap[B]? = _ from h, intCells, List.getElem?_eq_getElem hj, List.getD]
theorem RowAt.frozen {w : World} {B : Nat} {xs : List Int} (h : RowAt w B xs) (j : Nat) : w.frozen? ⟨B, j, none⟩ = false := by
  simp [World.frozen?, show w.heap[B]? = _ from h]
theorem RowAt.set {w : World} {B : Nat} {xs : List Int} (h : RowAt w B xs) (j : Nat) (x : Int) : RowAt (w.setCell ⟨B, j, none⟩ (.int .i64 x)) B (xs.set j x) := by
  obtain ⟨hlt, hk⟩ := Array.getElem?_eq_some_iff.1 h
  show (w.heap.modify B _)[B]? = _
  rw [Array.getElem?_eq_getElem (by rw [Array.size_modify]; exact hlt), Array.getElem_modify_self, hk]
  simp [intCells, List.map_set]
theorem RowAt.keep {w w' : World} {B : Nat} {xs : List Int} (h : RowAt w B xs) (g : w'.heap[B]? = w.heap[B]?) : RowAt w' B xs := g.trans h
theorem RowAt.new (w : World) (xs : List Int) : RowAt (w.alloc (.cells (intCells xs) 3)) w.heap.size xs := World.alloc_heap_new w _

theorem info_int : (Tryz.prog.info? 3).map (fun i => (i.zero, i.size, i.bytes)) = some (some (.int .i64 0), 1, 8) := by kernel_rfl

theorem run_make_ints (w : World) (r : Nat) (hr : r ≤ 100000) : (Instr.makeSlice 28 (.int .i64 (r : Int)) (.int .i64 (r : Int))).run Tryz.prog w = .ok (.slice (some ⟨w.heap.size, 0, none⟩) r r) (w.alloc (.cells (intCells (List.replicate r 0)) 3)) := by
  obtain ⟨i0, hi, hz0, hz1, hz2⟩ := info_parts info_int
  have := run_make (P := Tryz.prog) w 28 3 i0 (.int .i64 0) Tryz.underlying28 hi hz0 .i64 .i64 (r : Int) (r : Int) (by omega) (by omega) (by rw [hz2]; omega) (by omega)
  rw [this]
  have e : madeCells (Value.int .i64 0).cells (((r : Int).toNat) * i0.size) = intCells (List.replicate r 0) := by
    rw [hz1]
    refine Array.toList_inj.1 ?_
    have h2 := toList_madeCells_one (.int .i64 0) r
    simpa [intCells, Value.cells] using h2
  rw [e]
  simp

theorem zeros_rep : ∀ {ds : List Int}, zeros ds = List.replicate ds.length 0
  | [] => rfl
  | d :: ds => by simp [zeros, zeros_rep, List.replicate_succ]

theorem crd_inj : ∀ {ds : List Int} {k m : Int}, Pos ds → 0 ≤ k → k < pr ds → 0 ≤ m → m < pr ds → crd ds k = crd ds m → k = m
  | [], k, m, _, h0, h1, g0, g1, _ => by simp [pr] at h1 g1; omega
  | d :: ds, k, m, h, h0, h1, g0, g1, e => by
    have hP := pr_pos h.tail
    simp only [crd, List.cons.injEq] at e
    have := crd_inj (ds := ds) h.tail (Int.emod_nonneg k (by omega)) (Int.emod_lt_of_pos k (by omega)) (Int.emod_nonneg m (by omega)) (Int.emod_lt_of_pos m (by omega)) e.2
    have h2 := Int.mul_ediv_add_emod k (pr ds)
    have h3 := Int.mul_ediv_add_emod m (pr ds)
    rw [e.1] at h2
    omega

open Classical in
/-- How many are still to come, read off the row. -/
noncomputable def left (B : Nat) (ds : List Int) (w : World) : Nat :=
  if h : ∃ k : Int, 0 ≤ k ∧ k < pr ds ∧ RowAt w B (crd ds k) then (pr ds - Classical.choose h).toNat else 0

theorem left_eq {B : Nat} {ds : List Int} {w : World} {k : Int} (hp : Pos ds) (h0 : 0 ≤ k) (h1 : k < pr ds) (h : RowAt w B (crd ds k)) : left B ds w = (pr ds - k).toNat := by
  have hex : ∃ k : Int, 0 ≤ k ∧ k < pr ds ∧ RowAt w B (crd ds k) := ⟨k, h0, h1, h⟩
  unfold left
  rw [dif_pos hex]
  obtain ⟨a, b, c⟩ := Classical.choose_spec hex
  have e : crd ds (Classical.choose hex) = crd ds k := by
    have := (show w.heap[B]? = _ from c).symm.trans h
    simp only [Option.some.injEq, Obj.cells.injEq, intCells, and_true] at this
    have h2 := congrArg Array.toList this
    simp only at h2
    exact (List.map_inj_right (fun x y e => by injection e)).1 h2
  rw [crd_inj hp a b h0 h1 e]

/-- The places that a view shows, in their order. -/
def places (off : Int) (ds ss : List Int) (n : Nat) : List Int := (List.range n).map fun (k : Nat) => off + plc ss (crd ds (k : Int))

theorem places_length (off : Int) (ds ss : List Int) (n : Nat) : (places off ds ss n).length = n := by simp [places]
theorem places_next (off : Int) (ds ss : List Int) (k : Nat) : places off ds ss (k + 1) = places off ds ss k ++ [off + plc ss (crd ds (k : Int))] := by
  simp [places, List.range_succ]
theorem places_part (off : Int) (ds ss : List Int) {k n : Nat} (h : k < n) : ∃ rest, places off ds ss n = places off ds ss k ++ (off + plc ss (crd ds (k : Int))) :: rest := by
  refine ⟨((List.range (n - (k + 1))).map (fun (j : Nat) => off + plc ss (crd ds ((k + 1 + j : Nat) : Int)))), ?_⟩
  have e : n = (k + 1) + (n - (k + 1)) := by omega
  have : List.range n = List.range (k + 1) ++ (List.range (n - (k + 1))).map (k + 1 + ·) := by
    conv => lhs; rw [e]
    exact List.range_add
  unfold places
  rw [this, List.map_append, List.range_succ, List.map_append]
  simp

end Go.Proofs.YtagiipecfdmceaaGreatDoor.Vx

set_option linter.unusedVariables false
namespace Go.Proofs.YtagiipecfdmceaaGreatDoor.Vx
open Go.RowKit Go.Shelf Vw

attribute [local go_sem] Oper.semAt_some

theorem grown_set (W : World) (b j : Nat) (v : Value) : W.grownBy (W.setCell ⟨b, j, none⟩ v) (some b) :=
  ⟨rfl, rfl, rfl, (KeepsWalks.setCell W _ v).size, fun k _ hk => Below.heap_setCell _ _ _ k (fun e => hk (by rw [e]))⟩
theorem grown_drew (W : World) (row : Option Nat) : W.grownBy W.drew row := ⟨rfl, rfl, rfl, Nat.le_refl _, fun _ _ _ => rfl⟩

/-- Where the rows of a view lie, and its box. -/
structure Stands (w0 : World) (bv : Nat) (off : Int) (a1 a2 : Option Addr) (c1 c2 r : Nat) (W : World) : Prop where
  box : W.heap[bv]? = some (.cells #[.int .i64 off, .slice a1 r c1, .slice a2 r c2] 73 (0, 0))
  below : Below w0.heap.size w0 W

/-- What the rounds keep. -/
def Keep (n₁ bv B : Nat) (A A' : World) : Prop := Below n₁ A A' ∧ A'.heap[bv]? = A.heap[bv]? ∧ A'.heap[B]? = A.heap[B]?

/-- The state between two steps. -/
def St (w0 : World) (bv B : Nat) (off : Int) (a1 a2 : Option Addr) (c1 c2 r : Nat) (J : List Int → World → Prop) (pre xs : List Int) (W : World) : Prop :=
  Stands w0 bv off a1 a2 c1 c2 r W ∧ RowAt W B xs ∧ J pre W

variable {w0 : World} {bv B : Nat} {off : Int} {a1 a2 : Option Addr} {c1 c2 r : Nat} {J : List Int → World → Prop} {pre xs : List Int} {W : World}

theorem St.set (h : St w0 bv B off a1 a2 c1 c2 r J pre xs W) (hJ : AbC B J) (hbv : bv ≠ B) (hB : w0.heap.size ≤ B) (j : Nat) (x : Int) : St w0 bv B off a1 a2 c1 c2 r J pre (xs.set j x) (W.setCell ⟨B, j, none⟩ (.int .i64 x)) :=
  ⟨⟨(Below.heap_setCell _ _ _ bv hbv).trans h.1.box, h.1.below.setCell (p := ⟨B, j, none⟩) hB _⟩, h.2.1.set j x, hJ _ _ _ _ h.2.2 (grown_set W B j _) (fun r e => by cases e; rfl)⟩
theorem St.drew (h : St w0 bv B off a1 a2 c1 c2 r J pre xs W) (hJ : AbC B J) : St w0 bv B off a1 a2 c1 c2 r J pre xs W.drew :=
  ⟨⟨h.1.box, h.1.below.drew⟩, h.2.1, hJ _ _ _ none h.2.2 (grown_drew W none) (fun r e => by cases e)⟩
theorem St.drewN (h : St w0 bv B off a1 a2 c1 c2 r J pre xs W) (hJ : AbC B J) (q : Nat) : St w0 bv B off a1 a2 c1 c2 r J pre xs (W.drewN q) :=
  ⟨⟨h.1.box, ⟨h.1.below.os, h.1.below.tape, h.1.below.output, h.1.below.size, h.1.below.block⟩⟩, h.2.1, hJ _ _ _ none h.2.2 ⟨rfl, rfl, rfl, Nat.le_refl _, fun _ _ _ => rfl⟩ (fun r e => by cases e)⟩
theorem St.box0 (h : St w0 bv B off a1 a2 c1 c2 r J pre xs W) : W.cell? ⟨bv, 0, none⟩ = some (.int .i64 off) := by simp [World.cell?, h.1.box]
theorem St.box1 (h : St w0 bv B off a1 a2 c1 c2 r J pre xs W) : W.cell? ⟨bv, 1, none⟩ = some (.slice a1 r c1) := by simp [World.cell?, h.1.box]
theorem St.box2 (h : St w0 bv B off a1 a2 c1 c2 r J pre xs W) : W.cell? ⟨bv, 2, none⟩ = some (.slice a2 r c2) := by simp [World.cell?, h.1.box]

theorem plc_bound : ∀ {ss cs : List Int}, (∀ s ∈ ss, 0 ≤ s ∧ s ≤ 65536) → (∀ c ∈ cs, 0 ≤ c ∧ c ≤ 65536) → 0 ≤ plc ss cs ∧ plc ss cs ≤ cs.length * 4294967296
  | [], cs, _, _ => by simp [plc]; omega
  | s :: ss, [], _, _ => by simp [plc]
  | s :: ss, c :: cs, h, g => by
    have ih := plc_bound (ss := ss) (cs := cs) (fun x hx => h x (by simp [hx])) (fun x hx => g x (by simp [hx]))
    have h1 := h s (by simp)
    have g1 := g c (by simp)
    have m0 : 0 ≤ c * s := Int.mul_nonneg g1.1 h1.1
    have m1 : c * s ≤ 65536 * 65536 := Int.mul_le_mul g1.2 h1.2 h1.1 (by decide)
    simp only [plc, List.length_cons]
    omega

theorem take_set {c : List Int} {i : Nat} {t : List Int} {x : Int} (hi : i < c.length) : (c.take (i + 1) ++ t).set i x = c.take i ++ x :: t := by
  rw [List.take_add_one, List.getElem?_eq_getElem hi]
  simp only [Option.toList_some, List.append_assoc]
  rw [List.set_append_right _ _ (by simp; omega)]
  simp [Nat.min_eq_left (Nat.le_of_lt hi)]
theorem set_at {c : List Int} {i : Nat} {t : List Int} {x y : Int} (hi : i ≤ c.length) : (c.take i ++ x :: t).set i y = c.take i ++ y :: t := by
  rw [List.set_append_right _ _ (by simp; omega)]
  simp [Nat.min_eq_left hi]
theorem take_get {c : List Int} {i : Nat} {t : List Int} (hi : i < c.length) : (c.take (i + 1) ++ t).getD i 0 = c.getD i 0 := by
  rw [List.getD_eq_getElem?_getD, List.getElem?_append_left (by simp; omega), List.getElem?_take_of_lt (by omega)]
  simp [List.getD]
theorem here_get {c : List Int} {i : Nat} {t : List Int} {x : Int} (hi : i ≤ c.length) : (c.take i ++ x :: t).getD i 0 = x := by
  rw [List.getD_eq_getElem?_getD, List.getElem?_append_right (by simp; omega)]
  simp [Nat.min_eq_left hi]
theorem plc_take {ss c : List Int} {i : Nat} (h : i < ss.length) (g : i < c.length) : plc (ss.take (i + 1)) (c.take (i + 1)) = plc (ss.take i) (c.take i) + c.getD i 0 * ss.getD i 0 := by
  have h1 := plc_split (ss := ss.take (i + 1)) (cs := c.take (i + 1)) (i := i) (by simp; omega) (by simp; omega)
  have e1 : (ss.take (i + 1)).drop i = [ss.getD i 0] := by
    rw [List.drop_take, drop_next h]; simp
  have e2 : (c.take (i + 1)).drop i = [c.getD i 0] := by
    rw [List.drop_take, drop_next g]; simp
  rw [h1, e1, e2, List.take_take, List.take_take, Nat.min_eq_left (by omega)]
  simp [plc]
theorem plc_here {ss c : List Int} {ds : List Int} {i : Nat} {x : Int} (h : i < ss.length) (g : i ≤ c.length) : plc ss (c.take i ++ x :: zeros ds) = plc (ss.take i) (c.take i) + x * ss.getD i 0 := by
  have h1 := plc_split (ss := ss) (cs := c.take i ++ x :: zeros ds) (i := i) (by omega) (by simp; omega)
  rw [h1, List.take_append_of_le_length (by simp; omega), List.take_take, Nat.min_self, List.drop_append_of_le_length (by simp; omega)]
  have e0 : (c.take i).drop i = [] := List.drop_eq_nil_of_le (by simp; omega)
  rw [e0, drop_next h]
  simp [plc, plc_zeros]

theorem St.set0 {c t : List Int} {i : Nat} {x : Int} (h : St w0 bv B off a1 a2 c1 c2 r J pre (c.take i ++ x :: t) W) (hJ : AbC B J) (hbv : bv ≠ B) (hB : w0.heap.size ≤ B) (hi : i ≤ c.length) (y : Int) :
    St w0 bv B off a1 a2 c1 c2 r J pre (c.take i ++ y :: t) (W.setCell ⟨B, i, none⟩ (.int .i64 y)) := by
  have := h.set hJ hbv hB i y
  rwa [set_at hi] at this

end Go.Proofs.YtagiipecfdmceaaGreatDoor.Vx

set_option linter.unusedVariables false
namespace Go.Proofs.YtagiipecfdmceaaGreatDoor.Vx
open Go.RowKit Go.Shelf Vw

attribute [local go_sem] Oper.semAt_some
attribute [local irreducible] crd plc zeros pr nxt places

theorem nxt_nil : nxt [] [] = none := by unfold nxt; rfl
theorem zeros_nil : zeros [] = [] := by unfold zeros; rfl
theorem zeros_cons {d : Int} {ds : List Int} : zeros (d :: ds) = 0 :: zeros ds := by rw [zeros]

/-- A slice whose cells lie below a number of blocks. -/
def RowsAt (w0 : World) (a : Option Addr) (zs : List Int) : Prop := ∀ m, m < zs.length → ∃ b o, a = some ⟨b, o, none⟩ ∧ b < w0.heap.size ∧ Reads w0 b o zs

theorem _root_.Go.Proofs.YtagiipecfdmceaaGreatDoor.IntsIn.rowsV {w : World} {a : Option Addr} {n c : Nat} {zs : List Int} (h : IntsIn w (.slice a n c) zs) : n = zs.length ∧ RowsAt w a zs := by
  cases h with
  | empty a0 cap => exact ⟨rfl, fun m hm => by simp at hm⟩
  | row b off cap _ h0 hc hb hr hlen hw => exact ⟨rfl, fun m _ => ⟨b, off, rfl, hb, hr⟩⟩

set_option maxRecDepth 100000 in
set_option maxHeartbeats 4000000 in
theorem places_walk (n : Nat) (hn : 1 ≤ n) (l : Nat) (w0 : World) (bv B : Nat) (off : Int) (a1 a2 : Option Addr) (c1 c2 : Nat) (ds ss : List Int)
    (hd : Hid (RowsAt w0 a1 ds)) (hs : Hid (RowsAt w0 a2 ss)) (hss : ss.length = ds.length) (hlen : ds.length ≤ 6) (hD : Hid (∀ d ∈ ds, 1 ≤ d ∧ d ≤ 65536)) (hS : Hid (∀ s ∈ ss, 0 ≤ s ∧ s ≤ 65536)) (ho0 : 0 ≤ off) (ho1 : off ≤ 65535)
    (J Jx : List Int → World → Prop) (hJ : Hid (AbC B J)) (hJx : Hid (AbC B Jx))
    (hY : Hid (∀ pre x W1, J pre W1 → B < W1.heap.size → (∃ rest, places off ds ss (pr ds).toNat = pre ++ x :: rest) → YieldAt Fence.wide (n - 1) Tryz.prog l #[.int .i64 x] W1 fun e W' =>
      (e = .returned (.bool true) ∧ J (pre ++ [x]) W' ∧ Keep w0.heap.size bv B W1 W') ∨ (e = .returned (.bool false) ∧ Jx (pre ++ [x]) W')))
    (W : World) (hW : W.heap.size = B) (hbv : bv < B) (hw0 : w0.heap.size ≤ B) (hst : Stands w0 bv off a1 a2 c1 c2 ds.length W) (h0 : J [] W) :
    CallsIn Fence.wide n Tryz.prog 142 #[.func (.yield l) #[] #[], .pointer (some ⟨bv, 0, none⟩)] W fun e W' => (∃ v, e = .returned v) ∧ (J (places off ds ss (pr ds).toNat) W' ∨ ∃ pre, Jx pre W') := by
  have hpos : Hid (Pos ds) := Lib.hid fun d hd' => (hD.out d hd').1
  have hP := Lib.hid (pr_pos hpos.out)
  have hmk := fun w => run_make_ints w ds.length (by omega)
  have b0 : W.cell? ⟨bv, 0, none⟩ = some (.int .i64 off) := by simp [World.cell?, hst.box]
  have b1 : W.cell? ⟨bv, 1, none⟩ = some (.slice a1 ds.length c1) := by simp [World.cell?, hst.box]
  have hst0 : Hid (St w0 bv B off a1 a2 c1 c2 ds.length J [] (crd ds 0) (W.alloc (.cells (intCells (List.replicate ds.length 0)) 3))) := Lib.hid ⟨⟨(Below.heap_alloc W _ bv (by omega)).trans hst.box, hst.below.alloc (by omega) _⟩,
    by rw [crd_zero, zeros_rep, ← hW]; exact RowAt.new W _, hJ.out _ _ _ none h0 (World.grownBy_alloc W _ none) (fun r e => by cases e)⟩
  have b0' : (W.alloc (.cells (intCells (List.replicate ds.length 0)) 3)).cell? ⟨bv, 0, none⟩ = some (.int .i64 off) := hst0.out.box0
  refine callsIn_of_wp Tryz.func142 rfl trivial ?_ rfl
  simp only [Tryz.ntmps142, List.size_toArray, List.length_cons, List.length_nil, Nat.reduceAdd, Nat.reduceSub, Array.replicate_succ, Array.replicate_zero, List.push_toArray, List.append_toArray, List.nil_append, List.cons_append]
  gi_wp2
  gi_loopw [4] (fun p wr => ∃ k : Nat, Hid ((k : Int) < pr ds) ∧ p = .int .i64 (off + plc ss (crd ds (k : Int))) ∧ Hid (St w0 bv B off a1 a2 c1 c2 ds.length J (places off ds ss k) (crd ds (k : Int)) wr)) (fun _ wr => left B ds wr)
  case atStart => exact ⟨0, Lib.hid (by have := hP.out; omega), by simp [crd_zero, plc_zeros], Lib.hid (by simpa [places] using hst0.out)⟩
  case round =>
    obtain ⟨k, hk, rfl, st⟩ := hrel
    have hkP := hk.out
    obtain ⟨fn, tmps, assign, body, hy, hR⟩ := hY.out (places off ds ss k) (off + plc ss (crd ds (k : Int))) wr st.out.2.2 st.out.2.1.lt (places_part off ds ss (by omega))
    gi_wp2
    refine hR.mono ?_
    rintro e W3 (⟨rfl, hJ3, hk3⟩ | ⟨rfl, hJx3⟩)
    · have st3 : Hid (St w0 bv B off a1 a2 c1 c2 ds.length J (places off ds ss (k + 1)) (crd ds (k : Int)) W3) := Lib.hid ⟨⟨hk3.2.1.trans st.out.1.box, st.out.1.below.trans hk3.1⟩, st.out.2.1.keep hk3.2.2, by rw [places_next]; exact hJ3⟩
      have hcl : (crd ds (k : Int)).length = ds.length := crd_length
      have hnx := Lib.hid (nxt_crd (ds := ds) (k := (k : Int)) hpos.out (by omega) hkP)
      have hcr := Lib.hid (crd_range (ds := ds) (k := (k : Int)) hpos.out (by omega) hkP)
      have hdS : Hid (nxt (ds.drop ds.length) ((crd ds (k : Int)).drop ds.length) = none) := Lib.hid (by rw [List.drop_length, List.drop_eq_nil_of_le (by omega)]; exact nxt_nil)
      have eT : (crd ds (k : Int)).take ds.length = crd ds (k : Int) := List.take_of_length_le (by omega)
      have eS : ss.take ds.length = ss := List.take_of_length_le (by omega)
      have st4 : Hid (St w0 bv B off a1 a2 c1 c2 ds.length J (places off ds ss (k + 1)) ((crd ds (k : Int)).take ds.length ++ zeros (ds.drop ds.length)) W3) := Lib.hid (by rw [eT, List.drop_length, zeros_nil, List.append_nil]; exact st3.out)
      have eP : Hid (off + plc ss (crd ds (k : Int)) = off + plc (ss.take ds.length) ((crd ds (k : Int)).take ds.length)) := Lib.hid (by rw [eT, eS])
      have hL := Lib.hid (left_eq (B := B) (ds := ds) hpos.out (by omega) hkP st.out.2.1)
      clear hR hy st hk3 hJ3 st3 eT eS
      generalize hc : crd ds (k : Int) = c at *
      obtain ⟨wo, hwo⟩ : ∃ wo, wo = W3 := ⟨_, rfl⟩
      subst hwo
      gi_wp2
      gi_loopw [4, 5] (fun p i wr => ∃ (m : Nat) (q : Int), m ≤ ds.length ∧ Hid (q = (m : Int) - 1) ∧ p = .int .i64 (off + plc (ss.take m) (c.take m)) ∧ i = .int .i64 q ∧ Hid (nxt (ds.drop m) (c.drop m) = none) ∧ Hid (St w0 bv B off a1 a2 c1 c2 ds.length J (places off ds ss (k + 1)) (c.take m ++ zeros (ds.drop m)) wr)) (fun _ i _ => (intOf i + 1).toNat)
      case atStart => exact ⟨ds.length, (ds.length : Int) - 1, Nat.le_refl _, Lib.hid rfl, by rw [eP.out], by go_num, hdS, st4⟩
      case round =>
        obtain ⟨m, q, hm, hq, rfl, rfl, hno, sti⟩ := hrel
        rcases (match m with | 0 => Or.inl rfl | i + 1 => Or.inr ⟨i, rfl⟩ : m = 0 ∨ ∃ i, m = i + 1) with e0 | ⟨i, e0⟩
        · subst e0
          obtain rfl : q = -1 := hq.out
          have hend : Hid ((k : Int) + 1 = pr ds) := Lib.hid (by
            have h1 := hnx.out
            have h2 : nxt ds c = none := hno.out
            rw [h2] at h1
            by_cases g : (k : Int) + 1 < pr ds
            · rw [if_pos g] at h1; cases h1
            · omega)
          gi_wp2
          refine bodyPost_ret (results_none rfl _ _ _) rfl ?_
          refine ⟨⟨_, rfl⟩, .inl ?_⟩
          have e1 : (pr ds).toNat = k + 1 := by have := hend.out; omega
          rw [e1]; exact sti.out.2.2
        · subst e0
          obtain rfl : q = (i : Int) := by have := hq.out; omega
          have hi : i < ds.length := by omega
          have hic : i < c.length := by omega
          have his : i < ss.length := by omega
          obtain ⟨bd, od, rfl, hbd, hrd⟩ := hd.out i hi
          obtain ⟨bs, os, rfl, hbs, hrs⟩ := hs.out i his
          have x1 : wr.cell? ⟨B, i, none⟩ = some (.int .i64 (c.getD i 0)) := by rw [sti.out.2.1.cell (by simp; omega), take_get hic]
          have f1 : wr.frozen? ⟨B, i, none⟩ = false := sti.out.2.1.frozen i
          have sta := sti.out.set hJ.out (by omega) hw0 i (c.getD i 0 + 1)
          rw [take_set hic] at sta
          have xi := sta.2.1.cell (j := i) (by simp; omega)
          rw [here_get (by omega)] at xi
          have xf := sta.2.1.frozen i
          have y0 := sta.box0
          have y1 := sta.box1
          have y2 := sta.box2
          have yd := (sta.1.below.cell (p := ⟨bd, od + i, none⟩) hbd).trans (hrd i hi)
          have ys := (sta.1.below.cell (p := ⟨bs, os + i, none⟩) hbs).trans (hrs i his)
          have cd := hcr.out i hi
          have dd := hD.out _ (getD_mem hi)
          have sd := hS.out _ (getD_mem his)
          have eH : Hid (nxt (ds.drop i) (c.drop i) = if c.getD i 0 + 1 < ds.getD i 0 then some ((c.getD i 0 + 1) :: zeros (ds.drop (i + 1))) else none) := Lib.hid (nxt_here hcl hi hno.out)
          have eT := Lib.hid (plc_take (ss := ss) (c := c) (i := i) his hic)
          have eH2 := Lib.hid (plc_here (ss := ss) (c := c) (ds := ds.drop (i + 1)) (i := i) (x := c.getD i 0 + 1) his (by omega))
          have bnd := plc_bound (ss := ss.take i) (cs := c.take i) (fun s hs' => hS.out s (List.mem_of_mem_take hs')) (fun x hx' => by
            obtain ⟨j, hj, rfl⟩ := List.getElem_of_mem hx'
            have hj' : j < ds.length := by simp at hj; omega
            have h1 := hcr.out j hj'
            have h2 := hD.out _ (getD_mem hj')
            rw [show c.getD j 0 = (c.take i)[j] by simp [List.getD, List.getElem?_eq_getElem (show j < c.length by omega)]] at h1
            omega)
          have hll : ((c.take i).length : Int) ≤ 6 := by simp; omega
          have stBk : Hid (c.getD i 0 + 1 < ds.getD i 0 → (k : Int) + 1 < pr ds ∧ crd ds ((k : Int) + 1) = c.take i ++ (c.getD i 0 + 1) :: zeros (ds.drop (i + 1))) := Lib.hid fun h => by
            have h1 := hnx.out
            have h3 := eH.out
            rw [if_pos h] at h3
            rw [nxt_at hcl (by omega) h3] at h1
            by_cases g : (k : Int) + 1 < pr ds
            · rw [if_pos g] at h1
              exact ⟨g, (Option.some.inj h1).symm⟩
            · rw [if_neg g] at h1; cases h1
          have m0 : 0 ≤ c.getD i 0 * ss.getD i 0 := Int.mul_nonneg cd.1 sd.1
          have m1 : c.getD i 0 * ss.getD i 0 ≤ 65536 * 65536 := Int.mul_le_mul (by omega) sd.2 sd.1 (by decide)
          have m2 : (c.getD i 0 + 1) * ss.getD i 0 = c.getD i 0 * ss.getD i 0 + ss.getD i 0 := by rw [Int.add_mul]; omega
          rw [eT.out]
          have hk3 : Hid (c.getD i 0 + 1 < ds.getD i 0 → (k : Int) + 1 < pr ds ∧ off + (plc (ss.take i) (c.take i) + c.getD i 0 * ss.getD i 0) + ss.getD i 0 = off + plc ss (crd ds ((k + 1 : Nat) : Int)) ∧ St w0 bv B off (some ⟨bd, od, none⟩) (some ⟨bs, os, none⟩) c1 c2 ds.length J (places off ds ss (k + 1)) (crd ds ((k + 1 : Nat) : Int)) (wr.setCell ⟨B, i, none⟩ (.int .i64 (c.getD i 0 + 1)))) := Lib.hid fun h => by
            obtain ⟨g1, g2⟩ := stBk.out h
            rw [show ((k + 1 : Nat) : Int) = (k : Int) + 1 by omega, g2, eH2.out]
            exact ⟨g1, by omega, sta⟩
          have hk4 : Hid (¬ c.getD i 0 + 1 < ds.getD i 0 → nxt (ds.drop i) (c.drop i) = none) := Lib.hid fun h => by rw [eH.out, if_neg h]
          have eZ : Hid (zeros (ds.drop i) = 0 :: zeros (ds.drop (i + 1))) := Lib.hid (by rw [drop_next hi]; exact zeros_cons)
          have HS := Lib.hid sta
          clear sti sta stBk eH eT eH2 hno hcr hnx
          generalize hpl : plc (ss.take i) (c.take i) = pl at *
          have HP := Lib.hid hpl
          clear hpl
          generalize c.getD i 0 = ci at *
          generalize ss.getD i 0 = si at *
          generalize ds.getD i 0 = di at *
          generalize ci * si = mm at *
          by_cases hlt : ci + 1 < di
          · gi_wp2
            gi_quiet (fail)
            gi_wp2
            go_roundw
            case rel =>
              obtain ⟨g1, g2, g3⟩ := hk3.out hlt
              exact ⟨k + 1, Lib.hid (by omega), by rw [g2], Lib.hid (g3.drewN hJ.out _)⟩
            case measure =>
              obtain ⟨g1, g2, g3⟩ := hk3.out hlt
              rw [hL.out, left_eq (k := ((k + 1 : Nat) : Int)) hpos.out (by omega) (by omega) (g3.drewN hJ.out _).2.1]
              omega
          · gi_wp2
            gi_quiet (fail)
            gi_wp2
            gi_quiet (fail)
            gi_wp2
            go_roundw
            case rel =>
              exact ⟨i, (i : Int) - 1, by omega, Lib.hid rfl, by rw [HP.out]; refine int_val ?_; omega, by go_num, Lib.hid (hk4.out hlt), Lib.hid (by rw [eZ.out]; exact (HS.out.drewN hJ.out _).set0 hJ.out (by omega) hw0 (by omega) 0)⟩
            case measure => simp [intOf]
    · gi_wp2
      refine bodyPost_ret (results_none rfl _ _ _) rfl ?_
      exact ⟨⟨_, rfl⟩, .inr ⟨_, hJx3⟩⟩

end Go.Proofs.YtagiipecfdmceaaGreatDoor.Vx

set_option linter.unusedVariables false
namespace Go.Proofs.YtagiipecfdmceaaGreatDoor.Vx
open Go.RowKit Go.Shelf Vw

attribute [local go_sem] Oper.semAt_some

theorem wanted_none {o : Oper} (h : o.guard = none) (y : Nat → Option Bool) : Region.wanted o y = true := by
  unfold Region.wanted; rw [h]

theorem op_append {F : Fence} {n : Nat} {P : Program} {o : Oper} {a : Act} {w w' : World} {K : Act → World → Prop} {Q : Exit → Act → World → Prop} {s x : Operand} {t : TypeId} {v u v' : Value}
    (hop : o.op = Op.call { callee := Callee.builtin Builtin.append, args := #[s, x], argTypes := #[t, t] }) (hs : a.eval s = v) (hx : a.eval x = u)
    (hrun : (Builtin.append_ #[t, t] o.type #[v, u]).run P w = .ok v' w') (hK : K (a.put o.dst v') w') : o.wpIn F n P a w K Q := by
  unfold Oper.wpIn
  refine ⟨?_, ?_⟩
  · simp [Oper.about, hop, resolve, Target.leads, Sem.run_pure]
  · rw [Oper.semAt_plain F _ _ (by rw [hop]; intro c hc'; cases hc')]
    simp [execOp, hop, resolve, invoke, builtin, hs, hx, hrun, Result.andThen]
    exact hK

theorem places_any (b0 : Int) (d s : Value) (w : World) :
    Calls Tryz.prog 82 #[.agg #[.int .i64 b0, d, s]] w fun e w' => e = .returned (.func (.func 142) #[] #[.pointer (some ⟨w.heap.size, 0, none⟩)]) ∧ w' = w.alloc (.cells #[.int .i64 b0, d, s] 73) := by
  go_enter Tryz.func82, Tryz.ntmps82
  go_wp2
  go_ret
  exact ⟨rfl, rfl⟩

/-- Numbers of 64 bits, as cells. -/
def got (data : List Int) (ps : List Int) : List Value := ps.map fun p => Value.int .i64 (data.getD p.toNat 0)

/-- 'out = append(out, x)', out in a box that lies below its row. -/
theorem appended_below {W w1 : World} {S B : Nat} {t e : TypeId} {v v' : Value} {k m : Nat} {xs ys : List Value} {tmp : Obj}
    (hv : Boxed W S t v) (hrow : W.ownsRow (B + 1) e 1 v k xs) (hS : S < B) (hB : B < W.heap.size)
    (hown' : w1.ownsRow (B + 1) e 1 v' m ys) (hgrow : (W.alloc tmp).grownBy w1 v.ownBlock) :
    Boxed w1 S t v ∧ Boxed (w1.setCell ⟨S, 0, none⟩ v') S t v' ∧ (w1.setCell ⟨S, 0, none⟩ v').ownsRow (B + 1) e 1 v' m ys ∧ KeepsOthers W (w1.setCell ⟨S, 0, none⟩ v') ∧
      (∀ n₁, n₁ ≤ S → Below n₁ W (w1.setCell ⟨S, 0, none⟩ v')) ∧ ∀ b, b ≤ B → b ≠ S → (w1.setCell ⟨S, 0, none⟩ v').heap[b]? = W.heap[b]? := by
  have hge : ∀ g, v.ownBlock = some g → B + 1 ≤ g := fun g hg => (hrow.lt g hg).1
  have hne : ∀ b, b ≤ B → some b ≠ v.ownBlock := fun b hb e' => by have := hge b e'.symm; omega
  have hblk : ∀ b, b ≤ B → w1.heap[b]? = W.heap[b]? := fun b hb => (hgrow.block b (by simp; omega) (hne b hb)).trans (Below.heap_alloc W tmp b (by omega))
  have hv1 : Boxed w1 S t v := (hblk S (by omega)).trans hv
  refine ⟨hv1, hv1.set v', hown'.kept (grownBy_setCell' w1 S v') ?_, ?_, ?_, ?_⟩
  · rcases hown'.2 with ⟨rfl, _⟩ | ⟨g, cap, cur, rfl, hg, _⟩
    · exact .inl rfl
    · refine .inr fun e' => ?_
      have : g = S := by simpa [Value.ownBlock] using e'
      omega
  · refine ((KeepsOthers.alloc W tmp).trans (KeepsOthers.of_grownBy hgrow fun j o ej hj => ?_)).trans (KeepsOthers.setCell _ _ _)
    rcases (hrow.alloc tmp).2 with ⟨rfl, _⟩ | ⟨g, cap, cur, rfl, _, hgb, _⟩
    · simp [Value.ownBlock] at ej
    · obtain rfl : g = j := by simpa [Value.ownBlock] using ej
      rw [hgb] at hj; cases hj; rfl
  · intro n₁ hn
    exact (((Below.refl n₁ W).alloc (by omega) tmp).grown hgrow (by simp; omega) fun j ej => by have := hge j ej; omega).setCell (p := ⟨S, 0, none⟩) hn v'
  · intro b hb hbS
    exact (Below.heap_setCell _ _ _ b hbS).trans (hblk b hb)

/-- What holds between two rounds. -/
structure RdI (w0 : World) (R1 R2 R3 S B : Nat) (dv : Value) (data : List Int) (pre : List Int) (W : World) : Prop where
  inr : ∀ p ∈ pre, p < data.length
  out : ∃ v, Boxed W S 36 v ∧ W.ownsRow (B + 1) 2 1 v pre.length (got data pre)
  dat : Boxed W R1 36 dv
  res : Boxed W R2 36 (.slice none 0 0)
  err : Boxed W R3 31 (.int .i64 0)
  below : Below w0.heap.size w0 W

/-- A round has returned. -/
structure RdX (w0 : World) (R2 R3 : Nat) (data all : List Int) (W : World) : Prop where
  bad : ∃ p ∈ all, (data.length : Int) ≤ p
  res : Boxed W R2 36 (.slice none 0 0)
  err : Boxed W R3 31 (.int .i64 1)
  below : Below w0.heap.size w0 W

theorem boxed_grown {A A' : World} {row : Option Nat} {b : Nat} {t : TypeId} {v : Value} (h : Boxed A b t v) (hg : A.grownBy A' row) (hne : ∀ r, row = some r → r ≠ b) : Boxed A' b t v :=
  h.kept hg (fun e => hne b e.symm rfl)

variable {w0 : World} {R1 R2 R3 S B : Nat} {dv : Value} {data all pre : List Int}

theorem rdI_grown {A A' : World} {row : Option Nat} (h : RdI w0 R1 R2 R3 S B dv data pre A) (hS : S < B) (hR1 : R1 < S) (hR2 : R2 < S) (hR3 : R3 < S) (h0 : w0.heap.size ≤ S) (hg : A.grownBy A' row) (hr : ∀ r, row = some r → S < r ∧ (r ≤ B ∨ ∃ o, A.heap[r]? = some o ∧ o.isCells = false)) : RdI w0 R1 R2 R3 S B dv data pre A' := by
  obtain ⟨v, hv, hrow⟩ := h.out
  have hne : ∀ b, b ≤ S → ∀ r, row = some r → r ≠ b := fun b hb r e => by have := (hr r e).1; omega
  refine ⟨h.inr, ⟨v, boxed_grown hv hg (hne S (by omega)), hrow.kept hg ?_⟩, boxed_grown h.dat hg (hne _ (by omega)), boxed_grown h.res hg (hne _ (by omega)), boxed_grown h.err hg (hne _ (by omega)), h.below.grown hg h.below.size (fun k e => by have := (hr k e).1; omega)⟩
  rcases hrow.2 with ⟨rfl, _⟩ | ⟨g, cap, cur, rfl, hge, hgb, _⟩
  · exact .inl rfl
  · refine .inr fun e' => ?_
    rcases (hr g (by simpa [Value.ownBlock] using e'.symm)).2 with h1 | ⟨o, ho, hc⟩
    · omega
    · rw [hgb] at ho; cases ho; cases hc

theorem rdX_grown {A A' : World} {row : Option Nat} (h : RdX w0 R2 R3 data all A) (hg : A.grownBy A' row) (hr : ∀ r, row = some r → R2 < r ∧ R3 < r ∧ w0.heap.size ≤ r) : RdX w0 R2 R3 data all A' :=
  ⟨h.bad, boxed_grown h.res hg (fun r e => by have := hr r e; omega), boxed_grown h.err hg (fun r e => by have := hr r e; omega), h.below.grown hg h.below.size (fun k e => by have := hr k e; omega)⟩

theorem rows_mono {W : World} {base base' : Nat} {e : TypeId} {size : Nat} {v : Value} {k : Nat} {xs : List Value} (h : W.ownsRow base e size v k xs) (hb : base' ≤ base) : W.ownsRow base' e size v k xs := by
  obtain ⟨h1, h2⟩ := h
  refine ⟨h1, ?_⟩
  rcases h2 with h | ⟨g, cap, cur, a, b, c⟩
  · exact Or.inl h
  · exact Or.inr ⟨g, cap, cur, a, by omega, c⟩

theorem box_cells {W : World} {b : Nat} {x y z : Value} {t : TypeId} (h : W.heap[b]? = some (.cells #[x, y, z] t (0, 0))) : W.cell? ⟨b, 0, none⟩ = some x ∧ W.cell? ⟨b, 1, none⟩ = some y ∧ W.cell? ⟨b, 2, none⟩ = some z := by
  refine ⟨?_, ?_, ?_⟩ <;> simp [World.cell?, h]

theorem info_int64 : (Tryz.prog.info? 2).map (fun i => (i.zero, i.size, i.bytes)) = some (some (.int .i64 0), 1, 8) := by kernel_rfl

/-- What a view shows: none: it may not be, or the elements do not reach. -/
def readL (off : Int) (ds ss data : List Int) : Option (List Int) :=
  if mayV off ds ss = true ∧ ∀ p ∈ places off ds ss (pr ds).toNat, p < data.length then some ((places off ds ss (pr ds).toNat).map fun p => data.getD p.toNat 0) else none

theorem places_bound {off : Int} {ds ss : List Int} (hss : ss.length = ds.length) (hlen : ds.length ≤ 6) (hD : ∀ d ∈ ds, 1 ≤ d ∧ d ≤ 65536) (hS : ∀ s ∈ ss, 0 ≤ s ∧ s ≤ 65536) (h0 : 0 ≤ off) (h1 : off ≤ 65535) :
    ∀ x ∈ places off ds ss (pr ds).toNat, 0 ≤ x ∧ x ≤ 1099511627776 := by
  intro x hx
  obtain ⟨k, hk, rfl⟩ := List.mem_map.1 hx
  have hpos : Pos ds := fun d hd => (hD d hd).1
  have hP := pr_pos hpos
  rw [List.mem_range] at hk
  have b := plc_bound (ss := ss) (cs := crd ds (k : Int)) hS (fun c hc => by
    obtain ⟨j, hj, rfl⟩ := List.getElem_of_mem hc
    have hj' : j < ds.length := by rw [crd_length] at hj; exact hj
    have h1 := crd_range hpos (k := (k : Int)) (by omega) (by omega) j hj'
    have h2 := hD _ (getD_mem hj')
    rw [show (crd ds (k : Int)).getD j 0 = (crd ds (k : Int))[j] by simp [List.getD, List.getElem?_eq_getElem hj]] at h1
    omega)
  rw [crd_length] at b
  omega

attribute [local irreducible] crd plc zeros pr nxt places mayV

set_option maxRecDepth 100000 in
set_option maxHeartbeats 2000000 in
theorem read_may (n : Nat) (hn : 4 ≤ n) (off : Int) (a1 a2 ad : Option Addr) (c1 c2 cd : Nat) (ds ss data : List Int) (w : World)
    (hd : Hid (IntsIn w (.slice a1 ds.length c1) ds)) (hs : Hid (IntsIn w (.slice a2 ds.length c2) ss)) (hdat : Hid (IntsIn w (.slice ad data.length cd) data)) (hm : Hid (mayV off ds ss = true))
    (hss : Hid (ss.length = ds.length)) (hlen : ds.length ≤ 6) (hD : Hid (∀ d ∈ ds, 1 ≤ d ∧ d ≤ 65536)) (hS : Hid (∀ s ∈ ss, 0 ≤ s ∧ s ≤ 65536)) (ho0 : 0 ≤ off) (ho1 : off ≤ 65535) (hN : Hid (pr ds ≤ 65536)) :
    CallsIn Fence.wide n Tryz.prog 36 #[.agg #[.int .i64 off, .slice a1 ds.length c1, .slice a2 ds.length c2], .slice ad data.length cd] w fun e w' =>
      Below w.heap.size w w' ∧ ((∃ l v, readL off ds ss data = some l ∧ e = .returned (.tuple #[v, .int .i64 0]) ∧ w'.ownsRow w.heap.size 2 1 v l.length (l.map (Value.int .i64))) ∨ (readL off ds ss data = none ∧ e = .returned (.tuple #[.slice none 0 0, .int .i64 1]))) := by
  obtain ⟨i0, hi, hz0, hz1, hz2⟩ := info_parts info_int64
  -- the boxes
  obtain ⟨WA, hWA⟩ : ∃ WA, (((w.alloc (.cells #[.int .i64 off, .slice a1 ds.length c1, .slice a2 ds.length c2] 73)).alloc (.cells #[.slice ad data.length cd] 36)).alloc (.cells #[.slice none 0 0] 36)).alloc (.cells #[.int .i64 0] 31) = WA := ⟨_, rfl⟩
  have zA : Hid (WA.heap.size = w.heap.size + 4) := Lib.hid (by rw [← hWA]; simp)
  have bA : Hid (Below w.heap.size w WA) := Lib.hid (by
    rw [← hWA]
    exact ((((Below.refl _ w).alloc (Nat.le_refl _) _).alloc (by simp) _).alloc (by simp; omega) _).alloc (by simp; omega) _)
  have xv : Hid (WA.heap[w.heap.size]? = some (.cells #[.int .i64 off, .slice a1 ds.length c1, .slice a2 ds.length c2] 73 (0, 0))) := Lib.hid (by
    rw [← hWA, Below.heap_alloc _ _ _ (by simp; omega), Below.heap_alloc _ _ _ (by simp; omega), Below.heap_alloc _ _ _ (by simp)]
    exact World.alloc_heap_new w _)
  have xd : Hid (Boxed WA (w.heap.size + 1) 36 (.slice ad data.length cd)) := Lib.hid (by
    rw [← hWA]
    have := ((Boxed.new (w.alloc (.cells #[.int .i64 off, .slice a1 ds.length c1, .slice a2 ds.length c2] 73)) 36 (.slice ad data.length cd)).alloc (.cells #[.slice none 0 0] 36)).alloc (.cells #[.int .i64 0] 31)
    rwa [World.size_alloc] at this)
  have xr : Hid (Boxed WA (w.heap.size + 1 + 1) 36 (.slice none 0 0)) := Lib.hid (by
    rw [← hWA]
    have := (Boxed.new ((w.alloc (.cells #[.int .i64 off, .slice a1 ds.length c1, .slice a2 ds.length c2] 73)).alloc (.cells #[.slice ad data.length cd] 36)) 36 (.slice none 0 0)).alloc (.cells #[.int .i64 0] 31)
    rwa [World.size_alloc, World.size_alloc] at this)
  have xe : Hid (Boxed WA (w.heap.size + 1 + 1 + 1) 31 (.int .i64 0)) := Lib.hid (by
    rw [← hWA]
    have := Boxed.new (((w.alloc (.cells #[.int .i64 off, .slice a1 ds.length c1, .slice a2 ds.length c2] 73)).alloc (.cells #[.slice ad data.length cd] 36)).alloc (.cells #[.slice none 0 0] 36)) 31 (.int .i64 0)
    rwa [World.size_alloc, World.size_alloc, World.size_alloc] at this)
  have HF := Lib.hid (fine_any (off := off) (hd.out.below bA.out) (hs.out.below bA.out))
  rw [hm.out, ← hWA] at HF
  have hEq := Lib.hid hWA
  clear hWA
  have h1 : 1 ≤ n := by omega
  have hf1 : Fence.wide.fn 80 := trivial
  have hf2 : Fence.wide.fn 82 := trivial
  refine callsIn_of_wp_marks Tryz.func36 rfl trivial ?_ rfl
  simp only [Tryz.ntmps36, List.size_toArray, List.length_cons, List.length_nil, Nat.reduceAdd, Nat.reduceSub, Array.replicate_succ, Array.replicate_zero, List.push_toArray, List.append_toArray, List.nil_append, List.cons_append]
  gi_wp2_with (first | (gi_at_call 80; refine (callsIn_wide.2 HF.out).mono ?_; rintro e w1 ⟨rfl, hB1⟩; rw [hEq.out] at hB1; obtain ⟨y0, y1, y2⟩ := box_cells ((Below.heap_alloc w1 (.cells #[.slice none 0 0] 36) w.heap.size (by have := zA.out; have := hB1.size; omega)).trans ((hB1.block w.heap.size (by have := zA.out; omega)).trans xv.out)); have HB1 := Lib.hid hB1; clear hB1) | (gi_at_call 82; refine (callsIn_wide.2 (places_any _ _ _ _)).mono ?_; rintro e w2 ⟨rfl, rfl⟩))
  obtain ⟨WC, hWC⟩ : ∃ WC, (w1.alloc (.cells #[.slice none 0 0] 36)).alloc (.cells #[.int .i64 off, .slice a1 ds.length c1, .slice a2 ds.length c2] 73) = WC := ⟨_, rfl⟩
  have zC : WC.heap.size = w1.heap.size + 2 := by rw [← hWC]; simp
  have z1 : w.heap.size + 4 ≤ w1.heap.size := by have := zA.out; have := HB1.out.size; omega
  have hC : ∀ b, b < w1.heap.size → WC.heap[b]? = w1.heap[b]? := fun b hb => by
    rw [← hWC, Below.heap_alloc _ _ _ (by simp; omega), Below.heap_alloc _ _ _ hb]
  have bC : Below w.heap.size w WC := by
    rw [← hWC]
    exact ((bA.out.trans (HB1.out.mono (by have := zA.out; omega))).alloc (by omega) _).alloc (by simp; omega) _
  have kC : ∀ {b : Nat} {t : TypeId} {v : Value}, Boxed WA b t v → Boxed WC b t v := fun {b t v} h => (hC b (by have := h.lt; have := zA.out; omega)).trans ((HB1.out.block b (by have := h.lt; have := zA.out; omega)).trans h)
  have oC : Boxed WC w1.heap.size 36 (.slice none 0 0) := by
    rw [← hWC]
    exact (Boxed.new w1 36 (.slice none 0 0)).alloc _
  have vC : WC.heap[w1.heap.size + 1]? = some (.cells #[.int .i64 off, .slice a1 ds.length c1, .slice a2 ds.length c2] 73 (0, 0)) := by
    rw [← hWC]
    have := World.alloc_heap_new (w1.alloc (.cells #[.slice none 0 0] 36)) (.cells #[.int .i64 off, .slice a1 ds.length c1, .slice a2 ds.length c2] 73)
    rwa [World.size_alloc] at this
  rw [hWC]
  have hseq : SeqCells Fence.wide (n - 1) Tryz.prog 142 #[.pointer (some ⟨w1.heap.size + 1, 0, none⟩)] (Keep w.heap.size (w1.heap.size + 1) (WC.heap.size + 2)) (WC.heap.size + 2) (places off ds ss (pr ds).toNat) WC := by
    intro l J Jx W hBW hW hJ hJx hY h0
    have b2 : Below w.heap.size w W := bC.trans (hBW.mono (by omega))
    exact places_walk (n - 1) (by omega) l w (w1.heap.size + 1) (WC.heap.size + 2) off a1 a2 c1 c2 ds ss (Lib.hid hd.out.rowsV.2) (Lib.hid hs.out.rowsV.2) hss.out hlen hD hS ho0 ho1 J Jx (Lib.hid hJ) (Lib.hid hJx) (Lib.hid hY) W hW (by omega) (by omega) ⟨(hBW.block _ (by omega)).trans vC, b2⟩ h0
  have hpl : Hid (∀ x ∈ places off ds ss (pr ds).toNat, 0 ≤ x ∧ x ≤ 1099511627776) := Lib.hid (places_bound hss.out hlen hD.out hS.out ho0 ho1)
  refine range_cells (a := _) rfl h1 (gf := 142) (lb := #[.pointer (some ⟨w1.heap.size + 1, 0, none⟩)]) rfl trivial (enters_of Tryz.func142 (by kernel_rfl) rfl) hseq (Below.refl _ _)
    (fun {A B C} h k => ⟨h.1.trans k.1, k.2.1.trans h.2.1, k.2.2.trans h.2.2⟩) (fun W o o' ho => ⟨(Below.refl _ _).grown (grownBy_putObj' W _ o') (by have := (Array.getElem?_eq_some_iff.1 ho).1; omega) (fun k e => by cases e; omega), World.putObj_heap_other (by omega), World.putObj_heap_other (by omega)⟩)
    (fun pre W => RdI w (w.heap.size + 1) (w.heap.size + 1 + 1) (w.heap.size + 1 + 1 + 1) w1.heap.size (WC.heap.size + 2) (.slice ad data.length cd) data pre W)
    (fun pre W => RdX w (w.heap.size + 1 + 1) (w.heap.size + 1 + 1 + 1) data (places off ds ss (pr ds).toNat) W)
    (fun s A A' row h hg hr => rdI_grown h (by omega) (by omega) (by omega) (by omega) (by omega) hg (fun r e => ⟨by have := (hr r e).1; omega, Or.inr (hr r e).2⟩))
    (fun s A A' row h hg hr => rdX_grown h hg (fun r e => by have := (hr r e).1; omega))
    (fun s A A' row h hg hr => rdI_grown h (by omega) (by omega) (by omega) (by omega) (by omega) hg (fun r e => by have := hr r e; omega))
    (fun s A A' row h hg hr => rdX_grown h hg (fun r e => by have := hr r e; omega))
    ⟨by simp, ⟨_, oC, World.ownsRow_nil _ _ _ _⟩, kC xd.out, kC xr.out, kC xe.out, bC⟩
    (fun x => { tmps := #[.agg #[.int .i64 off, .slice a1 ds.length c1, .slice a2 ds.length c2], .slice ad data.length cd, .pointer (some ⟨w.heap.size, 0, none⟩), .pointer (some ⟨w.heap.size + 1, 0, none⟩), .pointer (some ⟨w.heap.size + 1 + 1, 0, none⟩), .pointer (some ⟨w.heap.size + 1 + 1 + 1, 0, none⟩), .pointer (some ⟨w1.heap.size, 0, none⟩), .int .i64 x,
      .agg #[.int .i64 off, .slice a1 ds.length c1, .slice a2 ds.length c2], .bool true, .bool false, .agg #[.int .i64 off, .slice a1 ds.length c1, .slice a2 ds.length c2], .func (.func 142) #[] #[.pointer (some ⟨w1.heap.size + 1, 0, none⟩)], .int .i64 x, undef, undef, undef, undef, undef, undef, undef, undef, undef, undef, undef, undef], defers := [] }) ?assign ?body ?done ?stop
  case assign =>
    intro l x W K hK
    gi_wp2
    exact hK
  case body =>
    rintro l pre x W hI hz ⟨rest, hall⟩
    have hx := hpl.out x (by rw [hall]; simp)
    have cd1 := hI.dat.cell
    have cr := hI.res.cell
    have fr := hI.res.frozen
    have ce := hI.err.cell
    have fe := hI.err.frozen
    have HI := Lib.hid hI
    have HA := Lib.hid hall
    clear hI hall
    by_cases hlt : x < data.length
    · obtain ⟨bd, od, rfl, hbd, hrd⟩ := hdat.out.rowsV.2 x.toNat (by omega)
      obtain ⟨v, hv, hrow⟩ := HI.out.out
      obtain ⟨xn, rfl⟩ := Int.eq_ofNat_of_zero_le hx.1
      have cx := (HI.out.below.cell (p := ⟨bd, od + xn, none⟩) hbd).trans (hrd xn (by omega))
      have co := hv.cell
      have hdl := hdat.out.wf.1
      have hpre : Hid (pre.length ≤ 65536) := Lib.hid (by
        have h1 := congrArg List.length HA.out
        rw [places_length] at h1
        have := hN.out
        simp at h1; omega)
      generalize hdx : data.getD xn 0 = dx at *
      obtain ⟨g, cp, w1x, hap⟩ : ∃ (g cp : World → Nat) (w1x : World → World), ∀ X : World, X.heap = W.heap →
          (Builtin.append_ #[36, 36] 36 #[v, .slice (some ⟨W.heap.size, 0, none⟩) 1 1]).run Tryz.prog (X.alloc (.cells #[.int .i64 dx] 2)) = .ok (.slice (some ⟨g X, 0, none⟩) (pre.length + 1) (cp X)) (w1x X) ∧
          (w1x X).ownsRow (WC.heap.size + 2 + 1) 2 1 (.slice (some ⟨g X, 0, none⟩) (pre.length + 1) (cp X)) (pre.length + 1) (got data pre ++ [.int .i64 dx]) ∧ (X.alloc (.cells #[.int .i64 dx] 2)).grownBy (w1x X) v.ownBlock := by
        have key : ∀ X : World, X.heap = W.heap → ∃ (gg cc : Nat) (ww : World), (Builtin.append_ #[36, 36] 36 #[v, .slice (some ⟨W.heap.size, 0, none⟩) 1 1]).run Tryz.prog (X.alloc (.cells #[.int .i64 dx] 2)) = .ok (.slice (some ⟨gg, 0, none⟩) (pre.length + 1) cc) ww ∧
            ww.ownsRow (WC.heap.size + 2 + 1) 2 1 (.slice (some ⟨gg, 0, none⟩) (pre.length + 1) cc) (pre.length + 1) (got data pre ++ [.int .i64 dx]) ∧ (X.alloc (.cells #[.int .i64 dx] 2)).grownBy ww v.ownBlock := by
          intro X hX
          have hrX : X.ownsRow (WC.heap.size + 2 + 1) 2 1 v pre.length (got data pre) := by
            obtain ⟨q1, q2⟩ := hrow
            refine ⟨q1, ?_⟩
            rw [hX]; exact q2
          have hzX : X.heap.size = W.heap.size := by rw [hX]
          obtain ⟨v', w', e1, e2, e3, _⟩ := run_append_own (P := Tryz.prog) (w := X.alloc (.cells #[.int .i64 dx] 2)) (WC.heap.size + 2 + 1) 36 36 2 i0 (.int .i64 0) 1 8 Tryz.underlying36 hi hz0 hz1 hz2 rfl (by decide) v pre.length (got data pre) (hrX.alloc _) ⟨W.heap.size, 0, none⟩ 1 1 [.int .i64 dx] rfl (by rw [← hzX]; exact cell_one_new _ _ _) (by simp [Value.oneCell']) (by have := hpre.out; unfold maxLen; omega) (by have := hpre.out; omega) (by simp; omega)
          obtain ⟨gg, cc, rfl⟩ := ownsRow_succ e2
          exact ⟨gg, cc, w', e1, e2, e3⟩
        have key2 : ∀ X : World, ∃ q : Nat × Nat × World, X.heap = W.heap → (Builtin.append_ #[36, 36] 36 #[v, .slice (some ⟨W.heap.size, 0, none⟩) 1 1]).run Tryz.prog (X.alloc (.cells #[.int .i64 dx] 2)) = .ok (.slice (some ⟨q.1, 0, none⟩) (pre.length + 1) q.2.1) q.2.2 ∧
            q.2.2.ownsRow (WC.heap.size + 2 + 1) 2 1 (.slice (some ⟨q.1, 0, none⟩) (pre.length + 1) q.2.1) (pre.length + 1) (got data pre ++ [.int .i64 dx]) ∧ (X.alloc (.cells #[.int .i64 dx] 2)).grownBy q.2.2 v.ownBlock := fun X => by
          by_cases hX : X.heap = W.heap
          · obtain ⟨gg, cc, ww, h⟩ := key X hX
            exact ⟨(gg, cc, ww), fun _ => h⟩
          · exact ⟨(0, 0, X), fun h => absurd h hX⟩
        exact ⟨fun X => (Classical.choose (key2 X)).1, fun X => (Classical.choose (key2 X)).2.1, fun X => (Classical.choose (key2 X)).2.2, fun X hX => Classical.choose_spec (key2 X) hX⟩
      have ha1 : (Builtin.append_ #[36, 36] 36 #[v, .slice (some ⟨W.heap.size, 0, none⟩) 1 1]).run Tryz.prog (W.alloc (.cells #[.int .i64 dx] 2)).drew = .ok (.slice (some ⟨g W.drew, 0, none⟩) (pre.length + 1) (cp W.drew)) (w1x W.drew) := (hap W.drew rfl).1
      have hb := fun X (hX : X.heap = W.heap) => appended_below (W := X) (t := 36) (B := WC.heap.size + 2) ((show X.heap[w1.heap.size]? = _ by rw [hX]; exact hv)) (by obtain ⟨q1, q2⟩ := hrow; exact ⟨q1, by rw [hX]; exact q2⟩) (by omega) (by rw [hX]; omega) (hap X hX).2.1 (hap X hX).2.2
      have ha2 : (w1x W.drew).cell? ⟨w1.heap.size, 0, none⟩ = some v := (hb W.drew rfl).1.cell
      have ha3 : (w1x W.drew).frozen? ⟨w1.heap.size, 0, none⟩ = false := (hb W.drew rfl).1.frozen
      have hfin : Hid (KeepsOthers W ((w1x W.drew).setCell ⟨w1.heap.size, 0, none⟩ (.slice (some ⟨g W.drew, 0, none⟩) (pre.length + 1) (cp W.drew))) ∧
          Keep w.heap.size (w1.heap.size + 1) (WC.heap.size + 2) W ((w1x W.drew).setCell ⟨w1.heap.size, 0, none⟩ (.slice (some ⟨g W.drew, 0, none⟩) (pre.length + 1) (cp W.drew))) ∧
          RdI w (w.heap.size + 1) (w.heap.size + 1 + 1) (w.heap.size + 1 + 1 + 1) w1.heap.size (WC.heap.size + 2) (.slice (some ⟨bd, od, none⟩) data.length cd) data (pre ++ [(xn : Int)]) ((w1x W.drew).setCell ⟨w1.heap.size, 0, none⟩ (.slice (some ⟨g W.drew, 0, none⟩) (pre.length + 1) (cp W.drew)))) := Lib.hid (by
        obtain ⟨r1, r2, r3, r4, r5, r6⟩ := hb W.drew rfl
        have rb : ∀ {b : Nat} {t : TypeId} {u : Value}, b < w1.heap.size → Boxed W b t u → Boxed ((w1x W.drew).setCell ⟨w1.heap.size, 0, none⟩ (.slice (some ⟨g W.drew, 0, none⟩) (pre.length + 1) (cp W.drew))) b t u := fun {b t u} hlt' h => (r6 b (by omega) (by omega)).trans h
        refine ⟨(KeepsOthers.of_grownBy (grown_drew W none) (fun j o e _ => by cases e)).trans r4, ⟨(Below.refl _ W).drew.trans (r5 _ (by omega)), r6 _ (by omega) (by omega), r6 _ (by omega) (by omega)⟩, ?_, ⟨_, r2, ?_⟩, rb (by omega) HI.out.dat, rb (by omega) HI.out.res, rb (by omega) HI.out.err, HI.out.below.drew.trans (r5 _ (by omega))⟩
        · intro p hp
          rcases List.mem_append.1 hp with h | h
          · exact HI.out.inr p h
          · simp at h; subst h; omega
        · rw [List.length_append]
          unfold got at r3 ⊢
          rw [List.map_append]
          have hdx' : data[xn]?.getD 0 = dx := by rw [← hdx]; simp [List.getD]
          simpa [hdx'] using r3)
      clear hb hap
      have co2 : (W.alloc (.cells #[.int .i64 dx] 2)).cell? ⟨w1.heap.size, 0, none⟩ = some v := (hv.alloc _).cell
      have hd2 : 1 ≤ n - 1 - 1 := by omega
      have hmx : Tryz.prog.follows .mixedOrders = true := by kernel_rfl
      gi_wp2
      refine wpIn_region_any (by kernel_rfl) ?_
      (try (change wpAnyIn _ _ _ _ _ _ _ _ _ (World.drew _)))
      repeat' (first
        | (exact AllReadyIn.nil)
        | (refine AllReadyIn.cons rfl (fun K hK => ?_) ?_; go_simp; refine hK _ _ ?_; clear hK K)
        | (refine wpAnyIn_done (by decide +kernel) ?_ _)
        | (refine wpAnyIn_ready (rs := [6]) (by decide +kernel) (by simp) ?_; refine AllReadyIn.cons rfl (fun K hK => ?_) AllReadyIn.nil; simp only [List.getElem_toArray, List.getElem_cons_succ, List.getElem_cons_zero]; refine Eq.mpr (if_pos (wanted_none rfl _)) ?_; refine op_append (t := 36) (s := .tmp 18) (x := .tmp 23) rfl rfl rfl ha1 ?_; go_simp; refine hK _ _ ?_; clear hK K)
        | (refine wpAnyIn_ready (rs := [3]) (by decide +kernel) (by simp) ?_; refine AllReadyIn.cons rfl (fun K hK => ?_) AllReadyIn.nil; go_simp; refine hK _ _ ?_; clear hK K)
        | (refine wpAnyIn_ready (rs := [4]) (by decide +kernel) (by simp) ?_; refine AllReadyIn.cons rfl (fun K hK => ?_) AllReadyIn.nil; go_simp; refine hK _ _ ?_; clear hK K)
        | (refine wpAnyIn_ready (rs := [5]) (by decide +kernel) (by simp) ?_; refine AllReadyIn.cons rfl (fun K hK => ?_) AllReadyIn.nil; go_simp; refine hK _ _ ?_; clear hK K)
        | (refine wpAnyIn_ready (rs := [1]) (by decide +kernel) (by simp) ?_; refine AllReadyIn.cons rfl (fun K hK => ?_) AllReadyIn.nil; go_simp; refine hK _ _ ?_; clear hK K)
        | (refine wpAnyIn_ready (rs := [2]) (by decide +kernel) (by simp) ?_; refine AllReadyIn.cons rfl (fun K hK => ?_) AllReadyIn.nil; go_simp; refine hK _ _ ?_; clear hK K)
        | (refine wpAnyIn_ready (rs := [0]) (by decide +kernel) (by simp) ?_; refine AllReadyIn.cons rfl (fun K hK => ?_) AllReadyIn.nil; go_simp; refine hK _ _ ?_; clear hK K)
        | (refine wpAnyIn_ready (rs := [7]) (by decide +kernel) (by simp) ?_; refine AllReadyIn.cons rfl (fun K hK => ?_) AllReadyIn.nil; go_simp; refine hK _ _ ?_; clear hK K)
        | (refine wpAnyIn_ready (rs := [0, 1, 2]) (by decide +kernel) (by simp) ?_)
        | (refine wpAnyIn_ready (rs := [0, 1]) (by decide +kernel) (by simp) ?_)
        | (refine wpAnyIn_ready (rs := [0, 2]) (by decide +kernel) (by simp) ?_)
        | (refine wpAnyIn_ready (rs := [1, 2]) (by decide +kernel) (by simp) ?_)
        | (refine wpAnyIn_ready (rs := [0, 3]) (by decide +kernel) (by simp) ?_)
        | (refine wpAnyIn_ready (rs := [0, 4]) (by decide +kernel) (by simp) ?_)
        | (refine wpAnyIn_ready (rs := [0, 5]) (by decide +kernel) (by simp) ?_))
      all_goals gi_wp2
      all_goals exact hfin.out
    · have hbad : Hid (∃ p ∈ places off ds ss (pr ds).toNat, (data.length : Int) ≤ p) := Lib.hid ⟨x, by rw [HA.out]; simp, by omega⟩
      have b2 : Boxed (W.setCell ⟨w.heap.size + 1 + 1, 0, none⟩ (.slice none 0 0)) (w.heap.size + 1 + 1 + 1) 31 (.int .i64 0) := (Below.heap_setCell _ _ _ _ (by simp)).trans HI.out.err
      have ce2 := b2.cell
      have fe2 := b2.frozen
      have hfin : Hid (KeepsOthers W ((W.setCell ⟨w.heap.size + 1 + 1, 0, none⟩ (.slice none 0 0)).setCell ⟨w.heap.size + 1 + 1 + 1, 0, none⟩ (.int .i64 1)) ∧
          RdX w (w.heap.size + 1 + 1) (w.heap.size + 1 + 1 + 1) data (places off ds ss (pr ds).toNat) ((W.setCell ⟨w.heap.size + 1 + 1, 0, none⟩ (.slice none 0 0)).setCell ⟨w.heap.size + 1 + 1 + 1, 0, none⟩ (.int .i64 1))) := Lib.hid
        ⟨(KeepsOthers.setCell _ _ _).trans (KeepsOthers.setCell _ _ _), hbad.out, (Below.heap_setCell _ _ _ _ (by simp)).trans (HI.out.res.set _), b2.set _, (HI.out.below.setCell (p := ⟨w.heap.size + 1 + 1, 0, none⟩) (by simp; omega) _).setCell (p := ⟨w.heap.size + 1 + 1 + 1, 0, none⟩) (by simp; omega) _⟩
      clear b2
      gi_wp2
      exact hfin.out
  case done =>
    rintro D W hD hI hK
    obtain ⟨v, hv, hrow⟩ := hI.out
    have co := hv.cell
    have cr := hI.res.cell
    have fr := hI.res.frozen
    have b2 : Boxed (W.setCell ⟨w.heap.size + 1 + 1, 0, none⟩ v) (w.heap.size + 1 + 1 + 1) 31 (.int .i64 0) := (Below.heap_setCell _ _ _ _ (by simp)).trans hI.err
    have ce2 := b2.cell
    have fe2 := b2.frozen
    have hr : readL off ds ss data = some ((places off ds ss (pr ds).toNat).map fun p => data.getD p.toNat 0) := by
      unfold readL; rw [if_pos ⟨hm.out, hI.inr⟩]
    have hfin : Hid (Below w.heap.size w ((W.setCell ⟨w.heap.size + 1 + 1, 0, none⟩ v).setCell ⟨w.heap.size + 1 + 1 + 1, 0, none⟩ (.int .i64 0)) ∧ ((W.setCell ⟨w.heap.size + 1 + 1, 0, none⟩ v).setCell ⟨w.heap.size + 1 + 1 + 1, 0, none⟩ (.int .i64 0)).heap[D]? = some (.deferred (some [])) ∧
        Boxed ((W.setCell ⟨w.heap.size + 1 + 1, 0, none⟩ v).setCell ⟨w.heap.size + 1 + 1 + 1, 0, none⟩ (.int .i64 0)) (w.heap.size + 1 + 1) 36 v ∧ Boxed ((W.setCell ⟨w.heap.size + 1 + 1, 0, none⟩ v).setCell ⟨w.heap.size + 1 + 1 + 1, 0, none⟩ (.int .i64 0)) (w.heap.size + 1 + 1 + 1) 31 (.int .i64 0) ∧
        ((W.setCell ⟨w.heap.size + 1 + 1, 0, none⟩ v).setCell ⟨w.heap.size + 1 + 1 + 1, 0, none⟩ (.int .i64 0)).ownsRow (WC.heap.size + 2 + 1) 2 1 v (places off ds ss (pr ds).toNat).length (got data (places off ds ss (pr ds).toNat))) := Lib.hid
      ⟨(hI.below.setCell (p := ⟨w.heap.size + 1 + 1, 0, none⟩) (by simp; omega) _).setCell (p := ⟨w.heap.size + 1 + 1 + 1, 0, none⟩) (by simp; omega) _,
       (Below.heap_setCell _ _ _ _ (by simp; omega)).trans ((Below.heap_setCell _ _ _ _ (by simp; omega)).trans hK), (Below.heap_setCell _ _ _ _ (by simp)).trans (hI.res.set _), b2.set _,
       ownsRow_setCell_below (ownsRow_setCell_below hrow (by simp; omega) _) (by simp; omega) _⟩
    have HR := Lib.hid hr
    have HRow := Lib.hid hrow
    clear b2 hr hI hK hrow
    have hform : v = .slice none 0 0 ∨ ∃ g n cap, v = .slice (some ⟨g, 0, none⟩) n cap := by
      rcases HRow.out.2 with ⟨rfl, _⟩ | ⟨g, cap, cur, rfl, _⟩
      · exact Or.inl rfl
      · exact Or.inr ⟨_, _, _, rfl⟩
    rcases hform with rfl | ⟨g, nn, cap, rfl⟩
    · gi_wp2
      obtain ⟨q1, q2, q3, q4, q5⟩ := hfin.out
      refine ⟨by simp, .inl ⟨_, _, rfl, run_takeDeferred q2, ?_⟩⟩
      have c1 := cell_kept q3.cell (grownBy_putObj' _ D (.deferred none)) (fun r e => by cases e; exact ⟨_, q2, rfl⟩)
      have c2 := cell_kept q4.cell (grownBy_putObj' _ D (.deferred none)) (fun r e => by cases e; exact ⟨_, q2, rfl⟩)
      refine ⟨.tuple #[.slice none 0 0, .int .i64 0], by simp [results, Tryz.f36, go_sem, c1, c2], q1.grown (grownBy_putObj' _ D (.deferred none)) q1.size (fun k e => by cases e; omega), Or.inl ⟨_, _, HR.out, rfl, ?_⟩⟩
      have q6 := rows_mono (ownsRow_putObj q5 (.deferred none) q2 rfl) (show w.heap.size ≤ _ by omega)
      simpa [got, List.map_map, Function.comp_def] using q6
    · gi_wp2
      obtain ⟨q1, q2, q3, q4, q5⟩ := hfin.out
      refine ⟨by simp, .inl ⟨_, _, rfl, run_takeDeferred q2, ?_⟩⟩
      have c1 := cell_kept q3.cell (grownBy_putObj' _ D (.deferred none)) (fun r e => by cases e; exact ⟨_, q2, rfl⟩)
      have c2 := cell_kept q4.cell (grownBy_putObj' _ D (.deferred none)) (fun r e => by cases e; exact ⟨_, q2, rfl⟩)
      refine ⟨.tuple #[.slice (some ⟨g, 0, none⟩) nn cap, .int .i64 0], by simp [results, Tryz.f36, go_sem, c1, c2], q1.grown (grownBy_putObj' _ D (.deferred none)) q1.size (fun k e => by cases e; omega), Or.inl ⟨_, _, HR.out, rfl, ?_⟩⟩
      have q6 := rows_mono (ownsRow_putObj q5 (.deferred none) q2 rfl) (show w.heap.size ≤ _ by omega)
      simpa [got, List.map_map, Function.comp_def] using q6
  case stop =>
    rintro D pre W hD hX hK
    have hr : readL off ds ss data = none := by
      unfold readL
      rw [if_neg]
      rintro ⟨_, h⟩
      obtain ⟨p, hp, hge⟩ := hX.bad
      have := h p hp
      omega
    have hfin : Hid (RdX w (w.heap.size + 1 + 1) (w.heap.size + 1 + 1 + 1) data (places off ds ss (pr ds).toNat) W ∧ W.heap[D]? = some (.deferred (some []))) := Lib.hid ⟨hX, hK⟩
    have HR := Lib.hid hr
    clear hr hX hK
    gi_wp2
    obtain ⟨q1, q2⟩ := hfin.out
    refine ⟨by simp, .inl ⟨_, _, rfl, run_takeDeferred q2, ?_⟩⟩
    have c1 := cell_kept q1.res.cell (grownBy_putObj' _ D (.deferred none)) (fun r e => by cases e; exact ⟨_, q2, rfl⟩)
    have c2 := cell_kept q1.err.cell (grownBy_putObj' _ D (.deferred none)) (fun r e => by cases e; exact ⟨_, q2, rfl⟩)
    exact ⟨.tuple #[.slice none 0 0, .int .i64 1], by simp [results, Tryz.f36, go_sem, c1, c2], q1.below.grown (grownBy_putObj' _ D (.deferred none)) q1.below.size (fun k e => by cases e; omega), Or.inr ⟨HR.out, rfl⟩⟩


attribute [local irreducible] readL

end Go.Proofs.YtagiipecfdmceaaGreatDoor.Vx

set_option linter.unusedVariables false
namespace Go.Proofs.YtagiipecfdmceaaGreatDoor.Vx
open Go.RowKit Vw

theorem cnt_ok : ∀ {zs : List Int} {n m : Int}, (∀ d ∈ zs, 1 ≤ d) → 1 ≤ n → n ≤ 65536 → cntLoop n zs = (m, 0) → m = n * pr zs ∧ n * pr zs ≤ 65536 ∧ ∀ d ∈ zs, d ≤ 65536
  | [], n, m, _, h1, h2, h => by
    simp only [cntLoop, Prod.mk.injEq, and_true] at h
    simp [pr, ← h, h2]
  | d :: ds, n, m, hp, h1, h2, h => by
    have hd := hp d (by simp)
    simp only [cntLoop] at h
    by_cases g : 65536 < n * d
    · rw [if_pos g] at h; simp at h
    · rw [if_neg g] at h
      have hn := mul_pos' h1 hd
      obtain ⟨a, b, c⟩ := cnt_ok (zs := ds) (n := n * d) (m := m) (fun x hx => hp x (by simp [hx])) hn (by omega) h
      have e : n * d * pr ds = n * pr (d :: ds) := by simp [pr, Int.mul_assoc]
      refine ⟨by rw [← e]; exact a, by rw [← e]; exact b, ?_⟩
      intro x hx
      rcases List.mem_cons.1 hx with rfl | hx
      · by_cases h3 : 65536 < x
        · exact absurd (mul_big h1 h3) g
        · omega
      · exact c x hx

/-- Dimensions that may be. -/
theorem cnt_good {zs : List Int} (h : (cnt zs).2 = 0) : (∀ d ∈ zs, 1 ≤ d ∧ d ≤ 65536) ∧ zs.length ≤ 6 ∧ (cnt zs).1 = pr zs ∧ pr zs ≤ 65536 := by
  cases ha : zs.any (fun d => decide (d < 1))
  · by_cases g : 6 < zs.length
    · rw [cnt_long ha g] at h; simp at h
    · rw [cnt_loop ha g] at h ⊢
      have hp : ∀ d ∈ zs, 1 ≤ d := fun d hd => by
        have := List.any_eq_false.1 ha d hd
        simpa using this
      obtain ⟨a, b, c⟩ := cnt_ok (n := 1) (m := (cntLoop 1 zs).1) hp (by decide) (by decide) (by rw [← h])
      rw [Int.one_mul] at a b
      exact ⟨fun d hd => ⟨hp d hd, c d hd⟩, by omega, a, b⟩
  · rw [cnt_low ha] at h; simp at h

theorem may_good {off : Int} {ds ss : List Int} (h : mayV off ds ss = true) : (∀ d ∈ ds, 1 ≤ d ∧ d ≤ 65536) ∧ ds.length ≤ 6 ∧ (cnt ds).1 = pr ds ∧ pr ds ≤ 65536 ∧ ss.length = ds.length ∧ 0 ≤ off ∧ off ≤ 65535 ∧ (∀ s ∈ ss, 0 ≤ s ∧ s ≤ 65536) := by
  unfold mayV at h
  simp only [Bool.and_eq_true, decide_eq_true_eq, Bool.not_eq_true'] at h
  obtain ⟨⟨⟨⟨h1, h2⟩, h3⟩, h4⟩, h5⟩ := h
  obtain ⟨a, b, c, d⟩ := cnt_good h1
  refine ⟨a, b, c, d, h2, h3, by omega, fun s hs => ?_⟩
  have := List.any_eq_false.1 h5 s hs
  unfold farS at this
  simp at this; omega

theorem may_none {off : Int} {ds ss data : List Int} (h : mayV off ds ss = false) : readL off ds ss data = none := by
  unfold readL; rw [h]; simp

set_option maxHeartbeats 1000000 in
theorem read_not (off : Int) (a1 a2 : Option Addr) (dv : Value) (n1 n2 c1 c2 : Nat) (ds ss : List Int) (w : World)
    (hd : Hid (IntsIn w (.slice a1 n1 c1) ds)) (hs : Hid (IntsIn w (.slice a2 n2 c2) ss)) (hm : Hid (mayV off ds ss = false)) (a0 : Option Addr) (n0 c0 : Nat) (hdv : dv = .slice a0 n0 c0) :
    Calls Tryz.prog 36 #[.agg #[.int .i64 off, .slice a1 n1 c1, .slice a2 n2 c2], dv] w fun e w' =>
      Below w.heap.size w w' ∧ e = .returned (.tuple #[.slice none 0 0, .int .i64 1]) := by
  subst hdv
  obtain ⟨WA, hWA⟩ : ∃ WA, (((w.alloc (.cells #[.int .i64 off, .slice a1 n1 c1, .slice a2 n2 c2] 73)).alloc (.cells #[.slice a0 n0 c0] 36)).alloc (.cells #[.slice none 0 0] 36)).alloc (.cells #[.int .i64 0] 31) = WA := ⟨_, rfl⟩
  have zA : Hid (WA.heap.size = w.heap.size + 4) := Lib.hid (by rw [← hWA]; simp)
  have bA : Hid (Below w.heap.size w WA) := Lib.hid (by
    rw [← hWA]
    exact ((((Below.refl _ w).alloc (Nat.le_refl _) _).alloc (by simp) _).alloc (by simp; omega) _).alloc (by simp; omega) _)
  have xr : Hid (Boxed WA (w.heap.size + 1 + 1) 36 (.slice none 0 0)) := Lib.hid (by
    rw [← hWA]
    have := (Boxed.new ((w.alloc (.cells #[.int .i64 off, .slice a1 n1 c1, .slice a2 n2 c2] 73)).alloc (.cells #[.slice a0 n0 c0] 36)) 36 (.slice none 0 0)).alloc (.cells #[.int .i64 0] 31)
    rwa [World.size_alloc, World.size_alloc] at this)
  have xe : Hid (Boxed WA (w.heap.size + 1 + 1 + 1) 31 (.int .i64 0)) := Lib.hid (by
    rw [← hWA]
    have := Boxed.new (((w.alloc (.cells #[.int .i64 off, .slice a1 n1 c1, .slice a2 n2 c2] 73)).alloc (.cells #[.slice a0 n0 c0] 36)).alloc (.cells #[.slice none 0 0] 36)) 31 (.int .i64 0)
    rwa [World.size_alloc, World.size_alloc, World.size_alloc] at this)
  have HF := Lib.hid (fine_any (off := off) (hd.out.below bA.out) (hs.out.below bA.out))
  rw [hm.out, ← hWA] at HF
  have hEq := Lib.hid hWA
  clear hWA
  go_enter Tryz.func36, Tryz.ntmps36
  go_wp2_with (go_at_call 80; refine HF.out.mono ?_; rintro e w1 ⟨rfl, hB1⟩; rw [hEq.out] at hB1; have yr : Boxed w1 (w.heap.size + 1 + 1) 36 (.slice none 0 0) := ((hB1.block _ (by have := zA.out; omega)).trans xr.out); have ye : Boxed (w1.setCell ⟨w.heap.size + 1 + 1, 0, none⟩ (.slice none 0 0)) (w.heap.size + 1 + 1 + 1) 31 (.int .i64 0) := (Below.heap_setCell _ _ _ _ (by simp)).trans ((hB1.block _ (by have := zA.out; omega)).trans xe.out); have y1 := yr.cell; have y2 := yr.frozen; have y3 := ye.cell; have y4 := ye.frozen; have YR := Lib.hid yr; have YE := Lib.hid ye; clear yr ye; have HB1 := Lib.hid hB1; clear hB1)
  have b2 : Below w.heap.size w ((w1.setCell ⟨w.heap.size + 1 + 1, 0, none⟩ (.slice none 0 0)).setCell ⟨w.heap.size + 1 + 1 + 1, 0, none⟩ (.int .i64 1)) := ((bA.out.trans (HB1.out.mono (by have := zA.out; omega))).setCell (p := ⟨w.heap.size + 1 + 1, 0, none⟩) (by simp; omega) _).setCell (p := ⟨w.heap.size + 1 + 1 + 1, 0, none⟩) (by simp; omega) _
  have r1 : Boxed ((w1.setCell ⟨w.heap.size + 1 + 1, 0, none⟩ (.slice none 0 0)).setCell ⟨w.heap.size + 1 + 1 + 1, 0, none⟩ (.int .i64 1)) (w.heap.size + 1 + 1) 36 (.slice none 0 0) := (Below.heap_setCell _ _ _ _ (by simp)).trans (YR.out.set _)
  have r2 : Boxed ((w1.setCell ⟨w.heap.size + 1 + 1, 0, none⟩ (.slice none 0 0)).setCell ⟨w.heap.size + 1 + 1 + 1, 0, none⟩ (.int .i64 1)) (w.heap.size + 1 + 1 + 1) 31 (.int .i64 1) := YE.out.set _
  have c1 := r1.cell
  have c2 := r2.cell
  exact bodyPost_ret (v := .tuple #[.slice none 0 0, .int .i64 1]) (by simp [results, Tryz.f36, go_sem, c1, c2]) rfl ⟨b2, rfl⟩

/-- What comes out of Read. -/
def ReadOut (w : World) (o : Option (List Int)) (e : Ending) (w' : World) : Prop :=
  Below w.heap.size w w' ∧ ((∃ l v, o = some l ∧ e = .returned (.tuple #[v, .int .i64 0]) ∧ w'.ownsRow w.heap.size 2 1 v l.length (l.map (Value.int .i64))) ∨ (o = none ∧ e = .returned (.tuple #[.slice none 0 0, .int .i64 1])))

/-- READ: whatever the view, whatever the elements. -/
theorem read_any {w : World} {off : Int} {d s dv : Value} {ds ss data : List Int} (hd : IntsIn w d ds) (hs : IntsIn w s ss) (hdat : IntsIn w dv data) :
    Calls Tryz.prog 36 #[.agg #[.int .i64 off, d, s], dv] w (ReadOut w (readL off ds ss data)) := by
  obtain ⟨a1, c1, rfl⟩ := hd.form
  obtain ⟨a2, c2, rfl⟩ := hs.form
  obtain ⟨a3, c3, rfl⟩ := hdat.form
  cases hm : mayV off ds ss
  · refine (read_not off a1 a2 _ _ _ c1 c2 ds ss w (Lib.hid hd) (Lib.hid hs) (Lib.hid hm) a3 _ c3 rfl).mono ?_
    rintro e w' ⟨h1, h2⟩
    exact ⟨h1, Or.inr ⟨may_none hm, h2⟩⟩
  · obtain ⟨h1, h2, h3, h4, h5, h6, h7, h8⟩ := may_good hm
    have hs' := hs
    rw [h5] at hs' ⊢
    exact (callsIn_wide (n := 8)).1 (read_may 8 (by decide) off a1 a2 a3 c1 c2 c3 ds ss data w (Lib.hid hd) (Lib.hid hs') (Lib.hid hdat) (Lib.hid hm) (Lib.hid h5) h2 (Lib.hid h1) (Lib.hid h8) h6 h7 (Lib.hid h4))

end Go.Proofs.YtagiipecfdmceaaGreatDoor.Vx

set_option linter.unusedVariables false
namespace Go.Proofs.YtagiipecfdmceaaGreatDoor.Vx
open Go.RowKit Vw

/-- How far the next element stands, in each dimension. -/
def strd : List Int → List Int
  | [] => []
  | _ :: ds => pr ds :: strd ds

theorem strd_length : ∀ {ds : List Int}, (strd ds).length = ds.length
  | [] => rfl
  | _ :: ds => by simp [strd, strd_length]

theorem pr_drop : ∀ {zs : List Int} {j : Nat}, (∀ d ∈ zs, 1 ≤ d) → 1 ≤ pr (zs.drop j) ∧ pr (zs.drop j) ≤ pr zs
  | zs, 0, h => ⟨pr_pos h, by simp⟩
  | [], j + 1, h => by simp [pr]
  | d :: ds, j + 1, h => by
    have ih := pr_drop (zs := ds) (j := j) (fun x hx => h x (by simp [hx]))
    have h1 := h d (by simp)
    have h2 : 1 * pr ds ≤ d * pr ds := Int.mul_le_mul_of_nonneg_right h1 (by omega)
    simp only [List.drop_succ_cons, pr]
    omega

/-- The row after some steps. -/
def strRow (zs : List Int) (m : Nat) : List Int := List.replicate m 0 ++ strd (zs.drop m)

theorem strRow_length {zs : List Int} {m : Nat} (h : m ≤ zs.length) : (strRow zs m).length = zs.length := by
  simp [strRow, strd_length]; omega
theorem strRow_step {zs : List Int} {j : Nat} (h : j < zs.length) : (strRow zs (j + 1)).set j (pr (zs.drop (j + 1))) = strRow zs j := by
  unfold strRow
  rw [drop_next h, List.replicate_succ', List.append_assoc, List.set_append_right _ _ (by simp)]
  simp [strd]
theorem strRow_zero (zs : List Int) : strRow zs 0 = strd zs := by simp [strRow]
theorem strRow_full (zs : List Int) : strRow zs zs.length = List.replicate zs.length 0 := by simp [strRow, strd]
theorem pr_next {zs : List Int} {j : Nat} (h : j < zs.length) : pr (zs.drop (j + 1)) * zs.getD j 0 = pr (zs.drop j) := by
  rw [drop_next h]; simp [pr, Int.mul_comm]

attribute [local irreducible] cnt strd pr strRow

theorem strides_bad {w : World} {v : Value} {zs : List Int} (h : Hid (IntsIn w v zs)) (he : Hid ((cnt zs).2 ≠ 0)) (w : World) (h2 : Hid (IntsIn w v zs)) :
    Calls Tryz.prog 79 #[v] w fun e w' => e = .returned (.tuple #[.slice none 0 0, .int .i64 (cnt zs).2]) ∧ w = w' := by
  have HC := Lib.hid (count_any h2.out)
  have hne := he.out
  generalize cnt zs = cc at *
  go_enter Tryz.func79, Tryz.ntmps79
  go_wp2_with (go_at_call 27; refine HC.out.mono ?_; rintro e w' ⟨rfl, rfl⟩)
  all_goals first
    | (go_ret2; exact ⟨rfl, rfl⟩)
    | (exfalso; have h3 := he.out; simp_all)

set_option maxHeartbeats 1000000 in
theorem strides_row (b off cap : Nat) (zs : List Int) (w : World) (hlen : zs.length ≤ 6) (hb : b < w.heap.size) (hr : Hid (Reads w b off zs)) (hin : Hid (IntsIn w (.slice (some ⟨b, off, none⟩) zs.length cap) zs)) (hp : Hid (∀ d ∈ zs, 1 ≤ d ∧ d ≤ 65536)) (hN : Hid (pr zs ≤ 65536)) (he : Hid ((cnt zs).2 = 0)) :
    Calls Tryz.prog 79 #[.slice (some ⟨b, off, none⟩) zs.length cap] w fun e w' => e = .returned (.tuple #[.slice (some ⟨w.heap.size, 0, none⟩) zs.length zs.length, .int .i64 0]) ∧ RowAt w' w.heap.size (strd zs) ∧ Below w.heap.size w w' := by
  have HC := Lib.hid (count_any hin.out)
  rw [show cnt zs = ((cnt zs).1, 0) by rw [← he.out]] at HC
  generalize (cnt zs).1 = c1 at *
  have hmk := fun w => run_make_ints w zs.length (by omega)
  have hrow : Hid (RowAt (w.alloc (.cells (intCells (List.replicate zs.length 0)) 3)) w.heap.size (strRow zs zs.length)) := Lib.hid (by rw [strRow_full]; exact RowAt.new w _)
  have hbel : Hid (Below w.heap.size w (w.alloc (.cells (intCells (List.replicate zs.length 0)) 3))) := Lib.hid ((Below.refl _ w).alloc (Nat.le_refl _) _)
  have hpr0 : Hid (pr (zs.drop zs.length) = 1) := Lib.hid (by rw [List.drop_length]; unfold pr; rfl)
  go_enter Tryz.func79, Tryz.ntmps79
  go_wp2_with (go_at_call 27; refine HC.out.mono ?_; rintro e w' ⟨rfl, rfl⟩)
  go_loopw [7, 23] (fun n i wr => ∃ m k : Nat, Hid (k + m = zs.length) ∧ n = .int .i64 (pr (zs.drop m)) ∧ i = .int .i64 (k : Int) ∧ Hid (RowAt wr w.heap.size (strRow zs m)) ∧ Hid (Below w.heap.size w wr)) (fun _ i _ => zs.length - (intOf i).toNat)
  case atStart => exact ⟨zs.length, 0, Lib.hid (by omega), by rw [hpr0.out], rfl, hrow, hbel⟩
  case round =>
    obtain ⟨m, k, hkm, rfl, rfl, hrw, hbl⟩ := hrel
    have hm : m ≤ zs.length := by have := hkm.out; omega
    rcases (match m with | 0 => Or.inl rfl | i + 1 => Or.inr ⟨i, rfl⟩ : m = 0 ∨ ∃ i, m = i + 1) with e0 | ⟨j, e0⟩
    · subst e0
      obtain rfl : k = zs.length := by have := hkm.out; omega
      go_wp2
      go_ret2
      exact ⟨rfl, by rw [← strRow_zero]; exact hrw.out, hbl.out⟩
    · subst e0
      have hj : j < zs.length := by omega
      have hcx := (hbl.out.cell (p := ⟨b, off + j, none⟩) hb).trans (hr.out j hj)
      have hfz := hrw.out.frozen j
      have hcell := hrw.out.cell (j := j) (by rw [strRow_length hm]; omega)
      have hset : Hid (RowAt (wr.setCell ⟨w.heap.size, j, none⟩ (.int .i64 (pr (zs.drop (j + 1))))) w.heap.size (strRow zs j)) := Lib.hid (by rw [← strRow_step hj]; exact hrw.out.set j _)
      have hb3 : Hid (Below w.heap.size w (wr.setCell ⟨w.heap.size, j, none⟩ (.int .i64 (pr (zs.drop (j + 1)))))) := Lib.hid (hbl.out.setCell (p := ⟨w.heap.size, j, none⟩) (Nat.le_refl _) _)
      have hcx2 := (hb3.out.cell (p := ⟨b, off + j, none⟩) hb).trans (hr.out j hj)
      have hpn := Lib.hid (pr_next hj)
      have hd := hp.out _ (getD_mem hj)
      have hq := pr_drop (zs := zs) (j := j + 1) (fun d hd => (hp.out d hd).1)
      have hq2 := pr_drop (zs := zs) (j := j) (fun d hd => (hp.out d hd).1)
      have hN2 := hN.out
      have hkl : k < zs.length := by have := hkm.out; omega
      have hidx : (zs.length : Int) - 1 - (k : Int) = (j : Int) := by have := hkm.out; omega
      generalize hpj : pr (zs.drop (j + 1)) = pj at *
      have hmul : pj * zs.getD j 0 = pr (zs.drop j) := hpn.out
      generalize zs.getD j 0 = z at *
      generalize hpj2 : pr (zs.drop j) = pj2 at *
      have HP2 := Lib.hid hpj2
      clear hpj hpj2
      go_wp2
      go_roundw
      case rel => exact ⟨j, k + 1, Lib.hid (by have := hkm.out; omega), by rw [HP2.out], by go_num, hset, hb3⟩
      case measure => simp [intOf]; omega


/-- A slice of numbers in memory of the call's own. -/
def Fresh (B : Nat) (w' : World) (v : Value) (zs : List Int) : Prop :=
  (zs = [] ∧ ∃ a0 cap, v = .slice a0 0 cap) ∨ ∃ g cap cur, v = .slice (some ⟨g, 0, none⟩) zs.length cap ∧ B ≤ g ∧ w'.heap[g]? = some (.cells cur 3 (0, 0)) ∧ zs.length ≤ cap ∧ cur.toList.take zs.length = zs.map (Value.int .i64)

theorem Fresh.ints {B : Nat} {w' : World} {v : Value} {zs : List Int} (h : Fresh B w' v zs) (hlen : zs.length * 8 ≤ 140737488351232) (hw : ∀ z ∈ zs, InI z) : IntsIn w' v zs := by
  rcases h with ⟨rfl, a0, cap, rfl⟩ | ⟨g, cap, cur, rfl, hB, hg, hc, ht⟩
  · exact .empty a0 cap
  · by_cases h0 : zs = []
    · subst h0; exact .empty _ cap
    · refine .row g 0 cap zs h0 hc (Array.getElem?_eq_some_iff.1 hg).1 (fun j hj => ?_) hlen hw
      have h2 : (cur.toList.take zs.length)[j]? = (zs.map (Value.int .i64))[j]? := by rw [ht]
      rw [List.getElem?_take_of_lt hj, List.getElem?_map, List.getElem?_eq_getElem hj] at h2
      simp only [Option.map_some, Array.getElem?_toList] at h2
      have h3 : w'.cell? ⟨g, 0 + j, none⟩ = cur[0 + j]? := by simp [World.cell?, hg]
      rw [h3, Nat.zero_add, h2]
      simp [List.getD, List.getElem?_eq_getElem hj]

theorem Fresh.row {B g : Nat} {w' : World} {zs : List Int} {n : Nat} (h : RowAt w' g zs) (hB : B ≤ g) (hn : n = zs.length) : Fresh B w' (.slice (some ⟨g, 0, none⟩) n n) zs := by
  subst hn
  exact Or.inr ⟨g, zs.length, _, rfl, hB, h, Nat.le_refl _, by simp [intCells, List.take_of_length_le]⟩

theorem Fresh.below {B : Nat} {w w' : World} {v : Value} {zs : List Int} (h : Fresh B w v zs) (hb : Below w.heap.size w w') : Fresh B w' v zs := by
  rcases h with h | ⟨g, cap, cur, e, hB, hg, hc, ht⟩
  · exact Or.inl h
  · exact Or.inr ⟨g, cap, cur, e, hB, (hb.block g (Array.getElem?_eq_some_iff.1 hg).1).trans hg, hc, ht⟩

theorem strides_empty (a0 : Option Addr) (cap : Nat) (w : World) :
    Calls Tryz.prog 79 #[.slice a0 0 cap] w fun e w' => e = .returned (.tuple #[.slice (some ⟨w.heap.size, 0, none⟩) 0 0, .int .i64 0]) ∧ RowAt w' w.heap.size (strd []) ∧ Below w.heap.size w w' := by
  have HC := Lib.hid (count_any (IntsIn.empty (w := w) a0 cap))
  rw [show cnt [] = (1, 0) by unfold cnt cntLoop; decide] at HC
  have hmk : ∀ w : World, (Instr.makeSlice 28 (.int .i64 0) (.int .i64 0)).run Tryz.prog w = .ok (.slice (some ⟨w.heap.size, 0, none⟩) 0 0) (w.alloc (.cells (intCells (List.replicate 0 0)) 3)) := fun w => run_make_ints w 0 (by omega)
  have hrow : Hid (RowAt (w.alloc (.cells (intCells (List.replicate 0 0)) 3)) w.heap.size (strd [])) := Lib.hid (by unfold strd; exact RowAt.new w _)
  have hbel : Hid (Below w.heap.size w (w.alloc (.cells (intCells (List.replicate 0 0)) 3))) := Lib.hid ((Below.refl _ w).alloc (Nat.le_refl _) _)
  go_enter Tryz.func79, Tryz.ntmps79
  go_wp2_with (go_at_call 27; refine HC.out.mono ?_; rintro e w' ⟨rfl, rfl⟩)
  go_rounds 1
  go_ret2
  exact ⟨rfl, hrow.out, hbel.out⟩

/-- What comes out of Strides. -/
def StrOut (w : World) (zs : List Int) (e : Ending) (w' : World) : Prop :=
  Below w.heap.size w w' ∧ (((cnt zs).2 ≠ 0 ∧ e = .returned (.tuple #[.slice none 0 0, .int .i64 (cnt zs).2])) ∨ ((cnt zs).2 = 0 ∧ ∃ v, e = .returned (.tuple #[v, .int .i64 0]) ∧ Fresh w.heap.size w' v (strd zs)))

theorem strides_any {w : World} {v : Value} {zs : List Int} (h : IntsIn w v zs) : Calls Tryz.prog 79 #[v] w (StrOut w zs) := by
  by_cases he : (cnt zs).2 = 0
  · have hg := cnt_good he
    have h' := h
    cases h with
    | empty a0 cap =>
      refine (strides_empty a0 cap w).mono ?_
      rintro e w' ⟨h1, h2, h3⟩
      exact ⟨h3, Or.inr ⟨he, _, h1, Fresh.row h2 (Nat.le_refl _) (by unfold strd; rfl)⟩⟩
    | row b off cap _ h0 hc hb hr hlen hw =>
      refine (strides_row b off cap zs w hg.2.1 hb (Lib.hid hr) (Lib.hid h') (Lib.hid hg.1) (Lib.hid hg.2.2.2) (Lib.hid he)).mono ?_
      rintro e w' ⟨h1, h2, h3⟩
      exact ⟨h3, Or.inr ⟨he, _, h1, Fresh.row h2 (Nat.le_refl _) (by rw [strd_length])⟩⟩
  · refine (strides_bad (w := w) (Lib.hid h) (Lib.hid he) w (Lib.hid h)).mono ?_
    rintro e w' ⟨h1, rfl⟩
    exact ⟨Below.refl _ _, Or.inl ⟨he, h1⟩⟩

end Go.Proofs.YtagiipecfdmceaaGreatDoor.Vx

set_option linter.unusedVariables false
namespace Go.Proofs.YtagiipecfdmceaaGreatDoor.Vx
open Go.RowKit Vw

theorem getD_inI {zs : List Int} (h : ∀ z ∈ zs, InI z) (j : Nat) : InI (zs.getD j 0) := by
  by_cases hj : j < zs.length
  · exact h _ (getD_mem hj)
  · rw [List.getD, List.getElem?_eq_none (by omega)]; constructor <;> decide

theorem cnt_pos {ds : List Int} (h : (cnt ds).2 = 0) : Pos ds := fun d hd => ((cnt_good h).1 d hd).1

/-- A row of cells whose first hold these numbers. -/
def RowC (w : World) (g : Nat) (xs : List Int) : Prop := ∃ cur, w.heap[g]? = some (.cells cur 3 (0, 0)) ∧ cur.toList.take xs.length = xs.map (Value.int .i64) ∧ xs.length ≤ cur.size

theorem RowC.cell {w : World} {g : Nat} {xs : List Int} (h : RowC w g xs) {j : Nat} (hj : j < xs.length) : w.cell? ⟨g, j, none⟩ = some (.int .i64 (xs.getD j 0)) := by
  obtain ⟨cur, h1, h2, h3⟩ := h
  have h4 : (cur.toList.take xs.length)[j]? = (xs.map (Value.int .i64))[j]? := by rw [h2]
  rw [List.getElem?_take_of_lt hj, List.getElem?_map, List.getElem?_eq_getElem hj] at h4
  simp only [Option.map_some, Array.getElem?_toList] at h4
  have h5 : w.cell? ⟨g, j, none⟩ = cur[j]? := by simp [World.cell?, h1]
  rw [h5, h4]
  simp [List.getD, List.getElem?_eq_getElem hj]
theorem RowC.frozen {w : World} {g : Nat} {xs : List Int} (h : RowC w g xs) (j : Nat) : w.frozen? ⟨g, j, none⟩ = false := by
  obtain ⟨cur, h1, _⟩ := h
  simp [World.frozen?, h1]
theorem RowC.lt {w : World} {g : Nat} {xs : List Int} (h : RowC w g xs) : g < w.heap.size := by
  obtain ⟨cur, h1, _⟩ := h
  exact (Array.getElem?_eq_some_iff.1 h1).1
theorem RowC.set {w : World} {g : Nat} {xs : List Int} (h : RowC w g xs) (j : Nat) (x : Int) : RowC (w.setCell ⟨g, j, none⟩ (.int .i64 x)) g (xs.set j x) := by
  obtain ⟨cur, h1, h2, h3⟩ := h
  obtain ⟨hlt, hk⟩ := Array.getElem?_eq_some_iff.1 h1
  refine ⟨cur.setIfInBounds j (.int .i64 x), ?_, ?_, by simpa using h3⟩
  · show (w.heap.modify g _)[g]? = _
    rw [Array.getElem?_eq_getElem (by rw [Array.size_modify]; exact hlt), Array.getElem_modify_self, hk]
    rfl
  · rw [List.length_set, List.map_set, ← h2, Array.toList_setIfInBounds, List.take_set]
theorem RowC.keep {w w' : World} {g : Nat} {xs : List Int} (h : RowC w g xs) (e : w'.heap[g]? = w.heap[g]?) : RowC w' g xs := by
  obtain ⟨cur, h1, h2⟩ := h
  exact ⟨cur, e.trans h1, h2⟩
theorem RowC.fresh {w : World} {B g cap : Nat} {xs : List Int} (h : RowC w g xs) (hB : B ≤ g) (hc : xs.length ≤ cap) : Fresh B w (.slice (some ⟨g, 0, none⟩) xs.length cap) xs := by
  obtain ⟨cur, h1, h2, h3⟩ := h
  exact Or.inr ⟨g, cap, cur, rfl, hB, h1, hc, h2⟩
theorem Fresh.rowC {B : Nat} {w : World} {v : Value} {xs : List Int} (h : Fresh B w v xs) (h0 : xs ≠ []) : ∃ g cap, v = .slice (some ⟨g, 0, none⟩) xs.length cap ∧ B ≤ g ∧ xs.length ≤ cap ∧ RowC w g xs := by
  rcases h with ⟨e, _⟩ | ⟨g, cap, cur, rfl, hB, hg, hc, ht⟩
  · exact absurd e h0
  · refine ⟨g, cap, rfl, hB, hc, cur, hg, ht, ?_⟩
    have := congrArg List.length ht
    simp at this; omega

theorem Fresh.of_owns {B : Nat} {w : World} {v : Value} {zs : List Int} (h : w.ownsRow B 3 1 v zs.length (zs.map (Value.int .i64))) : Fresh B w v zs := by
  obtain ⟨h1, h2⟩ := h
  rcases h2 with ⟨rfl, h0⟩ | ⟨g, cap, cur, rfl, hb, hg, hn, hc, hs, ht⟩
  · exact Or.inl ⟨List.length_eq_zero_iff.1 h0, none, 0, rfl⟩
  · exact Or.inr ⟨g, cap, cur, rfl, hb, hg, hn, by simpa using ht⟩

theorem clone_any {w : World} {v : Value} {zs : List Int} (h : IntsIn w v zs) :
    Calls Tryz.prog 31 #[v] w fun e w' => ∃ v', e = .returned v' ∧ Fresh w.heap.size w' v' zs ∧ Below w.heap.size w w' := by
  cases h with
  | empty a0 cap =>
    cases a0 with
    | none =>
      refine (Tryz.slices_Clone_int_nil 0 cap w).mono ?_
      rintro e w' ⟨rfl, rfl⟩
      exact ⟨_, rfl, Or.inl ⟨rfl, none, 0, rfl⟩, Below.refl _ _⟩
    | some a =>
      refine (Tryz.slices_Clone_int_zero a cap w).mono ?_
      rintro e w' ⟨v', rfl, h1, _, h2⟩
      exact ⟨v', rfl, Fresh.of_owns (zs := []) h1, h2⟩
  | row b off cap _ h0 hc hb hr hlen hw =>
    refine (Tryz.slices_Clone_int b off zs.length cap zs w (Nat.le_refl _) (by omega) hr).mono ?_
    rintro e w' ⟨v', rfl, h1, _, h2⟩
    rw [List.take_length] at h1
    exact ⟨v', rfl, Fresh.of_owns h1, h2⟩

theorem Fresh.form {B : Nat} {w : World} {v : Value} {zs : List Int} (h : Fresh B w v zs) : ∃ a cap, v = .slice a zs.length cap := by
  rcases h with ⟨rfl, a0, cap, rfl⟩ | ⟨g, cap, cur, rfl, _⟩
  · exact ⟨a0, cap, rfl⟩
  · exact ⟨_, cap, rfl⟩

theorem Fresh.nil (B : Nat) (w : World) (a : Option Addr) (c : Nat) : Fresh B w (.slice a 0 c) [] := Or.inl ⟨rfl, a, c, rfl⟩

end Go.Proofs.YtagiipecfdmceaaGreatDoor.Vx

set_option linter.unusedVariables false
namespace Go.Proofs.YtagiipecfdmceaaGreatDoor.Vb
open Go.RowKit Vx Vx.Vw

def Fresh (B : Nat) (w : World) (v : Value) (zs : List Int) : Prop := w.ownsRow B 3 1 v zs.length (zs.map (Value.int .i64))
theorem Fresh.of_owns {B : Nat} {w : World} {v : Value} {zs : List Int} (h : w.ownsRow B 3 1 v zs.length (zs.map (Value.int .i64))) : Fresh B w v zs := h
theorem Fresh.ints {B : Nat} {w' : World} {v : Value} {zs : List Int} (h : Fresh B w' v zs) (hlen : zs.length * 8 ≤ 140737488351232) (hw : ∀ z ∈ zs, InI z) : IntsIn w' v zs := IntsIn.of_owns (B := B) (t := 3) h (by omega) hw
theorem Fresh.below {B : Nat} {w w' : World} {v : Value} {zs : List Int} (h : Fresh B w v zs) (hb : Below w.heap.size w w') : Fresh B w' v zs := owns_below h hb
theorem Fresh.form {B : Nat} {w : World} {v : Value} {zs : List Int} (h : Fresh B w v zs) : ∃ a cap, v = .slice a zs.length cap := owns_form h
theorem Fresh.row {B g : Nat} {w' : World} {zs : List Int} {n : Nat} (h : RowAt w' g zs) (hB : B ≤ g) (hn : n = zs.length) (hm : n ≤ 1000000) : Fresh B w' (.slice (some ⟨g, 0, none⟩) n n) zs := by
  subst hn
  refine ⟨by simp, .inr ⟨g, zs.length, intCells zs, rfl, hB, h, Nat.le_refl _, ?_, ?_, ?_⟩⟩
  · unfold maxLen; omega
  · simp [intCells]
  · simp only [intCells, Nat.mul_one]
    rw [List.take_of_length_le (by simp)]
theorem Fresh.at {B : Nat} {w : World} {a : Option Addr} {n c j : Nat} {xs : List Int} (h : Fresh B w (.slice a n c) xs) (hn : xs.length = n) (hj : j < n) : ∃ g, a = some ⟨g, 0, none⟩ ∧ B ≤ g ∧ w.cell? ⟨g, j, none⟩ = some (.int .i64 (xs.getD j 0)) ∧ w.frozen? ⟨g, j, none⟩ = false ∧ ∀ x : Int, Fresh B (w.setCell ⟨g, j, none⟩ (.int .i64 x)) (.slice (some ⟨g, 0, none⟩) n c) (xs.set j x) := by
  subst hn
  obtain ⟨g, cap, e, hB, hg⟩ := World.ownsRow.form h (by omega)
  obtain ⟨rfl, -, rfl⟩ := Value.slice.inj e
  refine ⟨g, rfl, hB, ?_, World.ownsRow.frozenAt h j, fun x => ?_⟩
  · have := World.ownsRow.cells h (g := g) rfl j (.int .i64 (xs.getD j 0)) (by rw [List.getElem?_map, int_at hj]; rfl)
    rwa [show (⟨g, 0, none⟩ : Addr).add j = ⟨g, j, none⟩ from by rw [add_some, Nat.zero_add]] at this
  · unfold Fresh
    rw [List.length_set, List.map_set]
    exact (World.ownsRow.stored h j _).1
theorem clone_any {w : World} {v : Value} {zs : List Int} (h : IntsIn w v zs) :
    Calls Tryz.prog 31 #[v] w fun e w' => ∃ v', e = .returned v' ∧ Fresh w.heap.size w' v' zs ∧ Below w.heap.size w w' := by
  cases h with
  | empty a0 cap =>
    cases a0 with
    | none =>
      refine (Tryz.slices_Clone_int_nil 0 cap w).mono ?_
      rintro e w' ⟨rfl, rfl⟩
      exact ⟨_, rfl, World.ownsRow_nil _ _ _ _, Below.refl _ _⟩
    | some a =>
      refine (Tryz.slices_Clone_int_zero a cap w).mono ?_
      rintro e w' ⟨v', rfl, h1, _, h2⟩
      exact ⟨v', rfl, Fresh.of_owns (zs := []) h1, h2⟩
  | row b off cap _ h0 hc hb hr hlen hw =>
    refine (Tryz.slices_Clone_int b off zs.length cap zs w (Nat.le_refl _) (by omega) hr).mono ?_
    rintro e w' ⟨v', rfl, h1, _, h2⟩
    rw [List.take_length] at h1
    exact ⟨v', rfl, Fresh.of_owns h1, h2⟩

end Go.Proofs.YtagiipecfdmceaaGreatDoor.Vb

set_option linter.unusedVariables false
namespace Go.Proofs.YtagiipecfdmceaaGreatDoor.Vb
open Go.RowKit Vx Vx.Vw

/-- The dimension at a place from the back. -/
def bk (zs : List Int) (i : Nat) : Int := if zs.length ≤ i then 1 else zs.getD (zs.length - 1 - i) 0

def outL (a b : List Int) : List Int := (List.range (max a.length b.length)).map fun j => max (bk a (max a.length b.length - 1 - j)) (bk b (max a.length b.length - 1 - j))
def Co1 (a b : List Int) (i : Nat) : Prop := bk a i = bk b i ∨ bk a i = 1 ∨ bk b i = 1
def Co (a b : List Int) (k : Nat) : Prop := ∀ i, i < k → Co1 a b i
instance (a b : List Int) (k : Nat) : Decidable (Co a b k) := by unfold Co Co1; infer_instance

/-- What comes out of Broadcast. -/
def bcO (a b : List Int) : Int × List Int := if (cnt a).2 ≠ 0 then ((cnt a).2, []) else if (cnt b).2 ≠ 0 then ((cnt b).2, []) else if Co a b (max a.length b.length) then (if (cnt (outL a b)).2 ≠ 0 then ((cnt (outL a b)).2, []) else (0, outL a b)) else (4, [])

theorem outL_length (a b : List Int) : (outL a b).length = max a.length b.length := by simp [outL]
theorem outL_get {a b : List Int} {j : Nat} (h : j < max a.length b.length) : (outL a b).getD j 0 = max (bk a (max a.length b.length - 1 - j)) (bk b (max a.length b.length - 1 - j)) := by
  simp [outL, List.getD, h]
theorem outL_comm (a b : List Int) : outL a b = outL b a := by
  unfold outL
  rw [Nat.max_comm]
  apply List.map_congr_left
  intro j _
  exact Int.max_comm _ _
theorem Co.comm {a b : List Int} {k : Nat} (h : Co a b k) : Co b a k := fun i hi => by
  rcases h i hi with h | h | h
  · exact Or.inl h.symm
  · exact Or.inr (Or.inr h)
  · exact Or.inr (Or.inl h)
theorem bk_inI {zs : List Int} (h : ∀ z ∈ zs, InI z) (i : Nat) : InI (bk zs i) := by
  unfold bk
  by_cases h1 : zs.length ≤ i
  · rw [if_pos h1]; constructor <;> decide
  · rw [if_neg h1]; exact getD_inI h _
theorem outL_inI {a b : List Int} (ha : ∀ z ∈ a, InI z) (hb : ∀ z ∈ b, InI z) : ∀ z ∈ outL a b, InI z := by
  intro z hz
  obtain ⟨j, _, rfl⟩ := List.mem_map.1 hz
  have h1 := bk_inI ha (max a.length b.length - 1 - j)
  have h2 := bk_inI hb (max a.length b.length - 1 - j)
  unfold InI at *
  omega
theorem bk_pos {zs : List Int} (h : Pos zs) (i : Nat) : 1 ≤ bk zs i := by
  unfold bk
  by_cases h1 : zs.length ≤ i
  · rw [if_pos h1]; omega
  · rw [if_neg h1]; exact h _ (getD_mem (by omega))
theorem bk_out {zs : List Int} {i : Nat} (h : zs.length ≤ i) : bk zs i = 1 := by unfold bk; rw [if_pos h]
theorem bk_in {zs : List Int} {i : Nat} (h : i < zs.length) : bk zs i = zs.getD (zs.length - 1 - i) 0 := by unfold bk; rw [if_neg (by omega)]

/-- A longer list of dimensions, so far. -/
def BcTo (L S : List Int) (i : Nat) (xs : List Int) : Prop := xs.length = L.length ∧ (∀ j, j < L.length - S.length + i → xs.getD j 0 = (outL L S).getD j 0) ∧ (∀ j, L.length - S.length + i ≤ j → xs.getD j 0 = L.getD j 0)

theorem BcTo.len {L S xs : List Int} {i : Nat} (h : BcTo L S i xs) : xs.length = L.length := h.1
theorem BcTo.here {L S xs : List Int} {i : Nat} (h : BcTo L S i xs) : xs.getD (L.length - S.length + i) 0 = L.getD (L.length - S.length + i) 0 := h.2.2 _ (Nat.le_refl _)
theorem BcTo.zero {L S : List Int} (hL : Pos L) (hl : S.length ≤ L.length) : BcTo L S 0 L := by
  refine ⟨rfl, fun j hj => ?_, fun j _ => rfl⟩
  have hm : max L.length S.length = L.length := by omega
  rw [outL_get (by omega), hm, bk_in (by omega), bk_out (zs := S) (by omega), show L.length - 1 - (L.length - 1 - j) = j by omega]
  have := hL _ (getD_mem (zs := L) (k := j) (by omega))
  omega
/-- A round's two dimensions. -/
theorem bc_pair {L S : List Int} {i : Nat} (hl : S.length ≤ L.length) (hi : i < S.length) : (outL L S).getD (L.length - S.length + i) 0 = max (L.getD (L.length - S.length + i) 0) (S.getD i 0) ∧ (Co1 L S (S.length - 1 - i) ↔ (L.getD (L.length - S.length + i) 0 = S.getD i 0 ∨ L.getD (L.length - S.length + i) 0 = 1 ∨ S.getD i 0 = 1)) := by
  have hm : max L.length S.length = L.length := by omega
  have e1 : bk L (S.length - 1 - i) = L.getD (L.length - S.length + i) 0 := by rw [bk_in (by omega), show L.length - 1 - (S.length - 1 - i) = L.length - S.length + i by omega]
  have e2 : bk S (S.length - 1 - i) = S.getD i 0 := by rw [bk_in (by omega), show S.length - 1 - (S.length - 1 - i) = i by omega]
  refine ⟨?_, by unfold Co1; rw [e1, e2]⟩
  rw [outL_get (by omega), hm, show L.length - 1 - (L.length - S.length + i) = S.length - 1 - i by omega, e1, e2]
theorem BcTo.put {L S xs : List Int} {i : Nat} (h : BcTo L S i xs) (hl : S.length ≤ L.length) (hi : i < S.length) (h1 : L.getD (L.length - S.length + i) 0 = 1) (h2 : 1 ≤ S.getD i 0) : BcTo L S (i + 1) (xs.set (L.length - S.length + i) (S.getD i 0)) := by
  refine ⟨by rw [List.length_set]; exact h.1, fun j hj => ?_, fun j hj => ?_⟩
  · by_cases e : j = L.length - S.length + i
    · subst e
      rw [(bc_pair hl hi).1, h1]
      have : (xs.set (L.length - S.length + i) (S.getD i 0)).getD (L.length - S.length + i) 0 = S.getD i 0 := by
        have hlt : L.length - S.length + i < xs.length := by have := h.1; omega
        simp [List.getD, hlt]
      rw [this]; omega
    · have : (xs.set (L.length - S.length + i) (S.getD i 0)).getD j 0 = xs.getD j 0 := by simp [List.getD, List.getElem?_set_ne (Ne.symm e)]
      rw [this]; exact h.2.1 j (by omega)
  · have : (xs.set (L.length - S.length + i) (S.getD i 0)).getD j 0 = xs.getD j 0 := by simp [List.getD, List.getElem?_set_ne (show L.length - S.length + i ≠ j by omega)]
    rw [this]; exact h.2.2 j (by omega)
theorem BcTo.stay {L S xs : List Int} {i : Nat} (h : BcTo L S i xs) (hl : S.length ≤ L.length) (hi : i < S.length) (hL : 1 ≤ L.getD (L.length - S.length + i) 0) (h1 : S.getD i 0 = 1 ∨ S.getD i 0 = L.getD (L.length - S.length + i) 0) : BcTo L S (i + 1) xs := by
  refine ⟨h.1, fun j hj => ?_, fun j hj => h.2.2 j (by omega)⟩
  by_cases e : j = L.length - S.length + i
  · subst e
    rw [(bc_pair hl hi).1, h.here]
    rcases h1 with h1 | h1 <;> rw [h1] <;> omega
  · exact h.2.1 j (by omega)
theorem BcTo.all {L S xs : List Int} (h : BcTo L S S.length xs) (hl : S.length ≤ L.length) : xs = outL L S := by
  refine List.ext_getElem (by rw [h.1, outL_length]; omega) fun j h1 h2 => ?_
  have := h.2.1 j (by have := h.1; omega)
  simpa [List.getD, List.getElem?_eq_getElem h1, List.getElem?_eq_getElem h2] using this
/-- The shorter one's rounds, so far. -/
def CoS (L S : List Int) (i : Nat) : Prop := ∀ k, k < i → Co1 L S (S.length - 1 - k)
theorem CoS.zero (L S : List Int) : CoS L S 0 := fun k hk => by omega
theorem CoS.next {L S : List Int} {i : Nat} (h : CoS L S i) (g : Co1 L S (S.length - 1 - i)) : CoS L S (i + 1) := fun k hk => by
  by_cases e : k = i
  · subst e; exact g
  · exact h k (by omega)
theorem CoS.all {L S : List Int} (h : CoS L S S.length) (n : Nat) : Co L S n := fun i hi => by
  by_cases h1 : i < S.length
  · have := h (S.length - 1 - i) (by omega)
    rwa [show S.length - 1 - (S.length - 1 - i) = i by omega] at this
  · exact Or.inr (Or.inr (bk_out (by omega)))

def BOut (w : World) (o : Int × List Int) (e : Ending) (w' : World) : Prop :=
  Below w.heap.size w w' ∧ ((o.1 ≠ 0 ∧ e = .returned (.tuple #[.slice none 0 0, .int .i64 o.1])) ∨ (o.1 = 0 ∧ ∃ v, e = .returned (.tuple #[v, .int .i64 0]) ∧ Fresh w.heap.size w' v o.2))

attribute [local irreducible] cnt outL Co1 Co BcTo CoS bk

theorem fresh_base {B B' : Nat} {w : World} {v : Value} {zs : List Int} (h : Fresh B w v zs) (hB : B' ≤ B) : Fresh B' w v zs := owns_base h hB
theorem fresh_drewN {B : Nat} {w : World} {v : Value} {zs : List Int} (h : Fresh B w v zs) (q : Nat) : Fresh B (w.drewN q) v zs := h
theorem co_at {a b : List Int} {n i : Nat} (h : Co a b n) (hi : i < n) : Co1 a b i := by unfold Co at h; exact h i hi

/-- Two lists of dimensions, the first ones of which may be. -/
def Two (xa xb : List Int) (k : Nat) : Prop := (1 ≤ k → (cnt xa).2 = 0) ∧ (2 ≤ k → (cnt xb).2 = 0)

set_option maxRecDepth 100000 in
set_option maxHeartbeats 8000000 in
theorem broadcast_any {w : World} {va vb : Value} {xa xb : List Int} (ha : IntsIn w va xa) (hb0 : IntsIn w vb xb) : Calls Tryz.prog 81 #[va, vb] w (BOut w (bcO xa xb)) := by
  obtain ⟨a1, c1, rfl⟩ := ha.form
  obtain ⟨a2, c2, rfl⟩ := hb0.form
  have Ixa := Lib.hid ha
  have Ixb := Lib.hid hb0
  have HRxa := Lib.hid ha.rowsV.2
  have HRxb := Lib.hid hb0.rowsV.2
  clear ha hb0
  obtain ⟨W1, hW1⟩ : ∃ W1, Hid (w.alloc (.cells #[.slice a1 xa.length c1, .slice a2 xb.length c2] 28) = W1) := ⟨_, Lib.hid rfl⟩
  have b1 : Hid (Below w.heap.size w W1) := Lib.hid (by rw [← hW1.out]; exact (Below.refl _ w).alloc (Nat.le_refl _) _)
  have hblk : W1.heap[w.heap.size]? = some (.cells #[.slice a1 xa.length c1, .slice a2 xb.length c2] 28 (0, 0)) := by rw [← hW1.out]; exact World.alloc_heap_new w _
  have q0 : W1.cell? ⟨w.heap.size, 0, none⟩ = some (.slice a1 xa.length c1) := by simp [World.cell?, hblk]
  have q1 : W1.cell? ⟨w.heap.size, 1, none⟩ = some (.slice a2 xb.length c2) := by simp [World.cell?, hblk]
  have E1 : Hid ((cnt xa).2 ≠ 0 → bcO xa xb = ((cnt xa).2, [])) := Lib.hid fun h => by unfold bcO; rw [if_pos h]
  have E2 : Hid ((cnt xa).2 = 0 → (cnt xb).2 ≠ 0 → bcO xa xb = ((cnt xb).2, [])) := Lib.hid fun h g => by unfold bcO; rw [if_neg (by rw [h]; decide), if_pos g]
  clear hblk
  go_enter Tryz.func81, Tryz.ntmps81
  go_wp2_with fail
  rw [hW1.out]
  go_loop [20] (fun i => ∃ k : Nat, k ≤ 2 ∧ i = .int .i64 (k : Int) ∧ Hid (Two xa xb k)) (fun i => 2 - (intOf i).toNat)
  case atStart => exact ⟨0, Nat.zero_le _, rfl, Lib.hid ⟨fun h => by omega, fun h => by omega⟩⟩
  case round =>
    obtain ⟨k, hk, rfl, h2⟩ := hrel
    rcases (match k, hk with | 0, _ => Or.inl rfl | 1, _ => Or.inr (Or.inl rfl) | 2, _ => Or.inr (Or.inr rfl) : k = 0 ∨ k = 1 ∨ k = 2) with e | e | e
    · subst e
      go_wp2_with fail
      refine (Vx.count_any (Ixa.out.below b1.out)).mono ?_
      rintro e _ ⟨rfl, rfl⟩
      by_cases hce : (cnt xa).2 = 0
      · have HT : Hid (Two xa xb 1) := Lib.hid ⟨fun _ => hce, fun h => by omega⟩
        rw [hce]
        clear hce
        go_wp2_with fail
        go_round
        case rel => exact ⟨1, by omega, rfl, HT⟩
        case measure => simp [intOf]
      · have NX := Lib.hid (E1.out hce)
        have HNE := Lib.hid hce
        generalize (cnt xa).2 = ce at *
        have hb1 : (ce != 0) = true := by simpa using hce
        clear hce
        go_wp2_with fail
        go_ret2
        rw [NX.out]
        exact ⟨b1.out, Or.inl ⟨HNE.out, rfl⟩⟩
    · subst e
      go_wp2_with fail
      refine (Vx.count_any (Ixb.out.below b1.out)).mono ?_
      rintro e _ ⟨rfl, rfl⟩
      by_cases hce : (cnt xb).2 = 0
      · have HT : Hid (Two xa xb 2) := Lib.hid ⟨fun _ => h2.out.1 (by omega), fun _ => hce⟩
        rw [hce]
        clear hce
        go_wp2_with fail
        go_round
        case rel => exact ⟨2, by omega, rfl, HT⟩
        case measure => simp [intOf]
      · have NX := Lib.hid (E2.out (h2.out.1 (by omega)) hce)
        have HNE := Lib.hid hce
        generalize (cnt xb).2 = ce at *
        have hb1 : (ce != 0) = true := by simpa using hce
        clear hce
        go_wp2_with fail
        go_ret2
        rw [NX.out]
        exact ⟨b1.out, Or.inl ⟨HNE.out, rfl⟩⟩
    · subst e
      have HA := Lib.hid (h2.out.1 (by omega))
      have HB := Lib.hid (h2.out.2 (by omega))
      have HPxa := Lib.hid (cnt_pos HA.out)
      have HPxb := Lib.hid (cnt_pos HB.out)
      have hl1 := (cnt_good HA.out).2.1
      have hl2 := (cnt_good HB.out).2.1
      clear E1 E2 q0 q1
      by_cases hlt : xa.length < xb.length
      · have hlti : (xa.length : Int) < (xb.length : Int) := by omega
        have E3 : Hid (¬ Co xb xa (max xb.length xa.length) → bcO xa xb = (4, [])) := Lib.hid fun h => by unfold bcO; rw [if_neg (by rw [HA.out]; decide), if_neg (by rw [HB.out]; decide), if_neg (fun g => h (by rw [Nat.max_comm]; exact g.comm))]
        have E4 : Hid (Co xb xa (max xb.length xa.length) → (cnt (outL xb xa)).2 ≠ 0 → bcO xa xb = ((cnt (outL xb xa)).2, [])) := Lib.hid fun g h => by unfold bcO; rw [if_neg (by rw [HA.out]; decide), if_neg (by rw [HB.out]; decide), if_pos (by rw [Nat.max_comm]; exact g.comm), outL_comm, if_pos h]
        have E5 : Hid (Co xb xa (max xb.length xa.length) → (cnt (outL xb xa)).2 = 0 → bcO xa xb = (0, outL xb xa)) := Lib.hid fun g h => by unfold bcO; rw [if_neg (by rw [HA.out]; decide), if_neg (by rw [HB.out]; decide), if_pos (by rw [Nat.max_comm]; exact g.comm), outL_comm, if_neg (by rw [h]; decide)]
        have hLS : xa.length ≤ xb.length := by omega
        obtain ⟨ah, hah⟩ : ∃ ah : Nat, ah = xb.length - xa.length := ⟨_, rfl⟩
        have hsub : (xb.length : Int) - (xa.length : Int) = (ah : Int) := by omega
        have HAH := Lib.hid hah
        clear hah
        go_wp2_with fail
        refine (clone_any (Ixb.out.below b1.out)).mono ?_
        rintro e w2 ⟨v, rfl, hf, B2⟩
        obtain ⟨a5, c5, rfl⟩ := hf.form
        have b2 := Lib.hid (b1.out.trans (B2.mono b1.out.size))
        have hf2 : Hid (Fresh w.heap.size w2 (.slice a5 xb.length c5) xb) := Lib.hid (fresh_base hf b1.out.size)
        clear hf B2
        go_wp2_with fail
        go_loopw [49] (fun i wr => ∃ k : Nat, k ≤ xa.length ∧ i = .int .i64 (k : Int) ∧ Hid (CoS xb xa k) ∧ Hid (∃ xs, Fresh w.heap.size wr (.slice a5 xb.length c5) xs ∧ BcTo xb xa k xs) ∧ Hid (Below w.heap.size w wr)) (fun i _ => xa.length - (intOf i).toNat)
        case atStart => exact ⟨0, Nat.zero_le _, rfl, Lib.hid (CoS.zero _ _), Lib.hid ⟨_, hf2.out, BcTo.zero HPxb.out hLS⟩, b2⟩
        case round =>
          obtain ⟨k, hk, rfl, hco, hx, hb⟩ := hrel
          obtain ⟨xs, hfr, hbc⟩ := hx.out
          by_cases hkl : k < xa.length
          · have hki : (k : Int) < (xa.length : Int) := by omega
            obtain ⟨p, hp⟩ : ∃ p : Nat, p = ah + k := ⟨_, rfl⟩
            have hpi : (ah : Int) + (k : Int) = (p : Int) := by omega
            have hpL : p < xb.length := by have := HAH.out; omega
            have hpl : (p : Int) < (xb.length : Int) := by omega
            have hpe : xb.length - xa.length + k = p := by rw [← HAH.out, hp]
            have hpair := bc_pair hLS hkl
            have hput := hbc.put hLS hkl
            have hstay := hbc.stay hLS hkl
            have hhere := hbc.here
            rw [hpe] at hpair hput hstay hhere
            obtain ⟨g, rfl, hBg, hcell, hfz, hst⟩ := hfr.at hbc.len hpL
            obtain ⟨b, o, rfl, hbb, hrd⟩ := HRxa.out k hkl
            have hcx := (hb.out.cell (p := ⟨b, o + k, none⟩) hbb).trans (hrd k hkl)
            rw [hhere] at hcell
            have d1 := HPxb.out _ (getD_mem hpL)
            have s1 := HPxa.out _ (getD_mem hkl)
            have HCN := Lib.hid hco.out.next
            have HPR := Lib.hid hpair.2
            have HCO := Lib.hid (fun (h : ¬ Co1 xb xa (xa.length - 1 - k)) (g : Co xb xa (max xb.length xa.length)) => h (co_at g (by omega)))
            clear hpair hp hpe hhere
            generalize xb.getD p 0 = d at *
            generalize xa.getD k 0 = s at *
            by_cases hd1 : d = 1
            · have HPT := Lib.hid (hput hd1 s1)
              have HNX := Lib.hid (HCN.out (HPR.out.2 (Or.inr (Or.inl hd1))))
              have hsf := Lib.hid (hst s)
              have hbs : Hid (Below w.heap.size w (wr.setCell ⟨g, p, none⟩ (.int .i64 s))) := Lib.hid (hb.out.setCell (p := ⟨g, p, none⟩) hBg _)
              clear hput hstay hfr hbc hx hst hBg
              subst hd1
              go_wp2
              go_roundw
              case rel => exact ⟨k + 1, by omega, by go_num, HNX, Lib.hid ⟨_, hsf.out, HPT.out⟩, hbs⟩
              case measure => simp [intOf]; omega
            · have b1' : (d == 1) = false := by simpa using hd1
              by_cases hs1 : s = 1
              · have b2' : (s != 1) = false := by simp [hs1]
                have HST := Lib.hid (hstay d1 (Or.inl hs1))
                have HNX := Lib.hid (HCN.out (HPR.out.2 (Or.inr (Or.inr hs1))))
                have hfr2 := Lib.hid hfr
                clear hput hstay hfr hbc hx hst hBg hd1 hs1
                go_wp2
                go_quiet (fail)
                go_wp2
                go_roundw
                case rel => exact ⟨k + 1, by omega, by go_num, HNX, Lib.hid ⟨_, fresh_drewN hfr2.out _, HST.out⟩, Lib.hid (below_drewN hb.out _)⟩
                case measure => simp [intOf]; omega
              · have b2' : (s != 1) = true := by simpa using hs1
                by_cases hsd : s = d
                · have b3' : (s != d) = false := by simp [hsd]
                  have HST := Lib.hid (hstay d1 (Or.inr hsd))
                  have HNX := Lib.hid (HCN.out (HPR.out.2 (Or.inl hsd.symm)))
                  have hfr2 := Lib.hid hfr
                  clear hput hstay hfr hbc hx hst hBg hd1 hs1 hsd
                  go_wp2
                  go_quiet (fail)
                  go_wp2
                  go_roundw
                  case rel => exact ⟨k + 1, by omega, by go_num, HNX, Lib.hid ⟨_, fresh_drewN hfr2.out _, HST.out⟩, Lib.hid (below_drewN hb.out _)⟩
                  case measure => simp [intOf]; omega
                · have b3' : (s != d) = true := by simpa using hsd
                  have NO := Lib.hid (E3.out (HCO.out (fun h => by rcases HPR.out.1 h with h | h | h; exact hsd h.symm; exact hd1 h; exact hs1 h)))
                  clear hput hstay hfr hbc hx hst hBg hd1 hs1 hsd
                  go_wp2
                  go_quiet (fail)
                  go_wp2
                  go_ret2
                  rw [NO.out]
                  exact ⟨below_drewN hb.out _, Or.inl ⟨by decide, rfl⟩⟩
          · obtain rfl : k = xa.length := by omega
            have hxe := hbc.all hLS
            subst hxe
            have HCA := Lib.hid (hco.out.all (max xb.length xa.length))
            have hol : Hid ((outL xb xa).length = xb.length) := Lib.hid hbc.len
            have io : Hid (IntsIn wr (.slice a5 xb.length c5) (outL xb xa)) := Lib.hid (hfr.ints (by rw [hol.out]; omega) (outL_inI Ixb.out.wf.2 Ixa.out.wf.2))
            have hfr2 := Lib.hid hfr
            have HE4 := Lib.hid (E4.out HCA.out)
            have HE5 := Lib.hid (E5.out HCA.out)
            clear hfr hbc hx
            go_wp2_with fail
            refine (Vx.count_any io.out).mono ?_
            rintro e _ ⟨rfl, rfl⟩
            by_cases hce : (cnt (outL xb xa)).2 = 0
            · have NX := Lib.hid (HE5.out hce)
              rw [hce]
              clear hce
              go_wp2_with fail
              go_ret2
              rw [NX.out]
              exact ⟨hb.out, Or.inr ⟨rfl, _, rfl, hfr2.out⟩⟩
            · have NX := Lib.hid (HE4.out hce)
              have HNE := Lib.hid hce
              generalize (cnt (outL xb xa)).2 = ce at *
              have hb1 : (ce != 0) = true := by simpa using hce
              clear hce
              go_wp2_with fail
              go_ret2
              rw [NX.out]
              exact ⟨hb.out, Or.inl ⟨HNE.out, rfl⟩⟩
      · have hlti : ¬ (xa.length : Int) < (xb.length : Int) := by omega
        have E3 : Hid (¬ Co xa xb (max xa.length xb.length) → bcO xa xb = (4, [])) := Lib.hid fun h => by unfold bcO; rw [if_neg (by rw [HA.out]; decide), if_neg (by rw [HB.out]; decide), if_neg h]
        have E4 : Hid (Co xa xb (max xa.length xb.length) → (cnt (outL xa xb)).2 ≠ 0 → bcO xa xb = ((cnt (outL xa xb)).2, [])) := Lib.hid fun g h => by unfold bcO; rw [if_neg (by rw [HA.out]; decide), if_neg (by rw [HB.out]; decide), if_pos g, if_pos h]
        have E5 : Hid (Co xa xb (max xa.length xb.length) → (cnt (outL xa xb)).2 = 0 → bcO xa xb = (0, outL xa xb)) := Lib.hid fun g h => by unfold bcO; rw [if_neg (by rw [HA.out]; decide), if_neg (by rw [HB.out]; decide), if_pos g, if_neg (by rw [h]; decide)]
        have hLS : xb.length ≤ xa.length := by omega
        obtain ⟨ah, hah⟩ : ∃ ah : Nat, ah = xa.length - xb.length := ⟨_, rfl⟩
        have hsub : (xa.length : Int) - (xb.length : Int) = (ah : Int) := by omega
        have HAH := Lib.hid hah
        clear hah
        go_wp2_with fail
        refine (clone_any (Ixa.out.below b1.out)).mono ?_
        rintro e w2 ⟨v, rfl, hf, B2⟩
        obtain ⟨a5, c5, rfl⟩ := hf.form
        have b2 := Lib.hid (b1.out.trans (B2.mono b1.out.size))
        have hf2 : Hid (Fresh w.heap.size w2 (.slice a5 xa.length c5) xa) := Lib.hid (fresh_base hf b1.out.size)
        clear hf B2
        go_wp2_with fail
        go_loopw [49] (fun i wr => ∃ k : Nat, k ≤ xb.length ∧ i = .int .i64 (k : Int) ∧ Hid (CoS xa xb k) ∧ Hid (∃ xs, Fresh w.heap.size wr (.slice a5 xa.length c5) xs ∧ BcTo xa xb k xs) ∧ Hid (Below w.heap.size w wr)) (fun i _ => xb.length - (intOf i).toNat)
        case atStart => exact ⟨0, Nat.zero_le _, rfl, Lib.hid (CoS.zero _ _), Lib.hid ⟨_, hf2.out, BcTo.zero HPxa.out hLS⟩, b2⟩
        case round =>
          obtain ⟨k, hk, rfl, hco, hx, hb⟩ := hrel
          obtain ⟨xs, hfr, hbc⟩ := hx.out
          by_cases hkl : k < xb.length
          · have hki : (k : Int) < (xb.length : Int) := by omega
            obtain ⟨p, hp⟩ : ∃ p : Nat, p = ah + k := ⟨_, rfl⟩
            have hpi : (ah : Int) + (k : Int) = (p : Int) := by omega
            have hpL : p < xa.length := by have := HAH.out; omega
            have hpl : (p : Int) < (xa.length : Int) := by omega
            have hpe : xa.length - xb.length + k = p := by rw [← HAH.out, hp]
            have hpair := bc_pair hLS hkl
            have hput := hbc.put hLS hkl
            have hstay := hbc.stay hLS hkl
            have hhere := hbc.here
            rw [hpe] at hpair hput hstay hhere
            obtain ⟨g, rfl, hBg, hcell, hfz, hst⟩ := hfr.at hbc.len hpL
            obtain ⟨b, o, rfl, hbb, hrd⟩ := HRxb.out k hkl
            have hcx := (hb.out.cell (p := ⟨b, o + k, none⟩) hbb).trans (hrd k hkl)
            rw [hhere] at hcell
            have d1 := HPxa.out _ (getD_mem hpL)
            have s1 := HPxb.out _ (getD_mem hkl)
            have HCN := Lib.hid hco.out.next
            have HPR := Lib.hid hpair.2
            have HCO := Lib.hid (fun (h : ¬ Co1 xa xb (xb.length - 1 - k)) (g : Co xa xb (max xa.length xb.length)) => h (co_at g (by omega)))
            clear hpair hp hpe hhere
            generalize xa.getD p 0 = d at *
            generalize xb.getD k 0 = s at *
            by_cases hd1 : d = 1
            · have HPT := Lib.hid (hput hd1 s1)
              have HNX := Lib.hid (HCN.out (HPR.out.2 (Or.inr (Or.inl hd1))))
              have hsf := Lib.hid (hst s)
              have hbs : Hid (Below w.heap.size w (wr.setCell ⟨g, p, none⟩ (.int .i64 s))) := Lib.hid (hb.out.setCell (p := ⟨g, p, none⟩) hBg _)
              clear hput hstay hfr hbc hx hst hBg
              subst hd1
              go_wp2
              go_roundw
              case rel => exact ⟨k + 1, by omega, by go_num, HNX, Lib.hid ⟨_, hsf.out, HPT.out⟩, hbs⟩
              case measure => simp [intOf]; omega
            · have b1' : (d == 1) = false := by simpa using hd1
              by_cases hs1 : s = 1
              · have b2' : (s != 1) = false := by simp [hs1]
                have HST := Lib.hid (hstay d1 (Or.inl hs1))
                have HNX := Lib.hid (HCN.out (HPR.out.2 (Or.inr (Or.inr hs1))))
                have hfr2 := Lib.hid hfr
                clear hput hstay hfr hbc hx hst hBg hd1 hs1
                go_wp2
                go_quiet (fail)
                go_wp2
                go_roundw
                case rel => exact ⟨k + 1, by omega, by go_num, HNX, Lib.hid ⟨_, fresh_drewN hfr2.out _, HST.out⟩, Lib.hid (below_drewN hb.out _)⟩
                case measure => simp [intOf]; omega
              · have b2' : (s != 1) = true := by simpa using hs1
                by_cases hsd : s = d
                · have b3' : (s != d) = false := by simp [hsd]
                  have HST := Lib.hid (hstay d1 (Or.inr hsd))
                  have HNX := Lib.hid (HCN.out (HPR.out.2 (Or.inl hsd.symm)))
                  have hfr2 := Lib.hid hfr
                  clear hput hstay hfr hbc hx hst hBg hd1 hs1 hsd
                  go_wp2
                  go_quiet (fail)
                  go_wp2
                  go_roundw
                  case rel => exact ⟨k + 1, by omega, by go_num, HNX, Lib.hid ⟨_, fresh_drewN hfr2.out _, HST.out⟩, Lib.hid (below_drewN hb.out _)⟩
                  case measure => simp [intOf]; omega
                · have b3' : (s != d) = true := by simpa using hsd
                  have NO := Lib.hid (E3.out (HCO.out (fun h => by rcases HPR.out.1 h with h | h | h; exact hsd h.symm; exact hd1 h; exact hs1 h)))
                  clear hput hstay hfr hbc hx hst hBg hd1 hs1 hsd
                  go_wp2
                  go_quiet (fail)
                  go_wp2
                  go_ret2
                  rw [NO.out]
                  exact ⟨below_drewN hb.out _, Or.inl ⟨by decide, rfl⟩⟩
          · obtain rfl : k = xb.length := by omega
            have hxe := hbc.all hLS
            subst hxe
            have HCA := Lib.hid (hco.out.all (max xa.length xb.length))
            have hol : Hid ((outL xa xb).length = xa.length) := Lib.hid hbc.len
            have io : Hid (IntsIn wr (.slice a5 xa.length c5) (outL xa xb)) := Lib.hid (hfr.ints (by rw [hol.out]; omega) (outL_inI Ixa.out.wf.2 Ixb.out.wf.2))
            have hfr2 := Lib.hid hfr
            have HE4 := Lib.hid (E4.out HCA.out)
            have HE5 := Lib.hid (E5.out HCA.out)
            clear hfr hbc hx
            go_wp2_with fail
            refine (Vx.count_any io.out).mono ?_
            rintro e _ ⟨rfl, rfl⟩
            by_cases hce : (cnt (outL xa xb)).2 = 0
            · have NX := Lib.hid (HE5.out hce)
              rw [hce]
              clear hce
              go_wp2_with fail
              go_ret2
              rw [NX.out]
              exact ⟨hb.out, Or.inr ⟨rfl, _, rfl, hfr2.out⟩⟩
            · have NX := Lib.hid (HE4.out hce)
              have HNE := Lib.hid hce
              generalize (cnt (outL xa xb)).2 = ce at *
              have hb1 : (ce != 0) = true := by simpa using hce
              clear hce
              go_wp2_with fail
              go_ret2
              rw [NX.out]
              exact ⟨hb.out, Or.inl ⟨HNE.out, rfl⟩⟩

end Go.Proofs.YtagiipecfdmceaaGreatDoor.Vb

set_option linter.unusedVariables false
namespace Go.Proofs.YtagiipecfdmceaaGreatDoor.Vb
open Go.RowKit Vx Vx.Vw

/-- What has come, from the back. -/
def RbTo (a b : List Int) (n k : Nat) (xs : List Int) : Prop := xs.length = n ∧ ∀ i, i < k → xs.getD (n - 1 - i) 0 = (outL a b).getD (n - 1 - i) 0

theorem RbTo.len {a b xs : List Int} {n k : Nat} (h : RbTo a b n k xs) : xs.length = n := h.1
theorem RbTo.zero (a b : List Int) (n : Nat) : RbTo a b n 0 (List.replicate n 0) := ⟨by simp, fun i hi => by omega⟩
theorem RbTo.step {a b xs : List Int} {n k p : Nat} (h : RbTo a b n k xs) (hn : n = max a.length b.length) (hk : k < n) (hp : p = n - 1 - k) : RbTo a b n (k + 1) (xs.set p (max (bk a k) (bk b k))) := by
  refine ⟨by rw [List.length_set]; exact h.1, fun i hi => ?_⟩
  by_cases e : i = k
  · subst e
    rw [outL_get (by omega), ← hn, show n - 1 - (n - 1 - i) = i by omega, hp]
    have hlt : n - 1 - i < xs.length := by have := h.1; omega
    simp [List.getD, hlt]
  · have : (xs.set p (max (bk a k) (bk b k))).getD (n - 1 - i) 0 = xs.getD (n - 1 - i) 0 := by simp [List.getD, List.getElem?_set_ne (show p ≠ n - 1 - i by omega)]
    rw [this]; exact h.2 i (by omega)
theorem RbTo.all {a b xs : List Int} {n : Nat} (h : RbTo a b n n xs) (hn : n = max a.length b.length) : xs = outL a b := by
  refine List.ext_getElem (by rw [h.1, outL_length, hn]) fun j h1 h2 => ?_
  have := h.2 (n - 1 - j) (by have := h.1; omega)
  rw [show n - 1 - (n - 1 - j) = j by have := h.1; omega] at this
  simpa [List.getD, List.getElem?_eq_getElem h1, List.getElem?_eq_getElem h2] using this
theorem Co.zero (a b : List Int) : Co a b 0 := fun i hi => by omega
theorem Co.next {a b : List Int} {k : Nat} (h : Co a b k) (g : Co1 a b k) : Co a b (k + 1) := fun i hi => by
  by_cases e : i = k
  · subst e; exact g
  · exact h i (by omega)
theorem co1_iff (a b : List Int) (i : Nat) : Co1 a b i ↔ (bk a i = bk b i ∨ bk a i = 1 ∨ bk b i = 1) := Iff.rfl

attribute [local irreducible] cnt outL Co1 Co bk RbTo

end Go.Proofs.YtagiipecfdmceaaGreatDoor.Vb

set_option linter.unusedVariables false
namespace Go.Proofs.YtagiipecfdmceaaGreatDoor.Vx
open Go.RowKit Vw

/-- A box of three cells. -/
def Box3 (W : World) (b : Nat) (x y z : Value) : Prop := W.heap[b]? = some (.cells #[x, y, z] 73 (0, 0))

theorem Box3.frozen {W : World} {b : Nat} {x y z : Value} (h : Box3 W b x y z) (j : Nat) : W.frozen? ⟨b, j, none⟩ = false := by simp [World.frozen?, show W.heap[b]? = _ from h]
theorem Box3.c0 {W : World} {b : Nat} {x y z : Value} (h : Box3 W b x y z) : W.cell? ⟨b, 0, none⟩ = some x := by simp [World.cell?, show W.heap[b]? = _ from h]
theorem Box3.c1 {W : World} {b : Nat} {x y z : Value} (h : Box3 W b x y z) : W.cell? ⟨b, 1, none⟩ = some y := by simp [World.cell?, show W.heap[b]? = _ from h]
theorem Box3.c2 {W : World} {b : Nat} {x y z : Value} (h : Box3 W b x y z) : W.cell? ⟨b, 2, none⟩ = some z := by simp [World.cell?, show W.heap[b]? = _ from h]
theorem Box3.modify {W : World} {b : Nat} {x y z : Value} (h : Box3 W b x y z) (j : Nat) (v : Value) : (W.setCell ⟨b, j, none⟩ v).heap[b]? = some (.cells (#[x, y, z].setIfInBounds j v) 73 (0, 0)) := by
  obtain ⟨hlt, hk⟩ := Array.getElem?_eq_some_iff.1 h
  show (W.heap.modify b _)[b]? = _
  rw [Array.getElem?_eq_getElem (by rw [Array.size_modify]; exact hlt), Array.getElem_modify_self, hk]
  rfl
theorem Box3.set0 {W : World} {b : Nat} {x y z : Value} (h : Box3 W b x y z) (v : Value) : Box3 (W.setCell ⟨b, 0, none⟩ v) b v y z := h.modify 0 v
theorem Box3.set1 {W : World} {b : Nat} {x y z : Value} (h : Box3 W b x y z) (v : Value) : Box3 (W.setCell ⟨b, 1, none⟩ v) b x v z := h.modify 1 v
theorem Box3.set2 {W : World} {b : Nat} {x y z : Value} (h : Box3 W b x y z) (v : Value) : Box3 (W.setCell ⟨b, 2, none⟩ v) b x y v := h.modify 2 v
theorem Box3.new (W : World) (x y z : Value) : Box3 (W.alloc (.cells #[x, y, z] 73)) W.heap.size x y z := World.alloc_heap_new W _
theorem Box3.lt {W : World} {b : Nat} {x y z : Value} (h : Box3 W b x y z) : b < W.heap.size := (Array.getElem?_eq_some_iff.1 h).1
theorem Box3.below {W W' : World} {b : Nat} {x y z : Value} (h : Box3 W b x y z) (hb : Below W.heap.size W W') : Box3 W' b x y z := (hb.block b h.lt).trans h

/-- A view stored into a box. -/
def put3 (W : World) (b : Nat) (x y z : Value) : World := ((W.setCell ⟨b, 0, none⟩ x).setCell ⟨b, 1, none⟩ y).setCell ⟨b, 2, none⟩ z
theorem Box3.put {W : World} {b : Nat} {x y z : Value} (h : Box3 W b x y z) (x' y' z' : Value) : Box3 (put3 W b x' y' z') b x' y' z' := ((h.set0 x').set1 y').set2 z'
theorem below_put {n : Nat} {A W : World} {b : Nat} {x y z : Value} (h : Below n A W) (hb : n ≤ b) : Below n A (put3 W b x y z) :=
  ((h.setCell (p := ⟨b, 0, none⟩) hb _).setCell (p := ⟨b, 1, none⟩) hb _).setCell (p := ⟨b, 2, none⟩) hb _
theorem put_other {W : World} {b k : Nat} {x y z : Value} (h : k ≠ b) : (put3 W b x y z).heap[k]? = W.heap[k]? :=
  (Below.heap_setCell _ _ _ k h).trans ((Below.heap_setCell _ _ _ k h).trans (Below.heap_setCell _ _ _ k h))

/-- What is the call's own stays so while a box below it is written. -/
theorem Fresh.put {B B' : Nat} {w : World} {v : Value} {zs : List Int} {b : Nat} {x y z : Value} (h : Fresh B w v zs) (hb : b < B) (hB : B' ≤ B) : Fresh B' (put3 w b x y z) v zs := by
  rcases h with h | ⟨g, cap, cur, e, hg, hh, r⟩
  · exact Or.inl h
  · exact Or.inr ⟨g, cap, cur, e, by omega, (put_other (by omega)).trans hh, r⟩

/-- What comes out as a view and an error. -/
def ViewOut (w : World) (o : Int × Int × List Int × List Int) (e : Ending) (w' : World) : Prop :=
  Below w.heap.size w w' ∧ ((o.1 ≠ 0 ∧ e = .returned (.tuple #[.agg #[.int .i64 0, .slice none 0 0, .slice none 0 0], .int .i64 o.1])) ∨
    (o.1 = 0 ∧ ∃ d s, e = .returned (.tuple #[.agg #[.int .i64 o.2.1, d, s], .int .i64 0]) ∧ Fresh w.heap.size w' d o.2.2.1 ∧ Fresh w.heap.size w' s o.2.2.2))

def wholeO (zs : List Int) : Int × Int × List Int × List Int := if (cnt zs).2 = 0 then (0, 0, zs, strd zs) else ((cnt zs).2, 0, [], [])

attribute [local irreducible] cnt strd

set_option maxHeartbeats 1000000 in
theorem whole_any {w : World} {v : Value} {zs : List Int} (h : IntsIn w v zs) : Calls Tryz.prog 34 #[v] w (ViewOut w (wholeO zs)) := by
  obtain ⟨a1, c1, rfl⟩ := h.form
  have hA : Below w.heap.size w (w.alloc (.cells #[.int .i64 0, .slice none 0 0, .slice none 0 0] 73)) := (Below.refl _ w).alloc (Nat.le_refl _) _
  have HS := Lib.hid (strides_any (h.below hA))
  have hbox : Hid ((w.alloc (.cells #[.int .i64 0, .slice none 0 0, .slice none 0 0] 73)).heap[w.heap.size]? = some (.cells #[.int .i64 0, .slice none 0 0, .slice none 0 0] 73 (0, 0))) := Lib.hid (World.alloc_heap_new w _)
  have HA := Lib.hid hA
  have HI := Lib.hid (h.below hA)
  clear hA
  go_enter Tryz.func34, Tryz.ntmps34
  go_wp2_with fail
  refine HS.out.mono ?_
  rintro e w1 ⟨hB1, (⟨hne, rfl⟩ | ⟨he, s, rfl, hf⟩)⟩
  · have hb1 : Box3 w1 w.heap.size (.int .i64 0) (.slice none 0 0) (.slice none 0 0) := (Box3.new w _ _ _).below hB1
    have k0 := hb1.c0
    have k1 := hb1.c1
    have k2 := hb1.c2
    have f0 := hb1.frozen 0
    have f1 := hb1.frozen 1
    have f2 := hb1.frozen 2
    generalize hcc : (cnt zs).2 = cc at *
    have hO : Hid (wholeO zs = (cc, 0, [], [])) := Lib.hid (by unfold wholeO; rw [hcc, if_neg hne])
    have hp : Hid (Box3 (put3 w1 w.heap.size (.int .i64 0) (.slice none 0 0) (.slice none 0 0)) w.heap.size (.int .i64 0) (.slice none 0 0) (.slice none 0 0)) := Lib.hid (hb1.put _ _ _)
    have hbl : Hid (Below w.heap.size w (put3 w1 w.heap.size (.int .i64 0) (.slice none 0 0) (.slice none 0 0))) := Lib.hid (below_put (HA.out.trans (hB1.mono (by simp))) (Nat.le_refl _))
    have hNE := Lib.hid hne
    clear hb1 hcc
    have hcb : (cc != 0) = true := by simpa using hne
    go_wp2
    have c0 := hp.out.c0
    have c1' := hp.out.c1
    have c2 := hp.out.c2
    unfold put3 at c0 c1' c2
    exact bodyPost_ret (v := .tuple #[.agg #[.int .i64 0, .slice none 0 0, .slice none 0 0], .int .i64 cc]) (by simp [results, Tryz.f34, go_sem, c0, c1', c2]) rfl ⟨hbl.out, by rw [hO.out]; exact Or.inl ⟨hNE.out, rfl⟩⟩
  · have hO : Hid (wholeO zs = (0, 0, zs, strd zs)) := Lib.hid (by unfold wholeO; rw [if_pos he])
    have HC := Lib.hid (clone_any (HI.out.below hB1))
    have hb1 := Lib.hid ((Box3.new w (.int .i64 0) (.slice none 0 0) (.slice none 0 0)).below hB1)
    have hF := Lib.hid hf
    obtain ⟨av, cs, rfl⟩ := hf.form
    have HB1 := Lib.hid hB1
    clear hf hB1 he
    go_wp2_with fail
    refine HC.out.mono ?_
    rintro e w2 ⟨d, rfl, hfd, hB2⟩
    obtain ⟨ad, cd, rfl⟩ := hfd.form
    have hb2 := hb1.out.below hB2
    have k0 := hb2.c0
    have k1 := hb2.c1
    have k2 := hb2.c2
    have f0 := hb2.frozen 0
    have f1 := hb2.frozen 1
    have f2 := hb2.frozen 2
    have hp : Hid (Box3 (put3 w2 w.heap.size (.int .i64 0) (.slice ad zs.length cd) (.slice av (strd zs).length cs)) w.heap.size (.int .i64 0) (.slice ad zs.length cd) (.slice av (strd zs).length cs)) := Lib.hid (hb2.put _ _ _)
    have hz1 : w.heap.size < w1.heap.size := by have := HB1.out.size; simp at this; omega
    have hz2 : w1.heap.size ≤ w2.heap.size := hB2.size
    have hbl : Hid (Below w.heap.size w (put3 w2 w.heap.size (.int .i64 0) (.slice ad zs.length cd) (.slice av (strd zs).length cs))) := Lib.hid (below_put ((HA.out.trans (HB1.out.mono (by simp))).trans (hB2.mono (by omega))) (Nat.le_refl _))
    have hd2 : Hid (Fresh w.heap.size (put3 w2 w.heap.size (.int .i64 0) (.slice ad zs.length cd) (.slice av (strd zs).length cs)) (.slice ad zs.length cd) zs) := Lib.hid (hfd.put (by omega) (by omega))
    have hs2 : Hid (Fresh w.heap.size (put3 w2 w.heap.size (.int .i64 0) (.slice ad zs.length cd) (.slice av (strd zs).length cs)) (.slice av (strd zs).length cs) (strd zs)) := Lib.hid ((hF.out.below hB2).put (B' := w.heap.size) (by simp) (by simp))
    clear hb2 hfd hB2
    go_wp2
    have c0 := hp.out.c0
    have c1' := hp.out.c1
    have c2 := hp.out.c2
    have hbl2 := hbl.out
    have hd3 := hd2.out
    have hs3 := hs2.out
    unfold put3 at c0 c1' c2 hbl2 hd3 hs3
    exact bodyPost_ret (v := .tuple #[.agg #[.int .i64 0, .slice ad zs.length cd, .slice av (strd zs).length cs], .int .i64 0]) (by simp [results, Tryz.f34, go_sem, c0, c1', c2]) rfl ⟨hbl2, by rw [hO.out]; exact Or.inr ⟨rfl, _, _, rfl, hd3, hs3⟩⟩

end Go.Proofs.YtagiipecfdmceaaGreatDoor.Vx

set_option linter.unusedVariables false
namespace Go.Proofs.YtagiipecfdmceaaGreatDoor.Vx
open Go.RowKit Vw Vb

theorem box3_cells {W : World} {b : Nat} {x y z : Value} (h : Box3 W b x y z) : W.cell? ⟨b, 0, none⟩ = some x ∧ W.cell? ⟨b, 1, none⟩ = some y ∧ W.cell? ⟨b, 2, none⟩ = some z := ⟨h.c0, h.c1, h.c2⟩
theorem equal_any {w : World} {u v : Value} {xs ys : List Int} (h1 : IntsIn w u xs) (h2 : IntsIn w v ys) :
    Calls Tryz.prog 70 #[u, v] w fun e w' => e = .returned (.bool (decide (xs = ys))) ∧ Below w.heap.size w w' := by
  have hl1 := h1.wf.1
  have hl2 := h2.wf.1
  cases h1 with
  | empty a0 c0 =>
    obtain ⟨a3, c3, rfl⟩ := h2.form
    refine (Tryz.slices_Equal_int_empty a0 a3 c0 ys.length c3 w (by omega)).mono ?_
    rintro e w' ⟨rfl, rfl⟩
    refine ⟨ret_val (bool_val ?_), Below.refl _ _⟩
    cases ys <;> simp
  | row b1 o1 c1 _ n0 hc hb hr hlen hw =>
    cases h2 with
    | empty a0 c0 =>
      refine (Tryz.slices_Equal_int_lens (some ⟨b1, o1, none⟩) a0 xs.length c1 0 c0 w (by intro e; exact n0 (List.eq_nil_of_length_eq_zero e))).mono ?_
      rintro e w' ⟨rfl, rfl⟩
      exact ⟨ret_val (bool_val (decide_eq_false n0).symm), Below.refl _ _⟩
    | row b2 o2 c2 _ n0' hc' hb' hr' hlen' hw' =>
      refine (Tryz.slices_Equal_int b1 o1 xs.length c1 b2 o2 ys.length c2 xs ys w (Nat.le_refl _) (Nat.le_refl _) (by omega) (by omega) hr hr').mono ?_
      rintro e w' ⟨rfl, q, rfl⟩
      refine ⟨ret_val (bool_val ?_), below_drewN (Below.refl _ _) q⟩
      rw [List.take_length, List.take_length]
      by_cases e : xs = ys
      · simp [e]
      · simp [e]

/-- The strides of a view that is spread. -/
def spA (ds ss W : List Int) (j : Nat) : Int := if W.length - ds.length ≤ j ∧ ds.getD (j - (W.length - ds.length)) 0 = W.getD j 0 then ss.getD (j - (W.length - ds.length)) 0 else 0
def spS (ds ss W : List Int) : List Int := (List.range W.length).map (spA ds ss W)
theorem spS_length (ds ss W : List Int) : (spS ds ss W).length = W.length := by simp [spS]
theorem spS_get {ds ss W : List Int} {j : Nat} (h : j < W.length) : (spS ds ss W).getD j 0 = spA ds ss W j := by simp [spS, List.getD, h]

/-- What comes out of Spread. -/
def spO (off : Int) (ds ss W : List Int) : Int × Int × List Int × List Int :=
  if mayV off ds ss = false then (1, 0, [], []) else if (bcO ds W).1 ≠ 0 then ((bcO ds W).1, 0, [], []) else if (bcO ds W).2 ≠ W then (4, 0, [], []) else (0, off, W, spS ds ss W)

theorem bc_good {a b : List Int} (h : (bcO a b).1 = 0) : (cnt a).2 = 0 ∧ (cnt b).2 = 0 ∧ Co a b (max a.length b.length) ∧ (bcO a b).2 = outL a b ∧ (cnt (outL a b)).2 = 0 := by
  unfold bcO at h ⊢
  by_cases h1 : (cnt a).2 ≠ 0
  · rw [if_pos h1] at h; exact absurd h h1
  rw [if_neg h1] at h ⊢
  by_cases h2 : (cnt b).2 ≠ 0
  · rw [if_pos h2] at h; exact absurd h h2
  rw [if_neg h2] at h ⊢
  by_cases h3 : Co a b (max a.length b.length)
  · rw [if_pos h3] at h ⊢
    by_cases h4 : (cnt (outL a b)).2 ≠ 0
    · rw [if_pos h4] at h; exact absurd h h4
    · rw [if_neg h4]; exact ⟨by simpa using h1, by simpa using h2, h3, rfl, by simpa using h4⟩
  · rw [if_neg h3] at h; exact absurd h (by decide)

/-- The strides, so far. -/
def SpTo (ds ss W : List Int) (i : Nat) (xs : List Int) : Prop := xs.length = W.length ∧ (∀ j, j < W.length - ds.length + i → j < W.length → xs.getD j 0 = spA ds ss W j) ∧ (∀ j, W.length - ds.length + i ≤ j → xs.getD j 0 = 0)

theorem SpTo.len {ds ss W xs : List Int} {i : Nat} (h : SpTo ds ss W i xs) : xs.length = W.length := h.1
theorem SpTo.zero (ds ss W : List Int) : SpTo ds ss W 0 (List.replicate W.length 0) := by
  have hz : ∀ j, (List.replicate W.length (0 : Int)).getD j 0 = 0 := fun j => by
    by_cases h : j < W.length
    · simp [List.getD, h]
    · simp [List.getD, h]
  refine ⟨by simp, fun j hj _ => ?_, fun j _ => hz j⟩
  rw [hz]; unfold spA; rw [if_neg (by omega)]
theorem SpTo.put {ds ss W xs : List Int} {i : Nat} (h : SpTo ds ss W i xs) (hl : ds.length ≤ W.length) (hi : i < ds.length) (e : ds.getD i 0 = W.getD (W.length - ds.length + i) 0) : SpTo ds ss W (i + 1) (xs.set (W.length - ds.length + i) (ss.getD i 0)) := by
  refine ⟨by rw [List.length_set]; exact h.1, fun j hj hjW => ?_, fun j hj => ?_⟩
  · by_cases ej : j = W.length - ds.length + i
    · subst ej
      have hlt : W.length - ds.length + i < xs.length := by rw [h.1]; exact hjW
      unfold spA
      rw [if_pos ⟨by omega, by rw [show W.length - ds.length + i - (W.length - ds.length) = i by omega]; exact e⟩, show W.length - ds.length + i - (W.length - ds.length) = i by omega]
      simp [List.getD, hlt]
    · have : (xs.set (W.length - ds.length + i) (ss.getD i 0)).getD j 0 = xs.getD j 0 := by simp [List.getD, List.getElem?_set_ne (Ne.symm ej)]
      rw [this]; exact h.2.1 j (by omega) hjW
  · have : (xs.set (W.length - ds.length + i) (ss.getD i 0)).getD j 0 = xs.getD j 0 := by simp [List.getD, List.getElem?_set_ne (show W.length - ds.length + i ≠ j by omega)]
    rw [this]; exact h.2.2 j (by omega)
theorem SpTo.stay {ds ss W xs : List Int} {i : Nat} (h : SpTo ds ss W i xs) (hl : ds.length ≤ W.length) (hi : i < ds.length) (e : ds.getD i 0 ≠ W.getD (W.length - ds.length + i) 0) : SpTo ds ss W (i + 1) xs := by
  refine ⟨h.1, fun j hj hjW => ?_, fun j hj => h.2.2 j (by omega)⟩
  by_cases ej : j = W.length - ds.length + i
  · subst ej
    rw [h.2.2 _ (Nat.le_refl _)]
    unfold spA
    rw [if_neg]
    rintro ⟨_, g⟩
    rw [show W.length - ds.length + i - (W.length - ds.length) = i by omega] at g
    exact e g
  · exact h.2.1 j (by omega) hjW
theorem SpTo.all {ds ss W xs : List Int} (h : SpTo ds ss W ds.length xs) (hl : ds.length ≤ W.length) : xs = spS ds ss W := by
  refine List.ext_getElem (by rw [h.1, spS_length]) fun j h1 h2 => ?_
  have hj : j < W.length := by rw [← h.1]; exact h1
  have := h.2.1 j (by omega) hj
  rw [← spS_get hj] at this
  simpa [List.getD, List.getElem?_eq_getElem h1, List.getElem?_eq_getElem h2] using this

attribute [local irreducible] cnt mayV bcO outL spS spA SpTo spO

set_option maxRecDepth 100000 in
set_option maxHeartbeats 4000000 in
theorem spread_any {w : World} {off : Int} {d s pv : Value} {ds ss ps : List Int} (hd0 : IntsIn w d ds) (hs0 : IntsIn w s ss) (hp0 : IntsIn w pv ps) :
    Calls Tryz.prog 35 #[.agg #[.int .i64 off, d, s], pv] w (ViewOut w (spO off ds ss ps)) := by
  have hd := Lib.hid hd0
  have hs := Lib.hid hs0
  have hp := Lib.hid hp0
  clear hd0 hs0 hp0
  obtain ⟨a1, c1, rfl⟩ := hd.out.form
  obtain ⟨a2, c2, rfl⟩ := hs.out.form
  obtain ⟨a3, c3, rfl⟩ := hp.out.form
  obtain ⟨WA, hWA⟩ : ∃ WA, (w.alloc (.cells #[.int .i64 off, .slice a1 ds.length c1, .slice a2 ss.length c2] 73)).alloc (.cells #[.int .i64 0, .slice none 0 0, .slice none 0 0] 73) = WA := ⟨_, rfl⟩
  have bA : Below w.heap.size w WA := by rw [← hWA]; exact ((Below.refl _ w).alloc (Nat.le_refl _) _).alloc (by simp) _
  have zA : WA.heap.size = w.heap.size + 2 := by rw [← hWA]; simp
  have p1 : Box3 WA w.heap.size (.int .i64 off) (.slice a1 ds.length c1) (.slice a2 ss.length c2) := by rw [← hWA]; exact (Below.heap_alloc _ _ _ (by simp)).trans (Box3.new w _ _ _)
  have p2 : Box3 WA (w.heap.size + 1) (.int .i64 0) (.slice none 0 0) (.slice none 0 0) := by
    rw [← hWA]
    have := Box3.new (w.alloc (.cells #[.int .i64 off, .slice a1 ds.length c1, .slice a2 ss.length c2] 73)) (.int .i64 0) (.slice none 0 0) (.slice none 0 0)
    rwa [World.size_alloc] at this
  have q0 := p1.c0
  have q1 := p1.c1
  have q2 := p1.c2
  have P1 := Lib.hid p1
  have P2 := Lib.hid p2
  have BA := Lib.hid bA
  have ZA := Lib.hid zA
  have HF := Lib.hid (fine_any (off := off) (hd.out.below bA) (hs.out.below bA))
  clear p1 p2 bA zA
  have E1 : Hid (mayV off ds ss = false → spO off ds ss ps = (1, 0, [], [])) := Lib.hid fun h => by unfold spO; rw [if_pos h]
  have E2 : Hid (mayV off ds ss = true → (bcO ds ps).1 ≠ 0 → spO off ds ss ps = ((bcO ds ps).1, 0, [], [])) := Lib.hid fun h g => by unfold spO; rw [if_neg (by rw [h]; decide), if_pos g]
  have E3 : Hid (mayV off ds ss = true → (bcO ds ps).1 = 0 → (bcO ds ps).2 ≠ ps → spO off ds ss ps = (4, 0, [], [])) := Lib.hid fun h g k => by unfold spO; rw [if_neg (by rw [h]; decide), if_neg (by rw [g]; decide), if_pos k]
  have E4 : Hid (mayV off ds ss = true → (bcO ds ps).1 = 0 → (bcO ds ps).2 = ps → spO off ds ss ps = (0, off, ps, spS ds ss ps)) := Lib.hid fun h g k => by unfold spO; rw [if_neg (by rw [h]; decide), if_neg (by rw [g]; decide), if_neg (by rw [k]; simp)]
  generalize spO off ds ss ps = O at *
  have HR1 := Lib.hid hd.out.rowsV.2
  have HR2 := Lib.hid hs.out.rowsV.2
  go_enter Tryz.func35, Tryz.ntmps35
  go_wp2_with fail
  refine HF.out.mono ?_
  rintro e w1 ⟨rfl, B1⟩
  have z1 : Hid (w.heap.size + 2 ≤ w1.heap.size) := Lib.hid (by have := ZA.out; have := B1.size; omega)
  have b1 : Hid (Below w.heap.size w w1) := Lib.hid (BA.out.trans (B1.mono BA.out.size))
  have P3 := Lib.hid (P1.out.below B1)
  have P4 := Lib.hid (P2.out.below B1)
  clear B1 q0 q1 q2
  cases hm : mayV off ds ss
  · have NX := Lib.hid (E1.out hm)
    clear hm
    have f0 := P4.out.frozen 0
    have f1 := P4.out.frozen 1
    have f2 := P4.out.frozen 2
    have k0 := P4.out.c0
    have k1 := P4.out.c1
    have k2 := P4.out.c2
    have hend : Hid (Box3 (put3 w1 (w.heap.size + 1) (.int .i64 0) (.slice none 0 0) (.slice none 0 0)) (w.heap.size + 1) (.int .i64 0) (.slice none 0 0) (.slice none 0 0) ∧ Below w.heap.size w (put3 w1 (w.heap.size + 1) (.int .i64 0) (.slice none 0 0) (.slice none 0 0))) := Lib.hid ⟨P4.out.put _ _ _, below_put b1.out (by omega)⟩
    go_wp2_with fail
    obtain ⟨h1, h2⟩ := hend.out
    obtain ⟨x0, x1', x2'⟩ := box3_cells h1
    unfold put3 at x0 x1' x2' h2
    exact bodyPost_ret (v := .tuple #[.agg #[.int .i64 0, .slice none 0 0, .slice none 0 0], .int .i64 1]) (by simp [results, Tryz.f35, go_sem, x0, x1', x2']) rfl (by rw [NX.out]; exact ⟨h2, Or.inl ⟨by decide, rfl⟩⟩)
  have HM := Lib.hid hm
  have hmg := may_good hm
  have hn6 := hmg.2.1
  have hsl : Hid (ss.length = ds.length) := Lib.hid hmg.2.2.2.2.1
  clear hm hmg
  obtain ⟨y0, y1, y2⟩ := box3_cells P3.out
  go_wp2_with fail
  refine (Vb.broadcast_any (hd.out.below b1.out) (hp.out.below b1.out)).mono ?_
  rintro e w2 ⟨B2, h2⟩
  have z2 : Hid (w1.heap.size ≤ w2.heap.size) := Lib.hid B2.size
  have b2 := Lib.hid (b1.out.trans (B2.mono b1.out.size))
  have P5 := Lib.hid (P3.out.below B2)
  have P6 := Lib.hid (P4.out.below B2)
  clear B2 y0 y1 y2
  rcases h2 with ⟨hne, rfl⟩ | ⟨h0, v, rfl, hf⟩
  · have NX := Lib.hid (E2.out HM.out hne)
    generalize (bcO ds ps).1 = ce at *
    have hb1 : (ce != 0) = true := by simpa using hne
    have HNE := Lib.hid hne
    clear hne
    have f0 := P6.out.frozen 0
    have f1 := P6.out.frozen 1
    have f2 := P6.out.frozen 2
    have k0 := P6.out.c0
    have k1 := P6.out.c1
    have k2 := P6.out.c2
    have hend : Hid (Box3 (put3 w2 (w.heap.size + 1) (.int .i64 0) (.slice none 0 0) (.slice none 0 0)) (w.heap.size + 1) (.int .i64 0) (.slice none 0 0) (.slice none 0 0) ∧ Below w.heap.size w (put3 w2 (w.heap.size + 1) (.int .i64 0) (.slice none 0 0) (.slice none 0 0))) := Lib.hid ⟨P6.out.put _ _ _, below_put b2.out (by omega)⟩
    go_wp2_with fail
    obtain ⟨h1, h2⟩ := hend.out
    obtain ⟨x0, x1', x2'⟩ := box3_cells h1
    unfold put3 at x0 x1' x2' h2
    exact bodyPost_ret (v := .tuple #[.agg #[.int .i64 0, .slice none 0 0, .slice none 0 0], .int .i64 ce]) (by simp [results, Tryz.f35, go_sem, x0, x1', x2']) rfl (by rw [NX.out]; exact ⟨h2, Or.inl ⟨HNE.out, rfl⟩⟩)
  have hf := Fresh.of_owns hf
  have HB0 := Lib.hid h0
  have hbg := bc_good h0
  have hbe := hbg.2.2.2.1
  have hcp := (cnt_good hbg.2.1).2.1
  have hol : Hid ((outL ds ps).length = max ds.length ps.length) := Lib.hid (outL_length ds ps)
  have hoi : Hid (∀ z ∈ outL ds ps, InI z) := Lib.hid (outL_inI hd.out.wf.2 hp.out.wf.2)
  have HE3 := Lib.hid (E3.out HM.out h0)
  have HE4 := Lib.hid (E4.out HM.out h0)
  rw [hbe] at hf HE3 HE4
  have iv := Lib.hid (hf.ints (by rw [hol.out]; omega) hoi.out)
  have hF := Lib.hid hf
  obtain ⟨a4, c4, rfl⟩ := hf.form
  clear hf h0 hbg hbe
  go_wp2_with fail
  refine (equal_any iv.out (hp.out.below b2.out)).mono ?_
  rintro e w3 ⟨rfl, B3⟩
  have z3 : Hid (w2.heap.size ≤ w3.heap.size) := Lib.hid B3.size
  have b3 := Lib.hid (b2.out.trans (B3.mono b2.out.size))
  have P7 := Lib.hid (P5.out.below B3)
  have P8 := Lib.hid (P6.out.below B3)
  have hF3 := Lib.hid (hF.out.below B3)
  clear B3
  by_cases hq : outL ds ps = ps
  rotate_left
  · have NX := Lib.hid (HE3.out hq)
    rw [decide_eq_false hq]
    clear hq
    have f0 := P8.out.frozen 0
    have f1 := P8.out.frozen 1
    have f2 := P8.out.frozen 2
    have k0 := P8.out.c0
    have k1 := P8.out.c1
    have k2 := P8.out.c2
    have hend : Hid (Box3 (put3 w3 (w.heap.size + 1) (.int .i64 0) (.slice none 0 0) (.slice none 0 0)) (w.heap.size + 1) (.int .i64 0) (.slice none 0 0) (.slice none 0 0) ∧ Below w.heap.size w (put3 w3 (w.heap.size + 1) (.int .i64 0) (.slice none 0 0) (.slice none 0 0))) := Lib.hid ⟨P8.out.put _ _ _, below_put b3.out (by omega)⟩
    go_wp2_with fail
    obtain ⟨h1, h2⟩ := hend.out
    obtain ⟨x0, x1', x2'⟩ := box3_cells h1
    unfold put3 at x0 x1' x2' h2
    exact bodyPost_ret (v := .tuple #[.agg #[.int .i64 0, .slice none 0 0, .slice none 0 0], .int .i64 4]) (by simp [results, Tryz.f35, go_sem, x0, x1', x2']) rfl (by rw [NX.out]; exact ⟨h2, Or.inl ⟨by decide, rfl⟩⟩)
  have NX := Lib.hid (HE4.out hq)
  rw [decide_eq_true hq]
  rw [hq] at hF3 hol ⊢
  have hle : ds.length ≤ ps.length := by have := hol.out; omega
  clear hq HE3 HE4 E1 E2 E3 E4 iv hF hoi
  have iv3 := Lib.hid (hF3.out.ints hp.out.wf.1 hp.out.wf.2)
  have HR4 := Lib.hid iv3.out.rowsV.2
  obtain ⟨ah, hah⟩ : ∃ ah : Nat, ah = ps.length - ds.length := ⟨_, rfl⟩
  have hsub : (ps.length : Int) - (ds.length : Int) = (ah : Int) := by omega
  have HAH := Lib.hid hah
  clear hah
  have hmk := run_make_ints w3 ps.length (by omega)
  have hrow : Hid (RowAt (w3.alloc (.cells (intCells (List.replicate ps.length 0)) 3)) w3.heap.size (List.replicate ps.length 0)) := Lib.hid (RowAt.new w3 _)
  have hbel : Hid (Below w3.heap.size w3 (w3.alloc (.cells (intCells (List.replicate ps.length 0)) 3))) := Lib.hid ((Below.refl _ w3).alloc (Nat.le_refl _) _)
  have HSZ : Hid (SpTo ds ss ps 0 (List.replicate ps.length 0)) := Lib.hid (SpTo.zero ds ss ps)
  have P9 := Lib.hid (P7.out.below hbel.out)
  obtain ⟨y0, y1, y2⟩ := box3_cells P9.out
  go_wp2_with fail
  go_loopw [40] (fun i wr => ∃ k : Nat, k ≤ ds.length ∧ i = .int .i64 (k : Int) ∧ Hid (∃ xs, RowAt wr w3.heap.size xs ∧ SpTo ds ss ps k xs) ∧ Hid (Below w3.heap.size w3 wr)) (fun i _ => ds.length - (intOf i).toNat)
  case atStart => exact ⟨0, Nat.zero_le _, rfl, Lib.hid ⟨_, hrow.out, HSZ.out⟩, hbel⟩
  case round =>
    obtain ⟨k, hk, rfl, hx, hb⟩ := hrel
    obtain ⟨xs, hr, hsp⟩ := hx.out
    have PV := Lib.hid (P7.out.below hb.out)
    clear y0 y1 y2
    obtain ⟨y0, y1, y2⟩ := box3_cells PV.out
    have bw := Lib.hid (b3.out.trans (hb.out.mono b3.out.size))
    by_cases hkl : k < ds.length
    · have hki : (k : Int) < (ds.length : Int) := by omega
      have hki2 : (k : Int) < (ss.length : Int) := by rw [hsl.out]; exact hki
      obtain ⟨p, hpp⟩ : ∃ p : Nat, p = ah + k := ⟨_, rfl⟩
      have hpi : (ah : Int) + (k : Int) = (p : Int) := by omega
      have hpe : ps.length - ds.length + k = p := by rw [← HAH.out, hpp]
      have hpL : p < ps.length := by omega
      have hpl : (p : Int) < (ps.length : Int) := by omega
      have hput := hsp.put hle hkl
      have hstay := hsp.stay hle hkl
      rw [hpe] at hput hstay
      obtain ⟨b1', o1', rfl, hb1, hr1⟩ := HR1.out k hkl
      obtain ⟨b2', o2', rfl, hb2, hr2⟩ := HR2.out k (by rw [hsl.out]; exact hkl)
      obtain ⟨b4', o4', rfl, hb4, hr4⟩ := HR4.out p hpL
      have x1 := (bw.out.cell (p := ⟨b1', o1' + k, none⟩) hb1).trans (hr1 k hkl)
      have x2 := (bw.out.cell (p := ⟨b2', o2' + k, none⟩) hb2).trans (hr2 k (by rw [hsl.out]; exact hkl))
      have x4 := (hb.out.cell (p := ⟨b4', o4' + p, none⟩) hb4).trans (hr4 p hpL)
      have hcell := hr.cell (j := p) (by rw [hsp.len]; exact hpL)
      have hfz := hr.frozen p
      have hset := hr.set p (ss.getD k 0)
      clear hpp hpe
      generalize ds.getD k 0 = d1 at *
      generalize ss.getD k 0 = s1 at *
      generalize ps.getD p 0 = q1 at *
      by_cases he : d1 = q1
      · have HPT := Lib.hid (hput he)
        have HST := Lib.hid hset
        have hbs : Hid (Below w3.heap.size w3 (wr.setCell ⟨w3.heap.size, p, none⟩ (.int .i64 s1))) := Lib.hid (hb.out.setCell (p := ⟨w3.heap.size, p, none⟩) (Nat.le_refl _) _)
        clear hput hstay hset hr hsp hx
        subst he
        go_wp2_with fail
        go_roundw
        case rel => exact ⟨k + 1, by omega, by go_num, Lib.hid ⟨_, HST.out, HPT.out⟩, hbs⟩
        case measure => simp [intOf]; omega
      · have HPT := Lib.hid (hstay he)
        have HST := Lib.hid hr
        have hb1' : (d1 == q1) = false := by simpa using he
        clear hput hstay hset hr hsp hx he
        go_wp2_with fail
        go_roundw
        case rel => exact ⟨k + 1, by omega, by go_num, Lib.hid ⟨_, HST.out, HPT.out⟩, hb⟩
        case measure => simp [intOf]; omega
    · obtain rfl : k = ds.length := by omega
      have hxe := hsp.all hle
      subst hxe
      have hFS : Hid (Fresh w3.heap.size wr (.slice (some ⟨w3.heap.size, 0, none⟩) ps.length ps.length) (spS ds ss ps)) := Lib.hid (Fresh.row hr (Nat.le_refl _) (spS_length ds ss ps).symm)
      have hFD := Lib.hid (hF3.out.below hb.out)
      have P10 := Lib.hid (P8.out.below hb.out)
      have zz : Hid (w.heap.size + 2 ≤ w1.heap.size ∧ w1.heap.size ≤ w3.heap.size) := Lib.hid ⟨z1.out, Nat.le_trans z2.out z3.out⟩
      have f0 := P10.out.frozen 0
      have f1 := P10.out.frozen 1
      have f2 := P10.out.frozen 2
      have k0 := P10.out.c0
      have k1 := P10.out.c1
      have k2 := P10.out.c2
      clear hr hsp hx
      have hend : Hid (Box3 (put3 wr (w.heap.size + 1) (.int .i64 off) (.slice a4 ps.length c4) (.slice (some ⟨w3.heap.size, 0, none⟩) ps.length ps.length)) (w.heap.size + 1) (.int .i64 off) (.slice a4 ps.length c4) (.slice (some ⟨w3.heap.size, 0, none⟩) ps.length ps.length) ∧ Below w.heap.size w (put3 wr (w.heap.size + 1) (.int .i64 off) (.slice a4 ps.length c4) (.slice (some ⟨w3.heap.size, 0, none⟩) ps.length ps.length)) ∧ Fresh w.heap.size (put3 wr (w.heap.size + 1) (.int .i64 off) (.slice a4 ps.length c4) (.slice (some ⟨w3.heap.size, 0, none⟩) ps.length ps.length)) (.slice a4 ps.length c4) ps ∧ Fresh w.heap.size (put3 wr (w.heap.size + 1) (.int .i64 off) (.slice a4 ps.length c4) (.slice (some ⟨w3.heap.size, 0, none⟩) ps.length ps.length)) (.slice (some ⟨w3.heap.size, 0, none⟩) ps.length ps.length) (spS ds ss ps)) := Lib.hid ⟨P10.out.put _ _ _, below_put bw.out (by omega), hFD.out.put (by have := zz.out; omega) (by have := zz.out; omega), hFS.out.put (by have := zz.out; omega) (by have := zz.out; omega)⟩
      go_wp2_with fail
      obtain ⟨h1, h2, h3, h4⟩ := hend.out
      obtain ⟨x0, x1', x2'⟩ := box3_cells h1
      unfold put3 at x0 x1' x2' h2 h3 h4
      exact bodyPost_ret (v := .tuple #[.agg #[.int .i64 off, .slice a4 ps.length c4, .slice (some ⟨w3.heap.size, 0, none⟩) ps.length ps.length], .int .i64 0]) (by simp [results, Tryz.f35, go_sem, x0, x1', x2']) rfl (by rw [NX.out]; exact ⟨h2, Or.inr ⟨rfl, _, _, rfl, h3, h4⟩⟩)

end Go.Proofs.YtagiipecfdmceaaGreatDoor.Vx

set_option linter.unusedVariables false
namespace Go.Proofs.YtagiipecfdmceaaGreatDoor.Vx
open Go.RowKit Vw Vb

theorem co1_if (a b : List Int) (i : Nat) : Co1 a b i ↔ (bk a i = bk b i ∨ bk a i = 1 ∨ bk b i = 1) := Iff.rfl
theorem strd_le : ∀ {zs : List Int}, (∀ d ∈ zs, 1 ≤ d ∧ d ≤ 65536) → pr zs ≤ 65536 → ∀ z ∈ strd zs, 1 ≤ z ∧ z ≤ 65536
  | [], _, _, z, hz => by simp [strd] at hz
  | d :: ds, h, g, z, hz => by
    have hp : Pos ds := fun x hx => (h x (List.mem_cons_of_mem _ hx)).1
    have h1 := pr_pos hp
    have hd := (h d (List.mem_cons_self ..)).1
    rw [pr] at g
    have h2 : pr ds ≤ 65536 := by
      have := Int.mul_le_mul_of_nonneg_right hd (by omega : 0 ≤ pr ds)
      rw [Int.one_mul] at this
      omega
    rw [strd] at hz
    rcases List.mem_cons.1 hz with rfl | hz
    · exact ⟨h1, h2⟩
    · exact strd_le (fun x hx => h x (List.mem_cons_of_mem _ hx)) h2 z hz
def Val : List Int → List Int → Prop
  | [], [] => True
  | d :: ds, c :: cs => (0 ≤ c ∧ c < d) ∧ Val ds cs
  | _, _ => False
theorem val_plc : ∀ {ds cs : List Int}, Pos ds → Val ds cs → (0 ≤ plc (strd ds) cs ∧ plc (strd ds) cs < pr ds) ∧ crd ds (plc (strd ds) cs) = cs
  | [], [], _, _ => by simp [strd, plc, pr, crd]
  | [], _ :: _, _, h => h.elim
  | _ :: _, [], _, h => h.elim
  | d :: ds, c :: cs, hp, h => by
    obtain ⟨⟨h1, h2⟩, h3⟩ := h
    obtain ⟨⟨i1, i2⟩, i3⟩ := val_plc hp.tail h3
    have hpp := pr_pos hp.tail
    simp only [strd, plc, pr, crd]
    generalize plc (strd ds) cs = r at *
    generalize pr ds = P at *
    have m1 : 0 ≤ c * P := Int.mul_nonneg h1 (by omega)
    have m2 : (c + 1) * P ≤ d * P := Int.mul_le_mul_of_nonneg_right (by omega) (by omega)
    rw [Int.add_mul, Int.one_mul] at m2
    have e1 : (c * P + r) / P = c := by
      rw [Int.add_comm, Int.add_mul_ediv_right _ _ (by omega), Int.ediv_eq_zero_of_lt i1 i2]; omega
    have e2 : (c * P + r) % P = r := by
      rw [Int.add_comm, Int.add_mul_emod_self_right, Int.emod_eq_of_lt i1 i2]
    rw [e1, e2, i3]
    exact ⟨⟨by omega, by omega⟩, rfl⟩
theorem crd_val : ∀ {ds : List Int} {k : Int}, Pos ds → 0 ≤ k → k < pr ds → Val ds (crd ds k)
  | [], k, _, _, _ => trivial
  | d :: ds, k, hp, h0, h1 => by
    have hpp := pr_pos hp.tail
    simp only [pr] at h1
    refine ⟨⟨Int.ediv_nonneg h0 (by omega), Int.ediv_lt_of_lt_mul (by omega) h1⟩, ?_⟩
    exact crd_val hp.tail (Int.emod_nonneg k (by omega)) (Int.emod_lt_of_pos k (by omega))
theorem val_length : ∀ {ds cs : List Int}, Val ds cs → cs.length = ds.length
  | [], [], _ => rfl
  | [], _ :: _, h => h.elim
  | _ :: _, [], h => h.elim
  | d :: ds, c :: cs, h => by simp [val_length h.2]
theorem val_drop : ∀ {ds cs : List Int} (k : Nat), Val ds cs → Val (ds.drop k) (cs.drop k)
  | ds, cs, 0, h => h
  | [], [], k + 1, h => by simpa using h
  | [], _ :: _, _, h => h.elim
  | _ :: _, [], _, h => h.elim
  | d :: ds, c :: cs, k + 1, h => val_drop k h.2
def ownc : List Int → List Int → List Int
  | d :: ds, c :: cs => (if d = 1 then 0 else c) :: ownc ds cs
  | _, _ => []
def zw : List Int → List Int → List Int → List Int
  | d :: ds, s :: ss, w :: ws => (if d = w then s else 0) :: zw ds ss ws
  | _, _, _ => []
def Cmp : List Int → List Int → Prop
  | [], [] => True
  | d :: ds, w :: ws => (d = w ∨ d = 1) ∧ Cmp ds ws
  | _, _ => False
theorem zw_length : ∀ {ds ss ws : List Int}, ss.length = ds.length → ws.length = ds.length → (zw ds ss ws).length = ds.length
  | [], [], [], _, _ => rfl
  | d :: ds, s :: ss, w :: ws, h1, h2 => by
    simp only [zw, List.length_cons]
    rw [zw_length (by simpa using h1) (by simpa using h2)]
theorem zw_get : ∀ {ds ss ws : List Int} {j : Nat}, ss.length = ds.length → ws.length = ds.length → j < ds.length → (zw ds ss ws).getD j 0 = if ds.getD j 0 = ws.getD j 0 then ss.getD j 0 else 0
  | [], _, _, _, _, _, h => by simp at h
  | d :: ds, s :: ss, w :: ws, 0, _, _, _ => by simp [zw]
  | d :: ds, s :: ss, w :: ws, j + 1, h1, h2, h3 => by
    simp only [zw, List.getD_cons_succ]
    exact zw_get (by simpa using h1) (by simpa using h2) (by simpa using h3)
theorem list_getD {xs ys : List Int} (hl : xs.length = ys.length) (h : ∀ j, j < ys.length → xs.getD j 0 = ys.getD j 0) : xs = ys := by
  refine List.ext_getElem hl fun j h1 h2 => ?_
  have := h j h2
  simpa [List.getD, List.getElem?_eq_getElem h1, List.getElem?_eq_getElem h2] using this
theorem getD_drop {xs : List Int} {a j : Nat} : (xs.drop a).getD j 0 = xs.getD (a + j) 0 := by simp [List.getD, List.getElem?_drop]
theorem spS_eq {ds ss W : List Int} (hl : ds.length ≤ W.length) (hs : ss.length = ds.length) : spS ds ss W = List.replicate (W.length - ds.length) 0 ++ zw ds ss (W.drop (W.length - ds.length)) := by
  have hw : (W.drop (W.length - ds.length)).length = ds.length := by simp; omega
  have hz := zw_length (ws := W.drop (W.length - ds.length)) hs hw
  refine (list_getD (by rw [spS_length]; simp; omega) fun j hj => ?_).symm
  rw [spS_length] at hj
  rw [spS_get hj]
  unfold spA
  by_cases h : W.length - ds.length ≤ j
  · have e : (List.replicate (W.length - ds.length) (0 : Int) ++ zw ds ss (W.drop (W.length - ds.length))).getD j 0 = (zw ds ss (W.drop (W.length - ds.length))).getD (j - (W.length - ds.length)) 0 := by
      simp [List.getD, List.getElem?_append_right, h]
    rw [e, zw_get hs hw (by omega), getD_drop, show W.length - ds.length + (j - (W.length - ds.length)) = j by omega]
    by_cases g : ds.getD (j - (W.length - ds.length)) 0 = W.getD j 0
    · rw [if_pos g, if_pos ⟨h, g⟩]
    · rw [if_neg g, if_neg (fun q => g q.2)]
  · rw [if_neg (fun q => h q.1)]
    simp [List.getD, List.getElem?_append_left, show j < W.length - ds.length by omega]
theorem plc_rep : ∀ {a : Nat} {S C : List Int}, a ≤ C.length → plc (List.replicate a 0 ++ S) C = plc S (C.drop a)
  | 0, _, _, _ => by simp
  | a + 1, _, [], h => by simp at h
  | a + 1, S, c :: C, h => by
    have := plc_rep (a := a) (S := S) (C := C) (by simpa using h)
    simp only [List.replicate_succ, List.cons_append, plc, List.drop_succ_cons]
    rw [this]; omega
theorem zw_plc : ∀ {ds ss ws cs : List Int}, Cmp ds ws → Val ws cs → ss.length = ds.length → plc (zw ds ss ws) cs = plc ss (ownc ds cs)
  | [], [], [], [], _, _, _ => rfl
  | d :: ds, s :: ss, w :: ws, c :: cs, h1, h2, h3 => by
    have ih := zw_plc h1.2 h2.2 (by simpa using h3)
    simp only [zw, ownc, plc]
    rw [ih]
    congr 1
    obtain ⟨g1, g2⟩ := h2.1
    by_cases e : d = w
    · rw [if_pos e]
      by_cases f : d = 1
      · rw [if_pos f, show c = 0 by omega]
      · rw [if_neg f]
    · have f : d = 1 := h1.1.resolve_left e
      rw [if_neg e, if_pos f]; simp
  | [], _, _ :: _, _, h, _, _ => h.elim
  | _ :: _, _, [], _, h, _, _ => h.elim
  | _, _, _ :: _, [], _, h, _ => h.elim
  | _, _, [], _ :: _, _, h, _ => h.elim
  | [], _ :: _, _, _, _, _, h => by simp at h
  | _ :: _, [], _, _, _, _, h => by simp at h
theorem ownc_val : ∀ {ds ws cs : List Int}, Cmp ds ws → Val ws cs → Val ds (ownc ds cs)
  | [], [], [], _, _ => trivial
  | d :: ds, w :: ws, c :: cs, h1, h2 => by
    refine ⟨?_, ownc_val h1.2 h2.2⟩
    obtain ⟨g1, g2⟩ := h2.1
    by_cases f : d = 1
    · rw [if_pos f]; omega
    · rw [if_neg f]
      have := h1.1.resolve_right f
      omega
  | [], _ :: _, _, h, _ => h.elim
  | _ :: _, [], _, h, _ => h.elim
  | _, _ :: _, [], _, h => h.elim
  | _, [], _ :: _, _, h => h.elim
theorem cmp_of : ∀ {ds ws : List Int}, ws.length = ds.length → (∀ i, i < ds.length → ds.getD i 0 = ws.getD i 0 ∨ ds.getD i 0 = 1) → Cmp ds ws
  | [], [], _, _ => trivial
  | [], _ :: _, h, _ => by simp at h
  | _ :: _, [], h, _ => by simp at h
  | d :: ds, w :: ws, h, g => ⟨by simpa using g 0 (by simp), cmp_of (by simpa using h) fun i hi => by simpa using g (i + 1) (by simpa using hi)⟩
theorem spread_cmp {ds W : List Int} (h1 : (bcO ds W).1 = 0) (h2 : (bcO ds W).2 = W) : ds.length ≤ W.length ∧ Cmp ds (W.drop (W.length - ds.length)) := by
  obtain ⟨g1, g2, g3, g4, g5⟩ := bc_good h1
  rw [g4] at h2
  have hl : ds.length ≤ W.length := by
    have := congrArg List.length h2
    rw [outL_length] at this; omega
  refine ⟨hl, cmp_of (by simp; omega) fun i hi => ?_⟩
  have hp := bc_pair (L := W) (S := ds) hl hi
  rw [outL_comm, h2] at hp
  have hc := hp.2.1 ((g3.comm) (ds.length - 1 - i) (by omega))
  have d1 := cnt_pos g1 _ (getD_mem hi)
  rw [getD_drop]
  have := hp.1
  omega

/-- The place at which a whole of dims ds that is spread to W shows its k-th element. -/
def spP (ds W : List Int) (k : Nat) : Nat := (plc (strd ds) (ownc ds ((crd W (k : Int)).drop (W.length - ds.length)))).toNat
def spL (ds W data : List Int) : List Int := (List.range (pr W).toNat).map fun k => data.getD (spP ds W k) 0
theorem spL_length (ds W data : List Int) : (spL ds W data).length = (pr W).toNat := by simp [spL]
theorem spL_get {ds W data : List Int} {k : Nat} (h : k < (pr W).toNat) : (spL ds W data).getD k 0 = data.getD (spP ds W k) 0 := by simp [spL, List.getD, h]

theorem spP_lt {ds W : List Int} (hc : (cnt ds).2 = 0) (hW : (cnt W).2 = 0) (h1 : (bcO ds W).1 = 0) (h2 : (bcO ds W).2 = W) {k : Nat} (hk : k < (pr W).toNat) :
    0 ≤ plc (strd ds) (ownc ds ((crd W (k : Int)).drop (W.length - ds.length))) ∧ (spP ds W k : Int) < pr ds ∧ plc (spS ds (strd ds) W) (crd W (k : Int)) = (spP ds W k : Int) := by
  obtain ⟨hl, hcm⟩ := spread_cmp h1 h2
  have hp := cnt_pos hc
  have hpW := cnt_pos hW
  have hv0 : Val (W.drop (W.length - ds.length)) ((crd W (k : Int)).drop (W.length - ds.length)) := val_drop _ (crd_val hpW (by omega) (by omega))
  have hval : Val ds (ownc ds ((crd W (k : Int)).drop (W.length - ds.length))) := ownc_val hcm hv0
  have h3 := (val_plc hp hval).1
  have hpl : plc (spS ds (strd ds) W) (crd W (k : Int)) = plc (strd ds) (ownc ds ((crd W (k : Int)).drop (W.length - ds.length))) := by
    rw [spS_eq hl strd_length, plc_rep (by rw [crd_length]; omega)]
    exact zw_plc hcm hv0 strd_length
  refine ⟨h3.1, ?_, ?_⟩
  · unfold spP; omega
  · rw [hpl]; unfold spP; omega

theorem whole_may {ds : List Int} (h : (cnt ds).2 = 0) : mayV 0 ds (strd ds) = true := by
  obtain ⟨h1, -, -, h4⟩ := cnt_good h
  have hfar : (strd ds).any farS = false := by
    rw [List.any_eq_false]
    intro s hs
    have := strd_le h1 h4 s hs
    simp only [farS, decide_eq_true_eq]
    omega
  simp [mayV, h, strd_length, hfar]

/-- Reading what is spread. -/
theorem spread_read {ds W data : List Int} (hc : (cnt ds).2 = 0) (hd : (data.length : Int) = pr ds) (hW : (cnt W).2 = 0) (h1 : (bcO ds W).1 = 0) (h2 : (bcO ds W).2 = W) :
    (spO 0 ds (strd ds) W).1 = 0 ∧ readL 0 W (spS ds (strd ds) W) data = some (spL ds W data) := by
  constructor
  · unfold spO
    rw [if_neg (by rw [whole_may hc]; decide), if_neg (fun c => c h1), if_neg (fun c => c h2)]
  have hp := cnt_pos hc
  have hfar : (spS ds (strd ds) W).any farS = false := by
    rw [List.any_eq_false]
    intro s hs
    obtain ⟨j, _, rfl⟩ := List.mem_map.1 hs
    have hb : ∀ i, 0 ≤ (strd ds).getD i 0 ∧ (strd ds).getD i 0 ≤ 65536 := fun i => by
      by_cases hi : i < (strd ds).length
      · have := strd_le (cnt_good hc).1 (cnt_good hc).2.2.2 _ (getD_mem hi)
        omega
      · rw [List.getD, List.getElem?_eq_none (by omega)]; decide
    simp only [farS, decide_eq_true_eq]
    unfold spA
    by_cases h : W.length - ds.length ≤ j ∧ ds.getD (j - (W.length - ds.length)) 0 = W.getD j 0
    · rw [if_pos h]; have := hb (j - (W.length - ds.length)); omega
    · rw [if_neg h]; omega
  have hmay : mayV 0 W (spS ds (strd ds) W) = true := by simp [mayV, hW, spS_length, hfar]
  have hall : ∀ p ∈ places 0 W (spS ds (strd ds) W) (pr W).toNat, p < (data.length : Int) := fun p hp => by
    unfold places at hp
    obtain ⟨k, hk, rfl⟩ := List.mem_map.1 hp
    have h3 := spP_lt hc hW h1 h2 (List.mem_range.1 hk)
    rw [h3.2.2]; omega
  unfold readL
  rw [if_pos ⟨hmay, hall⟩]
  unfold spL places
  rw [List.map_map]
  congr 1
  refine List.map_congr_left fun k hk => ?_
  have h3 := spP_lt hc hW h1 h2 (List.mem_range.1 hk)
  show data.getD (0 + plc (spS ds (strd ds) W) (crd W (k : Int))).toNat 0 = _
  rw [h3.2.2, Int.zero_add, Int.toNat_natCast]

theorem ownc_self : ∀ {W cs : List Int}, Val W cs → ownc W cs = cs
  | [], [], _ => by simp [ownc]
  | [], _ :: _, h => h.elim
  | _ :: _, [], h => h.elim
  | d :: ds, c :: cs, h => by
    obtain ⟨⟨h1, h2⟩, h3⟩ := h
    rw [ownc, ownc_self h3]
    congr 1
    first | omega | (split <;> omega)

/-- What is spread to its own dims is as it was. -/
theorem spL_self {W data : List Int} (hW : (cnt W).2 = 0) (hd : (data.length : Int) = pr W) : spL W W data = data := by
  have hp := cnt_pos hW
  refine List.ext_getElem (by rw [spL_length]; omega) fun k h1 h2 => ?_
  rw [spL_length] at h1
  have hv := crd_val hp (k := (k : Int)) (by omega) (by omega)
  have e1 : spP W W k = k := by
    unfold spP
    rw [Nat.sub_self, List.drop_zero, ownc_self hv]
    have h3 := val_plc hp hv
    have := crd_inj hp h3.1.1 h3.1.2 (by omega) (by omega) h3.2
    omega
  have := spL_get (ds := W) (data := data) h1
  rw [e1] at this
  simpa [List.getD, List.getElem?_eq_getElem h2, List.getElem?_eq_getElem (show k < (spL W W data).length by rw [spL_length]; exact h1)] using this

/-- The dims of both, spread to what comes of both. -/
theorem bc_left {a b : List Int} (h : (bcO a b).1 = 0) : (bcO a (bcO a b).2).1 = 0 ∧ (bcO a (bcO a b).2).2 = (bcO a b).2 ∧ (cnt (bcO a b).2).2 = 0 ∧ (bcO a b).2 = outL a b := by
  obtain ⟨g1, g2, g3, g4, g5⟩ := bc_good h
  have hbk : ∀ i, bk (outL a b) i = max (bk a i) (bk b i) := fun i => by
    by_cases hi : i < max a.length b.length
    · rw [bk_in (by rw [outL_length]; exact hi), outL_length, outL_get (by omega)]
      rw [show max a.length b.length - 1 - (max a.length b.length - 1 - i) = i by omega]
    · rw [bk_out (by rw [outL_length]; omega), bk_out (by omega), bk_out (by omega)]; rfl
  have pa := cnt_pos g1
  have pb := cnt_pos g2
  have ho : outL a (outL a b) = outL a b := by
    refine list_getD (by rw [outL_length, outL_length]; omega) fun j hj => ?_
    rw [outL_length] at hj
    rw [outL_get (by rw [outL_length]; omega), outL_get hj, outL_length]
    rw [show max a.length (max a.length b.length) - 1 - j = max a.length b.length - 1 - j by omega, hbk]
    omega
  have hco : Co a (outL a b) (max a.length (outL a b).length) := fun i hi => by
    rw [co1_if, hbk]
    rw [outL_length] at hi
    have h3 := (co1_if a b i).1 (g3 i (by omega))
    have h4 := bk_pos pa i
    have h5 := bk_pos pb i
    omega
  rw [g4]
  have e : bcO a (outL a b) = (0, outL a b) := by
    unfold bcO
    rw [if_neg (fun c => c g1), if_neg (fun c => c g5), if_pos hco, ho, if_neg (fun c => c g5)]
  rw [e]
  exact ⟨rfl, rfl, g5, rfl⟩
theorem bc_right {a b : List Int} (h : (bcO a b).1 = 0) : (bcO b (bcO a b).2).1 = 0 ∧ (bcO b (bcO a b).2).2 = (bcO a b).2 := by
  obtain ⟨g1, g2, g3, g4, g5⟩ := bc_good h
  have h' : bcO b a = (0, outL b a) := by
    unfold bcO
    rw [if_neg (fun c => c g2), if_neg (fun c => c g1), if_pos (by rw [Nat.max_comm]; exact g3.comm), outL_comm b a, if_neg (fun c => c g5)]
  have := bc_left (a := b) (b := a) (by rw [h'])
  rw [h', outL_comm b a] at this
  rw [g4]
  exact ⟨this.1, this.2.1⟩
theorem bc_self {W : List Int} (hW : (cnt W).2 = 0) : bcO W W = (0, W) := by
  have ho : outL W W = W := by
    refine list_getD (by rw [outL_length]; omega) fun j hj => ?_
    rw [outL_get (by omega), bk_in (by omega)]
    rw [show W.length - 1 - (max W.length W.length - 1 - j) = j by omega]
    omega
  unfold bcO
  rw [if_neg (fun c => c hW), if_neg (fun c => c hW), if_pos (show Co W W _ from fun i _ => (co1_if W W i).2 (Or.inl rfl)), ho, if_neg (fun c => c hW)]

/-- What is done to each element, and then read, is what is read, with that done. -/
theorem spL_map {ds W data : List Int} (f : Int → Int) (hc : (cnt ds).2 = 0) (hd : (data.length : Int) = pr ds) (hW : (cnt W).2 = 0) (h1 : (bcO ds W).1 = 0) (h2 : (bcO ds W).2 = W) : spL ds W (data.map f) = (spL ds W data).map f := by
  unfold spL
  rw [List.map_map]
  refine List.map_congr_left fun k hk => ?_
  have h3 := spP_lt hc hW h1 h2 (List.mem_range.1 hk)
  have hl : spP ds W k < data.length := by omega
  simp [List.getD, List.getElem?_eq_getElem hl]
theorem spL_mem {ds W data : List Int} {k : Nat} (hc : (cnt ds).2 = 0) (hd : (data.length : Int) = pr ds) (hW : (cnt W).2 = 0) (h1 : (bcO ds W).1 = 0) (h2 : (bcO ds W).2 = W) (hk : k < (pr W).toNat) : (spL ds W data).getD k 0 ∈ data := by
  rw [spL_get hk]
  have h3 := spP_lt hc hW h1 h2 hk
  exact getD_mem (by omega)

end Go.Proofs.YtagiipecfdmceaaGreatDoor.Vx
