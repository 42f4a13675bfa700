/- The walk of mandrellaw04.numbers: the numbers from 0 on. -/
import Derived.Test.YtfdafceolkmkoaaViewPw
import Derived.BigRegion
set_option linter.unusedVariables false
namespace Go.Proofs.Ytfdafceolkmkoaa
open Go.RowKit Vw

/-- The numbers from 0 on. -/
def upto (n : Nat) : List Int := (List.range n).map fun (k : Nat) => (k : Int)

theorem upto_length (n : Nat) : (upto n).length = n := by simp [upto]
theorem upto_next (n : Nat) : upto (n + 1) = upto n ++ [(n : Int)] := by simp [upto, List.range_succ]
theorem upto_getD {n k : Nat} (h : k < n) : (upto n).getD k 0 = k := by simp [upto, List.getD, h]
theorem upto_mem {n : Nat} {z : Int} (h : z ∈ upto n) : 0 ≤ z ∧ z < n := by
  obtain ⟨k, hk, rfl⟩ := List.mem_map.1 h
  have := List.mem_range.1 hk
  omega

/-- A slice of the call's own with the numbers from 0 on. -/
def NumOut (w : World) (n : Nat) (e : Ending) (w' : World) : Prop :=
  Below w.heap.size w w' ∧ ∃ v, e = .returned v ∧ w'.ownsRow w.heap.size 2 1 v n ((upto n).map (Value.int .i64)) ∧ IntsIn w' v (upto n)

set_option maxHeartbeats 1000000 in
theorem numbers_any (n : Nat) (hn : n ≤ 65536) (w : World) : Calls Try.prog 25 #[.int .i64 (n : Int)] w (NumOut w n) := by
  obtain ⟨i0, hi, hz0, hz1, hz2⟩ := info_parts info_int64
  go_enter Try.func25, Try.ntmps25
  go_wp2
  go_loopw [3, 4] (fun v i wr => ∃ k : Nat, k ≤ n ∧ i = .int .i64 (k : Int) ∧ wr.ownsRow w.heap.size 2 1 v k ((upto k).map (Value.int .i64)) ∧ Below w.heap.size w wr) (fun _ i _ => n - (intOf i).toNat)
  case atStart => exact ⟨0, Nat.zero_le _, rfl, World.ownsRow_nil _ _ _ _, Below.refl _ _⟩
  case round =>
    obtain ⟨k, hk, rfl, hown, hb⟩ := hrel
    by_cases hkl : k < n
    · have hki : (k : Int) < (n : Int) := by omega
      go_wp2_with (first
        | (at_builtin; refine wpList_append_own _ rfl _ _ 34 rfl w.heap.size 2 i0 (.int .i64 0) 1 8 Try.underlying34 hi hz0 hz1 hz2 rfl (by decide) _ _ _ rfl (hown.alloc _) ⟨wr.heap.size, 0, none⟩ 1 1 [.int .i64 (k : Int)] rfl rfl ?c1 ?c2 ?c3 ?c4 ?c5 ?_)
        | go_in)
      case c1 =>
        intro j u hj
        match j, hj with
        | 0, hj => simp at hj; subst hj; simp [Addr.add]
      case c2 => intro u hu; simp at hu; subst hu; rfl
      case c3 => unfold maxLen; omega
      case c4 => omega
      case c5 => have := hb.size; simp; omega
      intro v' w1 hown' hgrow _
      have hb1 : Hid (Below w.heap.size w w1) := Lib.hid ((hb.alloc hb.size _).grown hgrow (by have := hb.size; simp; omega) fun g hg => (hown.lt g hg).1)
      have ho1 : Hid (w1.ownsRow w.heap.size 2 1 v' (k + 1) ((upto (k + 1)).map (Value.int .i64))) := Lib.hid (by rw [upto_next, List.map_append]; exact hown')
      clear hown' hgrow hown hb
      go_wp2
      go_roundw
      case rel => exact ⟨k + 1, by omega, by go_num, ho1.out, hb1.out⟩
      case measure => simp [intOf]; omega
    · obtain rfl : k = n := by omega
      go_wp2
      go_ret
      exact ⟨hb, _, rfl, hown, IntsIn.of_owns (zs := upto k) (by rw [upto_length]; exact hown) (by rw [upto_length]; omega) fun z hz => by have := upto_mem hz; constructor <;> omega⟩

end Go.Proofs.Ytfdafceolkmkoaa
