/- The reference's small functions of chapter 6: among, One, Two, opt, must. -/
import Derived.Test.YtccjflhliicdlaaDoorSchP
set_option linter.unusedVariables false
set_option linter.unusedSimpArgs false
namespace Go.Proofs.YtccjflhliicdlaaDoor
open Go.RowKit

def twosL : List ByteArray := [⟨#[65, 100, 100]⟩, ⟨#[83, 117, 98]⟩, ⟨#[77, 117, 108]⟩, ⟨#[68, 105, 118]⟩, ⟨#[77, 97, 120]⟩, ⟨#[77, 105, 110]⟩, ⟨#[65, 110, 100]⟩, ⟨#[79, 114]⟩, ⟨#[88, 111, 114]⟩, ⟨#[69, 113, 117, 97, 108]⟩, ⟨#[76, 101, 115, 115]⟩, ⟨#[71, 114, 101, 97, 116, 101, 114]⟩]

theorem hasS_next {ss : List ByteArray} {x s : ByteArray} {k : Nat} (h : hasS (ss.take k) x = false) (hs : ss[k]? = some s) (g : ¬ s = x) : hasS (ss.take (k + 1)) x = false := by
  unfold hasS at *
  rw [List.take_add_one, List.any_append, h, hs]
  simpa using g

set_option maxHeartbeats 1000000 in
theorem ramong_row (b off cap : Nat) (ss : List ByteArray) (hlen : ss.length * 16 ≤ 140737488351232) (x : ByteArray) (w : World) (hr : Hid (ReadsS w b off ss)) :
    Calls Tryd.prog 63 #[.string x, .slice (some ⟨b, off, none⟩) ss.length cap] w fun e w' => e = .returned (.bool (hasS ss x)) ∧ w = w' := by
  go_enter Tryd.func63, Tryd.ntmps63
  go_wp2
  go_loop [5] (fun i => ∃ k : Nat, k ≤ ss.length ∧ i = .int .i64 (k : Int) ∧ Hid (hasS (ss.take k) x = false)) (fun i => ss.length - (intOf i).toNat)
  case atStart => exact ⟨0, Nat.zero_le _, rfl, Lib.hid (by simp [hasS])⟩
  case round =>
    obtain ⟨k, hk, rfl, hT⟩ := hrel
    by_cases hkl : k < ss.length
    · have hki : (k : Int) < (ss.length : Int) := by omega
      obtain ⟨s, hs⟩ : ∃ s, ss[k]? = some s := ⟨_, List.getElem?_eq_getElem hkl⟩
      have c0 := hr.out k s hs
      have HSs := Lib.hid hs
      clear hs
      by_cases hx : s.toList = x.toList
      · have hb : (s.toList == x.toList) = true := by simpa using hx
        have e : Hid (hasS ss x = true) := Lib.hid (hasS_iff.2 (by rw [← toList_inj hx]; exact List.mem_of_getElem? HSs.out))
        go_wp2
        go_ret
        exact ⟨ret_val (bool_val e.out.symm), rfl⟩
      · have hb : (s.toList == x.toList) = false := by simpa using hx
        have e := Lib.hid (hasS_next hT.out HSs.out (str_ne hx))
        go_wp2
        go_round
        case rel => exact ⟨k + 1, by omega, by go_num, e⟩
        case measure => simp [intOf]; omega
    · have hki : ¬ (k : Int) < (ss.length : Int) := by omega
      obtain rfl : k = ss.length := by omega
      have e : Hid (hasS ss x = false) := Lib.hid (by have := hT.out; rwa [List.take_length] at this)
      go_wp2
      go_ret
      exact ⟨ret_val (bool_val e.out.symm), rfl⟩

theorem ramong_empty (a0 : Option Addr) (cap : Nat) (x : ByteArray) (w : World) :
    Calls Tryd.prog 63 #[.string x, .slice a0 0 cap] w fun e w' => e = .returned (.bool false) ∧ w = w' := by
  go_enter Tryd.func63, Tryd.ntmps63
  go_wp2
  go_rounds 1
  go_ret
  exact ⟨rfl, rfl⟩

theorem ramong_any {w : World} {v : Value} {ss : List ByteArray} (h : StrsIn w v ss) (x : ByteArray) :
    Calls Tryd.prog 63 #[.string x, v] w fun e w' => e = .returned (.bool (hasS ss x)) ∧ w = w' := by
  cases h with
  | empty a0 cap => exact ramong_empty a0 cap x w
  | row b off cap _ h0 hc hb hr hlen => exact ramong_row b off cap ss hlen x w (Lib.hid hr)

theorem strs_lit (w : World) (ss : List ByteArray) (cs : Array Value) (hcs : cs = (ss.map Value.string).toArray) (n : Nat) (hn : ss.length = n) (h0 : ss ≠ []) (hl : n ≤ 1000) : StrsIn (w.alloc (.cells cs 9)) (.slice (some ⟨w.heap.size, 0, none⟩) n n) ss := by
  subst hn
  refine .row w.heap.size 0 ss.length ss h0 (Nat.le_refl _) (by simp) (fun j s hj => ?_) (by omega)
  rw [World.cell?, World.alloc_heap_new]
  simp [hcs, hj]

theorem rone_any (op : ByteArray) (w : World) : Calls Tryd.prog 84 #[.string op] w fun e w' => e = .returned (.bool (oneB op)) ∧ Below w.heap.size w w' := by
  go_enter Tryd.func84, Tryd.ntmps84
  go_wp2_with fail
  refine (ramong_any (strs_lit w onesL _ rfl 10 rfl (by decide) (by decide)) op).mono ?_
  rintro e w' ⟨rfl, rfl⟩
  go_wp2
  go_ret
  exact ⟨rfl, (Below.refl _ _).alloc (Nat.le_refl _) _⟩

theorem rtwo_any (op : ByteArray) (w : World) : Calls Tryd.prog 85 #[.string op] w fun e w' => e = .returned (.bool (hasS twosL op)) ∧ Below w.heap.size w w' := by
  go_enter Tryd.func85, Tryd.ntmps85
  go_wp2_with fail
  refine (ramong_any (strs_lit w twosL _ rfl 12 rfl (by decide) (by decide)) op).mono ?_
  rintro e w' ⟨rfl, rfl⟩
  go_wp2
  go_ret
  exact ⟨rfl, (Below.refl _ _).alloc (Nat.le_refl _) _⟩

theorem ropt_any (nm : ByteArray) (kd : Int) (w : World) : Calls Tryd.prog 86 #[.string nm, .int .i64 kd] w fun e w' => e = .returned (.agg #[.string nm, .int .i64 kd, .bool false]) ∧ Below w.heap.size w w' := by
  go_enter Tryd.func86, Tryd.ntmps86
  go_wp2
  refine bodyPost_ret (v := .agg #[.string nm, .int .i64 kd, .bool false]) (by simp [results, Tryd.f86, go_sem]) rfl ⟨rfl, ?_⟩
  exact (Below.refl _ _).alloc (Nat.le_refl _) _
theorem rmust_any (nm : ByteArray) (kd : Int) (w : World) : Calls Tryd.prog 87 #[.string nm, .int .i64 kd] w fun e w' => e = .returned (.agg #[.string nm, .int .i64 kd, .bool true]) ∧ Below w.heap.size w w' := by
  go_enter Tryd.func87, Tryd.ntmps87
  go_wp2
  refine bodyPost_ret (v := .agg #[.string nm, .int .i64 kd, .bool true]) (by simp [results, Tryd.f87, go_sem]) rfl ⟨rfl, ?_⟩
  exact (Below.refl _ _).alloc (Nat.le_refl _) _

end Go.Proofs.YtccjflhliicdlaaDoor
