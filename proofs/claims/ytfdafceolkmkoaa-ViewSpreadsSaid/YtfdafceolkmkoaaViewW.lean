/- The walks of slices.Collect, Sorted over a slice's numbers. -/
import Derived.Test.YtfdafceolkmkoaaViewV
import Derived.Lib.SlKeysI
set_option linter.unusedVariables false
namespace Go.Proofs.Ytfdafceolkmkoaa
open Go.RowKit Go.Shelf Vw

theorem collect_any (bv : Nat) (a : Option Addr) (cap : Nat) (zs : List Int) (hlen : zs.length * 8 ≤ 140737488351232) (w : World) (hbv : bv < w.heap.size) (hc : w.cell? ⟨bv, 0, none⟩ = some (.slice a zs.length cap)) (hrows : RowsAt w a zs) :
    Calls Try.prog 51 #[.func (.func 53) #[] #[.pointer (some ⟨bv, 0, none⟩)]] w fun e W' => ∃ v, e = .returned v ∧ W'.ownsRow w.heap.size 3 1 v zs.length (zs.map (Value.int .i64)) ∧ Below w.heap.size w W' := by
  have H := Lib.hid ((callsIn_wide (n := 6)).1 (append_seq 6 (by decide) bv a cap zs hlen w hbv hc hrows))
  go_enter Try.func51, Try.ntmps51
  go_wp2_with fail
  refine H.out.mono ?_
  rintro e w1 ⟨v, rfl, h1, h2⟩
  go_wp2
  go_ret
  exact ⟨v, rfl, h1, h2⟩

/-- The numbers in their order. -/
def sortI (zs : List Int) : List Int := zs.mergeSort fun x y => decide (x ≤ y)
theorem sortI_length (zs : List Int) : (sortI zs).length = zs.length := by simp [sortI]

theorem sorted_any (bv : Nat) (a : Option Addr) (cap : Nat) (zs : List Int) (hlen : zs.length * 8 ≤ 140737488351232) (w : World) (hbv : bv < w.heap.size) (hc : w.cell? ⟨bv, 0, none⟩ = some (.slice a zs.length cap)) (hrows : RowsAt w a zs) :
    Calls Try.prog 34 #[.func (.func 53) #[] #[.pointer (some ⟨bv, 0, none⟩)]] w fun e W' => ∃ v, e = .returned v ∧ Fresh w.heap.size W' v (sortI zs) ∧ Below w.heap.size w W' := by
  have H := Lib.hid (collect_any bv a cap zs hlen w hbv hc hrows)
  go_enter Try.func34, Try.ntmps34
  go_wp2_with fail
  refine H.out.mono ?_
  rintro e w1 ⟨v, rfl, hrow, hb⟩
  rcases hrow.2 with ⟨rfl, hz⟩ | ⟨gb, cp, cur, rfl, hbase, hgb, r1, r2, r3, r4⟩
  · have e0 : Hid (zs = []) := Lib.hid (List.eq_nil_of_length_eq_zero hz)
    have HB := Lib.hid hb
    clear hrow hb hz
    go_wp2_with (go_at_call 52; refine (Try.slices_Sort_int_none none 0 _).mono ?_; rintro e w' ⟨rfl, rfl⟩)
    go_ret
    exact ⟨_, rfl, Or.inl ⟨by rw [e0.out]; simp [sortI], none, 0, rfl⟩, HB.out⟩
  · have hH := holds_of_block_i hgb (by simpa using r4)
    have hgl : gb < w1.heap.size := (Array.getElem?_eq_some_iff.1 hgb).1
    have HS := Lib.hid (Try.slices_Sort_int gb 0 cp zs w1 hH hgl (by omega))
    have HB := Lib.hid hb
    have HG := Lib.hid (⟨hgb, hbase, r1, r2, r3⟩ : w1.heap[gb]? = some (.cells cur 3 (0, 0)) ∧ w.heap.size ≤ gb ∧ zs.length ≤ cp ∧ cp ≤ maxLen ∧ cur.size = cp * 1)
    clear hrow hb hH hgb
    go_wp2_with (go_at_call 52; refine HS.out.mono ?_; rintro e w' ⟨rfl, nn, os, rfl⟩)
    go_ret
    obtain ⟨g1, g2, g3, g4, g5⟩ := HG.out
    refine ⟨_, rfl, ?_, HB.out.grown (grownBy_sorted_i _) HB.out.size (fun j hj => by cases hj; exact g2)⟩
    have ho := ownsRow_sorted_i (n := nn) (os := os) (ts := sortI zs) (sortI_length zs) g2 g1 g3 g4 g5
    have e2 := sortI_length zs
    rw [← e2] at ho ⊢
    exact Fresh.of_owns ho

end Go.Proofs.Ytfdafceolkmkoaa
