/- The walk of the reference's find, with the found attribute's rows in an earlier world. -/
import Derived.Test.YtccjflhliicdlaaDoorSchRd
set_option linter.unusedVariables false
set_option linter.unusedSimpArgs false
namespace Go.Proofs.YtccjflhliicdlaaDoor
open Go.RowKit

set_option maxRecDepth 100000 in
set_option maxHeartbeats 2000000 in
theorem rfind_at {w0 w : World} {v : Value} {n : Nd} (h : NodeV w0 v n) (hB0 : Below w0.heap.size w0 w) (nm : ByteArray) (kd : Int) :
    Calls Tryd.prog 88 #[v, .string nm, .int .i64 kd] w fun e w' => Below w.heap.size w w' ∧ ∃ va, e = .returned (.tuple #[va, .bool (findA n.attrs nm kd).isSome]) ∧ AttrV w0 va ((findA n.attrs nm kd).getD At.zero) := by
  obtain ⟨vin, vat, rfl, hn⟩ := h
  obtain ⟨a1, c1, rfl⟩ := hn.is.form
  obtain ⟨a2, c2, rfl⟩ := hn.ia.form
  have hal := hn.ia.len
  have HN := Lib.hid hn
  have HB0 := Lib.hid hB0
  clear hn hB0
  unfold Nd.val
  go_enter Tryd.func88, Tryd.ntmps88
  go_wp2_with fail
  generalize hw1 : (w.alloc _).alloc _ = W1
  have hB1 : Hid (Below w.heap.size w W1) := Lib.hid (by rw [← hw1]; exact ((Below.refl _ w).alloc (Nat.le_refl _) _).alloc (by simp) _)
  have hX : Hid (BoxN W1 w.heap.size #[Value.string n.op, Value.string n.name, Value.slice a1 n.ins.length c1, Value.string n.out, Value.slice a2 n.attrs.length c2] 41) := Lib.hid (by rw [← hw1]; exact (BoxN.new w _ _).below' ((Below.refl _ _).alloc (Nat.le_refl _) _))
  have hR : Hid (BoxN W1 (w.heap.size + 1) #[Value.string ⟨#[]⟩, Value.int .i64 0, Value.int .i64 0, Value.int .i64 0, Value.string ⟨#[]⟩, Value.int .i64 0, Value.slice none 0 0, Value.slice none 0 0, Value.slice none 0 0] 76) := Lib.hid (by rw [← hw1]; simpa using BoxN.new (w.alloc (Obj.cells #[Value.string n.op, Value.string n.name, Value.slice a1 n.ins.length c1, Value.string n.out, Value.slice a2 n.attrs.length c2] 41)) #[Value.string ⟨#[]⟩, Value.int .i64 0, Value.int .i64 0, Value.int .i64 0, Value.string ⟨#[]⟩, Value.int .i64 0, Value.slice none 0 0, Value.slice none 0 0, Value.slice none 0 0] 76)
  clear hw1
  have k4 : W1.cell? ⟨w.heap.size, 4, none⟩ = some (.slice a2 n.attrs.length c2) := hX.out.cell 4 rfl
  obtain ⟨r0, r1, r2, r3, r4, r5, r6, r7, r8⟩ := hR.out.nine
  obtain ⟨f0, f1, f2, f3, f4, f5, f6, f7, f8⟩ := hR.out.thaw9
  go_loop [8] (fun i => ∃ k : Nat, k ≤ n.attrs.length ∧ i = .int .i64 (k : Int) ∧ Hid ((n.attrs.take k).any (isA nm kd) = false)) (fun i => n.attrs.length - (intOf i).toNat)
  case atStart => exact ⟨0, Nat.zero_le _, rfl, Lib.hid (by simp)⟩
  case round =>
    obtain ⟨k, hk, rfl, hT⟩ := hrel
    by_cases hkl : k < n.attrs.length
    · have hki : (k : Int) < (n.attrs.length : Int) := by omega
      obtain ⟨a, ha⟩ : ∃ a, n.attrs[k]? = some a := ⟨_, List.getElem?_eq_getElem hkl⟩
      obtain ⟨b, off, cap, hv, hb, hrd⟩ := HN.out.ia.rows k a ha
      obtain ⟨rfl, _, rfl⟩ := Value.slice.inj hv
      obtain ⟨vd, vx, vi, hc9, hn9⟩ := hrd k a ha
      obtain ⟨c0, c1, c2, c3, c4, c5, c6, c7, c8⟩ := hc9.below hb (HB0.out.trans (hB1.out.mono HB0.out.size))
      obtain ⟨ad, cd, rfl⟩ := hn9.id.shape
      obtain ⟨ax, cx, rfl⟩ := hn9.ix.shape
      obtain ⟨ai, ci, rfl⟩ := hn9.ii.shape
      have HN9 := Lib.hid hn9
      have HA := Lib.hid ha
      clear hv hrd hc9 hn9 ha
      by_cases hnm : a.name.toList = nm.toList
      · by_cases hkd : a.kind = kd
        · have hf : Hid (findA n.attrs nm kd = some a) := Lib.hid (find_at hT.out HA.out (isA_is hnm hkd))
          have hkb : (a.kind == kd) = true := by simpa using hkd
          have hnb : (a.name.toList == nm.toList) = true := by simpa using hnm
          clear hkd
          go_wp2
          have hp := hR.out.put (.string a.name) (.int .i64 a.kind) (.int .i64 a.f) (.int .i64 a.i) (.string a.s) (.int .i64 a.typ) (.slice ad a.dims.length cd) (.slice ax a.data.length cx) (.slice ai a.ints.length ci)
          have hq : Below w.heap.size w (put9 W1 (w.heap.size + 1) (.string a.name) (.int .i64 a.kind) (.int .i64 a.f) (.int .i64 a.i) (.string a.s) (.int .i64 a.typ) (.slice ad a.dims.length cd) (.slice ax a.data.length cx) (.slice ai a.ints.length ci)) := below_put9 hB1.out (by omega)
          have hn9 := HN9.out
          clear c0 c1 c2 c3 c4 c5 c6 c7 c8
          obtain ⟨c0, c1, c2, c3, c4, c5, c6, c7, c8⟩ := hp.nine
          unfold put9 at c0 c1 c2 c3 c4 c5 c6 c7 c8 hq
          refine bodyPost_ret (v := .tuple #[.agg #[.string a.name, .int .i64 a.kind, .int .i64 a.f, .int .i64 a.i, .string a.s, .int .i64 a.typ, .slice ad a.dims.length cd, .slice ax a.data.length cx, .slice ai a.ints.length ci], .bool true]) (by simp [results, Tryd.f88, go_sem, c0, c1, c2, c3, c4, c5, c6, c7, c8]) rfl ?_
          rw [hf.out]
          exact ⟨hq, _, rfl, _, _, _, rfl, hn9⟩
        · have hkb : (a.kind == kd) = false := by simpa using hkd
          have hnb : (a.name.toList == nm.toList) = true := by simpa using hnm
          have hT' : Hid ((n.attrs.take (k + 1)).any (isA nm kd) = false) := Lib.hid (take_any HA.out hT.out (isA_not_kind hkd))
          go_wp2
          go_round
          case rel => exact ⟨k + 1, by omega, by go_num, hT'⟩
          case measure => simp [intOf]; omega
      · have hnb : (a.name.toList == nm.toList) = false := by simpa using hnm
        have hT' : Hid ((n.attrs.take (k + 1)).any (isA nm kd) = false) := Lib.hid (take_any HA.out hT.out (isA_not_name hnm))
        go_wp2
        go_round
        case rel => exact ⟨k + 1, by omega, by go_num, hT'⟩
        case measure => simp [intOf]; omega
    · have hki : ¬ (k : Int) < (n.attrs.length : Int) := by omega
      obtain rfl : k = n.attrs.length := by omega
      have hf : Hid (findA n.attrs nm kd = none) := Lib.hid (find_not (by have := hT.out; rwa [List.take_length] at this))
      go_wp2
      have hp := hR.out.put (.string ⟨#[]⟩) (.int .i64 0) (.int .i64 0) (.int .i64 0) (.string ⟨#[]⟩) (.int .i64 0) (.slice none 0 0) (.slice none 0 0) (.slice none 0 0)
      have hq : Below w.heap.size w (put9 W1 (w.heap.size + 1) (.string ⟨#[]⟩) (.int .i64 0) (.int .i64 0) (.int .i64 0) (.string ⟨#[]⟩) (.int .i64 0) (.slice none 0 0) (.slice none 0 0) (.slice none 0 0)) := below_put9 hB1.out (by omega)
      obtain ⟨c0, c1, c2, c3, c4, c5, c6, c7, c8⟩ := hp.nine
      unfold put9 at c0 c1 c2 c3 c4 c5 c6 c7 c8 hq
      refine bodyPost_ret (v := .tuple #[.agg #[.string ⟨#[]⟩, .int .i64 0, .int .i64 0, .int .i64 0, .string ⟨#[]⟩, .int .i64 0, .slice none 0 0, .slice none 0 0, .slice none 0 0], .bool false]) (by simp [results, Tryd.f88, go_sem, c0, c1, c2, c3, c4, c5, c6, c7, c8]) rfl ?_
      rw [hf.out]
      exact ⟨hq, _, rfl, AttrV.zero _⟩

end Go.Proofs.YtccjflhliicdlaaDoor
