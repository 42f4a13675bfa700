/- The walks of graph.makers. -/
import Derived.Test.YtlbhepfbogcipaaGreatDoorGrS
import Derived.Maps.OwnSet
import Derived.WalkKit
set_option linter.unusedVariables false
set_option linter.unusedSimpArgs false
namespace Go.Proofs.YtlbhepfbogcipaaGreatDoor
open Go.RowKit Go.WideMaps Go.Maps

theorem toList_nil' : (⟨#[]⟩ : ByteArray).toList = [] := by rw [ByteArray.toList_eq]
theorem keyed_str : Keyed Tryz.prog 9 := string_keyed Tryz.underlying9
theorem zero_int (w : World) : (zeroValue 3).run Tryz.prog w = .ok (.int .i64 0) w := by kernel_rfl
theorem key_str {s : ByteArray} (h : s.size ≤ 1048576) : keyOf Tryz.prog 9 (.string s) = some (keyS s) := keyOf_string_mk Tryz.underlying9 (by unfold maxLen; omega)

/-- A map of names to numbers that the call has made. -/
def MapS (w : World) (b n : Nat) (l : List (ByteArray × Int)) : Prop := w.ownsMap Tryz.prog 9 (plainElem (H := Unit) Tryz.prog 3) b n (putAll l)

theorem wf_i64 {x : Int} (h : InI x) : (Lit.int .i64 x).wf = true := by
  unfold InI at h
  simp [Lit.wf, IntKind.min, IntKind.max, IntKind.signed, IntKind.bits]
  omega

set_option maxRecDepth 100000 in
set_option maxHeartbeats 1000000 in
theorem add_any {w : World} {nm : ByteArray} (hs : nm.size ≤ 1048576) {i : Int} (hi : InI i) {Bm Bc n : Nat} {l : List (ByteArray × Int)} (hn : n < 1000000) (hm : MapS w Bm n l) (hc : w.heap[Bc]? = some (.cells #[.map (some Bm)] 80 (0, 0))) :
    Calls Tryz.prog 55 #[.string nm, .int .i64 i, .pointer (some ⟨Bc, 0, none⟩)] w fun e w' => e = .returned (.bool (decide (nm ≠ ⟨#[]⟩) && !(l.any fun p => decide (p.1 = nm)))) ∧ MapS w' Bm (n + 1) (l ++ [(nm, i)]) ∧ w.grownBy w' (some Bm) := by
  have hkey := key_str hs
  have hval := plainElem_int (H := Unit) Tryz.underlying3 (wf_i64 hi)
  have hcell := cell_of_one hc
  have hh := Lib.hid (has_putAll (H := Unit) l nm)
  unfold MapS at hm
  clear hs hi
  go_enter Tryz.func55, Tryz.ntmps55
  go_wp2_with (first | (at_lookup; refine wpList_lookup_own_ok_int _ rfl _ _ 80 rfl 9 3 .i64 keyed_str Tryz.underlying80 Tryz.underlying3 (zero_int _) Bm n _ rfl hm _ _ rfl hkey ?_; intro c hat hwc) | (at_mapUpdate; refine wpList_mapUpdate_own _ rfl _ _ _ 80 rfl 9 3 keyed_str Tryz.underlying80 _ Bm n _ rfl hm (by unfold maxLen; omega) _ _ _ rfl rfl hkey _ [] hval ?_; intro w1 hown1 hgrow1))
  · have hnm : nm = ⟨#[]⟩ := toList_inj (by rw [(by assumption : nm.toList = []), toList_nil'])
    go_ret
    refine ⟨?_, ?_, hgrow1⟩
    · rw [hnm]; rfl
    · unfold MapS; rw [putAll_snoc]; exact hown1
  · have hnm : ¬ nm = ⟨#[]⟩ := fun e => (by assumption : ¬ nm.toList = []) (by rw [e, toList_nil'])
    go_ret
    refine ⟨?_, ?_, hgrow1⟩
    · have h2 := hh.out
      rw [← h2]
      have h3 : nm.toList.isEmpty = false := by
        cases e : nm.toList with
        | nil => exact absurd e (by assumption)
        | cons _ _ => rfl
      exact ret_val (bool_val (by rw [h3]; simp [hnm]))
    · unfold MapS; rw [putAll_snoc]; exact hown1

theorem unlike_snoc (l : List ByteArray) (s : ByteArray) : unlikeB (l ++ [s]) = (unlikeB l && (decide (s ≠ ⟨#[]⟩) && !hasS l s)) := by
  unfold unlikeB
  rw [List.all_append]
  have e2 : ([s].all fun s => decide (s ≠ ⟨#[]⟩)) = decide (s ≠ ⟨#[]⟩) := by simp
  rw [e2]
  by_cases h : l.Nodup
  · by_cases hs : s ∈ l
    · have h1 : ¬ (l ++ [s]).Nodup := fun c => by
        rw [List.nodup_append] at c
        exact c.2.2 s hs s (by simp) rfl
      rw [decide_eq_false h1, decide_eq_true h, hasS_iff.2 hs]
      simp
    · have h1 : (l ++ [s]).Nodup := by
        rw [List.nodup_append]
        refine ⟨h, by simp, fun a ha b hb => ?_⟩
        obtain rfl : b = s := by simpa using hb
        exact fun e => hs (e ▸ ha)
      have h2 : hasS l s = false := by
        cases e : hasS l s with
        | false => rfl
        | true => exact absurd (hasS_iff.1 e) hs
      rw [decide_eq_true h1, decide_eq_true h, h2]
      simp
  · have h1 : ¬ (l ++ [s]).Nodup := fun c => h (List.nodup_append.1 c).1
    rw [decide_eq_false h1, decide_eq_false h]
    simp
theorem unlike_pre {a b : List ByteArray} (h : unlikeB a = false) : unlikeB (a ++ b) = false := by
  cases e : unlikeB (a ++ b) with
  | false => rfl
  | true =>
    unfold unlikeB at h e
    rw [Bool.and_eq_true, List.all_append, Bool.and_eq_true, decide_eq_true_eq] at e
    rw [e.1.1, decide_eq_true (List.nodup_append.1 e.2).1] at h
    exact absurd h (by decide)
theorem any_fst (l : List (ByteArray × Int)) (s : ByteArray) : (l.any fun p => decide (p.1 = s)) = hasS (l.map Prod.fst) s := by
  unfold hasS
  rw [List.any_map]
  rfl

/-- The pairs of the first inputs, of all inputs and the first initializers, of these and the first nodes. -/
def prI (g : Gr) (k : Nat) : List (ByteArray × Int) := (g.ins.take k).map fun v => (v.name, -1)
theorem prI_next {g : Gr} {k : Nat} {x : Vl} (h : g.ins[k]? = some x) : prI g (k + 1) = prI g k ++ [(x.name, -1)] := by
  unfold prI; rw [List.take_add_one, h]; simp
theorem prI_names {g : Gr} {k : Nat} {x : Vl} (h : g.ins[k]? = some x) : ∃ r, namesG g = (prI g (k + 1)).map Prod.fst ++ r := by
  refine ⟨(g.ins.drop (k + 1)).map (·.name) ++ (g.inits.map (·.name) ++ g.nodes.map (·.out)), ?_⟩
  unfold namesG prI
  rw [List.map_map, ← List.append_assoc, ← List.append_assoc]
  congr 2
  conv => lhs; rw [← List.take_append_drop (k + 1) g.ins, List.map_append]
  rfl

end Go.Proofs.YtlbhepfbogcipaaGreatDoor
