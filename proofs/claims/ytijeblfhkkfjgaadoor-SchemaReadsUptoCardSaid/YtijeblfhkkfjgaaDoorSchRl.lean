/- The walk of SchemaReads. -/
import Derived.Test.YtijeblfhkkfjgaaDoorSchRe
import Derived.Test.YtijeblfhkkfjgaaDoorSchSm
import Derived.Test.YtijeblfhkkfjgaaDoorSchL
import Derived.Test.YtijeblfhkkfjgaaDoorReg
set_option linter.unusedVariables false
set_option linter.unusedSimpArgs false
namespace Go.Proofs.YtijeblfhkkfjgaaDoor
open Go.RowKit

theorem owns_frozenR {w : World} {base z g m cap n : Nat} {e : TypeId} {xs : List Value} (h : w.ownsRow base e z (.slice (some ⟨g, 0, none⟩) m cap) n xs) (j : Nat) : w.frozen? ⟨g, j, none⟩ = false := by
  obtain ⟨_, _, e⟩ := owns_form h
  obtain ⟨_, rfl, _⟩ := Value.slice.inj e
  exact h.frozenAt j

theorem owns_max {w : World} {base z n : Nat} {e : TypeId} {v : Value} {xs : List Value} (h : w.ownsRow base e z v n xs) : n ≤ 9223372036854775807 := by
  rcases h.2 with ⟨_, h0⟩ | ⟨_, _, _, _, _, _, h1, h2, _⟩
  · omega
  · unfold maxLen at h2; omega

/-- The first k numbers struck. -/
def struck (k : Nat) (zs : List Int) : List Int := List.replicate k (-7) ++ zs.drop k
theorem struck_get {k : Nat} {zs : List Int} : (struck k zs)[k]? = zs[k]? := by
  unfold struck
  rw [List.getElem?_append_right (by simp)]
  simp
theorem struck_set {k : Nat} {zs : List Int} (h : k < zs.length) : (struck k zs).set k (-7) = struck (k + 1) zs := by
  unfold struck
  rw [List.set_append_right _ _ (by simp), List.length_replicate, Nat.sub_self, List.drop_eq_getElem_cons h, List.set_cons_zero, List.replicate_succ', List.append_assoc]
  rfl

attribute [local irreducible] intP bitsP intsP struck

set_option maxRecDepth 100000 in
set_option maxHeartbeats 8000000 in
theorem readslaw_any (nm : ByteArray) {w : World} {v vo : Value} {n : Nd} {other : List Int} (h : NodeV w v n) (hl : n.attrs.length ≤ 1048575) (hnm : nm.size ≤ 1048576) (ho : IntsIn w vo other) (hG : Glob w) :
    Calls Tryd.prog 8 #[v, .string nm, vo] w fun e w' => e = .returned (.bool true) ∧ Below w.heap.size w w' := by
  obtain ⟨i0, hi, hz0, hz1, hz2⟩ := info_parts info_int64
  obtain ⟨vin, vat, rfl, hn⟩ := h
  obtain ⟨a1, c1, rfl⟩ := hn.is.form
  obtain ⟨a2, c2, rfl⟩ := hn.ia.form
  obtain ⟨ao, co, rfl⟩ := ho.shape
  have hol := ho.wf.1
  have HN := Lib.hid hn
  have HG := Lib.hid hG
  have HO := Lib.hid ho
  clear hn hG ho
  unfold Nd.val
  go_enter Tryd.func8, Tryd.ntmps8
  go_wp2_with fail
  generalize hw1 : w.alloc _ = w1
  have HA1 : Hid (BoxN w1 w.heap.size #[.string n.op, .string n.name, .slice a1 n.ins.length c1, .string n.out, .slice a2 n.attrs.length c2] 25) := Lib.hid (by rw [← hw1]; exact BoxN.new w _ _)
  have HB1 : Hid (Below w.heap.size w w1) := Lib.hid (by rw [← hw1]; exact (Below.refl _ w).alloc (Nat.le_refl _) _)
  clear hw1
  refine (copynode_core (n := n) (HN.out.below HB1.out)).mono ?_
  rintro e w2 ⟨vin', vat', ts, rfl, hno, B2⟩
  have hB12 := B2.size
  obtain ⟨a3, c3, rfl⟩ := owns_form hno.ins
  obtain ⟨a4, c4, rfl⟩ := owns_form hno.row
  have HA2 := Lib.hid (HA1.out.below' B2)
  have HB2 := Lib.hid (HB1.out.trans (B2.mono HB1.out.size))
  have HN2 := Lib.hid hno
  have HM3 := Lib.hid (BoxN.new w2 #[.string n.op, .string n.name, .slice a3 n.ins.length c3, .string n.out, .slice a4 n.attrs.length c4] 25)
  have hb3 : ∀ o, Below w2.heap.size w2 (w2.alloc o) := fun o => (Below.refl _ _).alloc (Nat.le_refl _) _
  have HB3 : Hid (∀ o, Below w.heap.size w (w2.alloc o)) := Lib.hid fun o => HB2.out.trans ((hb3 o).mono HB2.out.size)
  have HA3 : Hid (∀ o, BoxN (w2.alloc o) w.heap.size _ _) := Lib.hid fun o => HA2.out.below' (hb3 o)
  have HN3 : Hid (∀ o, NodeO (w2.alloc o) _ _ _ _ _) := Lib.hid fun o => HN2.out.below (hb3 o)
  clear B2 hno HA1 HA2 HN2 hb3
  unfold Nd.val
  go_wp2_with (at_builtin; refine wpList_append_copy rfl _ _ 33 rfl Tryd.underlying33 hi hz0 hz1 hz2 rfl (by decide) rfl rfl (HO.out.below (HB3.out _)).news ?_)
  intro vr w4 hr B4
  rw [← World.size_alloc w2 (Obj.cells #[.string n.op, .string n.name, .slice a3 n.ins.length c3, .string n.out, .slice a4 n.attrs.length c4] 25)] at hr B4
  obtain ⟨ar, cr, rfl⟩ := owns_form hr
  have HR4 := Lib.hid hr
  have HM4 := Lib.hid (HM3.out.below' B4)
  have HA4 := Lib.hid ((HA3.out _).below' B4)
  have HN4 := Lib.hid ((HN3.out _).below B4)
  have HB4 := Lib.hid ((HB3.out _).trans (B4.mono (HB3.out _).size))
  clear hr B4 HM3 HA3 HN3 HB3
  obtain ⟨m0, m1, m2, m3, m4⟩ := HM4.out.five
  go_wp2_with fail
  clear m0 m1 m2 m3 m4
  have hNB := HN.out.bounds
  have HNB := Lib.hid hNB
  clear hNB
  have hx := sints_any ⟨_, _, rfl, HN4.out.reads HNB.out⟩ nm (IntsIn.of_owns HR4.out (by omega) HO.out.wf.2)
  unfold Nd.val at hx
  refine hx.mono ?_
  rintro e w5 ⟨va, rfl, hra, B5⟩
  obtain ⟨aa, ca, rfl⟩ := owns_form hra
  have HX5 := Lib.hid hra
  have HR5 := Lib.hid (owns_below HR4.out B5)
  have HM5 := Lib.hid (HM4.out.below' B5)
  have HA5 := Lib.hid (HA4.out.below' B5)
  have HN5 := Lib.hid (HN4.out.below B5)
  have HB5 := Lib.hid (HB4.out.trans (B5.mono HB4.out.size))
  have hs45 := B5.size
  have HQ5 := Lib.hid B5
  have HXl : Hid (∀ g, (Value.slice aa (intsP n.attrs nm other).length ca).ownBlock = some g → g < w5.heap.size) := Lib.hid fun g hg => (HX5.out.lt g hg).2
  clear hx hra B5
  obtain ⟨m0, m1, m2, m3, m4⟩ := HA5.out.five
  go_wp2_with fail
  clear m0 m1 m2 m3 m4
  have hx := rints_any ⟨_, _, rfl, HN.out.below HB5.out⟩ nm (HO.out.below HB5.out)
  unfold Nd.val at hx
  refine hx.mono ?_
  rintro e w6 ⟨vb, rfl, hrb, B6⟩
  obtain ⟨ab, cb, rfl⟩ := owns_form hrb
  have HY6 := Lib.hid hrb
  have HX6 := Lib.hid (owns_below HX5.out B6)
  have HR6 := Lib.hid (owns_below HR5.out B6)
  have HM6 := Lib.hid (HM5.out.below' B6)
  have HA6 := Lib.hid (HA5.out.below' B6)
  have HN6 := Lib.hid (HN5.out.below B6)
  have HB6 := Lib.hid (HB5.out.trans (B6.mono HB5.out.size))
  have hs56 := B6.size
  have HQ6 := Lib.hid (HQ5.out.trans (B6.mono hs45))
  clear hx hrb B6 HR5 HM5 HA5 HN5 HQ5
  have HC1 : Hid (∀ W, Below w6.heap.size w6 W → Calls Tryd.prog 19 #[.agg #[.string n.op, .string n.name, .slice a3 n.ins.length c3, .string n.out, .slice a4 n.attrs.length c4], .string nm, .int .i64 7] W fun e w' => e = .returned (.int .i64 (intP n.attrs nm 7)) ∧ Below W.heap.size W w') := Lib.hid fun W hW => by
    have := sint_any ⟨_, _, rfl, (HN6.out.below hW).reads HNB.out⟩ nm 7
    unfold Nd.val at this
    exact this
  have HC2 : Hid (∀ W, Below w6.heap.size w6 W → Calls Tryd.prog 20 #[.agg #[.string n.op, .string n.name, .slice a1 n.ins.length c1, .string n.out, .slice a2 n.attrs.length c2], .string nm, .int .i64 7] W fun e w' => e = .returned (.int .i64 (intP n.attrs nm 7)) ∧ Below W.heap.size W w') := Lib.hid fun W hW => by
    have := rint_any ⟨_, _, rfl, HN.out.below (HB6.out.trans (hW.mono HB6.out.size))⟩ nm 7
    unfold Nd.val at this
    exact this
  have HC3 : Hid (∀ W, Below w6.heap.size w6 W → Calls Tryd.prog 21 #[.agg #[.string n.op, .string n.name, .slice a3 n.ins.length c3, .string n.out, .slice a4 n.attrs.length c4], .string nm, .int .i64 9] W fun e w' => e = .returned (.int .i64 (bitsP n.attrs nm 9)) ∧ Below W.heap.size W w') := Lib.hid fun W hW => by
    have := sbits_any ⟨_, _, rfl, (HN6.out.below hW).reads HNB.out⟩ nm 9
    unfold Nd.val at this
    exact this
  have HC4 : Hid (∀ W, Below w6.heap.size w6 W → Calls Tryd.prog 22 #[.agg #[.string n.op, .string n.name, .slice a1 n.ins.length c1, .string n.out, .slice a2 n.attrs.length c2], .string nm, .int .i64 9] W fun e w' => e = .returned (.int .i64 (bitsP n.attrs nm 9)) ∧ Below W.heap.size W w') := Lib.hid fun W hW => by
    have := rbitsA_any ⟨_, _, rfl, HN.out.below (HB6.out.trans (hW.mono HB6.out.size))⟩ nm 9
    unfold Nd.val at this
    exact this
  have HS : Hid (∀ W', Below w6.heap.size w6 W' → BoxN W' w2.heap.size #[.string n.op, .string n.name, .slice a3 n.ins.length c3, .string n.out, .slice a4 n.attrs.length c4] 25 ∧ BoxN W' w.heap.size #[.string n.op, .string n.name, .slice a1 n.ins.length c1, .string n.out, .slice a2 n.attrs.length c2] 25) := Lib.hid fun W' h => ⟨HM6.out.below' h, HA6.out.below' h⟩
  generalize intsP n.attrs nm other = zs at HX6 HY6 HXl ⊢
  generalize intP n.attrs nm 7 = p at HC1 HC2
  generalize bitsP n.attrs nm 9 = q at HC3 HC4
  clear HX5
  have hzl := owns_max HX6.out
  go_wp2_with fail
  refine wp_region_plan 22 [0, 1, 2, 3, 4, 5, 6, 7, 9, 10, 8, 11, 12, 13, 14, 15, 16, 18, 19, 17, 20, 21] (fun W' => Below w6.heap.size w6 W') (by kernel_rfl) (by kernel_rfl) (fun _ d _ _ _ h => by cases d <;> exact h) (Below.refl _ _).drew ?_
  have B0 : Hid (Below w6.heap.size w6 w6.drew) := Lib.hid (Below.refl _ _).drew
  repeat
    refine plan_read (v := ?_) rfl rfl (Or.inl ⟨by rfl, ?_⟩) ?_
    rotate_left
    · intro w' hSw
      obtain ⟨s1, s2⟩ := HS.out w' hSw
      obtain ⟨e0, e1, e2, e3, e4⟩ := s1.five
      obtain ⟨g0, g1, g2, g3, g4⟩ := s2.five
      clear s1 s2
      go_simp
      try with_reducible rfl
    try simp only [Act.put, List.getElem_toArray, List.getElem_cons_zero, List.getElem_cons_succ, List.setIfInBounds_toArray, List.set_cons_zero, List.set_cons_succ]
  refine plan_act rfl rfl (fun K' hK => ?_)
  go_simp
  refine (HC1.out _ B0.out).mono ?_
  rintro e w7 ⟨rfl, B⟩
  have B1 := Lib.hid (B0.out.trans (B.mono B0.out.size))
  refine hK.out _ _ B1.out ?_
  clear hK K' B
  refine plan_act rfl rfl (fun K' hK => ?_)
  go_simp
  refine (HC2.out _ B1.out).mono ?_
  rintro e w8 ⟨rfl, B⟩
  have B2 := Lib.hid (B1.out.trans (B.mono B1.out.size))
  refine hK.out _ _ B2.out ?_
  clear hK K' B
  repeat
    refine plan_read (v := ?_) rfl rfl (Or.inl ⟨by rfl, ?_⟩) ?_
    rotate_left
    · intro w' hSw
      obtain ⟨s1, s2⟩ := HS.out w' hSw
      obtain ⟨e0, e1, e2, e3, e4⟩ := s1.five
      obtain ⟨g0, g1, g2, g3, g4⟩ := s2.five
      clear s1 s2
      go_simp
      try with_reducible rfl
    try simp only [Act.put, List.getElem_toArray, List.getElem_cons_zero, List.getElem_cons_succ, List.setIfInBounds_toArray, List.set_cons_zero, List.set_cons_succ]
  refine plan_act rfl rfl (fun K' hK => ?_)
  go_simp
  refine (HC3.out _ B2.out).mono ?_
  rintro e w9 ⟨rfl, B⟩
  have B3 := Lib.hid (B2.out.trans (B.mono B2.out.size))
  refine hK.out _ _ B3.out ?_
  clear hK K' B
  refine plan_act rfl rfl (fun K' hK => ?_)
  go_simp
  refine (HC4.out _ B3.out).mono ?_
  rintro e w10 ⟨rfl, B⟩
  have B4 := Lib.hid (B3.out.trans (B.mono B3.out.size))
  refine hK.out _ _ B4.out ?_
  clear hK K' B
  repeat
    refine plan_read (v := ?_) rfl rfl (Or.inl ⟨by rfl, ?_⟩) ?_
    rotate_left
    · intro w' hSw
      go_simp
      try with_reducible rfl
    try simp only [Act.put, List.getElem_toArray, List.getElem_cons_zero, List.getElem_cons_succ, List.setIfInBounds_toArray, List.set_cons_zero, List.set_cons_succ]
  refine plan_tail rfl ?_
  simp only [List.toList_toArray, List.drop_succ_cons, List.drop_zero]
  clear HC1 HC2 HC3 HC4 B0 B1 B2 B3
  have HX := Lib.hid (owns_below HX6.out B4.out)
  have HY := Lib.hid (owns_below HY6.out B4.out)
  have HB := Lib.hid (HB6.out.trans (B4.out.mono HB6.out.size))
  have HQ := Lib.hid (HQ6.out.trans (B4.out.mono HQ6.out.size))
  clear HX6 HY6 HR6 HM6 HA6 HN6 B4 HS HQ6
  go_wp2_with fail
  go_loopw [11] (fun s11 wr => ∃ k : Nat, k ≤ zs.length ∧ s11 = .int .i64 (k : Int) ∧ Hid (Below w4.heap.size w4 wr) ∧ Hid (wr.ownsRow w4.heap.size 2 1 (.slice aa zs.length ca) zs.length ((struck k zs).map (Value.int .i64))) ∧ Hid (wr.ownsRow w5.heap.size 2 1 (.slice ab zs.length cb) zs.length (zs.map (Value.int .i64)))) (fun s11 _ => zs.length - (intOf s11).toNat)
  case atStart => exact ⟨0, Nat.zero_le _, rfl, HQ, by unfold struck; exact HX, HY⟩
  case round =>
    obtain ⟨k, hk, rfl, hQ, hX, hY⟩ := hrel
    by_cases hkl : k < zs.length
    · have hki : (k : Int) < (zs.length : Int) := by omega
      have hk0 : (0 : Int) ≤ (k : Int) := by omega
      obtain ⟨ga, ca', hv, hga, hga2⟩ := hX.out.form (by omega)
      obtain ⟨rfl, _, rfl⟩ := Value.slice.inj hv
      obtain ⟨gb, cb', hv', hgb, hgb2⟩ := hY.out.form (by omega)
      obtain ⟨rfl, _, rfl⟩ := Value.slice.inj hv'
      have x1 : wr.cell? ⟨ga, k, none⟩ = some (.int .i64 (zs.getD k 0)) := by
        have := hX.out.cells (g := ga) rfl k (.int .i64 (zs.getD k 0)) (by rw [List.getElem?_map, struck_get]; simp [List.getD, List.getElem?_eq_getElem hkl])
        rwa [add_off, Nat.zero_add] at this
      have x2 : wr.cell? ⟨gb, k, none⟩ = some (.int .i64 (zs.getD k 0)) := by
        have := hY.out.cells (g := gb) rfl k (.int .i64 (zs.getD k 0)) (by simp [List.getD, List.getElem?_eq_getElem hkl])
        rwa [add_off, Nat.zero_add] at this
      have f1 := owns_frozenR hX.out k
      have hab : gb ≠ ga := by
        have := HXl.out ga rfl
        omega
      have HX' : Hid ((wr.setCell ⟨ga, k, none⟩ (.int .i64 (-7))).ownsRow w4.heap.size 2 1 (.slice (some ⟨ga, 0, none⟩) zs.length ca) zs.length ((struck (k + 1) zs).map (Value.int .i64))) := Lib.hid (by
        rw [← struck_set hkl, List.map_set]
        exact (hX.out.stored k (.int .i64 (-7))).1)
      have HY' : Hid ((wr.setCell ⟨ga, k, none⟩ (.int .i64 (-7))).ownsRow w5.heap.size 2 1 (.slice (some ⟨gb, 0, none⟩) zs.length cb) zs.length (zs.map (Value.int .i64))) := Lib.hid (owns_heap hY.out fun x hx => Below.heap_setCell _ _ _ _ (by
        have e : gb = x := by simpa [Value.ownBlock] using hx
        rw [← e]; exact hab))
      have HQ' : Hid (Below w4.heap.size w4 (wr.setCell ⟨ga, k, none⟩ (.int .i64 (-7)))) := Lib.hid (hQ.out.setCell (p := ⟨ga, k, none⟩) hga _)
      generalize zs.getD k 0 = z at x1 x2
      clear hv hv'
      go_wp2
      go_quiet (fail)
      go_wp2
      go_roundw
      case rel => exact ⟨k + 1, by omega, by go_num, Lib.hid (below_drewN HQ'.out _), Lib.hid HX'.out, Lib.hid HY'.out⟩
      case measure => simp [intOf]; omega
    · have hki : ¬ (k : Int) < (zs.length : Int) := by omega
      clear hX hY hk hkl
      go_wp2
      go_loopw [12] (fun s12 wq => ∃ k : Nat, k ≤ other.length ∧ s12 = .int .i64 (k : Int) ∧ Hid (Below w4.heap.size w4 wq)) (fun s12 _ => other.length - (intOf s12).toNat)
      case atStart => exact ⟨0, Nat.zero_le _, rfl, hQ⟩
      case round =>
        clear hQ hki
        obtain ⟨m, hm, rfl, hQ⟩ := hrel
        have hB := HB4.out.trans (hQ.out.mono HB4.out.size)
        by_cases hml : m < other.length
        · have hmi : (m : Int) < (other.length : Int) := by omega
          have hm0 : (0 : Int) ≤ (m : Int) := by omega
          obtain ⟨b, o, c, hv, hb, hr, _⟩ := HO.out.rows hml
          obtain ⟨rfl, _, rfl⟩ := Value.slice.inj hv
          have x1 := (hB.cell (p := ⟨b, o + m, none⟩) hb).trans (hr m hml)
          obtain ⟨gr, cr', hv', _, _⟩ := HR4.out.form (by omega)
          obtain ⟨rfl, _, rfl⟩ := Value.slice.inj hv'
          have x2 : wr.cell? ⟨gr, m, none⟩ = some (.int .i64 (other.getD m 0)) := by
            have := (owns_below HR4.out hQ.out).cells (g := gr) rfl m (.int .i64 (other.getD m 0)) (by simp [List.getD, List.getElem?_eq_getElem hml])
            rwa [add_off, Nat.zero_add] at this
          generalize other.getD m 0 = z at x1 x2
          clear hv hv' hr hB
          go_wp2
          go_quiet (fail)
          go_wp2
          go_roundw
          case rel => exact ⟨m + 1, by omega, by go_num, Lib.hid (below_drewN hQ.out _)⟩
          case measure => simp [intOf]; omega
        · have hmi : ¬ (m : Int) < (other.length : Int) := by omega
          have HBq := Lib.hid hB
          obtain ⟨e0, e1, e2, e3, e4⟩ := (HM4.out.below' hQ.out).five
          obtain ⟨g0, g1, g2, g3, g4⟩ := (HA4.out.below' hQ.out).five
          have HSN := Lib.hid (snode_any n ((HN4.out.below hQ.out).reads HNB.out) (HN.out.below hB))
          unfold Nd.val at HSN
          clear hB
          go_wp2_with (first | (go_at_call 16; refine HSN.out.mono ?_; rintro e wx ⟨rfl, BX⟩; have HBX := Lib.hid (HBq.out.trans (BX.mono HBq.out.size)); clear BX) | (go_at_call 10; refine (live_any (HG.out.below HBX.out)).mono ?_; rintro e wy ⟨rfl, BY⟩))
          go_ret
          exact ⟨rfl, HBX.out.trans (BY.mono HBX.out.size)⟩

end Go.Proofs.YtijeblfhkkfjgaaDoor
