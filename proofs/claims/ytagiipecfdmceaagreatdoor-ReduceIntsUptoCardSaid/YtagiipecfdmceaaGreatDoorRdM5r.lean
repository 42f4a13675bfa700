/- The walk of mandrellaw11.ReduceInts. -/
import Derived.Test.YtagiipecfdmceaaGreatDoorRdM4r
set_option linter.unusedVariables false
set_option linter.unusedSimpArgs false
namespace Go.Proofs.YtagiipecfdmceaaGreatDoor
open Go.RowKit

set_option maxRecDepth 100000

attribute [local irreducible] redD AftD

set_option maxHeartbeats 16000000 in
theorem ints_any {w : World} {v : Value} {x : Tn} {a b : Int} (hv : TensV w v x) (ha : InI a) (hb : InI b) (hG : Glob w) :
    Calls Tryz.prog 7 #[v, .int .i64 a, .int .i64 b] w fun e w' => e = .returned (.bool true) ∧ Below w.heap.size w w' := by
  obtain ⟨vd, vx, rfl, ht, hd, hx⟩ := hv
  obtain ⟨xt, xd, xx⟩ := x
  dsimp only at ht hd hx ⊢
  obtain ⟨a1, c1, rfl⟩ := hd.shape
  obtain ⟨a2, c2, rfl⟩ := hx.shape
  have HG := Lib.hid hG
  have HXT := Lib.hid ht
  have HXD := Lib.hid hd
  have HXX := Lib.hid hx
  have HA := Lib.hid ha
  have HBB := Lib.hid hb
  clear hG ht hd hx ha hb
  go_enter Tryz.func7, Tryz.ntmps7
  go_wp2_with fail
  generalize hW : World.alloc (World.alloc w _) _ = W1
  obtain ⟨hB, hS, b1, b2⟩ := allocs2 hW
  clear hW
  have HB1 := Lib.hid hB
  have HTB := Lib.hid (box_of b1)
  have HXD := Lib.hid (HXD.out.below hB)
  have HXX := Lib.hid (HXX.out.below hB)
  refine (small11_any (tens_one (x := (xt, xd, xx)) b2 ⟨HXT.out, HXD.out, HXX.out⟩)).mono ?_
  rintro e WS ⟨⟨sb, rfl⟩, B2⟩
  have HB2 := Lib.hid (HB1.out.trans (B2.mono HB1.out.size))
  have HTB := Lib.hid (HTB.out.below' B2)
  have HXD := Lib.hid (HXD.out.below B2)
  have HXX := Lib.hid (HXX.out.below B2)
  clear B2 b1 b2 hB hS HB1
  cases sb
  case false =>
    go_wp2_with fail
    refine (live11_any (HG.out.below HB2.out)).mono ?_
    rintro e wl ⟨rfl, Bl⟩
    have HBl := Lib.hid (HB2.out.trans (Bl.mono HB2.out.size))
    clear Bl
    go_wp2
    go_ret
    exact ⟨rfl, HBl.out⟩
  by_cases hx1 : xt = 1
  case pos =>
    subst hx1
    obtain ⟨y0, y1, y2⟩ := HTB.out.three
    go_wp2_with fail
    refine (live11_any (HG.out.below HB2.out)).mono ?_
    rintro e wl ⟨rfl, Bl⟩
    have HBl := Lib.hid (HB2.out.trans (Bl.mono HB2.out.size))
    clear Bl
    go_wp2
    go_ret
    exact ⟨rfl, HBl.out⟩
  have hxb : (xt == 1) = false := by simpa using hx1
  have HX1 := Lib.hid hx1
  clear hx1
  obtain ⟨y0, y1, y2⟩ := HTB.out.three
  go_wp2_with fail
  clear y0 y1 y2 hxb
  have HGW : Hid (∀ W, Below WS.heap.size WS W → Glob W) := Lib.hid fun W h => HG.out.below (HB2.out.trans (h.mono HB2.out.size))
  have HAX : Hid (∀ W : World, Calls Tryz.prog 20 #[.string ⟨#[82, 101, 100, 117, 99, 101, 83, 117, 109]⟩, .int .i64 a, .int .i64 1] W fun e w' => ∃ vin vat ts, e = .returned (.agg #[.string ⟨#[82, 101, 100, 117, 99, 101, 83, 117, 109]⟩, .string ⟨#[]⟩, vin, .string ⟨#[122]⟩, vat]) ∧ NodeO w' W.heap.size (axN oRSum [a] 1) vin vat ts ∧ Below W.heap.size W w') := Lib.hid (ax_one oRSum (Or.inl sum_list) a 1)
  obtain ⟨⟨cA, tA, dA, xA⟩, hE1⟩ : ∃ o, redD (axN oRSum [a] 1) (xt, xd, xx) = o := ⟨_, rfl⟩
  have HDO : Hid (∀ (W : World) (B : Nat) (vin vat vv : Value) (ts : List Tri), Below WS.heap.size WS W → NodeO W B (axN oRSum [a] 1) vin vat ts → SlIn 3 rdTensor W vv [(xt, xd, xx)] → Calls Tryz.prog 19 #[.agg #[.string ⟨#[82, 101, 100, 117, 99, 101, 83, 117, 109]⟩, .string ⟨#[]⟩, vin, .string ⟨#[122]⟩, vat], vv] W (UniR W (cA, tA, dA, xA))) := Lib.hid (by rw [← hE1]; exact do_one HGW.out (op := oRSum) (by simp [opsL]) (in_one HA.out) (by simp) (xt, xd, xx))
  have HE1 := Lib.hid hE1
  clear hE1
  have HSr : Hid (∀ W', Below WS.heap.size WS W' → BoxN W' (w.heap.size) #[.int .i64 xt, .slice a1 xd.length c1, .slice a2 xx.length c2] 38) := Lib.hid fun W' h => HTB.out.below' h
  apply share9 (P := fun W p bs vin vat ad cd ax cx => Hid (AftD WS (cA, tA, dA, xA) W p ad cd ax cx))
  · intro hrest
    have HRest := Lib.hid hrest
    clear hrest
    refine wp_region_fork 10 (Pf.read 0 (Pf.read 2 (Pf.acts [1, 3, 8] fun i => if i = 1 then (Pf.acts [3, 8] fun i => if i = 3 then (Pf.acts [4, 8] fun i => if i = 4 then (Pf.read 5 (Pf.read 6 (Pf.read 7 (Pf.acts [8] fun i => if i = 8 then (Pf.acts [9] fun i => if i = 9 then Pf.tail else Pf.tail) else Pf.tail)))) else if i = 8 then (Pf.acts [4] fun i => if i = 4 then (Pf.read 5 (Pf.read 6 (Pf.read 7 (Pf.acts [9] fun i => if i = 9 then Pf.tail else Pf.tail)))) else Pf.tail) else Pf.tail) else if i = 8 then (Pf.acts [3] fun i => if i = 3 then (Pf.acts [4] fun i => if i = 4 then (Pf.read 5 (Pf.read 6 (Pf.read 7 (Pf.acts [9] fun i => if i = 9 then Pf.tail else Pf.tail)))) else Pf.tail) else Pf.tail) else Pf.tail) else if i = 3 then (Pf.acts [1, 8] fun i => if i = 1 then (Pf.acts [4, 8] fun i => if i = 4 then (Pf.read 5 (Pf.read 6 (Pf.read 7 (Pf.acts [8] fun i => if i = 8 then (Pf.acts [9] fun i => if i = 9 then Pf.tail else Pf.tail) else Pf.tail)))) else if i = 8 then (Pf.acts [4] fun i => if i = 4 then (Pf.read 5 (Pf.read 6 (Pf.read 7 (Pf.acts [9] fun i => if i = 9 then Pf.tail else Pf.tail)))) else Pf.tail) else Pf.tail) else if i = 8 then (Pf.acts [1] fun i => if i = 1 then (Pf.acts [4] fun i => if i = 4 then (Pf.read 5 (Pf.read 6 (Pf.read 7 (Pf.acts [9] fun i => if i = 9 then Pf.tail else Pf.tail)))) else Pf.tail) else Pf.tail) else Pf.tail) else if i = 8 then (Pf.acts [1, 3] fun i => if i = 1 then (Pf.acts [3] fun i => if i = 3 then (Pf.acts [4] fun i => if i = 4 then (Pf.read 5 (Pf.read 6 (Pf.read 7 (Pf.acts [9] fun i => if i = 9 then Pf.tail else Pf.tail)))) else Pf.tail) else Pf.tail) else if i = 3 then (Pf.acts [1] fun i => if i = 1 then (Pf.acts [4] fun i => if i = 4 then (Pf.read 5 (Pf.read 6 (Pf.read 7 (Pf.acts [9] fun i => if i = 9 then Pf.tail else Pf.tail)))) else Pf.tail) else Pf.tail) else Pf.tail) else Pf.tail))) (fun W' => Below WS.heap.size WS W') (by kernel_rfl) (by kernel_rfl) (fun _ d _ _ _ h => by cases d <;> exact h) (Below.refl _ _).drew ?_
    have B0 : Hid (Below WS.heap.size WS WS.drew) := Lib.hid (Below.refl _ _).drew
    generalize WS.drew = wD at B0 ⊢
    refine fork_read (v := ?_) rfl (Or.inl ⟨by rfl, ?_⟩) ?_
    rotate_left
    · intro W' hSw
      obtain ⟨s0, s1, s2⟩ := (HSr.out W' hSw).three
      go_simp
      try with_reducible rfl
    try simp only [Act.put, List.getElem_toArray, List.getElem_cons_zero, List.getElem_cons_succ, List.setIfInBounds_toArray, List.set_cons_zero, List.set_cons_succ]
    refine fork_read (v := ?_) rfl (Or.inl ⟨by rfl, ?_⟩) ?_
    rotate_left
    · intro W' hSw
      obtain ⟨s0, s1, s2⟩ := (HSr.out W' hSw).three
      go_simp
      try with_reducible rfl
    try simp only [Act.put, List.getElem_toArray, List.getElem_cons_zero, List.getElem_cons_succ, List.setIfInBounds_toArray, List.set_cons_zero, List.set_cons_succ]
    refine fork_three rfl rfl rfl rfl rfl rfl ?_ ?_ ?_
    · intro K' hK
      go_simp
      refine (HAX.out wD).mono ?_
      rintro e w1 ⟨vin, vat, ts, rfl, hno, Bx⟩
      have HNO := Lib.hid hno
      have B1 : Hid (Below WS.heap.size WS w1) := Lib.hid (B0.out.trans (Bx.mono B0.out.size))
      refine hK.out _ _ B1.out ?_
      clear hK K' Bx hno
      try simp only [Act.put, List.getElem_toArray, List.getElem_cons_zero, List.getElem_cons_succ, List.setIfInBounds_toArray, List.set_cons_zero, List.set_cons_succ]
      refine fork_two rfl rfl rfl rfl ?_ ?_
      · intro K' hK
        go_simp
        have Bx : Below w1.heap.size w1 (w1.alloc (Obj.cells #[.int .i64 xt, .slice a1 xd.length c1, .slice a2 xx.length c2] 38)) := (Below.refl _ _).alloc (Nat.le_refl _) _
        have HTSN : Hid (BoxN (w1.alloc (Obj.cells #[.int .i64 xt, .slice a1 xd.length c1, .slice a2 xx.length c2] 38)) w1.heap.size #[.int .i64 xt, .slice a1 xd.length c1, .slice a2 xx.length c2] 38) := Lib.hid (BoxN.new _ _ _)
        have HNO := Lib.hid (HNO.out.below Bx)
        have B2 : Hid (Below WS.heap.size WS (w1.alloc (Obj.cells #[.int .i64 xt, .slice a1 xd.length c1, .slice a2 xx.length c2] 38))) := Lib.hid (B1.out.trans (Bx.mono B1.out.size))
        refine hK.out _ _ B2.out ?_
        clear hK K' Bx
        generalize w1.alloc (Obj.cells #[.int .i64 xt, .slice a1 xd.length c1, .slice a2 xx.length c2] 38) = w2 at B2 HTSN HNO ⊢
        generalize w1.heap.size = bs at HTSN ⊢
        have HTS := HTSN
        clear HTSN
        try simp only [Act.put, List.getElem_toArray, List.getElem_cons_zero, List.getElem_cons_succ, List.setIfInBounds_toArray, List.set_cons_zero, List.set_cons_succ]
        refine fork_two rfl rfl rfl rfl ?_ ?_
        · intro K' hK
          go_simp
          refine (HDO.out w2 _ _ _ _ _ B2.out HNO.out (tens_one (x := (xt, xd, xx)) HTS.out ⟨HXT.out, HXD.out.below B2.out, HXX.out.below B2.out⟩)).mono ?_
          intro e w3 hu
          obtain ⟨vd, vx, rfl, hd, hx, ⟨hi1, hi2⟩, Bx⟩ := hu.out
          clear hu
          obtain ⟨ad, cd, rfl⟩ : ∃ a c, vd = Value.slice a dA.length c := hd.shape
          obtain ⟨ax, cx, rfl⟩ : ∃ a c, vx = Value.slice a xA.length c := hx.shape
          have HRD := Lib.hid hd
          have HRX := Lib.hid hx
          have HRD0 := HRD
          have HRX0 := HRX
          have B3 : Hid (Below WS.heap.size WS w3) := Lib.hid (B2.out.trans (Bx.mono B2.out.size))
          refine hK.out _ _ B3.out ?_
          clear hK K' Bx hd hx hi1 hi2 HNO HTS
          try simp only [Act.put, List.getElem_toArray, List.getElem_cons_zero, List.getElem_cons_succ, List.setIfInBounds_toArray, List.set_cons_zero, List.set_cons_succ]
          refine fork_read (v := ?_) rfl (Or.inl ⟨by rfl, ?_⟩) ?_
          rotate_left
          · intro W' hSw
            skip
            go_simp
            try with_reducible rfl
          try simp only [Act.put, List.getElem_toArray, List.getElem_cons_zero, List.getElem_cons_succ, List.setIfInBounds_toArray, List.set_cons_zero, List.set_cons_succ]
          refine fork_read (v := ?_) rfl (Or.inl ⟨by rfl, ?_⟩) ?_
          rotate_left
          · intro W' hSw
            skip
            go_simp
            try with_reducible rfl
          try simp only [Act.put, List.getElem_toArray, List.getElem_cons_zero, List.getElem_cons_succ, List.setIfInBounds_toArray, List.set_cons_zero, List.set_cons_succ]
          refine fork_read (v := ?_) rfl (Or.inl ⟨by rfl, ?_⟩) ?_
          rotate_left
          · intro W' hSw
            skip
            go_simp
            try with_reducible rfl
          try simp only [Act.put, List.getElem_toArray, List.getElem_cons_zero, List.getElem_cons_succ, List.setIfInBounds_toArray, List.set_cons_zero, List.set_cons_succ]
          refine fork_one rfl rfl ?_
          intro K' hK
          go_simp
          have Bx : Below w3.heap.size w3 (w3.alloc (Obj.cells #[.int .i64 0, .slice none 0 0, .slice none 0 0] 38)) := (Below.refl _ _).alloc (Nat.le_refl _) _
          have HPN : Hid (BoxN (w3.alloc (Obj.cells #[.int .i64 0, .slice none 0 0, .slice none 0 0] 38)) w3.heap.size #[.int .i64 0, .slice none 0 0, .slice none 0 0] 38) := Lib.hid (BoxN.new _ _ _)
          have HRD := Lib.hid (HRD.out.below Bx)
          have HRX := Lib.hid (HRX.out.below Bx)
          have HPL : Hid (WS.heap.size ≤ w3.heap.size) := Lib.hid B3.out.size
          have HPI : Hid (∀ u0 u1 u2, IntsIn (put3 (w3.alloc (Obj.cells #[.int .i64 0, .slice none 0 0, .slice none 0 0] 38)) w3.heap.size u0 u1 u2) (.slice ad dA.length cd) dA ∧ IntsIn (put3 (w3.alloc (Obj.cells #[.int .i64 0, .slice none 0 0, .slice none 0 0] 38)) w3.heap.size u0 u1 u2) (.slice ax xA.length cx) xA) := Lib.hid fun u0 u1 u2 => ⟨ints_freshD HRD0.out rfl _, ints_freshD HRX0.out rfl _⟩
          clear HRD0 HRX0
          have B4 : Hid (Below WS.heap.size WS (w3.alloc (Obj.cells #[.int .i64 0, .slice none 0 0, .slice none 0 0] 38))) := Lib.hid (B3.out.trans (Bx.mono B3.out.size))
          refine hK.out _ _ B4.out ?_
          clear hK K' Bx
          generalize w3.alloc (Obj.cells #[.int .i64 0, .slice none 0 0, .slice none 0 0] 38) = w4 at B4 HPN HRD HRX HPI ⊢
          generalize w3.heap.size = p at HPN HPL HPI ⊢
          have HP := HPN
          clear HPN
          try simp only [Act.put, List.getElem_toArray, List.getElem_cons_zero, List.getElem_cons_succ, List.setIfInBounds_toArray, List.set_cons_zero, List.set_cons_succ]
          refine fork_one rfl rfl ?_
          intro K' hK
          go_simp
          obtain ⟨f0, f1, f2⟩ := HP.out.three
          obtain ⟨z0, z1, z2⟩ := HP.out.thaw3
          have HAF : Hid (AftD WS (cA, tA, dA, xA) (put3 w4 p (.int .i64 tA) (.slice ad dA.length cd) (.slice ax xA.length cx)) p ad cd ax cx) := Lib.hid (AftD.mk (below_put3 B4.out HPL.out) HPL.out (HP.out.put3 _ _ _) (HPI.out _ _ _).1 (HPI.out _ _ _).2)
          have B5 : Hid (Below WS.heap.size WS (put3 w4 p (.int .i64 tA) (.slice ad dA.length cd) (.slice ax xA.length cx))) := Lib.hid (below_put3 B4.out HPL.out)
          go_simp
          refine hK.out _ (put3 w4 p _ _ _) B5.out ?_
          generalize put3 w4 p (.int .i64 tA) (.slice ad dA.length cd) (.slice ax xA.length cx) = w5 at HAF B5 ⊢
          clear hK K' f0 f1 f2 z0 z1 z2
          refine fork_tail rfl ?_
          simp only [List.toList_toArray, List.drop_succ_cons, List.drop_zero]
          exact HRest.out _ p bs vin vat ad cd ax cx HAF
        · intro K' hK
          go_simp
          have Bx : Below w2.heap.size w2 (w2.alloc (Obj.cells #[.int .i64 0, .slice none 0 0, .slice none 0 0] 38)) := (Below.refl _ _).alloc (Nat.le_refl _) _
          have HPN : Hid (BoxN (w2.alloc (Obj.cells #[.int .i64 0, .slice none 0 0, .slice none 0 0] 38)) w2.heap.size #[.int .i64 0, .slice none 0 0, .slice none 0 0] 38) := Lib.hid (BoxN.new _ _ _)
          have HNO := Lib.hid (HNO.out.below Bx)
          have HTS := Lib.hid (HTS.out.below' Bx)
          have HPL : Hid (WS.heap.size ≤ w2.heap.size) := Lib.hid B2.out.size
          have B3 : Hid (Below WS.heap.size WS (w2.alloc (Obj.cells #[.int .i64 0, .slice none 0 0, .slice none 0 0] 38))) := Lib.hid (B2.out.trans (Bx.mono B2.out.size))
          refine hK.out _ _ B3.out ?_
          clear hK K' Bx
          generalize w2.alloc (Obj.cells #[.int .i64 0, .slice none 0 0, .slice none 0 0] 38) = w3 at B3 HPN HNO HTS ⊢
          generalize w2.heap.size = p at HPN HPL ⊢
          have HP := HPN
          clear HPN
          try simp only [Act.put, List.getElem_toArray, List.getElem_cons_zero, List.getElem_cons_succ, List.setIfInBounds_toArray, List.set_cons_zero, List.set_cons_succ]
          refine fork_one rfl rfl ?_
          intro K' hK
          go_simp
          refine (HDO.out w3 _ _ _ _ _ B3.out HNO.out (tens_one (x := (xt, xd, xx)) HTS.out ⟨HXT.out, HXD.out.below B3.out, HXX.out.below B3.out⟩)).mono ?_
          intro e w4 hu
          obtain ⟨vd, vx, rfl, hd, hx, ⟨hi1, hi2⟩, Bx⟩ := hu.out
          clear hu
          obtain ⟨ad, cd, rfl⟩ : ∃ a c, vd = Value.slice a dA.length c := hd.shape
          obtain ⟨ax, cx, rfl⟩ : ∃ a c, vx = Value.slice a xA.length c := hx.shape
          have HRD := Lib.hid hd
          have HRX := Lib.hid hx
          have hpl := HP.out.lt
          have HP := Lib.hid (HP.out.below' Bx)
          have HPI : Hid (∀ u0 u1 u2, IntsIn (put3 w4 p u0 u1 u2) (.slice ad dA.length cd) dA ∧ IntsIn (put3 w4 p u0 u1 u2) (.slice ax xA.length cx) xA) := Lib.hid fun u0 u1 u2 => ⟨ints_highD hd hi1 hpl, ints_highD hx hi2 hpl⟩
          have B4 : Hid (Below WS.heap.size WS w4) := Lib.hid (B3.out.trans (Bx.mono B3.out.size))
          refine hK.out _ _ B4.out ?_
          clear hK K' Bx hd hx hi1 hi2 HNO HTS
          try simp only [Act.put, List.getElem_toArray, List.getElem_cons_zero, List.getElem_cons_succ, List.setIfInBounds_toArray, List.set_cons_zero, List.set_cons_succ]
          refine fork_read (v := ?_) rfl (Or.inl ⟨by rfl, ?_⟩) ?_
          rotate_left
          · intro W' hSw
            skip
            go_simp
            try with_reducible rfl
          try simp only [Act.put, List.getElem_toArray, List.getElem_cons_zero, List.getElem_cons_succ, List.setIfInBounds_toArray, List.set_cons_zero, List.set_cons_succ]
          refine fork_read (v := ?_) rfl (Or.inl ⟨by rfl, ?_⟩) ?_
          rotate_left
          · intro W' hSw
            skip
            go_simp
            try with_reducible rfl
          try simp only [Act.put, List.getElem_toArray, List.getElem_cons_zero, List.getElem_cons_succ, List.setIfInBounds_toArray, List.set_cons_zero, List.set_cons_succ]
          refine fork_read (v := ?_) rfl (Or.inl ⟨by rfl, ?_⟩) ?_
          rotate_left
          · intro W' hSw
            skip
            go_simp
            try with_reducible rfl
          try simp only [Act.put, List.getElem_toArray, List.getElem_cons_zero, List.getElem_cons_succ, List.setIfInBounds_toArray, List.set_cons_zero, List.set_cons_succ]
          refine fork_one rfl rfl ?_
          intro K' hK
          go_simp
          obtain ⟨f0, f1, f2⟩ := HP.out.three
          obtain ⟨z0, z1, z2⟩ := HP.out.thaw3
          have HAF : Hid (AftD WS (cA, tA, dA, xA) (put3 w4 p (.int .i64 tA) (.slice ad dA.length cd) (.slice ax xA.length cx)) p ad cd ax cx) := Lib.hid (AftD.mk (below_put3 B4.out HPL.out) HPL.out (HP.out.put3 _ _ _) (HPI.out _ _ _).1 (HPI.out _ _ _).2)
          have B5 : Hid (Below WS.heap.size WS (put3 w4 p (.int .i64 tA) (.slice ad dA.length cd) (.slice ax xA.length cx))) := Lib.hid (below_put3 B4.out HPL.out)
          go_simp
          refine hK.out _ (put3 w4 p _ _ _) B5.out ?_
          generalize put3 w4 p (.int .i64 tA) (.slice ad dA.length cd) (.slice ax xA.length cx) = w5 at HAF B5 ⊢
          clear hK K' f0 f1 f2 z0 z1 z2
          refine fork_tail rfl ?_
          simp only [List.toList_toArray, List.drop_succ_cons, List.drop_zero]
          exact HRest.out _ p bs vin vat ad cd ax cx HAF
      · intro K' hK
        go_simp
        have Bx : Below w1.heap.size w1 (w1.alloc (Obj.cells #[.int .i64 0, .slice none 0 0, .slice none 0 0] 38)) := (Below.refl _ _).alloc (Nat.le_refl _) _
        have HPN : Hid (BoxN (w1.alloc (Obj.cells #[.int .i64 0, .slice none 0 0, .slice none 0 0] 38)) w1.heap.size #[.int .i64 0, .slice none 0 0, .slice none 0 0] 38) := Lib.hid (BoxN.new _ _ _)
        have HNO := Lib.hid (HNO.out.below Bx)
        have HPL : Hid (WS.heap.size ≤ w1.heap.size) := Lib.hid B1.out.size
        have B2 : Hid (Below WS.heap.size WS (w1.alloc (Obj.cells #[.int .i64 0, .slice none 0 0, .slice none 0 0] 38))) := Lib.hid (B1.out.trans (Bx.mono B1.out.size))
        refine hK.out _ _ B2.out ?_
        clear hK K' Bx
        generalize w1.alloc (Obj.cells #[.int .i64 0, .slice none 0 0, .slice none 0 0] 38) = w2 at B2 HPN HNO ⊢
        generalize w1.heap.size = p at HPN HPL ⊢
        have HP := HPN
        clear HPN
        try simp only [Act.put, List.getElem_toArray, List.getElem_cons_zero, List.getElem_cons_succ, List.setIfInBounds_toArray, List.set_cons_zero, List.set_cons_succ]
        refine fork_one rfl rfl ?_
        intro K' hK
        go_simp
        have Bx : Below w2.heap.size w2 (w2.alloc (Obj.cells #[.int .i64 xt, .slice a1 xd.length c1, .slice a2 xx.length c2] 38)) := (Below.refl _ _).alloc (Nat.le_refl _) _
        have HTSN : Hid (BoxN (w2.alloc (Obj.cells #[.int .i64 xt, .slice a1 xd.length c1, .slice a2 xx.length c2] 38)) w2.heap.size #[.int .i64 xt, .slice a1 xd.length c1, .slice a2 xx.length c2] 38) := Lib.hid (BoxN.new _ _ _)
        have HNO := Lib.hid (HNO.out.below Bx)
        have HP := Lib.hid (HP.out.below' Bx)
        have B3 : Hid (Below WS.heap.size WS (w2.alloc (Obj.cells #[.int .i64 xt, .slice a1 xd.length c1, .slice a2 xx.length c2] 38))) := Lib.hid (B2.out.trans (Bx.mono B2.out.size))
        refine hK.out _ _ B3.out ?_
        clear hK K' Bx
        generalize w2.alloc (Obj.cells #[.int .i64 xt, .slice a1 xd.length c1, .slice a2 xx.length c2] 38) = w3 at B3 HTSN HNO HP ⊢
        generalize w2.heap.size = bs at HTSN ⊢
        have HTS := HTSN
        clear HTSN
        try simp only [Act.put, List.getElem_toArray, List.getElem_cons_zero, List.getElem_cons_succ, List.setIfInBounds_toArray, List.set_cons_zero, List.set_cons_succ]
        refine fork_one rfl rfl ?_
        intro K' hK
        go_simp
        refine (HDO.out w3 _ _ _ _ _ B3.out HNO.out (tens_one (x := (xt, xd, xx)) HTS.out ⟨HXT.out, HXD.out.below B3.out, HXX.out.below B3.out⟩)).mono ?_
        intro e w4 hu
        obtain ⟨vd, vx, rfl, hd, hx, ⟨hi1, hi2⟩, Bx⟩ := hu.out
        clear hu
        obtain ⟨ad, cd, rfl⟩ : ∃ a c, vd = Value.slice a dA.length c := hd.shape
        obtain ⟨ax, cx, rfl⟩ : ∃ a c, vx = Value.slice a xA.length c := hx.shape
        have HRD := Lib.hid hd
        have HRX := Lib.hid hx
        have hpl := HP.out.lt
        have HP := Lib.hid (HP.out.below' Bx)
        have HPI : Hid (∀ u0 u1 u2, IntsIn (put3 w4 p u0 u1 u2) (.slice ad dA.length cd) dA ∧ IntsIn (put3 w4 p u0 u1 u2) (.slice ax xA.length cx) xA) := Lib.hid fun u0 u1 u2 => ⟨ints_highD hd hi1 hpl, ints_highD hx hi2 hpl⟩
        have B4 : Hid (Below WS.heap.size WS w4) := Lib.hid (B3.out.trans (Bx.mono B3.out.size))
        refine hK.out _ _ B4.out ?_
        clear hK K' Bx hd hx hi1 hi2 HNO HTS
        try simp only [Act.put, List.getElem_toArray, List.getElem_cons_zero, List.getElem_cons_succ, List.setIfInBounds_toArray, List.set_cons_zero, List.set_cons_succ]
        refine fork_read (v := ?_) rfl (Or.inl ⟨by rfl, ?_⟩) ?_
        rotate_left
        · intro W' hSw
          skip
          go_simp
          try with_reducible rfl
        try simp only [Act.put, List.getElem_toArray, List.getElem_cons_zero, List.getElem_cons_succ, List.setIfInBounds_toArray, List.set_cons_zero, List.set_cons_succ]
        refine fork_read (v := ?_) rfl (Or.inl ⟨by rfl, ?_⟩) ?_
        rotate_left
        · intro W' hSw
          skip
          go_simp
          try with_reducible rfl
        try simp only [Act.put, List.getElem_toArray, List.getElem_cons_zero, List.getElem_cons_succ, List.setIfInBounds_toArray, List.set_cons_zero, List.set_cons_succ]
        refine fork_read (v := ?_) rfl (Or.inl ⟨by rfl, ?_⟩) ?_
        rotate_left
        · intro W' hSw
          skip
          go_simp
          try with_reducible rfl
        try simp only [Act.put, List.getElem_toArray, List.getElem_cons_zero, List.getElem_cons_succ, List.setIfInBounds_toArray, List.set_cons_zero, List.set_cons_succ]
        refine fork_one rfl rfl ?_
        intro K' hK
        go_simp
        obtain ⟨f0, f1, f2⟩ := HP.out.three
        obtain ⟨z0, z1, z2⟩ := HP.out.thaw3
        have HAF : Hid (AftD WS (cA, tA, dA, xA) (put3 w4 p (.int .i64 tA) (.slice ad dA.length cd) (.slice ax xA.length cx)) p ad cd ax cx) := Lib.hid (AftD.mk (below_put3 B4.out HPL.out) HPL.out (HP.out.put3 _ _ _) (HPI.out _ _ _).1 (HPI.out _ _ _).2)
        have B5 : Hid (Below WS.heap.size WS (put3 w4 p (.int .i64 tA) (.slice ad dA.length cd) (.slice ax xA.length cx))) := Lib.hid (below_put3 B4.out HPL.out)
        go_simp
        refine hK.out _ (put3 w4 p _ _ _) B5.out ?_
        generalize put3 w4 p (.int .i64 tA) (.slice ad dA.length cd) (.slice ax xA.length cx) = w5 at HAF B5 ⊢
        clear hK K' f0 f1 f2 z0 z1 z2
        refine fork_tail rfl ?_
        simp only [List.toList_toArray, List.drop_succ_cons, List.drop_zero]
        exact HRest.out _ p bs vin vat ad cd ax cx HAF
    · intro K' hK
      go_simp
      have Bx : Below wD.heap.size wD (wD.alloc (Obj.cells #[.int .i64 xt, .slice a1 xd.length c1, .slice a2 xx.length c2] 38)) := (Below.refl _ _).alloc (Nat.le_refl _) _
      have HTSN : Hid (BoxN (wD.alloc (Obj.cells #[.int .i64 xt, .slice a1 xd.length c1, .slice a2 xx.length c2] 38)) wD.heap.size #[.int .i64 xt, .slice a1 xd.length c1, .slice a2 xx.length c2] 38) := Lib.hid (BoxN.new _ _ _)
      have B1 : Hid (Below WS.heap.size WS (wD.alloc (Obj.cells #[.int .i64 xt, .slice a1 xd.length c1, .slice a2 xx.length c2] 38))) := Lib.hid (B0.out.trans (Bx.mono B0.out.size))
      refine hK.out _ _ B1.out ?_
      clear hK K' Bx
      generalize wD.alloc (Obj.cells #[.int .i64 xt, .slice a1 xd.length c1, .slice a2 xx.length c2] 38) = w1 at B1 HTSN ⊢
      generalize wD.heap.size = bs at HTSN ⊢
      have HTS := HTSN
      clear HTSN
      try simp only [Act.put, List.getElem_toArray, List.getElem_cons_zero, List.getElem_cons_succ, List.setIfInBounds_toArray, List.set_cons_zero, List.set_cons_succ]
      refine fork_two rfl rfl rfl rfl ?_ ?_
      · intro K' hK
        go_simp
        refine (HAX.out w1).mono ?_
        rintro e w2 ⟨vin, vat, ts, rfl, hno, Bx⟩
        have HNO := Lib.hid hno
        have HTS := Lib.hid (HTS.out.below' Bx)
        have B2 : Hid (Below WS.heap.size WS w2) := Lib.hid (B1.out.trans (Bx.mono B1.out.size))
        refine hK.out _ _ B2.out ?_
        clear hK K' Bx hno
        try simp only [Act.put, List.getElem_toArray, List.getElem_cons_zero, List.getElem_cons_succ, List.setIfInBounds_toArray, List.set_cons_zero, List.set_cons_succ]
        refine fork_two rfl rfl rfl rfl ?_ ?_
        · intro K' hK
          go_simp
          refine (HDO.out w2 _ _ _ _ _ B2.out HNO.out (tens_one (x := (xt, xd, xx)) HTS.out ⟨HXT.out, HXD.out.below B2.out, HXX.out.below B2.out⟩)).mono ?_
          intro e w3 hu
          obtain ⟨vd, vx, rfl, hd, hx, ⟨hi1, hi2⟩, Bx⟩ := hu.out
          clear hu
          obtain ⟨ad, cd, rfl⟩ : ∃ a c, vd = Value.slice a dA.length c := hd.shape
          obtain ⟨ax, cx, rfl⟩ : ∃ a c, vx = Value.slice a xA.length c := hx.shape
          have HRD := Lib.hid hd
          have HRX := Lib.hid hx
          have HRD0 := HRD
          have HRX0 := HRX
          have B3 : Hid (Below WS.heap.size WS w3) := Lib.hid (B2.out.trans (Bx.mono B2.out.size))
          refine hK.out _ _ B3.out ?_
          clear hK K' Bx hd hx hi1 hi2 HNO HTS
          try simp only [Act.put, List.getElem_toArray, List.getElem_cons_zero, List.getElem_cons_succ, List.setIfInBounds_toArray, List.set_cons_zero, List.set_cons_succ]
          refine fork_read (v := ?_) rfl (Or.inl ⟨by rfl, ?_⟩) ?_
          rotate_left
          · intro W' hSw
            skip
            go_simp
            try with_reducible rfl
          try simp only [Act.put, List.getElem_toArray, List.getElem_cons_zero, List.getElem_cons_succ, List.setIfInBounds_toArray, List.set_cons_zero, List.set_cons_succ]
          refine fork_read (v := ?_) rfl (Or.inl ⟨by rfl, ?_⟩) ?_
          rotate_left
          · intro W' hSw
            skip
            go_simp
            try with_reducible rfl
          try simp only [Act.put, List.getElem_toArray, List.getElem_cons_zero, List.getElem_cons_succ, List.setIfInBounds_toArray, List.set_cons_zero, List.set_cons_succ]
          refine fork_read (v := ?_) rfl (Or.inl ⟨by rfl, ?_⟩) ?_
          rotate_left
          · intro W' hSw
            skip
            go_simp
            try with_reducible rfl
          try simp only [Act.put, List.getElem_toArray, List.getElem_cons_zero, List.getElem_cons_succ, List.setIfInBounds_toArray, List.set_cons_zero, List.set_cons_succ]
          refine fork_one rfl rfl ?_
          intro K' hK
          go_simp
          have Bx : Below w3.heap.size w3 (w3.alloc (Obj.cells #[.int .i64 0, .slice none 0 0, .slice none 0 0] 38)) := (Below.refl _ _).alloc (Nat.le_refl _) _
          have HPN : Hid (BoxN (w3.alloc (Obj.cells #[.int .i64 0, .slice none 0 0, .slice none 0 0] 38)) w3.heap.size #[.int .i64 0, .slice none 0 0, .slice none 0 0] 38) := Lib.hid (BoxN.new _ _ _)
          have HRD := Lib.hid (HRD.out.below Bx)
          have HRX := Lib.hid (HRX.out.below Bx)
          have HPL : Hid (WS.heap.size ≤ w3.heap.size) := Lib.hid B3.out.size
          have HPI : Hid (∀ u0 u1 u2, IntsIn (put3 (w3.alloc (Obj.cells #[.int .i64 0, .slice none 0 0, .slice none 0 0] 38)) w3.heap.size u0 u1 u2) (.slice ad dA.length cd) dA ∧ IntsIn (put3 (w3.alloc (Obj.cells #[.int .i64 0, .slice none 0 0, .slice none 0 0] 38)) w3.heap.size u0 u1 u2) (.slice ax xA.length cx) xA) := Lib.hid fun u0 u1 u2 => ⟨ints_freshD HRD0.out rfl _, ints_freshD HRX0.out rfl _⟩
          clear HRD0 HRX0
          have B4 : Hid (Below WS.heap.size WS (w3.alloc (Obj.cells #[.int .i64 0, .slice none 0 0, .slice none 0 0] 38))) := Lib.hid (B3.out.trans (Bx.mono B3.out.size))
          refine hK.out _ _ B4.out ?_
          clear hK K' Bx
          generalize w3.alloc (Obj.cells #[.int .i64 0, .slice none 0 0, .slice none 0 0] 38) = w4 at B4 HPN HRD HRX HPI ⊢
          generalize w3.heap.size = p at HPN HPL HPI ⊢
          have HP := HPN
          clear HPN
          try simp only [Act.put, List.getElem_toArray, List.getElem_cons_zero, List.getElem_cons_succ, List.setIfInBounds_toArray, List.set_cons_zero, List.set_cons_succ]
          refine fork_one rfl rfl ?_
          intro K' hK
          go_simp
          obtain ⟨f0, f1, f2⟩ := HP.out.three
          obtain ⟨z0, z1, z2⟩ := HP.out.thaw3
          have HAF : Hid (AftD WS (cA, tA, dA, xA) (put3 w4 p (.int .i64 tA) (.slice ad dA.length cd) (.slice ax xA.length cx)) p ad cd ax cx) := Lib.hid (AftD.mk (below_put3 B4.out HPL.out) HPL.out (HP.out.put3 _ _ _) (HPI.out _ _ _).1 (HPI.out _ _ _).2)
          have B5 : Hid (Below WS.heap.size WS (put3 w4 p (.int .i64 tA) (.slice ad dA.length cd) (.slice ax xA.length cx))) := Lib.hid (below_put3 B4.out HPL.out)
          go_simp
          refine hK.out _ (put3 w4 p _ _ _) B5.out ?_
          generalize put3 w4 p (.int .i64 tA) (.slice ad dA.length cd) (.slice ax xA.length cx) = w5 at HAF B5 ⊢
          clear hK K' f0 f1 f2 z0 z1 z2
          refine fork_tail rfl ?_
          simp only [List.toList_toArray, List.drop_succ_cons, List.drop_zero]
          exact HRest.out _ p bs vin vat ad cd ax cx HAF
        · intro K' hK
          go_simp
          have Bx : Below w2.heap.size w2 (w2.alloc (Obj.cells #[.int .i64 0, .slice none 0 0, .slice none 0 0] 38)) := (Below.refl _ _).alloc (Nat.le_refl _) _
          have HPN : Hid (BoxN (w2.alloc (Obj.cells #[.int .i64 0, .slice none 0 0, .slice none 0 0] 38)) w2.heap.size #[.int .i64 0, .slice none 0 0, .slice none 0 0] 38) := Lib.hid (BoxN.new _ _ _)
          have HNO := Lib.hid (HNO.out.below Bx)
          have HTS := Lib.hid (HTS.out.below' Bx)
          have HPL : Hid (WS.heap.size ≤ w2.heap.size) := Lib.hid B2.out.size
          have B3 : Hid (Below WS.heap.size WS (w2.alloc (Obj.cells #[.int .i64 0, .slice none 0 0, .slice none 0 0] 38))) := Lib.hid (B2.out.trans (Bx.mono B2.out.size))
          refine hK.out _ _ B3.out ?_
          clear hK K' Bx
          generalize w2.alloc (Obj.cells #[.int .i64 0, .slice none 0 0, .slice none 0 0] 38) = w3 at B3 HPN HNO HTS ⊢
          generalize w2.heap.size = p at HPN HPL ⊢
          have HP := HPN
          clear HPN
          try simp only [Act.put, List.getElem_toArray, List.getElem_cons_zero, List.getElem_cons_succ, List.setIfInBounds_toArray, List.set_cons_zero, List.set_cons_succ]
          refine fork_one rfl rfl ?_
          intro K' hK
          go_simp
          refine (HDO.out w3 _ _ _ _ _ B3.out HNO.out (tens_one (x := (xt, xd, xx)) HTS.out ⟨HXT.out, HXD.out.below B3.out, HXX.out.below B3.out⟩)).mono ?_
          intro e w4 hu
          obtain ⟨vd, vx, rfl, hd, hx, ⟨hi1, hi2⟩, Bx⟩ := hu.out
          clear hu
          obtain ⟨ad, cd, rfl⟩ : ∃ a c, vd = Value.slice a dA.length c := hd.shape
          obtain ⟨ax, cx, rfl⟩ : ∃ a c, vx = Value.slice a xA.length c := hx.shape
          have HRD := Lib.hid hd
          have HRX := Lib.hid hx
          have hpl := HP.out.lt
          have HP := Lib.hid (HP.out.below' Bx)
          have HPI : Hid (∀ u0 u1 u2, IntsIn (put3 w4 p u0 u1 u2) (.slice ad dA.length cd) dA ∧ IntsIn (put3 w4 p u0 u1 u2) (.slice ax xA.length cx) xA) := Lib.hid fun u0 u1 u2 => ⟨ints_highD hd hi1 hpl, ints_highD hx hi2 hpl⟩
          have B4 : Hid (Below WS.heap.size WS w4) := Lib.hid (B3.out.trans (Bx.mono B3.out.size))
          refine hK.out _ _ B4.out ?_
          clear hK K' Bx hd hx hi1 hi2 HNO HTS
          try simp only [Act.put, List.getElem_toArray, List.getElem_cons_zero, List.getElem_cons_succ, List.setIfInBounds_toArray, List.set_cons_zero, List.set_cons_succ]
          refine fork_read (v := ?_) rfl (Or.inl ⟨by rfl, ?_⟩) ?_
          rotate_left
          · intro W' hSw
            skip
            go_simp
            try with_reducible rfl
          try simp only [Act.put, List.getElem_toArray, List.getElem_cons_zero, List.getElem_cons_succ, List.setIfInBounds_toArray, List.set_cons_zero, List.set_cons_succ]
          refine fork_read (v := ?_) rfl (Or.inl ⟨by rfl, ?_⟩) ?_
          rotate_left
          · intro W' hSw
            skip
            go_simp
            try with_reducible rfl
          try simp only [Act.put, List.getElem_toArray, List.getElem_cons_zero, List.getElem_cons_succ, List.setIfInBounds_toArray, List.set_cons_zero, List.set_cons_succ]
          refine fork_read (v := ?_) rfl (Or.inl ⟨by rfl, ?_⟩) ?_
          rotate_left
          · intro W' hSw
            skip
            go_simp
            try with_reducible rfl
          try simp only [Act.put, List.getElem_toArray, List.getElem_cons_zero, List.getElem_cons_succ, List.setIfInBounds_toArray, List.set_cons_zero, List.set_cons_succ]
          refine fork_one rfl rfl ?_
          intro K' hK
          go_simp
          obtain ⟨f0, f1, f2⟩ := HP.out.three
          obtain ⟨z0, z1, z2⟩ := HP.out.thaw3
          have HAF : Hid (AftD WS (cA, tA, dA, xA) (put3 w4 p (.int .i64 tA) (.slice ad dA.length cd) (.slice ax xA.length cx)) p ad cd ax cx) := Lib.hid (AftD.mk (below_put3 B4.out HPL.out) HPL.out (HP.out.put3 _ _ _) (HPI.out _ _ _).1 (HPI.out _ _ _).2)
          have B5 : Hid (Below WS.heap.size WS (put3 w4 p (.int .i64 tA) (.slice ad dA.length cd) (.slice ax xA.length cx))) := Lib.hid (below_put3 B4.out HPL.out)
          go_simp
          refine hK.out _ (put3 w4 p _ _ _) B5.out ?_
          generalize put3 w4 p (.int .i64 tA) (.slice ad dA.length cd) (.slice ax xA.length cx) = w5 at HAF B5 ⊢
          clear hK K' f0 f1 f2 z0 z1 z2
          refine fork_tail rfl ?_
          simp only [List.toList_toArray, List.drop_succ_cons, List.drop_zero]
          exact HRest.out _ p bs vin vat ad cd ax cx HAF
      · intro K' hK
        go_simp
        have Bx : Below w1.heap.size w1 (w1.alloc (Obj.cells #[.int .i64 0, .slice none 0 0, .slice none 0 0] 38)) := (Below.refl _ _).alloc (Nat.le_refl _) _
        have HPN : Hid (BoxN (w1.alloc (Obj.cells #[.int .i64 0, .slice none 0 0, .slice none 0 0] 38)) w1.heap.size #[.int .i64 0, .slice none 0 0, .slice none 0 0] 38) := Lib.hid (BoxN.new _ _ _)
        have HTS := Lib.hid (HTS.out.below' Bx)
        have HPL : Hid (WS.heap.size ≤ w1.heap.size) := Lib.hid B1.out.size
        have B2 : Hid (Below WS.heap.size WS (w1.alloc (Obj.cells #[.int .i64 0, .slice none 0 0, .slice none 0 0] 38))) := Lib.hid (B1.out.trans (Bx.mono B1.out.size))
        refine hK.out _ _ B2.out ?_
        clear hK K' Bx
        generalize w1.alloc (Obj.cells #[.int .i64 0, .slice none 0 0, .slice none 0 0] 38) = w2 at B2 HPN HTS ⊢
        generalize w1.heap.size = p at HPN HPL ⊢
        have HP := HPN
        clear HPN
        try simp only [Act.put, List.getElem_toArray, List.getElem_cons_zero, List.getElem_cons_succ, List.setIfInBounds_toArray, List.set_cons_zero, List.set_cons_succ]
        refine fork_one rfl rfl ?_
        intro K' hK
        go_simp
        refine (HAX.out w2).mono ?_
        rintro e w3 ⟨vin, vat, ts, rfl, hno, Bx⟩
        have HNO := Lib.hid hno
        have HTS := Lib.hid (HTS.out.below' Bx)
        have HP := Lib.hid (HP.out.below' Bx)
        have B3 : Hid (Below WS.heap.size WS w3) := Lib.hid (B2.out.trans (Bx.mono B2.out.size))
        refine hK.out _ _ B3.out ?_
        clear hK K' Bx hno
        try simp only [Act.put, List.getElem_toArray, List.getElem_cons_zero, List.getElem_cons_succ, List.setIfInBounds_toArray, List.set_cons_zero, List.set_cons_succ]
        refine fork_one rfl rfl ?_
        intro K' hK
        go_simp
        refine (HDO.out w3 _ _ _ _ _ B3.out HNO.out (tens_one (x := (xt, xd, xx)) HTS.out ⟨HXT.out, HXD.out.below B3.out, HXX.out.below B3.out⟩)).mono ?_
        intro e w4 hu
        obtain ⟨vd, vx, rfl, hd, hx, ⟨hi1, hi2⟩, Bx⟩ := hu.out
        clear hu
        obtain ⟨ad, cd, rfl⟩ : ∃ a c, vd = Value.slice a dA.length c := hd.shape
        obtain ⟨ax, cx, rfl⟩ : ∃ a c, vx = Value.slice a xA.length c := hx.shape
        have HRD := Lib.hid hd
        have HRX := Lib.hid hx
        have hpl := HP.out.lt
        have HP := Lib.hid (HP.out.below' Bx)
        have HPI : Hid (∀ u0 u1 u2, IntsIn (put3 w4 p u0 u1 u2) (.slice ad dA.length cd) dA ∧ IntsIn (put3 w4 p u0 u1 u2) (.slice ax xA.length cx) xA) := Lib.hid fun u0 u1 u2 => ⟨ints_highD hd hi1 hpl, ints_highD hx hi2 hpl⟩
        have B4 : Hid (Below WS.heap.size WS w4) := Lib.hid (B3.out.trans (Bx.mono B3.out.size))
        refine hK.out _ _ B4.out ?_
        clear hK K' Bx hd hx hi1 hi2 HNO HTS
        try simp only [Act.put, List.getElem_toArray, List.getElem_cons_zero, List.getElem_cons_succ, List.setIfInBounds_toArray, List.set_cons_zero, List.set_cons_succ]
        refine fork_read (v := ?_) rfl (Or.inl ⟨by rfl, ?_⟩) ?_
        rotate_left
        · intro W' hSw
          skip
          go_simp
          try with_reducible rfl
        try simp only [Act.put, List.getElem_toArray, List.getElem_cons_zero, List.getElem_cons_succ, List.setIfInBounds_toArray, List.set_cons_zero, List.set_cons_succ]
        refine fork_read (v := ?_) rfl (Or.inl ⟨by rfl, ?_⟩) ?_
        rotate_left
        · intro W' hSw
          skip
          go_simp
          try with_reducible rfl
        try simp only [Act.put, List.getElem_toArray, List.getElem_cons_zero, List.getElem_cons_succ, List.setIfInBounds_toArray, List.set_cons_zero, List.set_cons_succ]
        refine fork_read (v := ?_) rfl (Or.inl ⟨by rfl, ?_⟩) ?_
        rotate_left
        · intro W' hSw
          skip
          go_simp
          try with_reducible rfl
        try simp only [Act.put, List.getElem_toArray, List.getElem_cons_zero, List.getElem_cons_succ, List.setIfInBounds_toArray, List.set_cons_zero, List.set_cons_succ]
        refine fork_one rfl rfl ?_
        intro K' hK
        go_simp
        obtain ⟨f0, f1, f2⟩ := HP.out.three
        obtain ⟨z0, z1, z2⟩ := HP.out.thaw3
        have HAF : Hid (AftD WS (cA, tA, dA, xA) (put3 w4 p (.int .i64 tA) (.slice ad dA.length cd) (.slice ax xA.length cx)) p ad cd ax cx) := Lib.hid (AftD.mk (below_put3 B4.out HPL.out) HPL.out (HP.out.put3 _ _ _) (HPI.out _ _ _).1 (HPI.out _ _ _).2)
        have B5 : Hid (Below WS.heap.size WS (put3 w4 p (.int .i64 tA) (.slice ad dA.length cd) (.slice ax xA.length cx))) := Lib.hid (below_put3 B4.out HPL.out)
        go_simp
        refine hK.out _ (put3 w4 p _ _ _) B5.out ?_
        generalize put3 w4 p (.int .i64 tA) (.slice ad dA.length cd) (.slice ax xA.length cx) = w5 at HAF B5 ⊢
        clear hK K' f0 f1 f2 z0 z1 z2
        refine fork_tail rfl ?_
        simp only [List.toList_toArray, List.drop_succ_cons, List.drop_zero]
        exact HRest.out _ p bs vin vat ad cd ax cx HAF
    · intro K' hK
      go_simp
      have Bx : Below wD.heap.size wD (wD.alloc (Obj.cells #[.int .i64 0, .slice none 0 0, .slice none 0 0] 38)) := (Below.refl _ _).alloc (Nat.le_refl _) _
      have HPN : Hid (BoxN (wD.alloc (Obj.cells #[.int .i64 0, .slice none 0 0, .slice none 0 0] 38)) wD.heap.size #[.int .i64 0, .slice none 0 0, .slice none 0 0] 38) := Lib.hid (BoxN.new _ _ _)
      have HPL : Hid (WS.heap.size ≤ wD.heap.size) := Lib.hid B0.out.size
      have B1 : Hid (Below WS.heap.size WS (wD.alloc (Obj.cells #[.int .i64 0, .slice none 0 0, .slice none 0 0] 38))) := Lib.hid (B0.out.trans (Bx.mono B0.out.size))
      refine hK.out _ _ B1.out ?_
      clear hK K' Bx
      generalize wD.alloc (Obj.cells #[.int .i64 0, .slice none 0 0, .slice none 0 0] 38) = w1 at B1 HPN ⊢
      generalize wD.heap.size = p at HPN HPL ⊢
      have HP := HPN
      clear HPN
      try simp only [Act.put, List.getElem_toArray, List.getElem_cons_zero, List.getElem_cons_succ, List.setIfInBounds_toArray, List.set_cons_zero, List.set_cons_succ]
      refine fork_two rfl rfl rfl rfl ?_ ?_
      · intro K' hK
        go_simp
        refine (HAX.out w1).mono ?_
        rintro e w2 ⟨vin, vat, ts, rfl, hno, Bx⟩
        have HNO := Lib.hid hno
        have HP := Lib.hid (HP.out.below' Bx)
        have B2 : Hid (Below WS.heap.size WS w2) := Lib.hid (B1.out.trans (Bx.mono B1.out.size))
        refine hK.out _ _ B2.out ?_
        clear hK K' Bx hno
        try simp only [Act.put, List.getElem_toArray, List.getElem_cons_zero, List.getElem_cons_succ, List.setIfInBounds_toArray, List.set_cons_zero, List.set_cons_succ]
        refine fork_one rfl rfl ?_
        intro K' hK
        go_simp
        have Bx : Below w2.heap.size w2 (w2.alloc (Obj.cells #[.int .i64 xt, .slice a1 xd.length c1, .slice a2 xx.length c2] 38)) := (Below.refl _ _).alloc (Nat.le_refl _) _
        have HTSN : Hid (BoxN (w2.alloc (Obj.cells #[.int .i64 xt, .slice a1 xd.length c1, .slice a2 xx.length c2] 38)) w2.heap.size #[.int .i64 xt, .slice a1 xd.length c1, .slice a2 xx.length c2] 38) := Lib.hid (BoxN.new _ _ _)
        have HNO := Lib.hid (HNO.out.below Bx)
        have HP := Lib.hid (HP.out.below' Bx)
        have B3 : Hid (Below WS.heap.size WS (w2.alloc (Obj.cells #[.int .i64 xt, .slice a1 xd.length c1, .slice a2 xx.length c2] 38))) := Lib.hid (B2.out.trans (Bx.mono B2.out.size))
        refine hK.out _ _ B3.out ?_
        clear hK K' Bx
        generalize w2.alloc (Obj.cells #[.int .i64 xt, .slice a1 xd.length c1, .slice a2 xx.length c2] 38) = w3 at B3 HTSN HNO HP ⊢
        generalize w2.heap.size = bs at HTSN ⊢
        have HTS := HTSN
        clear HTSN
        try simp only [Act.put, List.getElem_toArray, List.getElem_cons_zero, List.getElem_cons_succ, List.setIfInBounds_toArray, List.set_cons_zero, List.set_cons_succ]
        refine fork_one rfl rfl ?_
        intro K' hK
        go_simp
        refine (HDO.out w3 _ _ _ _ _ B3.out HNO.out (tens_one (x := (xt, xd, xx)) HTS.out ⟨HXT.out, HXD.out.below B3.out, HXX.out.below B3.out⟩)).mono ?_
        intro e w4 hu
        obtain ⟨vd, vx, rfl, hd, hx, ⟨hi1, hi2⟩, Bx⟩ := hu.out
        clear hu
        obtain ⟨ad, cd, rfl⟩ : ∃ a c, vd = Value.slice a dA.length c := hd.shape
        obtain ⟨ax, cx, rfl⟩ : ∃ a c, vx = Value.slice a xA.length c := hx.shape
        have HRD := Lib.hid hd
        have HRX := Lib.hid hx
        have hpl := HP.out.lt
        have HP := Lib.hid (HP.out.below' Bx)
        have HPI : Hid (∀ u0 u1 u2, IntsIn (put3 w4 p u0 u1 u2) (.slice ad dA.length cd) dA ∧ IntsIn (put3 w4 p u0 u1 u2) (.slice ax xA.length cx) xA) := Lib.hid fun u0 u1 u2 => ⟨ints_highD hd hi1 hpl, ints_highD hx hi2 hpl⟩
        have B4 : Hid (Below WS.heap.size WS w4) := Lib.hid (B3.out.trans (Bx.mono B3.out.size))
        refine hK.out _ _ B4.out ?_
        clear hK K' Bx hd hx hi1 hi2 HNO HTS
        try simp only [Act.put, List.getElem_toArray, List.getElem_cons_zero, List.getElem_cons_succ, List.setIfInBounds_toArray, List.set_cons_zero, List.set_cons_succ]
        refine fork_read (v := ?_) rfl (Or.inl ⟨by rfl, ?_⟩) ?_
        rotate_left
        · intro W' hSw
          skip
          go_simp
          try with_reducible rfl
        try simp only [Act.put, List.getElem_toArray, List.getElem_cons_zero, List.getElem_cons_succ, List.setIfInBounds_toArray, List.set_cons_zero, List.set_cons_succ]
        refine fork_read (v := ?_) rfl (Or.inl ⟨by rfl, ?_⟩) ?_
        rotate_left
        · intro W' hSw
          skip
          go_simp
          try with_reducible rfl
        try simp only [Act.put, List.getElem_toArray, List.getElem_cons_zero, List.getElem_cons_succ, List.setIfInBounds_toArray, List.set_cons_zero, List.set_cons_succ]
        refine fork_read (v := ?_) rfl (Or.inl ⟨by rfl, ?_⟩) ?_
        rotate_left
        · intro W' hSw
          skip
          go_simp
          try with_reducible rfl
        try simp only [Act.put, List.getElem_toArray, List.getElem_cons_zero, List.getElem_cons_succ, List.setIfInBounds_toArray, List.set_cons_zero, List.set_cons_succ]
        refine fork_one rfl rfl ?_
        intro K' hK
        go_simp
        obtain ⟨f0, f1, f2⟩ := HP.out.three
        obtain ⟨z0, z1, z2⟩ := HP.out.thaw3
        have HAF : Hid (AftD WS (cA, tA, dA, xA) (put3 w4 p (.int .i64 tA) (.slice ad dA.length cd) (.slice ax xA.length cx)) p ad cd ax cx) := Lib.hid (AftD.mk (below_put3 B4.out HPL.out) HPL.out (HP.out.put3 _ _ _) (HPI.out _ _ _).1 (HPI.out _ _ _).2)
        have B5 : Hid (Below WS.heap.size WS (put3 w4 p (.int .i64 tA) (.slice ad dA.length cd) (.slice ax xA.length cx))) := Lib.hid (below_put3 B4.out HPL.out)
        go_simp
        refine hK.out _ (put3 w4 p _ _ _) B5.out ?_
        generalize put3 w4 p (.int .i64 tA) (.slice ad dA.length cd) (.slice ax xA.length cx) = w5 at HAF B5 ⊢
        clear hK K' f0 f1 f2 z0 z1 z2
        refine fork_tail rfl ?_
        simp only [List.toList_toArray, List.drop_succ_cons, List.drop_zero]
        exact HRest.out _ p bs vin vat ad cd ax cx HAF
      · intro K' hK
        go_simp
        have Bx : Below w1.heap.size w1 (w1.alloc (Obj.cells #[.int .i64 xt, .slice a1 xd.length c1, .slice a2 xx.length c2] 38)) := (Below.refl _ _).alloc (Nat.le_refl _) _
        have HTSN : Hid (BoxN (w1.alloc (Obj.cells #[.int .i64 xt, .slice a1 xd.length c1, .slice a2 xx.length c2] 38)) w1.heap.size #[.int .i64 xt, .slice a1 xd.length c1, .slice a2 xx.length c2] 38) := Lib.hid (BoxN.new _ _ _)
        have HP := Lib.hid (HP.out.below' Bx)
        have B2 : Hid (Below WS.heap.size WS (w1.alloc (Obj.cells #[.int .i64 xt, .slice a1 xd.length c1, .slice a2 xx.length c2] 38))) := Lib.hid (B1.out.trans (Bx.mono B1.out.size))
        refine hK.out _ _ B2.out ?_
        clear hK K' Bx
        generalize w1.alloc (Obj.cells #[.int .i64 xt, .slice a1 xd.length c1, .slice a2 xx.length c2] 38) = w2 at B2 HTSN HP ⊢
        generalize w1.heap.size = bs at HTSN ⊢
        have HTS := HTSN
        clear HTSN
        try simp only [Act.put, List.getElem_toArray, List.getElem_cons_zero, List.getElem_cons_succ, List.setIfInBounds_toArray, List.set_cons_zero, List.set_cons_succ]
        refine fork_one rfl rfl ?_
        intro K' hK
        go_simp
        refine (HAX.out w2).mono ?_
        rintro e w3 ⟨vin, vat, ts, rfl, hno, Bx⟩
        have HNO := Lib.hid hno
        have HTS := Lib.hid (HTS.out.below' Bx)
        have HP := Lib.hid (HP.out.below' Bx)
        have B3 : Hid (Below WS.heap.size WS w3) := Lib.hid (B2.out.trans (Bx.mono B2.out.size))
        refine hK.out _ _ B3.out ?_
        clear hK K' Bx hno
        try simp only [Act.put, List.getElem_toArray, List.getElem_cons_zero, List.getElem_cons_succ, List.setIfInBounds_toArray, List.set_cons_zero, List.set_cons_succ]
        refine fork_one rfl rfl ?_
        intro K' hK
        go_simp
        refine (HDO.out w3 _ _ _ _ _ B3.out HNO.out (tens_one (x := (xt, xd, xx)) HTS.out ⟨HXT.out, HXD.out.below B3.out, HXX.out.below B3.out⟩)).mono ?_
        intro e w4 hu
        obtain ⟨vd, vx, rfl, hd, hx, ⟨hi1, hi2⟩, Bx⟩ := hu.out
        clear hu
        obtain ⟨ad, cd, rfl⟩ : ∃ a c, vd = Value.slice a dA.length c := hd.shape
        obtain ⟨ax, cx, rfl⟩ : ∃ a c, vx = Value.slice a xA.length c := hx.shape
        have HRD := Lib.hid hd
        have HRX := Lib.hid hx
        have hpl := HP.out.lt
        have HP := Lib.hid (HP.out.below' Bx)
        have HPI : Hid (∀ u0 u1 u2, IntsIn (put3 w4 p u0 u1 u2) (.slice ad dA.length cd) dA ∧ IntsIn (put3 w4 p u0 u1 u2) (.slice ax xA.length cx) xA) := Lib.hid fun u0 u1 u2 => ⟨ints_highD hd hi1 hpl, ints_highD hx hi2 hpl⟩
        have B4 : Hid (Below WS.heap.size WS w4) := Lib.hid (B3.out.trans (Bx.mono B3.out.size))
        refine hK.out _ _ B4.out ?_
        clear hK K' Bx hd hx hi1 hi2 HNO HTS
        try simp only [Act.put, List.getElem_toArray, List.getElem_cons_zero, List.getElem_cons_succ, List.setIfInBounds_toArray, List.set_cons_zero, List.set_cons_succ]
        refine fork_read (v := ?_) rfl (Or.inl ⟨by rfl, ?_⟩) ?_
        rotate_left
        · intro W' hSw
          skip
          go_simp
          try with_reducible rfl
        try simp only [Act.put, List.getElem_toArray, List.getElem_cons_zero, List.getElem_cons_succ, List.setIfInBounds_toArray, List.set_cons_zero, List.set_cons_succ]
        refine fork_read (v := ?_) rfl (Or.inl ⟨by rfl, ?_⟩) ?_
        rotate_left
        · intro W' hSw
          skip
          go_simp
          try with_reducible rfl
        try simp only [Act.put, List.getElem_toArray, List.getElem_cons_zero, List.getElem_cons_succ, List.setIfInBounds_toArray, List.set_cons_zero, List.set_cons_succ]
        refine fork_read (v := ?_) rfl (Or.inl ⟨by rfl, ?_⟩) ?_
        rotate_left
        · intro W' hSw
          skip
          go_simp
          try with_reducible rfl
        try simp only [Act.put, List.getElem_toArray, List.getElem_cons_zero, List.getElem_cons_succ, List.setIfInBounds_toArray, List.set_cons_zero, List.set_cons_succ]
        refine fork_one rfl rfl ?_
        intro K' hK
        go_simp
        obtain ⟨f0, f1, f2⟩ := HP.out.three
        obtain ⟨z0, z1, z2⟩ := HP.out.thaw3
        have HAF : Hid (AftD WS (cA, tA, dA, xA) (put3 w4 p (.int .i64 tA) (.slice ad dA.length cd) (.slice ax xA.length cx)) p ad cd ax cx) := Lib.hid (AftD.mk (below_put3 B4.out HPL.out) HPL.out (HP.out.put3 _ _ _) (HPI.out _ _ _).1 (HPI.out _ _ _).2)
        have B5 : Hid (Below WS.heap.size WS (put3 w4 p (.int .i64 tA) (.slice ad dA.length cd) (.slice ax xA.length cx))) := Lib.hid (below_put3 B4.out HPL.out)
        go_simp
        refine hK.out _ (put3 w4 p _ _ _) B5.out ?_
        generalize put3 w4 p (.int .i64 tA) (.slice ad dA.length cd) (.slice ax xA.length cx) = w5 at HAF B5 ⊢
        clear hK K' f0 f1 f2 z0 z1 z2
        refine fork_tail rfl ?_
        simp only [List.toList_toArray, List.drop_succ_cons, List.drop_zero]
        exact HRest.out _ p bs vin vat ad cd ax cx HAF
  intro W7 p7 bs7 vin7 vat7 ad7 cd7 ax7 cx7 HAF
  obtain ⟨hB, hp7, hP7, hD7, hX7⟩ := HAF.out.all
  clear HAF HSr HDO
  dsimp only at hP7 hD7 hX7
  have HB7 := Lib.hid (HB2.out.trans (hB.mono HB2.out.size))
  have HTB0 := Lib.hid (HTB.out.below' hB)
  have HXT0 := HXT
  have HXD0 := Lib.hid (HXD.out.below hB)
  have HXX0 := Lib.hid (HXX.out.below hB)
  have HTB := Lib.hid hP7
  have HXD := Lib.hid hD7
  have HXX := Lib.hid hX7
  have HXT : Hid (InI tA) := Lib.hid (redD_typ HXT0.out HE1.out)
  have HGW : Hid (∀ W, Below W7.heap.size W7 W → Glob W) := Lib.hid fun W h => HG.out.below (HB7.out.trans (h.mono HB7.out.size))
  clear hB hp7 hP7 hD7 hX7
  by_cases hcA : cA = 0
  case neg =>
    go_wp2_with fail
    refine (live11_any (HG.out.below HB7.out)).mono ?_
    rintro e wl ⟨rfl, Bl⟩
    have HBl := Lib.hid (HB7.out.trans (Bl.mono HB7.out.size))
    clear Bl
    go_wp2
    go_ret
    exact ⟨rfl, HBl.out⟩
  subst hcA
  go_wp2_with fail
  have HAX0 := HAX
  have HAX : Hid (∀ W : World, Calls Tryz.prog 20 #[.string ⟨#[82, 101, 100, 117, 99, 101, 83, 117, 109]⟩, .int .i64 b, .int .i64 1] W fun e w' => ∃ vin vat ts, e = .returned (.agg #[.string ⟨#[82, 101, 100, 117, 99, 101, 83, 117, 109]⟩, .string ⟨#[]⟩, vin, .string ⟨#[122]⟩, vat]) ∧ NodeO w' W.heap.size (axN oRSum [b] 1) vin vat ts ∧ Below W.heap.size W w') := Lib.hid (ax_one oRSum (Or.inl sum_list) b 1)
  obtain ⟨⟨cB, tB, dB, xB⟩, hE2⟩ : ∃ o, redD (axN oRSum [b] 1) (tA, dA, xA) = o := ⟨_, rfl⟩
  have HDO : Hid (∀ (W : World) (B : Nat) (vin vat vv : Value) (ts : List Tri), Below W7.heap.size W7 W → NodeO W B (axN oRSum [b] 1) vin vat ts → SlIn 3 rdTensor W vv [(tA, dA, xA)] → Calls Tryz.prog 19 #[.agg #[.string ⟨#[82, 101, 100, 117, 99, 101, 83, 117, 109]⟩, .string ⟨#[]⟩, vin, .string ⟨#[122]⟩, vat], vv] W (UniR W (cB, tB, dB, xB))) := Lib.hid (by rw [← hE2]; exact do_one HGW.out (op := oRSum) (by simp [opsL]) (in_one HBB.out) (by simp) (tA, dA, xA))
  have HE2 := Lib.hid hE2
  clear hE2
  have HSr : Hid (∀ W', Below W7.heap.size W7 W' → BoxN W' (p7) #[.int .i64 tA, .slice ad7 dA.length cd7, .slice ax7 xA.length cx7] 38) := Lib.hid fun W' h => HTB.out.below' h
  apply share9 (P := fun W p bs vin vat ad cd ax cx => Hid (AftD W7 (cB, tB, dB, xB) W p ad cd ax cx))
  · intro hrest
    have HRest := Lib.hid hrest
    clear hrest
    refine wp_region_fork 10 (Pf.read 0 (Pf.read 2 (Pf.acts [1, 3, 8] fun i => if i = 1 then (Pf.acts [3, 8] fun i => if i = 3 then (Pf.acts [4, 8] fun i => if i = 4 then (Pf.read 5 (Pf.read 6 (Pf.read 7 (Pf.acts [8] fun i => if i = 8 then (Pf.acts [9] fun i => if i = 9 then Pf.tail else Pf.tail) else Pf.tail)))) else if i = 8 then (Pf.acts [4] fun i => if i = 4 then (Pf.read 5 (Pf.read 6 (Pf.read 7 (Pf.acts [9] fun i => if i = 9 then Pf.tail else Pf.tail)))) else Pf.tail) else Pf.tail) else if i = 8 then (Pf.acts [3] fun i => if i = 3 then (Pf.acts [4] fun i => if i = 4 then (Pf.read 5 (Pf.read 6 (Pf.read 7 (Pf.acts [9] fun i => if i = 9 then Pf.tail else Pf.tail)))) else Pf.tail) else Pf.tail) else Pf.tail) else if i = 3 then (Pf.acts [1, 8] fun i => if i = 1 then (Pf.acts [4, 8] fun i => if i = 4 then (Pf.read 5 (Pf.read 6 (Pf.read 7 (Pf.acts [8] fun i => if i = 8 then (Pf.acts [9] fun i => if i = 9 then Pf.tail else Pf.tail) else Pf.tail)))) else if i = 8 then (Pf.acts [4] fun i => if i = 4 then (Pf.read 5 (Pf.read 6 (Pf.read 7 (Pf.acts [9] fun i => if i = 9 then Pf.tail else Pf.tail)))) else Pf.tail) else Pf.tail) else if i = 8 then (Pf.acts [1] fun i => if i = 1 then (Pf.acts [4] fun i => if i = 4 then (Pf.read 5 (Pf.read 6 (Pf.read 7 (Pf.acts [9] fun i => if i = 9 then Pf.tail else Pf.tail)))) else Pf.tail) else Pf.tail) else Pf.tail) else if i = 8 then (Pf.acts [1, 3] fun i => if i = 1 then (Pf.acts [3] fun i => if i = 3 then (Pf.acts [4] fun i => if i = 4 then (Pf.read 5 (Pf.read 6 (Pf.read 7 (Pf.acts [9] fun i => if i = 9 then Pf.tail else Pf.tail)))) else Pf.tail) else Pf.tail) else if i = 3 then (Pf.acts [1] fun i => if i = 1 then (Pf.acts [4] fun i => if i = 4 then (Pf.read 5 (Pf.read 6 (Pf.read 7 (Pf.acts [9] fun i => if i = 9 then Pf.tail else Pf.tail)))) else Pf.tail) else Pf.tail) else Pf.tail) else Pf.tail))) (fun W' => Below W7.heap.size W7 W') (by kernel_rfl) (by kernel_rfl) (fun _ d _ _ _ h => by cases d <;> exact h) (Below.refl _ _).drew ?_
    have B0 : Hid (Below W7.heap.size W7 W7.drew) := Lib.hid (Below.refl _ _).drew
    generalize W7.drew = wD at B0 ⊢
    refine fork_read (v := ?_) rfl (Or.inl ⟨by rfl, ?_⟩) ?_
    rotate_left
    · intro W' hSw
      obtain ⟨s0, s1, s2⟩ := (HSr.out W' hSw).three
      go_simp
      try with_reducible rfl
    try simp only [Act.put, List.getElem_toArray, List.getElem_cons_zero, List.getElem_cons_succ, List.setIfInBounds_toArray, List.set_cons_zero, List.set_cons_succ]
    refine fork_read (v := ?_) rfl (Or.inl ⟨by rfl, ?_⟩) ?_
    rotate_left
    · intro W' hSw
      obtain ⟨s0, s1, s2⟩ := (HSr.out W' hSw).three
      go_simp
      try with_reducible rfl
    try simp only [Act.put, List.getElem_toArray, List.getElem_cons_zero, List.getElem_cons_succ, List.setIfInBounds_toArray, List.set_cons_zero, List.set_cons_succ]
    refine fork_three rfl rfl rfl rfl rfl rfl ?_ ?_ ?_
    · intro K' hK
      go_simp
      refine (HAX.out wD).mono ?_
      rintro e w1 ⟨vin, vat, ts, rfl, hno, Bx⟩
      have HNO := Lib.hid hno
      have B1 : Hid (Below W7.heap.size W7 w1) := Lib.hid (B0.out.trans (Bx.mono B0.out.size))
      refine hK.out _ _ B1.out ?_
      clear hK K' Bx hno
      try simp only [Act.put, List.getElem_toArray, List.getElem_cons_zero, List.getElem_cons_succ, List.setIfInBounds_toArray, List.set_cons_zero, List.set_cons_succ]
      refine fork_two rfl rfl rfl rfl ?_ ?_
      · intro K' hK
        go_simp
        have Bx : Below w1.heap.size w1 (w1.alloc (Obj.cells #[.int .i64 tA, .slice ad7 dA.length cd7, .slice ax7 xA.length cx7] 38)) := (Below.refl _ _).alloc (Nat.le_refl _) _
        have HTSN : Hid (BoxN (w1.alloc (Obj.cells #[.int .i64 tA, .slice ad7 dA.length cd7, .slice ax7 xA.length cx7] 38)) w1.heap.size #[.int .i64 tA, .slice ad7 dA.length cd7, .slice ax7 xA.length cx7] 38) := Lib.hid (BoxN.new _ _ _)
        have HNO := Lib.hid (HNO.out.below Bx)
        have B2 : Hid (Below W7.heap.size W7 (w1.alloc (Obj.cells #[.int .i64 tA, .slice ad7 dA.length cd7, .slice ax7 xA.length cx7] 38))) := Lib.hid (B1.out.trans (Bx.mono B1.out.size))
        refine hK.out _ _ B2.out ?_
        clear hK K' Bx
        generalize w1.alloc (Obj.cells #[.int .i64 tA, .slice ad7 dA.length cd7, .slice ax7 xA.length cx7] 38) = w2 at B2 HTSN HNO ⊢
        generalize w1.heap.size = bs at HTSN ⊢
        have HTS := HTSN
        clear HTSN
        try simp only [Act.put, List.getElem_toArray, List.getElem_cons_zero, List.getElem_cons_succ, List.setIfInBounds_toArray, List.set_cons_zero, List.set_cons_succ]
        refine fork_two rfl rfl rfl rfl ?_ ?_
        · intro K' hK
          go_simp
          refine (HDO.out w2 _ _ _ _ _ B2.out HNO.out (tens_one (x := (tA, dA, xA)) HTS.out ⟨HXT.out, HXD.out.below B2.out, HXX.out.below B2.out⟩)).mono ?_
          intro e w3 hu
          obtain ⟨vd, vx, rfl, hd, hx, ⟨hi1, hi2⟩, Bx⟩ := hu.out
          clear hu
          obtain ⟨ad, cd, rfl⟩ : ∃ a c, vd = Value.slice a dB.length c := hd.shape
          obtain ⟨ax, cx, rfl⟩ : ∃ a c, vx = Value.slice a xB.length c := hx.shape
          have HRD := Lib.hid hd
          have HRX := Lib.hid hx
          have HRD0 := HRD
          have HRX0 := HRX
          have B3 : Hid (Below W7.heap.size W7 w3) := Lib.hid (B2.out.trans (Bx.mono B2.out.size))
          refine hK.out _ _ B3.out ?_
          clear hK K' Bx hd hx hi1 hi2 HNO HTS
          try simp only [Act.put, List.getElem_toArray, List.getElem_cons_zero, List.getElem_cons_succ, List.setIfInBounds_toArray, List.set_cons_zero, List.set_cons_succ]
          refine fork_read (v := ?_) rfl (Or.inl ⟨by rfl, ?_⟩) ?_
          rotate_left
          · intro W' hSw
            skip
            go_simp
            try with_reducible rfl
          try simp only [Act.put, List.getElem_toArray, List.getElem_cons_zero, List.getElem_cons_succ, List.setIfInBounds_toArray, List.set_cons_zero, List.set_cons_succ]
          refine fork_read (v := ?_) rfl (Or.inl ⟨by rfl, ?_⟩) ?_
          rotate_left
          · intro W' hSw
            skip
            go_simp
            try with_reducible rfl
          try simp only [Act.put, List.getElem_toArray, List.getElem_cons_zero, List.getElem_cons_succ, List.setIfInBounds_toArray, List.set_cons_zero, List.set_cons_succ]
          refine fork_read (v := ?_) rfl (Or.inl ⟨by rfl, ?_⟩) ?_
          rotate_left
          · intro W' hSw
            skip
            go_simp
            try with_reducible rfl
          try simp only [Act.put, List.getElem_toArray, List.getElem_cons_zero, List.getElem_cons_succ, List.setIfInBounds_toArray, List.set_cons_zero, List.set_cons_succ]
          refine fork_one rfl rfl ?_
          intro K' hK
          go_simp
          have Bx : Below w3.heap.size w3 (w3.alloc (Obj.cells #[.int .i64 0, .slice none 0 0, .slice none 0 0] 38)) := (Below.refl _ _).alloc (Nat.le_refl _) _
          have HPN : Hid (BoxN (w3.alloc (Obj.cells #[.int .i64 0, .slice none 0 0, .slice none 0 0] 38)) w3.heap.size #[.int .i64 0, .slice none 0 0, .slice none 0 0] 38) := Lib.hid (BoxN.new _ _ _)
          have HRD := Lib.hid (HRD.out.below Bx)
          have HRX := Lib.hid (HRX.out.below Bx)
          have HPL : Hid (W7.heap.size ≤ w3.heap.size) := Lib.hid B3.out.size
          have HPI : Hid (∀ u0 u1 u2, IntsIn (put3 (w3.alloc (Obj.cells #[.int .i64 0, .slice none 0 0, .slice none 0 0] 38)) w3.heap.size u0 u1 u2) (.slice ad dB.length cd) dB ∧ IntsIn (put3 (w3.alloc (Obj.cells #[.int .i64 0, .slice none 0 0, .slice none 0 0] 38)) w3.heap.size u0 u1 u2) (.slice ax xB.length cx) xB) := Lib.hid fun u0 u1 u2 => ⟨ints_freshD HRD0.out rfl _, ints_freshD HRX0.out rfl _⟩
          clear HRD0 HRX0
          have B4 : Hid (Below W7.heap.size W7 (w3.alloc (Obj.cells #[.int .i64 0, .slice none 0 0, .slice none 0 0] 38))) := Lib.hid (B3.out.trans (Bx.mono B3.out.size))
          refine hK.out _ _ B4.out ?_
          clear hK K' Bx
          generalize w3.alloc (Obj.cells #[.int .i64 0, .slice none 0 0, .slice none 0 0] 38) = w4 at B4 HPN HRD HRX HPI ⊢
          generalize w3.heap.size = p at HPN HPL HPI ⊢
          have HP := HPN
          clear HPN
          try simp only [Act.put, List.getElem_toArray, List.getElem_cons_zero, List.getElem_cons_succ, List.setIfInBounds_toArray, List.set_cons_zero, List.set_cons_succ]
          refine fork_one rfl rfl ?_
          intro K' hK
          go_simp
          obtain ⟨f0, f1, f2⟩ := HP.out.three
          obtain ⟨z0, z1, z2⟩ := HP.out.thaw3
          have HAF : Hid (AftD W7 (cB, tB, dB, xB) (put3 w4 p (.int .i64 tB) (.slice ad dB.length cd) (.slice ax xB.length cx)) p ad cd ax cx) := Lib.hid (AftD.mk (below_put3 B4.out HPL.out) HPL.out (HP.out.put3 _ _ _) (HPI.out _ _ _).1 (HPI.out _ _ _).2)
          have B5 : Hid (Below W7.heap.size W7 (put3 w4 p (.int .i64 tB) (.slice ad dB.length cd) (.slice ax xB.length cx))) := Lib.hid (below_put3 B4.out HPL.out)
          go_simp
          refine hK.out _ (put3 w4 p _ _ _) B5.out ?_
          generalize put3 w4 p (.int .i64 tB) (.slice ad dB.length cd) (.slice ax xB.length cx) = w5 at HAF B5 ⊢
          clear hK K' f0 f1 f2 z0 z1 z2
          refine fork_tail rfl ?_
          simp only [List.toList_toArray, List.drop_succ_cons, List.drop_zero]
          exact HRest.out _ p bs vin vat ad cd ax cx HAF
        · intro K' hK
          go_simp
          have Bx : Below w2.heap.size w2 (w2.alloc (Obj.cells #[.int .i64 0, .slice none 0 0, .slice none 0 0] 38)) := (Below.refl _ _).alloc (Nat.le_refl _) _
          have HPN : Hid (BoxN (w2.alloc (Obj.cells #[.int .i64 0, .slice none 0 0, .slice none 0 0] 38)) w2.heap.size #[.int .i64 0, .slice none 0 0, .slice none 0 0] 38) := Lib.hid (BoxN.new _ _ _)
          have HNO := Lib.hid (HNO.out.below Bx)
          have HTS := Lib.hid (HTS.out.below' Bx)
          have HPL : Hid (W7.heap.size ≤ w2.heap.size) := Lib.hid B2.out.size
          have B3 : Hid (Below W7.heap.size W7 (w2.alloc (Obj.cells #[.int .i64 0, .slice none 0 0, .slice none 0 0] 38))) := Lib.hid (B2.out.trans (Bx.mono B2.out.size))
          refine hK.out _ _ B3.out ?_
          clear hK K' Bx
          generalize w2.alloc (Obj.cells #[.int .i64 0, .slice none 0 0, .slice none 0 0] 38) = w3 at B3 HPN HNO HTS ⊢
          generalize w2.heap.size = p at HPN HPL ⊢
          have HP := HPN
          clear HPN
          try simp only [Act.put, List.getElem_toArray, List.getElem_cons_zero, List.getElem_cons_succ, List.setIfInBounds_toArray, List.set_cons_zero, List.set_cons_succ]
          refine fork_one rfl rfl ?_
          intro K' hK
          go_simp
          refine (HDO.out w3 _ _ _ _ _ B3.out HNO.out (tens_one (x := (tA, dA, xA)) HTS.out ⟨HXT.out, HXD.out.below B3.out, HXX.out.below B3.out⟩)).mono ?_
          intro e w4 hu
          obtain ⟨vd, vx, rfl, hd, hx, ⟨hi1, hi2⟩, Bx⟩ := hu.out
          clear hu
          obtain ⟨ad, cd, rfl⟩ : ∃ a c, vd = Value.slice a dB.length c := hd.shape
          obtain ⟨ax, cx, rfl⟩ : ∃ a c, vx = Value.slice a xB.length c := hx.shape
          have HRD := Lib.hid hd
          have HRX := Lib.hid hx
          have hpl := HP.out.lt
          have HP := Lib.hid (HP.out.below' Bx)
          have HPI : Hid (∀ u0 u1 u2, IntsIn (put3 w4 p u0 u1 u2) (.slice ad dB.length cd) dB ∧ IntsIn (put3 w4 p u0 u1 u2) (.slice ax xB.length cx) xB) := Lib.hid fun u0 u1 u2 => ⟨ints_highD hd hi1 hpl, ints_highD hx hi2 hpl⟩
          have B4 : Hid (Below W7.heap.size W7 w4) := Lib.hid (B3.out.trans (Bx.mono B3.out.size))
          refine hK.out _ _ B4.out ?_
          clear hK K' Bx hd hx hi1 hi2 HNO HTS
          try simp only [Act.put, List.getElem_toArray, List.getElem_cons_zero, List.getElem_cons_succ, List.setIfInBounds_toArray, List.set_cons_zero, List.set_cons_succ]
          refine fork_read (v := ?_) rfl (Or.inl ⟨by rfl, ?_⟩) ?_
          rotate_left
          · intro W' hSw
            skip
            go_simp
            try with_reducible rfl
          try simp only [Act.put, List.getElem_toArray, List.getElem_cons_zero, List.getElem_cons_succ, List.setIfInBounds_toArray, List.set_cons_zero, List.set_cons_succ]
          refine fork_read (v := ?_) rfl (Or.inl ⟨by rfl, ?_⟩) ?_
          rotate_left
          · intro W' hSw
            skip
            go_simp
            try with_reducible rfl
          try simp only [Act.put, List.getElem_toArray, List.getElem_cons_zero, List.getElem_cons_succ, List.setIfInBounds_toArray, List.set_cons_zero, List.set_cons_succ]
          refine fork_read (v := ?_) rfl (Or.inl ⟨by rfl, ?_⟩) ?_
          rotate_left
          · intro W' hSw
            skip
            go_simp
            try with_reducible rfl
          try simp only [Act.put, List.getElem_toArray, List.getElem_cons_zero, List.getElem_cons_succ, List.setIfInBounds_toArray, List.set_cons_zero, List.set_cons_succ]
          refine fork_one rfl rfl ?_
          intro K' hK
          go_simp
          obtain ⟨f0, f1, f2⟩ := HP.out.three
          obtain ⟨z0, z1, z2⟩ := HP.out.thaw3
          have HAF : Hid (AftD W7 (cB, tB, dB, xB) (put3 w4 p (.int .i64 tB) (.slice ad dB.length cd) (.slice ax xB.length cx)) p ad cd ax cx) := Lib.hid (AftD.mk (below_put3 B4.out HPL.out) HPL.out (HP.out.put3 _ _ _) (HPI.out _ _ _).1 (HPI.out _ _ _).2)
          have B5 : Hid (Below W7.heap.size W7 (put3 w4 p (.int .i64 tB) (.slice ad dB.length cd) (.slice ax xB.length cx))) := Lib.hid (below_put3 B4.out HPL.out)
          go_simp
          refine hK.out _ (put3 w4 p _ _ _) B5.out ?_
          generalize put3 w4 p (.int .i64 tB) (.slice ad dB.length cd) (.slice ax xB.length cx) = w5 at HAF B5 ⊢
          clear hK K' f0 f1 f2 z0 z1 z2
          refine fork_tail rfl ?_
          simp only [List.toList_toArray, List.drop_succ_cons, List.drop_zero]
          exact HRest.out _ p bs vin vat ad cd ax cx HAF
      · intro K' hK
        go_simp
        have Bx : Below w1.heap.size w1 (w1.alloc (Obj.cells #[.int .i64 0, .slice none 0 0, .slice none 0 0] 38)) := (Below.refl _ _).alloc (Nat.le_refl _) _
        have HPN : Hid (BoxN (w1.alloc (Obj.cells #[.int .i64 0, .slice none 0 0, .slice none 0 0] 38)) w1.heap.size #[.int .i64 0, .slice none 0 0, .slice none 0 0] 38) := Lib.hid (BoxN.new _ _ _)
        have HNO := Lib.hid (HNO.out.below Bx)
        have HPL : Hid (W7.heap.size ≤ w1.heap.size) := Lib.hid B1.out.size
        have B2 : Hid (Below W7.heap.size W7 (w1.alloc (Obj.cells #[.int .i64 0, .slice none 0 0, .slice none 0 0] 38))) := Lib.hid (B1.out.trans (Bx.mono B1.out.size))
        refine hK.out _ _ B2.out ?_
        clear hK K' Bx
        generalize w1.alloc (Obj.cells #[.int .i64 0, .slice none 0 0, .slice none 0 0] 38) = w2 at B2 HPN HNO ⊢
        generalize w1.heap.size = p at HPN HPL ⊢
        have HP := HPN
        clear HPN
        try simp only [Act.put, List.getElem_toArray, List.getElem_cons_zero, List.getElem_cons_succ, List.setIfInBounds_toArray, List.set_cons_zero, List.set_cons_succ]
        refine fork_one rfl rfl ?_
        intro K' hK
        go_simp
        have Bx : Below w2.heap.size w2 (w2.alloc (Obj.cells #[.int .i64 tA, .slice ad7 dA.length cd7, .slice ax7 xA.length cx7] 38)) := (Below.refl _ _).alloc (Nat.le_refl _) _
        have HTSN : Hid (BoxN (w2.alloc (Obj.cells #[.int .i64 tA, .slice ad7 dA.length cd7, .slice ax7 xA.length cx7] 38)) w2.heap.size #[.int .i64 tA, .slice ad7 dA.length cd7, .slice ax7 xA.length cx7] 38) := Lib.hid (BoxN.new _ _ _)
        have HNO := Lib.hid (HNO.out.below Bx)
        have HP := Lib.hid (HP.out.below' Bx)
        have B3 : Hid (Below W7.heap.size W7 (w2.alloc (Obj.cells #[.int .i64 tA, .slice ad7 dA.length cd7, .slice ax7 xA.length cx7] 38))) := Lib.hid (B2.out.trans (Bx.mono B2.out.size))
        refine hK.out _ _ B3.out ?_
        clear hK K' Bx
        generalize w2.alloc (Obj.cells #[.int .i64 tA, .slice ad7 dA.length cd7, .slice ax7 xA.length cx7] 38) = w3 at B3 HTSN HNO HP ⊢
        generalize w2.heap.size = bs at HTSN ⊢
        have HTS := HTSN
        clear HTSN
        try simp only [Act.put, List.getElem_toArray, List.getElem_cons_zero, List.getElem_cons_succ, List.setIfInBounds_toArray, List.set_cons_zero, List.set_cons_succ]
        refine fork_one rfl rfl ?_
        intro K' hK
        go_simp
        refine (HDO.out w3 _ _ _ _ _ B3.out HNO.out (tens_one (x := (tA, dA, xA)) HTS.out ⟨HXT.out, HXD.out.below B3.out, HXX.out.below B3.out⟩)).mono ?_
        intro e w4 hu
        obtain ⟨vd, vx, rfl, hd, hx, ⟨hi1, hi2⟩, Bx⟩ := hu.out
        clear hu
        obtain ⟨ad, cd, rfl⟩ : ∃ a c, vd = Value.slice a dB.length c := hd.shape
        obtain ⟨ax, cx, rfl⟩ : ∃ a c, vx = Value.slice a xB.length c := hx.shape
        have HRD := Lib.hid hd
        have HRX := Lib.hid hx
        have hpl := HP.out.lt
        have HP := Lib.hid (HP.out.below' Bx)
        have HPI : Hid (∀ u0 u1 u2, IntsIn (put3 w4 p u0 u1 u2) (.slice ad dB.length cd) dB ∧ IntsIn (put3 w4 p u0 u1 u2) (.slice ax xB.length cx) xB) := Lib.hid fun u0 u1 u2 => ⟨ints_highD hd hi1 hpl, ints_highD hx hi2 hpl⟩
        have B4 : Hid (Below W7.heap.size W7 w4) := Lib.hid (B3.out.trans (Bx.mono B3.out.size))
        refine hK.out _ _ B4.out ?_
        clear hK K' Bx hd hx hi1 hi2 HNO HTS
        try simp only [Act.put, List.getElem_toArray, List.getElem_cons_zero, List.getElem_cons_succ, List.setIfInBounds_toArray, List.set_cons_zero, List.set_cons_succ]
        refine fork_read (v := ?_) rfl (Or.inl ⟨by rfl, ?_⟩) ?_
        rotate_left
        · intro W' hSw
          skip
          go_simp
          try with_reducible rfl
        try simp only [Act.put, List.getElem_toArray, List.getElem_cons_zero, List.getElem_cons_succ, List.setIfInBounds_toArray, List.set_cons_zero, List.set_cons_succ]
        refine fork_read (v := ?_) rfl (Or.inl ⟨by rfl, ?_⟩) ?_
        rotate_left
        · intro W' hSw
          skip
          go_simp
          try with_reducible rfl
        try simp only [Act.put, List.getElem_toArray, List.getElem_cons_zero, List.getElem_cons_succ, List.setIfInBounds_toArray, List.set_cons_zero, List.set_cons_succ]
        refine fork_read (v := ?_) rfl (Or.inl ⟨by rfl, ?_⟩) ?_
        rotate_left
        · intro W' hSw
          skip
          go_simp
          try with_reducible rfl
        try simp only [Act.put, List.getElem_toArray, List.getElem_cons_zero, List.getElem_cons_succ, List.setIfInBounds_toArray, List.set_cons_zero, List.set_cons_succ]
        refine fork_one rfl rfl ?_
        intro K' hK
        go_simp
        obtain ⟨f0, f1, f2⟩ := HP.out.three
        obtain ⟨z0, z1, z2⟩ := HP.out.thaw3
        have HAF : Hid (AftD W7 (cB, tB, dB, xB) (put3 w4 p (.int .i64 tB) (.slice ad dB.length cd) (.slice ax xB.length cx)) p ad cd ax cx) := Lib.hid (AftD.mk (below_put3 B4.out HPL.out) HPL.out (HP.out.put3 _ _ _) (HPI.out _ _ _).1 (HPI.out _ _ _).2)
        have B5 : Hid (Below W7.heap.size W7 (put3 w4 p (.int .i64 tB) (.slice ad dB.length cd) (.slice ax xB.length cx))) := Lib.hid (below_put3 B4.out HPL.out)
        go_simp
        refine hK.out _ (put3 w4 p _ _ _) B5.out ?_
        generalize put3 w4 p (.int .i64 tB) (.slice ad dB.length cd) (.slice ax xB.length cx) = w5 at HAF B5 ⊢
        clear hK K' f0 f1 f2 z0 z1 z2
        refine fork_tail rfl ?_
        simp only [List.toList_toArray, List.drop_succ_cons, List.drop_zero]
        exact HRest.out _ p bs vin vat ad cd ax cx HAF
    · intro K' hK
      go_simp
      have Bx : Below wD.heap.size wD (wD.alloc (Obj.cells #[.int .i64 tA, .slice ad7 dA.length cd7, .slice ax7 xA.length cx7] 38)) := (Below.refl _ _).alloc (Nat.le_refl _) _
      have HTSN : Hid (BoxN (wD.alloc (Obj.cells #[.int .i64 tA, .slice ad7 dA.length cd7, .slice ax7 xA.length cx7] 38)) wD.heap.size #[.int .i64 tA, .slice ad7 dA.length cd7, .slice ax7 xA.length cx7] 38) := Lib.hid (BoxN.new _ _ _)
      have B1 : Hid (Below W7.heap.size W7 (wD.alloc (Obj.cells #[.int .i64 tA, .slice ad7 dA.length cd7, .slice ax7 xA.length cx7] 38))) := Lib.hid (B0.out.trans (Bx.mono B0.out.size))
      refine hK.out _ _ B1.out ?_
      clear hK K' Bx
      generalize wD.alloc (Obj.cells #[.int .i64 tA, .slice ad7 dA.length cd7, .slice ax7 xA.length cx7] 38) = w1 at B1 HTSN ⊢
      generalize wD.heap.size = bs at HTSN ⊢
      have HTS := HTSN
      clear HTSN
      try simp only [Act.put, List.getElem_toArray, List.getElem_cons_zero, List.getElem_cons_succ, List.setIfInBounds_toArray, List.set_cons_zero, List.set_cons_succ]
      refine fork_two rfl rfl rfl rfl ?_ ?_
      · intro K' hK
        go_simp
        refine (HAX.out w1).mono ?_
        rintro e w2 ⟨vin, vat, ts, rfl, hno, Bx⟩
        have HNO := Lib.hid hno
        have HTS := Lib.hid (HTS.out.below' Bx)
        have B2 : Hid (Below W7.heap.size W7 w2) := Lib.hid (B1.out.trans (Bx.mono B1.out.size))
        refine hK.out _ _ B2.out ?_
        clear hK K' Bx hno
        try simp only [Act.put, List.getElem_toArray, List.getElem_cons_zero, List.getElem_cons_succ, List.setIfInBounds_toArray, List.set_cons_zero, List.set_cons_succ]
        refine fork_two rfl rfl rfl rfl ?_ ?_
        · intro K' hK
          go_simp
          refine (HDO.out w2 _ _ _ _ _ B2.out HNO.out (tens_one (x := (tA, dA, xA)) HTS.out ⟨HXT.out, HXD.out.below B2.out, HXX.out.below B2.out⟩)).mono ?_
          intro e w3 hu
          obtain ⟨vd, vx, rfl, hd, hx, ⟨hi1, hi2⟩, Bx⟩ := hu.out
          clear hu
          obtain ⟨ad, cd, rfl⟩ : ∃ a c, vd = Value.slice a dB.length c := hd.shape
          obtain ⟨ax, cx, rfl⟩ : ∃ a c, vx = Value.slice a xB.length c := hx.shape
          have HRD := Lib.hid hd
          have HRX := Lib.hid hx
          have HRD0 := HRD
          have HRX0 := HRX
          have B3 : Hid (Below W7.heap.size W7 w3) := Lib.hid (B2.out.trans (Bx.mono B2.out.size))
          refine hK.out _ _ B3.out ?_
          clear hK K' Bx hd hx hi1 hi2 HNO HTS
          try simp only [Act.put, List.getElem_toArray, List.getElem_cons_zero, List.getElem_cons_succ, List.setIfInBounds_toArray, List.set_cons_zero, List.set_cons_succ]
          refine fork_read (v := ?_) rfl (Or.inl ⟨by rfl, ?_⟩) ?_
          rotate_left
          · intro W' hSw
            skip
            go_simp
            try with_reducible rfl
          try simp only [Act.put, List.getElem_toArray, List.getElem_cons_zero, List.getElem_cons_succ, List.setIfInBounds_toArray, List.set_cons_zero, List.set_cons_succ]
          refine fork_read (v := ?_) rfl (Or.inl ⟨by rfl, ?_⟩) ?_
          rotate_left
          · intro W' hSw
            skip
            go_simp
            try with_reducible rfl
          try simp only [Act.put, List.getElem_toArray, List.getElem_cons_zero, List.getElem_cons_succ, List.setIfInBounds_toArray, List.set_cons_zero, List.set_cons_succ]
          refine fork_read (v := ?_) rfl (Or.inl ⟨by rfl, ?_⟩) ?_
          rotate_left
          · intro W' hSw
            skip
            go_simp
            try with_reducible rfl
          try simp only [Act.put, List.getElem_toArray, List.getElem_cons_zero, List.getElem_cons_succ, List.setIfInBounds_toArray, List.set_cons_zero, List.set_cons_succ]
          refine fork_one rfl rfl ?_
          intro K' hK
          go_simp
          have Bx : Below w3.heap.size w3 (w3.alloc (Obj.cells #[.int .i64 0, .slice none 0 0, .slice none 0 0] 38)) := (Below.refl _ _).alloc (Nat.le_refl _) _
          have HPN : Hid (BoxN (w3.alloc (Obj.cells #[.int .i64 0, .slice none 0 0, .slice none 0 0] 38)) w3.heap.size #[.int .i64 0, .slice none 0 0, .slice none 0 0] 38) := Lib.hid (BoxN.new _ _ _)
          have HRD := Lib.hid (HRD.out.below Bx)
          have HRX := Lib.hid (HRX.out.below Bx)
          have HPL : Hid (W7.heap.size ≤ w3.heap.size) := Lib.hid B3.out.size
          have HPI : Hid (∀ u0 u1 u2, IntsIn (put3 (w3.alloc (Obj.cells #[.int .i64 0, .slice none 0 0, .slice none 0 0] 38)) w3.heap.size u0 u1 u2) (.slice ad dB.length cd) dB ∧ IntsIn (put3 (w3.alloc (Obj.cells #[.int .i64 0, .slice none 0 0, .slice none 0 0] 38)) w3.heap.size u0 u1 u2) (.slice ax xB.length cx) xB) := Lib.hid fun u0 u1 u2 => ⟨ints_freshD HRD0.out rfl _, ints_freshD HRX0.out rfl _⟩
          clear HRD0 HRX0
          have B4 : Hid (Below W7.heap.size W7 (w3.alloc (Obj.cells #[.int .i64 0, .slice none 0 0, .slice none 0 0] 38))) := Lib.hid (B3.out.trans (Bx.mono B3.out.size))
          refine hK.out _ _ B4.out ?_
          clear hK K' Bx
          generalize w3.alloc (Obj.cells #[.int .i64 0, .slice none 0 0, .slice none 0 0] 38) = w4 at B4 HPN HRD HRX HPI ⊢
          generalize w3.heap.size = p at HPN HPL HPI ⊢
          have HP := HPN
          clear HPN
          try simp only [Act.put, List.getElem_toArray, List.getElem_cons_zero, List.getElem_cons_succ, List.setIfInBounds_toArray, List.set_cons_zero, List.set_cons_succ]
          refine fork_one rfl rfl ?_
          intro K' hK
          go_simp
          obtain ⟨f0, f1, f2⟩ := HP.out.three
          obtain ⟨z0, z1, z2⟩ := HP.out.thaw3
          have HAF : Hid (AftD W7 (cB, tB, dB, xB) (put3 w4 p (.int .i64 tB) (.slice ad dB.length cd) (.slice ax xB.length cx)) p ad cd ax cx) := Lib.hid (AftD.mk (below_put3 B4.out HPL.out) HPL.out (HP.out.put3 _ _ _) (HPI.out _ _ _).1 (HPI.out _ _ _).2)
          have B5 : Hid (Below W7.heap.size W7 (put3 w4 p (.int .i64 tB) (.slice ad dB.length cd) (.slice ax xB.length cx))) := Lib.hid (below_put3 B4.out HPL.out)
          go_simp
          refine hK.out _ (put3 w4 p _ _ _) B5.out ?_
          generalize put3 w4 p (.int .i64 tB) (.slice ad dB.length cd) (.slice ax xB.length cx) = w5 at HAF B5 ⊢
          clear hK K' f0 f1 f2 z0 z1 z2
          refine fork_tail rfl ?_
          simp only [List.toList_toArray, List.drop_succ_cons, List.drop_zero]
          exact HRest.out _ p bs vin vat ad cd ax cx HAF
        · intro K' hK
          go_simp
          have Bx : Below w2.heap.size w2 (w2.alloc (Obj.cells #[.int .i64 0, .slice none 0 0, .slice none 0 0] 38)) := (Below.refl _ _).alloc (Nat.le_refl _) _
          have HPN : Hid (BoxN (w2.alloc (Obj.cells #[.int .i64 0, .slice none 0 0, .slice none 0 0] 38)) w2.heap.size #[.int .i64 0, .slice none 0 0, .slice none 0 0] 38) := Lib.hid (BoxN.new _ _ _)
          have HNO := Lib.hid (HNO.out.below Bx)
          have HTS := Lib.hid (HTS.out.below' Bx)
          have HPL : Hid (W7.heap.size ≤ w2.heap.size) := Lib.hid B2.out.size
          have B3 : Hid (Below W7.heap.size W7 (w2.alloc (Obj.cells #[.int .i64 0, .slice none 0 0, .slice none 0 0] 38))) := Lib.hid (B2.out.trans (Bx.mono B2.out.size))
          refine hK.out _ _ B3.out ?_
          clear hK K' Bx
          generalize w2.alloc (Obj.cells #[.int .i64 0, .slice none 0 0, .slice none 0 0] 38) = w3 at B3 HPN HNO HTS ⊢
          generalize w2.heap.size = p at HPN HPL ⊢
          have HP := HPN
          clear HPN
          try simp only [Act.put, List.getElem_toArray, List.getElem_cons_zero, List.getElem_cons_succ, List.setIfInBounds_toArray, List.set_cons_zero, List.set_cons_succ]
          refine fork_one rfl rfl ?_
          intro K' hK
          go_simp
          refine (HDO.out w3 _ _ _ _ _ B3.out HNO.out (tens_one (x := (tA, dA, xA)) HTS.out ⟨HXT.out, HXD.out.below B3.out, HXX.out.below B3.out⟩)).mono ?_
          intro e w4 hu
          obtain ⟨vd, vx, rfl, hd, hx, ⟨hi1, hi2⟩, Bx⟩ := hu.out
          clear hu
          obtain ⟨ad, cd, rfl⟩ : ∃ a c, vd = Value.slice a dB.length c := hd.shape
          obtain ⟨ax, cx, rfl⟩ : ∃ a c, vx = Value.slice a xB.length c := hx.shape
          have HRD := Lib.hid hd
          have HRX := Lib.hid hx
          have hpl := HP.out.lt
          have HP := Lib.hid (HP.out.below' Bx)
          have HPI : Hid (∀ u0 u1 u2, IntsIn (put3 w4 p u0 u1 u2) (.slice ad dB.length cd) dB ∧ IntsIn (put3 w4 p u0 u1 u2) (.slice ax xB.length cx) xB) := Lib.hid fun u0 u1 u2 => ⟨ints_highD hd hi1 hpl, ints_highD hx hi2 hpl⟩
          have B4 : Hid (Below W7.heap.size W7 w4) := Lib.hid (B3.out.trans (Bx.mono B3.out.size))
          refine hK.out _ _ B4.out ?_
          clear hK K' Bx hd hx hi1 hi2 HNO HTS
          try simp only [Act.put, List.getElem_toArray, List.getElem_cons_zero, List.getElem_cons_succ, List.setIfInBounds_toArray, List.set_cons_zero, List.set_cons_succ]
          refine fork_read (v := ?_) rfl (Or.inl ⟨by rfl, ?_⟩) ?_
          rotate_left
          · intro W' hSw
            skip
            go_simp
            try with_reducible rfl
          try simp only [Act.put, List.getElem_toArray, List.getElem_cons_zero, List.getElem_cons_succ, List.setIfInBounds_toArray, List.set_cons_zero, List.set_cons_succ]
          refine fork_read (v := ?_) rfl (Or.inl ⟨by rfl, ?_⟩) ?_
          rotate_left
          · intro W' hSw
            skip
            go_simp
            try with_reducible rfl
          try simp only [Act.put, List.getElem_toArray, List.getElem_cons_zero, List.getElem_cons_succ, List.setIfInBounds_toArray, List.set_cons_zero, List.set_cons_succ]
          refine fork_read (v := ?_) rfl (Or.inl ⟨by rfl, ?_⟩) ?_
          rotate_left
          · intro W' hSw
            skip
            go_simp
            try with_reducible rfl
          try simp only [Act.put, List.getElem_toArray, List.getElem_cons_zero, List.getElem_cons_succ, List.setIfInBounds_toArray, List.set_cons_zero, List.set_cons_succ]
          refine fork_one rfl rfl ?_
          intro K' hK
          go_simp
          obtain ⟨f0, f1, f2⟩ := HP.out.three
          obtain ⟨z0, z1, z2⟩ := HP.out.thaw3
          have HAF : Hid (AftD W7 (cB, tB, dB, xB) (put3 w4 p (.int .i64 tB) (.slice ad dB.length cd) (.slice ax xB.length cx)) p ad cd ax cx) := Lib.hid (AftD.mk (below_put3 B4.out HPL.out) HPL.out (HP.out.put3 _ _ _) (HPI.out _ _ _).1 (HPI.out _ _ _).2)
          have B5 : Hid (Below W7.heap.size W7 (put3 w4 p (.int .i64 tB) (.slice ad dB.length cd) (.slice ax xB.length cx))) := Lib.hid (below_put3 B4.out HPL.out)
          go_simp
          refine hK.out _ (put3 w4 p _ _ _) B5.out ?_
          generalize put3 w4 p (.int .i64 tB) (.slice ad dB.length cd) (.slice ax xB.length cx) = w5 at HAF B5 ⊢
          clear hK K' f0 f1 f2 z0 z1 z2
          refine fork_tail rfl ?_
          simp only [List.toList_toArray, List.drop_succ_cons, List.drop_zero]
          exact HRest.out _ p bs vin vat ad cd ax cx HAF
      · intro K' hK
        go_simp
        have Bx : Below w1.heap.size w1 (w1.alloc (Obj.cells #[.int .i64 0, .slice none 0 0, .slice none 0 0] 38)) := (Below.refl _ _).alloc (Nat.le_refl _) _
        have HPN : Hid (BoxN (w1.alloc (Obj.cells #[.int .i64 0, .slice none 0 0, .slice none 0 0] 38)) w1.heap.size #[.int .i64 0, .slice none 0 0, .slice none 0 0] 38) := Lib.hid (BoxN.new _ _ _)
        have HTS := Lib.hid (HTS.out.below' Bx)
        have HPL : Hid (W7.heap.size ≤ w1.heap.size) := Lib.hid B1.out.size
        have B2 : Hid (Below W7.heap.size W7 (w1.alloc (Obj.cells #[.int .i64 0, .slice none 0 0, .slice none 0 0] 38))) := Lib.hid (B1.out.trans (Bx.mono B1.out.size))
        refine hK.out _ _ B2.out ?_
        clear hK K' Bx
        generalize w1.alloc (Obj.cells #[.int .i64 0, .slice none 0 0, .slice none 0 0] 38) = w2 at B2 HPN HTS ⊢
        generalize w1.heap.size = p at HPN HPL ⊢
        have HP := HPN
        clear HPN
        try simp only [Act.put, List.getElem_toArray, List.getElem_cons_zero, List.getElem_cons_succ, List.setIfInBounds_toArray, List.set_cons_zero, List.set_cons_succ]
        refine fork_one rfl rfl ?_
        intro K' hK
        go_simp
        refine (HAX.out w2).mono ?_
        rintro e w3 ⟨vin, vat, ts, rfl, hno, Bx⟩
        have HNO := Lib.hid hno
        have HTS := Lib.hid (HTS.out.below' Bx)
        have HP := Lib.hid (HP.out.below' Bx)
        have B3 : Hid (Below W7.heap.size W7 w3) := Lib.hid (B2.out.trans (Bx.mono B2.out.size))
        refine hK.out _ _ B3.out ?_
        clear hK K' Bx hno
        try simp only [Act.put, List.getElem_toArray, List.getElem_cons_zero, List.getElem_cons_succ, List.setIfInBounds_toArray, List.set_cons_zero, List.set_cons_succ]
        refine fork_one rfl rfl ?_
        intro K' hK
        go_simp
        refine (HDO.out w3 _ _ _ _ _ B3.out HNO.out (tens_one (x := (tA, dA, xA)) HTS.out ⟨HXT.out, HXD.out.below B3.out, HXX.out.below B3.out⟩)).mono ?_
        intro e w4 hu
        obtain ⟨vd, vx, rfl, hd, hx, ⟨hi1, hi2⟩, Bx⟩ := hu.out
        clear hu
        obtain ⟨ad, cd, rfl⟩ : ∃ a c, vd = Value.slice a dB.length c := hd.shape
        obtain ⟨ax, cx, rfl⟩ : ∃ a c, vx = Value.slice a xB.length c := hx.shape
        have HRD := Lib.hid hd
        have HRX := Lib.hid hx
        have hpl := HP.out.lt
        have HP := Lib.hid (HP.out.below' Bx)
        have HPI : Hid (∀ u0 u1 u2, IntsIn (put3 w4 p u0 u1 u2) (.slice ad dB.length cd) dB ∧ IntsIn (put3 w4 p u0 u1 u2) (.slice ax xB.length cx) xB) := Lib.hid fun u0 u1 u2 => ⟨ints_highD hd hi1 hpl, ints_highD hx hi2 hpl⟩
        have B4 : Hid (Below W7.heap.size W7 w4) := Lib.hid (B3.out.trans (Bx.mono B3.out.size))
        refine hK.out _ _ B4.out ?_
        clear hK K' Bx hd hx hi1 hi2 HNO HTS
        try simp only [Act.put, List.getElem_toArray, List.getElem_cons_zero, List.getElem_cons_succ, List.setIfInBounds_toArray, List.set_cons_zero, List.set_cons_succ]
        refine fork_read (v := ?_) rfl (Or.inl ⟨by rfl, ?_⟩) ?_
        rotate_left
        · intro W' hSw
          skip
          go_simp
          try with_reducible rfl
        try simp only [Act.put, List.getElem_toArray, List.getElem_cons_zero, List.getElem_cons_succ, List.setIfInBounds_toArray, List.set_cons_zero, List.set_cons_succ]
        refine fork_read (v := ?_) rfl (Or.inl ⟨by rfl, ?_⟩) ?_
        rotate_left
        · intro W' hSw
          skip
          go_simp
          try with_reducible rfl
        try simp only [Act.put, List.getElem_toArray, List.getElem_cons_zero, List.getElem_cons_succ, List.setIfInBounds_toArray, List.set_cons_zero, List.set_cons_succ]
        refine fork_read (v := ?_) rfl (Or.inl ⟨by rfl, ?_⟩) ?_
        rotate_left
        · intro W' hSw
          skip
          go_simp
          try with_reducible rfl
        try simp only [Act.put, List.getElem_toArray, List.getElem_cons_zero, List.getElem_cons_succ, List.setIfInBounds_toArray, List.set_cons_zero, List.set_cons_succ]
        refine fork_one rfl rfl ?_
        intro K' hK
        go_simp
        obtain ⟨f0, f1, f2⟩ := HP.out.three
        obtain ⟨z0, z1, z2⟩ := HP.out.thaw3
        have HAF : Hid (AftD W7 (cB, tB, dB, xB) (put3 w4 p (.int .i64 tB) (.slice ad dB.length cd) (.slice ax xB.length cx)) p ad cd ax cx) := Lib.hid (AftD.mk (below_put3 B4.out HPL.out) HPL.out (HP.out.put3 _ _ _) (HPI.out _ _ _).1 (HPI.out _ _ _).2)
        have B5 : Hid (Below W7.heap.size W7 (put3 w4 p (.int .i64 tB) (.slice ad dB.length cd) (.slice ax xB.length cx))) := Lib.hid (below_put3 B4.out HPL.out)
        go_simp
        refine hK.out _ (put3 w4 p _ _ _) B5.out ?_
        generalize put3 w4 p (.int .i64 tB) (.slice ad dB.length cd) (.slice ax xB.length cx) = w5 at HAF B5 ⊢
        clear hK K' f0 f1 f2 z0 z1 z2
        refine fork_tail rfl ?_
        simp only [List.toList_toArray, List.drop_succ_cons, List.drop_zero]
        exact HRest.out _ p bs vin vat ad cd ax cx HAF
    · intro K' hK
      go_simp
      have Bx : Below wD.heap.size wD (wD.alloc (Obj.cells #[.int .i64 0, .slice none 0 0, .slice none 0 0] 38)) := (Below.refl _ _).alloc (Nat.le_refl _) _
      have HPN : Hid (BoxN (wD.alloc (Obj.cells #[.int .i64 0, .slice none 0 0, .slice none 0 0] 38)) wD.heap.size #[.int .i64 0, .slice none 0 0, .slice none 0 0] 38) := Lib.hid (BoxN.new _ _ _)
      have HPL : Hid (W7.heap.size ≤ wD.heap.size) := Lib.hid B0.out.size
      have B1 : Hid (Below W7.heap.size W7 (wD.alloc (Obj.cells #[.int .i64 0, .slice none 0 0, .slice none 0 0] 38))) := Lib.hid (B0.out.trans (Bx.mono B0.out.size))
      refine hK.out _ _ B1.out ?_
      clear hK K' Bx
      generalize wD.alloc (Obj.cells #[.int .i64 0, .slice none 0 0, .slice none 0 0] 38) = w1 at B1 HPN ⊢
      generalize wD.heap.size = p at HPN HPL ⊢
      have HP := HPN
      clear HPN
      try simp only [Act.put, List.getElem_toArray, List.getElem_cons_zero, List.getElem_cons_succ, List.setIfInBounds_toArray, List.set_cons_zero, List.set_cons_succ]
      refine fork_two rfl rfl rfl rfl ?_ ?_
      · intro K' hK
        go_simp
        refine (HAX.out w1).mono ?_
        rintro e w2 ⟨vin, vat, ts, rfl, hno, Bx⟩
        have HNO := Lib.hid hno
        have HP := Lib.hid (HP.out.below' Bx)
        have B2 : Hid (Below W7.heap.size W7 w2) := Lib.hid (B1.out.trans (Bx.mono B1.out.size))
        refine hK.out _ _ B2.out ?_
        clear hK K' Bx hno
        try simp only [Act.put, List.getElem_toArray, List.getElem_cons_zero, List.getElem_cons_succ, List.setIfInBounds_toArray, List.set_cons_zero, List.set_cons_succ]
        refine fork_one rfl rfl ?_
        intro K' hK
        go_simp
        have Bx : Below w2.heap.size w2 (w2.alloc (Obj.cells #[.int .i64 tA, .slice ad7 dA.length cd7, .slice ax7 xA.length cx7] 38)) := (Below.refl _ _).alloc (Nat.le_refl _) _
        have HTSN : Hid (BoxN (w2.alloc (Obj.cells #[.int .i64 tA, .slice ad7 dA.length cd7, .slice ax7 xA.length cx7] 38)) w2.heap.size #[.int .i64 tA, .slice ad7 dA.length cd7, .slice ax7 xA.length cx7] 38) := Lib.hid (BoxN.new _ _ _)
        have HNO := Lib.hid (HNO.out.below Bx)
        have HP := Lib.hid (HP.out.below' Bx)
        have B3 : Hid (Below W7.heap.size W7 (w2.alloc (Obj.cells #[.int .i64 tA, .slice ad7 dA.length cd7, .slice ax7 xA.length cx7] 38))) := Lib.hid (B2.out.trans (Bx.mono B2.out.size))
        refine hK.out _ _ B3.out ?_
        clear hK K' Bx
        generalize w2.alloc (Obj.cells #[.int .i64 tA, .slice ad7 dA.length cd7, .slice ax7 xA.length cx7] 38) = w3 at B3 HTSN HNO HP ⊢
        generalize w2.heap.size = bs at HTSN ⊢
        have HTS := HTSN
        clear HTSN
        try simp only [Act.put, List.getElem_toArray, List.getElem_cons_zero, List.getElem_cons_succ, List.setIfInBounds_toArray, List.set_cons_zero, List.set_cons_succ]
        refine fork_one rfl rfl ?_
        intro K' hK
        go_simp
        refine (HDO.out w3 _ _ _ _ _ B3.out HNO.out (tens_one (x := (tA, dA, xA)) HTS.out ⟨HXT.out, HXD.out.below B3.out, HXX.out.below B3.out⟩)).mono ?_
        intro e w4 hu
        obtain ⟨vd, vx, rfl, hd, hx, ⟨hi1, hi2⟩, Bx⟩ := hu.out
        clear hu
        obtain ⟨ad, cd, rfl⟩ : ∃ a c, vd = Value.slice a dB.length c := hd.shape
        obtain ⟨ax, cx, rfl⟩ : ∃ a c, vx = Value.slice a xB.length c := hx.shape
        have HRD := Lib.hid hd
        have HRX := Lib.hid hx
        have hpl := HP.out.lt
        have HP := Lib.hid (HP.out.below' Bx)
        have HPI : Hid (∀ u0 u1 u2, IntsIn (put3 w4 p u0 u1 u2) (.slice ad dB.length cd) dB ∧ IntsIn (put3 w4 p u0 u1 u2) (.slice ax xB.length cx) xB) := Lib.hid fun u0 u1 u2 => ⟨ints_highD hd hi1 hpl, ints_highD hx hi2 hpl⟩
        have B4 : Hid (Below W7.heap.size W7 w4) := Lib.hid (B3.out.trans (Bx.mono B3.out.size))
        refine hK.out _ _ B4.out ?_
        clear hK K' Bx hd hx hi1 hi2 HNO HTS
        try simp only [Act.put, List.getElem_toArray, List.getElem_cons_zero, List.getElem_cons_succ, List.setIfInBounds_toArray, List.set_cons_zero, List.set_cons_succ]
        refine fork_read (v := ?_) rfl (Or.inl ⟨by rfl, ?_⟩) ?_
        rotate_left
        · intro W' hSw
          skip
          go_simp
          try with_reducible rfl
        try simp only [Act.put, List.getElem_toArray, List.getElem_cons_zero, List.getElem_cons_succ, List.setIfInBounds_toArray, List.set_cons_zero, List.set_cons_succ]
        refine fork_read (v := ?_) rfl (Or.inl ⟨by rfl, ?_⟩) ?_
        rotate_left
        · intro W' hSw
          skip
          go_simp
          try with_reducible rfl
        try simp only [Act.put, List.getElem_toArray, List.getElem_cons_zero, List.getElem_cons_succ, List.setIfInBounds_toArray, List.set_cons_zero, List.set_cons_succ]
        refine fork_read (v := ?_) rfl (Or.inl ⟨by rfl, ?_⟩) ?_
        rotate_left
        · intro W' hSw
          skip
          go_simp
          try with_reducible rfl
        try simp only [Act.put, List.getElem_toArray, List.getElem_cons_zero, List.getElem_cons_succ, List.setIfInBounds_toArray, List.set_cons_zero, List.set_cons_succ]
        refine fork_one rfl rfl ?_
        intro K' hK
        go_simp
        obtain ⟨f0, f1, f2⟩ := HP.out.three
        obtain ⟨z0, z1, z2⟩ := HP.out.thaw3
        have HAF : Hid (AftD W7 (cB, tB, dB, xB) (put3 w4 p (.int .i64 tB) (.slice ad dB.length cd) (.slice ax xB.length cx)) p ad cd ax cx) := Lib.hid (AftD.mk (below_put3 B4.out HPL.out) HPL.out (HP.out.put3 _ _ _) (HPI.out _ _ _).1 (HPI.out _ _ _).2)
        have B5 : Hid (Below W7.heap.size W7 (put3 w4 p (.int .i64 tB) (.slice ad dB.length cd) (.slice ax xB.length cx))) := Lib.hid (below_put3 B4.out HPL.out)
        go_simp
        refine hK.out _ (put3 w4 p _ _ _) B5.out ?_
        generalize put3 w4 p (.int .i64 tB) (.slice ad dB.length cd) (.slice ax xB.length cx) = w5 at HAF B5 ⊢
        clear hK K' f0 f1 f2 z0 z1 z2
        refine fork_tail rfl ?_
        simp only [List.toList_toArray, List.drop_succ_cons, List.drop_zero]
        exact HRest.out _ p bs vin vat ad cd ax cx HAF
      · intro K' hK
        go_simp
        have Bx : Below w1.heap.size w1 (w1.alloc (Obj.cells #[.int .i64 tA, .slice ad7 dA.length cd7, .slice ax7 xA.length cx7] 38)) := (Below.refl _ _).alloc (Nat.le_refl _) _
        have HTSN : Hid (BoxN (w1.alloc (Obj.cells #[.int .i64 tA, .slice ad7 dA.length cd7, .slice ax7 xA.length cx7] 38)) w1.heap.size #[.int .i64 tA, .slice ad7 dA.length cd7, .slice ax7 xA.length cx7] 38) := Lib.hid (BoxN.new _ _ _)
        have HP := Lib.hid (HP.out.below' Bx)
        have B2 : Hid (Below W7.heap.size W7 (w1.alloc (Obj.cells #[.int .i64 tA, .slice ad7 dA.length cd7, .slice ax7 xA.length cx7] 38))) := Lib.hid (B1.out.trans (Bx.mono B1.out.size))
        refine hK.out _ _ B2.out ?_
        clear hK K' Bx
        generalize w1.alloc (Obj.cells #[.int .i64 tA, .slice ad7 dA.length cd7, .slice ax7 xA.length cx7] 38) = w2 at B2 HTSN HP ⊢
        generalize w1.heap.size = bs at HTSN ⊢
        have HTS := HTSN
        clear HTSN
        try simp only [Act.put, List.getElem_toArray, List.getElem_cons_zero, List.getElem_cons_succ, List.setIfInBounds_toArray, List.set_cons_zero, List.set_cons_succ]
        refine fork_one rfl rfl ?_
        intro K' hK
        go_simp
        refine (HAX.out w2).mono ?_
        rintro e w3 ⟨vin, vat, ts, rfl, hno, Bx⟩
        have HNO := Lib.hid hno
        have HTS := Lib.hid (HTS.out.below' Bx)
        have HP := Lib.hid (HP.out.below' Bx)
        have B3 : Hid (Below W7.heap.size W7 w3) := Lib.hid (B2.out.trans (Bx.mono B2.out.size))
        refine hK.out _ _ B3.out ?_
        clear hK K' Bx hno
        try simp only [Act.put, List.getElem_toArray, List.getElem_cons_zero, List.getElem_cons_succ, List.setIfInBounds_toArray, List.set_cons_zero, List.set_cons_succ]
        refine fork_one rfl rfl ?_
        intro K' hK
        go_simp
        refine (HDO.out w3 _ _ _ _ _ B3.out HNO.out (tens_one (x := (tA, dA, xA)) HTS.out ⟨HXT.out, HXD.out.below B3.out, HXX.out.below B3.out⟩)).mono ?_
        intro e w4 hu
        obtain ⟨vd, vx, rfl, hd, hx, ⟨hi1, hi2⟩, Bx⟩ := hu.out
        clear hu
        obtain ⟨ad, cd, rfl⟩ : ∃ a c, vd = Value.slice a dB.length c := hd.shape
        obtain ⟨ax, cx, rfl⟩ : ∃ a c, vx = Value.slice a xB.length c := hx.shape
        have HRD := Lib.hid hd
        have HRX := Lib.hid hx
        have hpl := HP.out.lt
        have HP := Lib.hid (HP.out.below' Bx)
        have HPI : Hid (∀ u0 u1 u2, IntsIn (put3 w4 p u0 u1 u2) (.slice ad dB.length cd) dB ∧ IntsIn (put3 w4 p u0 u1 u2) (.slice ax xB.length cx) xB) := Lib.hid fun u0 u1 u2 => ⟨ints_highD hd hi1 hpl, ints_highD hx hi2 hpl⟩
        have B4 : Hid (Below W7.heap.size W7 w4) := Lib.hid (B3.out.trans (Bx.mono B3.out.size))
        refine hK.out _ _ B4.out ?_
        clear hK K' Bx hd hx hi1 hi2 HNO HTS
        try simp only [Act.put, List.getElem_toArray, List.getElem_cons_zero, List.getElem_cons_succ, List.setIfInBounds_toArray, List.set_cons_zero, List.set_cons_succ]
        refine fork_read (v := ?_) rfl (Or.inl ⟨by rfl, ?_⟩) ?_
        rotate_left
        · intro W' hSw
          skip
          go_simp
          try with_reducible rfl
        try simp only [Act.put, List.getElem_toArray, List.getElem_cons_zero, List.getElem_cons_succ, List.setIfInBounds_toArray, List.set_cons_zero, List.set_cons_succ]
        refine fork_read (v := ?_) rfl (Or.inl ⟨by rfl, ?_⟩) ?_
        rotate_left
        · intro W' hSw
          skip
          go_simp
          try with_reducible rfl
        try simp only [Act.put, List.getElem_toArray, List.getElem_cons_zero, List.getElem_cons_succ, List.setIfInBounds_toArray, List.set_cons_zero, List.set_cons_succ]
        refine fork_read (v := ?_) rfl (Or.inl ⟨by rfl, ?_⟩) ?_
        rotate_left
        · intro W' hSw
          skip
          go_simp
          try with_reducible rfl
        try simp only [Act.put, List.getElem_toArray, List.getElem_cons_zero, List.getElem_cons_succ, List.setIfInBounds_toArray, List.set_cons_zero, List.set_cons_succ]
        refine fork_one rfl rfl ?_
        intro K' hK
        go_simp
        obtain ⟨f0, f1, f2⟩ := HP.out.three
        obtain ⟨z0, z1, z2⟩ := HP.out.thaw3
        have HAF : Hid (AftD W7 (cB, tB, dB, xB) (put3 w4 p (.int .i64 tB) (.slice ad dB.length cd) (.slice ax xB.length cx)) p ad cd ax cx) := Lib.hid (AftD.mk (below_put3 B4.out HPL.out) HPL.out (HP.out.put3 _ _ _) (HPI.out _ _ _).1 (HPI.out _ _ _).2)
        have B5 : Hid (Below W7.heap.size W7 (put3 w4 p (.int .i64 tB) (.slice ad dB.length cd) (.slice ax xB.length cx))) := Lib.hid (below_put3 B4.out HPL.out)
        go_simp
        refine hK.out _ (put3 w4 p _ _ _) B5.out ?_
        generalize put3 w4 p (.int .i64 tB) (.slice ad dB.length cd) (.slice ax xB.length cx) = w5 at HAF B5 ⊢
        clear hK K' f0 f1 f2 z0 z1 z2
        refine fork_tail rfl ?_
        simp only [List.toList_toArray, List.drop_succ_cons, List.drop_zero]
        exact HRest.out _ p bs vin vat ad cd ax cx HAF
  intro W8 p8 bs8 vin8 vat8 ad8 cd8 ax8 cx8 HAF
  obtain ⟨hB, hp8, hP8, hD8, hX8⟩ := HAF.out.all
  clear HAF HSr HDO HAX
  dsimp only at hP8 hD8 hX8
  have HB8 := Lib.hid (HB7.out.trans (hB.mono HB7.out.size))
  have HTB := Lib.hid (HTB0.out.below' hB)
  have HXT := HXT0
  have HXD := Lib.hid (HXD0.out.below hB)
  have HXX := Lib.hid (HXX0.out.below hB)
  have HYB := Lib.hid hP8
  have HYD := Lib.hid hD8
  have HYX := Lib.hid hX8
  clear hB hp8 hP8 hD8 hX8
  go_wp2_with fail
  refine (HAX0.out _).mono ?_
  rintro e W9 ⟨vin9, vat9, ts9, rfl, hno, B9⟩
  obtain ⟨-, ⟨-, h0⟩ | ⟨g9, cap9, -, hv9, hg9, -⟩⟩ := id hno.row
  · exact absurd h0 (by simp [axN])
  obtain rfl : vat9 = .slice (some ⟨g9, 0, none⟩) 2 cap9 := hv9
  obtain ⟨ai, ci, hvi⟩ := owns_form hno.ins
  obtain rfl : vin9 = .slice ai 1 ci := hvi
  have hgl : g9 < W9.heap.size := (hno.row.lt g9 rfl).2
  have hfz : W9.frozen? ⟨g9, 17, none⟩ = false := hno.row.frozenAt 17
  obtain ⟨t0, t1, rfl⟩ : ∃ t0 t1, ts9 = [t0, t1] := by
    have hl := hno.len
    match ts9, hl with
    | [x, y], _ => exact ⟨x, y, rfl⟩
  have hcl : W9.cell? ⟨g9, 17, none⟩ = some t1.2.2 := hno.row.cells rfl 17 _ rfl
  have hne9 : w.heap.size ≠ g9 := by have := HTB.out.lt; omega
  have HNO := Lib.hid hno
  have H89 := Lib.hid B9
  have HTN := Lib.hid ((HTB.out.below' B9).putOff (p := ⟨g9, 17, none⟩) rfl hne9 (.slice (some ⟨W9.heap.size + 1, 0, none⟩) 2 2))
  clear hno B9
  obtain ⟨y0, y1, y2⟩ := BoxN.three (x0 := .int .i64 xt) (x1 := .slice a1 xd.length c1) (x2 := .slice a2 xx.length c2) (blk_keep (blk_keep HTN.out (Obj.cells #[.string ⟨#[82, 101, 100, 117, 99, 101, 83, 117, 109]⟩, .string ⟨#[]⟩, .slice ai 1 ci, .string ⟨#[122]⟩, .slice (some ⟨g9, 0, none⟩) 2 cap9] 25)) (Obj.cells #[.int .i64 b, .int .i64 a] 2))
  go_wp2_with fail
  clear y0 y1 y2 hcl hfz HTN
  generalize hT : W9.setCell ⟨g9, 17, none⟩ (.slice (some ⟨W9.heap.size + 1, 0, none⟩) 2 2) = WT
  generalize hW : World.alloc (World.alloc (World.alloc WT _) _) _ = WG
  obtain ⟨hB, hS, b1, b2, b3⟩ := allocs3 hW
  clear hW
  have hTs : WT.heap.size = W9.heap.size := by rw [← hT]; exact World.size_setCell _ _ _
  have hX := H89.out.setCell (p := ⟨g9, 17, none⟩) hg9 (.slice (some ⟨W9.heap.size + 1, 0, none⟩) 2 2)
  rw [hT] at hX
  have h89 := H89.out.size
  have hNG : NodeO WG W8.heap.size (axN oRSum [b, a] 1) (.slice ai 1 ci) (.slice (some ⟨g9, 0, none⟩) 2 cap9) [t0, (t1.1, t1.2.1, .slice (some ⟨W9.heap.size + 1, 0, none⟩) 2 2)] := HNO.out.putAxF (l := [b, a]) (by rw [hT]; exact hB) (by rw [hTs] at b2; exact owns_lit b2 (by omega) (n := 2) (by simp) (by omega) rfl)
  have hBG := hX.trans (hB.mono hX.size)
  have HBG := Lib.hid (HB8.out.trans (hBG.mono HB8.out.size))
  have HXD := Lib.hid (HXD.out.below hBG)
  have HXX := Lib.hid (HXX.out.below hBG)
  have HYB := Lib.hid (HYB.out.below' hBG)
  have HYD := Lib.hid (HYD.out.below hBG)
  have HYX := Lib.hid (HYX.out.below hBG)
  obtain ⟨⟨cC, tC, dC, xC⟩, hE3⟩ : ∃ o, redD (axN oRSum [b, a] 1) (xt, xd, xx) = o := ⟨_, rfl⟩
  have hdo : Calls Tryz.prog 19 #[.agg #[.string ⟨#[82, 101, 100, 117, 99, 101, 83, 117, 109]⟩, .string ⟨#[]⟩, .slice ai 1 ci, .string ⟨#[122]⟩, .slice (some ⟨g9, 0, none⟩) 2 cap9], .slice (some ⟨WT.heap.size + 1 + 1, 0, none⟩) 1 1] WG (UniR WG (cC, tC, dC, xC)) := by
    rw [← hE3]
    exact do_one (wr := WG) (fun W h => HG.out.below (HBG.out.trans (h.mono HBG.out.size))) (op := oRSum) (by simp [opsL]) (in_two HBB.out HA.out) (by simp) (xt, xd, xx) WG _ _ _ _ _ (Below.refl _ _) hNG (tens_one (x := (xt, xd, xx)) b3 ⟨HXT.out, HXD.out, HXX.out⟩)
  have HE3 := Lib.hid hE3
  clear hE3 hX h89 hNG hBG hB hS b1 b2 b3 HNO H89
  rw [hTs] at hdo
  refine hdo.mono ?_
  clear hdo hT hTs
  intro e W10 hu
  obtain ⟨vd, vx, rfl, hd, hx, -, B10⟩ := hu.out
  clear hu
  obtain ⟨ad, cd, rfl⟩ : ∃ a c, vd = Value.slice a dC.length c := hd.shape
  obtain ⟨ax, cx, rfl⟩ : ∃ a c, vx = Value.slice a xC.length c := hx.shape
  have HZD := Lib.hid hd
  have HZX := Lib.hid hx
  have HB10 := Lib.hid (HBG.out.trans (B10.mono HBG.out.size))
  have HXX := Lib.hid (HXX.out.below B10)
  have HYB := Lib.hid (HYB.out.below' B10)
  have HYD := Lib.hid (HYD.out.below B10)
  have HYX := Lib.hid (HYX.out.below B10)
  clear hd hx B10
  by_cases hcB : cB = 0
  case neg =>
    go_wp2_with fail
    generalize hW : World.alloc W10 _ = W11
    obtain ⟨hB, hS, b1⟩ := allocs1 hW
    clear hW
    have HB11 := Lib.hid (HB10.out.trans (hB.mono HB10.out.size))
    clear hB hS b1
    refine (live11_any (HG.out.below HB11.out)).mono ?_
    rintro e wl ⟨rfl, Bl⟩
    have HBl := Lib.hid (HB11.out.trans (Bl.mono HB11.out.size))
    clear Bl
    go_wp2
    go_ret
    exact ⟨rfl, HBl.out⟩
  subst hcB
  by_cases hcC : cC = 0
  case neg =>
    go_wp2_with fail
    generalize hW : World.alloc W10 _ = W11
    obtain ⟨hB, hS, b1⟩ := allocs1 hW
    clear hW
    have HB11 := Lib.hid (HB10.out.trans (hB.mono HB10.out.size))
    clear hB hS b1
    refine (live11_any (HG.out.below HB11.out)).mono ?_
    rintro e wl ⟨rfl, Bl⟩
    have HBl := Lib.hid (HB11.out.trans (Bl.mono HB11.out.size))
    clear Bl
    go_wp2
    go_ret
    exact ⟨rfl, HBl.out⟩
  subst hcC
  obtain ⟨r0, r1, r2⟩ := BoxN.three (x0 := .int .i64 tB) (x1 := .slice ad8 dB.length cd8) (x2 := .slice ax8 xB.length cx8) (blk_keep HYB.out (Obj.cells #[.int .i64 tC, .slice ad dC.length cd, .slice ax xC.length cx] 38))
  go_wp2_with fail
  clear r0 r1 r2
  generalize hW : World.alloc W10 _ = W11
  obtain ⟨hB, hS, b1⟩ := allocs1 hW
  clear hW
  have HB11 := Lib.hid (HB10.out.trans (hB.mono HB10.out.size))
  obtain ⟨e1, e2, e3⟩ := red_twice (n1 := axN oRSum [a] 1) (n2 := axN oRSum [b] 1) (n3 := axN oRSum [b, a] 1) (good_sum [a] 1) (good_sum [b] 1) (good_sum [b, a] 1) (Or.inr rfl) rfl rfl HXX.out.wf.2 (Or.inr ⟨sum_list, HX1.out⟩) HE1.out HE2.out HE3.out
  subst e1 e2 e3
  refine (stensor_any _ _ _ (HYD.out.below hB) (HYX.out.below hB) (HZD.out.below hB) (HZX.out.below hB)).mono ?_
  rintro e W12 ⟨rfl, B12⟩
  have HB12 := Lib.hid (HB11.out.trans (B12.mono HB11.out.size))
  clear B12 b1 hB hS
  go_wp2_with fail
  refine (live11_any (HG.out.below HB12.out)).mono ?_
  rintro e wl ⟨rfl, Bl⟩
  have HBl := Lib.hid (HB12.out.trans (Bl.mono HB12.out.size))
  clear Bl
  go_wp2
  go_ret
  exact ⟨rfl, HBl.out⟩
theorem ints_walk (a b : Int) {w : World} {v : Value} {t : Tn} {vd vx : Value} (ev : v = .agg #[.int .i64 t.1, vd, vx]) (h1 : InI t.1) (h2 : IntsIn w vd t.2.1) (h3 : IntsIn w vx t.2.2) (ha : InI a) (hb : InI b) (hG : Glob w) :
    Calls Tryz.prog 7 #[v, .int .i64 a, .int .i64 b] w fun e w' => e = .returned (.bool true) ∧ Below w.heap.size w w' := ints_any ⟨vd, vx, ev, h1, h2, h3⟩ ha hb hG

end Go.Proofs.YtagiipecfdmceaaGreatDoor
