/- The walk of live.Apart. -/
import Derived.Test.YtlbhepfbogcipaaDoorLvW
import Derived.Test.YtlbhepfbogcipaaDoorReg
import Derived.BigRegion
import Derived.BigQuiet
import Derived.Deep.QuietTactic
set_option linter.unusedVariables false
set_option linter.unusedSimpArgs false
namespace Go.Proofs.YtlbhepfbogcipaaDoor
open Go.RowKit

theorem eg_apart1 : ∀ args w, (callFunc 15 args).run Tryd.prog w = .ok (.enter 15 args) w := enters_of Tryd.func15 (by kernel_rfl) rfl
theorem eg_apart2 : ∀ args w, (callFunc 16 args).run Tryd.prog w = .ok (.enter 16 args) w := enters_of Tryd.func16 (by kernel_rfl) rfl

set_option maxHeartbeats 1000000 in
theorem apart1_any {w : World} (x : Vl) (vd : Value) {A8 A4 : Addr} {b off len cap p : Nat} {s : ByteArray} (h8 : w.cell? A8 = some (.slice (some ⟨b, off, none⟩) len cap)) (h4 : w.cell? A4 = some (.int .i64 (p : Int))) (hp : p < len) (hc : w.cell? ⟨b, off + p * 5 + 3, none⟩ = some (.string s)) :
    Calls Tryd.prog 15 #[.agg #[.string x.name, .int .i64 x.typ, vd], .pointer (some A8), .pointer (some A4)] w fun e w' => e = .returned (.bool (decide (x.name = s))) ∧ Below w.heap.size w w' := by
  have g8 := cell_alloc h8 (.cells #[Value.string x.name, Value.int IntKind.i64 x.typ, vd] 44)
  have g4 := cell_alloc h4 (.cells #[Value.string x.name, Value.int IntKind.i64 x.typ, vd] 44)
  have gc := cell_alloc hc (.cells #[Value.string x.name, Value.int IntKind.i64 x.typ, vd] 44)
  have hp0 : ¬ (p : Int) < 0 := by omega
  have hp1 : (p : Int) < (len : Int) := by omega
  have HX := Lib.hid (BoxN.new w #[Value.string x.name, Value.int IntKind.i64 x.typ, vd] 44)
  go_enter Tryd.func15, Tryd.ntmps15
  go_wp2_with fail
  go_quiet (fail)
  go_wp2_with fail
  go_ret
  refine ⟨ret_val (bool_val ?_), below_dN ((Below.refl _ _).alloc (Nat.le_refl _) _) _⟩
  by_cases e : x.name = s
  · simp [e]
  · have : ¬ x.name.toList = s.toList := fun c => e (toList_inj c)
    simp [e, this]

set_option maxHeartbeats 1000000 in
theorem apart2_any {w : World} {Ab Aq : Addr} {B n r q br : Nat} {t : Bool} (h1 : w.cell? Ab = some (.slice (some ⟨B, 0, none⟩) n n)) (hq : w.cell? Aq = some (.int .i64 (q : Int))) (hr : r < n) (hqn : q < n) (h2 : w.cell? ⟨B, r, none⟩ = some (.slice (some ⟨br, 0, none⟩) n n)) (h3 : w.cell? ⟨br, q, none⟩ = some (.bool t)) :
    Calls Tryd.prog 16 #[.int .i64 (r : Int), .pointer (some Ab), .pointer (some Aq)] w fun e w' => e = .returned (.bool (!t)) ∧ Below w.heap.size w w' := by
  have hr0 : ¬ (r : Int) < 0 := by omega
  have hr1 : (r : Int) < (n : Int) := by omega
  have hq0 : ¬ (q : Int) < 0 := by omega
  have hq1 : (q : Int) < (n : Int) := by omega
  go_enter Tryd.func16, Tryd.ntmps16
  go_wp2_with fail
  go_quiet (fail)
  go_wp2_with fail
  go_ret
  exact ⟨ret_val (bool_val rfl), below_dN (Below.refl _ _) _⟩

/-- What Apart answers. -/
def apartE (g : Gr) (a b : Int) : Int := if orderE g ≠ 0 then orderE g else if a = b ∨ min a b < 0 ∨ ((sortedL g).length : Int) ≤ max a b then 1 else 0
def apartX (g : Gr) (a b : Int) : Bool := if apartE g a b = 0 then apartB (sortedL g) g.outs a.toNat b.toNat else false
def ApartR (w : World) (g : Gr) (a b : Int) (e : Ending) (w' : World) : Prop := e = .returned (.tuple #[.bool (apartX g a b), .int .i64 (apartE g a b)]) ∧ Below w.heap.size w w'
theorem apartE_bad {g : Gr} {a b x : Int} (h : orderE g = x) (hx : x ≠ 0) : apartE g a b = x := by unfold apartE; rw [if_pos (by rw [h]; exact hx), h]
theorem apartE_arg {g : Gr} {a b : Int} (h : orderE g = 0) (hb : a = b ∨ min a b < 0 ∨ ((sortedL g).length : Int) ≤ max a b) : apartE g a b = 1 := by unfold apartE; rw [if_neg (by rw [h]; decide), if_pos hb]
theorem apartE_good {g : Gr} {a b : Int} (h : orderE g = 0) (hb : ¬ (a = b ∨ min a b < 0 ∨ ((sortedL g).length : Int) ≤ max a b)) : apartE g a b = 0 := by unfold apartE; rw [if_neg (by rw [h]; decide), if_neg hb]
theorem ApartR.bad {w w' : World} {g : Gr} {a b x : Int} (h : apartE g a b = x) (hx : x ≠ 0) (hB : Below w.heap.size w w') : ApartR w g a b (.returned (.tuple #[.bool false, .int .i64 x])) w' := by
  refine ⟨?_, hB⟩
  unfold apartX
  rw [h, if_neg hx]
theorem ApartR.good {w w' : World} {g : Gr} {a b : Int} {p q : Nat} {x : Bool} (h : apartE g a b = 0) (hp : min a b = (p : Int)) (hq : max a b = (q : Int)) (hx : doneB (sortedL g) g.outs p q = x) (hB : Below w.heap.size w w') : ApartR w g a b (.returned (.tuple #[.bool x, .int .i64 0])) w' := by
  refine ⟨?_, hB⟩
  unfold apartX apartB
  rw [h, if_pos rfl, show min a.toNat b.toNat = p by omega, show max a.toNat b.toNat = q by omega, hx]
theorem min_zero {a b : Int} : ¬ min a b < 0 ↔ 0 ≤ a ∧ 0 ≤ b := by omega
theorem BoxN.keepS {w : World} {b : Nat} {cs : Array Value} {t : TypeId} (h : BoxN w b cs t) {p : Addr} (x : Value) (hn : b ≠ p.block) : BoxN (w.setCell p x) b cs t := (Below.heap_setCell _ _ _ _ hn).trans h
theorem boxN_new {W : World} {b : Nat} {cs : Array Value} {t : TypeId} (h : b = W.heap.size) : BoxN (W.alloc (.cells cs t)) b cs t := by subst h; exact BoxN.new _ _ _
theorem min_if (a b : Int) : (if b < a then b else a) = min a b := by
  rw [Int.min_def]
  split <;> split <;> omega
theorem max_if (a b : Int) : (if a < b then b else a) = max a b := by
  rw [Int.max_def]
  split <;> split <;> omega

attribute [local irreducible] orderE orderL work hasS namesG picked sortedL rdsL befB doneB apartB apartE apartX

set_option maxRecDepth 100000 in
set_option maxHeartbeats 4000000 in
theorem apart_any {w : World} {v : Value} {g : Gr} {a b : Int} (h : GraphV w v g) (hG : Glob w) (ha : InI a) (hb : InI b) :
    Calls Tryd.prog 9 #[v, .int .i64 a, .int .i64 b] w fun e w' => ApartR w g a b e w' := by
  have HS := Lib.hid (fun (W : World) (vi : Value) (h : GraphV w vi g) (hB : Below w.heap.size w W) (hG : Glob W) => sorted_any h hB hG)
  have HR := Lib.hid (fun (W : World) (vi : Value) (h : SlIn 5 rdNodeG W vi (sortedL g)) (hE : orderE g = 0) => lreaders_any h (sorted_outs hE) (sortedL_le g))
  have HT := Lib.hid (fun (W : World) (vi : Value) (h : TabN W vi (sortedL g).length (rdsL (sortedL g))) => rows_any h (sortedL_le g) (rds_lt _) (fun i b _ => befB_step i b))
  obtain ⟨vn, vi, vo, vt, rfl, hg⟩ := h
  obtain ⟨ao, co, rfl⟩ := hg.outs.form
  have HN := Lib.hid hg
  have HGl := Lib.hid hG
  clear hg hG
  unfold Gr.val
  go_enter Tryd.func9, Tryd.ntmps9
  go_wp2_with fail
  have hB1 : Hid (Below w.heap.size w (((w.alloc (Obj.cells #[Value.string g.name, vn, vi, .slice ao g.outs.length co, vt] 26)).alloc (.cells #[.int .i64 a] 3)).alloc (.cells #[.int .i64 b] 3))) := Lib.hid ((((Below.refl _ w).alloc (Nat.le_refl _) _).alloc (by simp) _).alloc (by simp; omega) _)
  have hA3 : Hid (BoxN (((w.alloc (Obj.cells #[Value.string g.name, vn, vi, .slice ao g.outs.length co, vt] 26)).alloc (.cells #[.int .i64 a] 3)).alloc (.cells #[.int .i64 b] 3)) w.heap.size #[Value.string g.name, vn, vi, .slice ao g.outs.length co, vt] 26) := Lib.hid (((BoxN.new w _ _).below' ((Below.refl _ _).alloc (Nat.le_refl _) _)).below' ((Below.refl _ _).alloc (Nat.le_refl _) _))
  have hA4 : Hid (BoxN (((w.alloc (Obj.cells #[Value.string g.name, vn, vi, .slice ao g.outs.length co, vt] 26)).alloc (.cells #[.int .i64 a] 3)).alloc (.cells #[.int .i64 b] 3)) (w.heap.size + 1) #[.int .i64 a] 3) := Lib.hid ((boxN_new (by simp)).below' ((Below.refl _ _).alloc (Nat.le_refl _) _))
  have hA5 : Hid (BoxN (((w.alloc (Obj.cells #[Value.string g.name, vn, vi, .slice ao g.outs.length co, vt] 26)).alloc (.cells #[.int .i64 a] 3)).alloc (.cells #[.int .i64 b] 3)) (w.heap.size + 1 + 1) #[.int .i64 b] 3) := Lib.hid (boxN_new (by simp))
  have hS1 : Hid ((((w.alloc (Obj.cells #[Value.string g.name, vn, vi, .slice ao g.outs.length co, vt] 26)).alloc (.cells #[.int .i64 a] 3)).alloc (.cells #[.int .i64 b] 3)).heap.size = w.heap.size + 3) := Lib.hid (by simp)
  generalize World.alloc (World.alloc (w.alloc _) _) _ = W1 at hB1 hA3 hA4 hA5 hS1 ⊢
  refine (HS.out W1 _ ⟨_, _, _, _, rfl, HN.out⟩ hB1.out (HGl.out.below hB1.out)).mono ?_
  rintro e w5 ⟨v5, ns, rfl, hs5, B5⟩
  have HB5 : Hid (Below W1.heap.size W1 w5) := Lib.hid B5
  have HS5 := Lib.hid hs5
  clear B5 hs5
  obtain ⟨a5, c5, hv5⟩ := owns_form HS5.out.row
  subst hv5
  generalize hce : orderE g = ce
  have HCE := Lib.hid hce
  clear hce
  have HB6 : Hid (Below W1.heap.size W1 (w5.alloc (.cells #[.slice a5 (sortedL g).length c5] 22))) := Lib.hid (HB5.out.alloc HB5.out.size _)
  have HA8 : Hid (BoxN (w5.alloc (.cells #[.slice a5 (sortedL g).length c5] 22)) w5.heap.size #[.slice a5 (sortedL g).length c5] 22) := Lib.hid (BoxN.new _ _ _)
  have HS6 : Hid (NodesR w (w5.alloc (.cells #[.slice a5 (sortedL g).length c5] 22)) W1.heap.size (sortedL g) (.slice a5 (sortedL g).length c5) ns) := Lib.hid (RowO.keep HS5.out (keep_below (ts := [48]) ((Below.refl _ w5).alloc (Nat.le_refl _) _)) (by decide) (fun _ _ h => h))
  have h58 : Hid (w.heap.size + 3 ≤ w5.heap.size) := Lib.hid (by have := hS1.out; have := HB5.out.size; omega)
  have HB : Hid (Below w.heap.size w (w5.alloc (.cells #[.slice a5 (sortedL g).length c5] 22))) := Lib.hid (hB1.out.trans (HB6.out.mono hB1.out.size))
  have HA3 := Lib.hid (hA3.out.below' HB6.out)
  have HA4 := Lib.hid (hA4.out.below' HB6.out)
  have HA5 := Lib.hid (hA5.out.below' HB6.out)
  clear HS5 HB5 hA3 hA4 hA5
  by_cases hz : ce = 0
  · have hzb : (ce != 0) = false := by simpa using hz
    have HE0 := Lib.hid (HCE.out.trans hz)
    clear hz
    obtain ⟨m, hm⟩ : ∃ m, min a b = m := ⟨_, rfl⟩
    obtain ⟨M, hM⟩ : ∃ M, max a b = M := ⟨_, rfl⟩
    have HM1 : Hid (min a b = m) := Lib.hid hm
    have HM2 : Hid (max a b = M) := Lib.hid hM
    have x4 := HA4.out.cell 0 rfl
    have x5 := HA5.out.cell 0 rfl
    have x8 := HA8.out.cell 0 rfl
    have hln := sortedL_le g
    by_cases hab : a = b
    · have HE := Lib.hid (apartE_arg (g := g) (a := a) (b := b) HE0.out (Or.inl hab))
      have hbb : (a == b) = true := by simpa using hab
      clear hab hm hM
      go_wp2_with fail
      go_ret2
      exact ApartR.bad HE.out (by decide) HB.out
    · have hbb : (a == b) = false := by simpa using hab
      by_cases hm0 : m < 0
      · have HE := Lib.hid (apartE_arg (g := g) (a := a) (b := b) HE0.out (Or.inr (Or.inl (by rw [HM1.out]; exact hm0))))
        clear hab
        go_wp2_with fail
        go_ret2
        exact ApartR.bad HE.out (by decide) HB.out
      · by_cases hMl : ((sortedL g).length : Int) ≤ M
        · have HE := Lib.hid (apartE_arg (g := g) (a := a) (b := b) HE0.out (Or.inr (Or.inr (by rw [HM2.out]; exact hMl))))
          clear hab
          go_wp2_with fail
          go_ret2
          exact ApartR.bad HE.out (by decide) HB.out
        · have HE := Lib.hid (apartE_good (g := g) (a := a) (b := b) HE0.out (by rw [HM1.out, HM2.out]; exact fun c => c.elim hab (fun c => c.elim hm0 hMl)))
          have hpq : Hid (0 ≤ m ∧ m < M) := Lib.hid ⟨by omega, by have h1 := HM1.out; have h2 := HM2.out; omega⟩
          obtain ⟨p, rfl⟩ : ∃ p : Nat, m = (p : Int) := ⟨m.toNat, by omega⟩
          obtain ⟨q, rfl⟩ : ∃ q : Nat, M = (q : Int) := ⟨M.toNat, by have := hpq.out; omega⟩
          have hql : q < (sortedL g).length := by omega
          have hpq' : p < q := by have := hpq.out.2; omega
          have hpl : p < (sortedL g).length := by omega
          have hp0 : decide ((p : Int) < 0) = false := by simp
          have hq0 : ¬ (sortedL g).length ≤ q := by omega
          clear hab hMl hm0
          have f4 := HA4.out.frozen 0
          have f5 := HA5.out.frozen 0
          go_wp2_with fail
          go_region
          generalize hW : World.setCell _ _ _ = W2
          have HB7 : Hid (Below w.heap.size w W2) := Lib.hid (by rw [← hW]; exact (HB.out.setCell (by simp) _).setCell (by simp; omega) _)
          have HA4' : Hid (BoxN W2 (w.heap.size + 1) #[.int .i64 (p : Int)] 3) := Lib.hid (by rw [← hW]; exact (HA4.out.set 0 _).keepS _ (by simp))
          have HA5' : Hid (BoxN W2 (w.heap.size + 1 + 1) #[.int .i64 (q : Int)] 3) := Lib.hid (by rw [← hW]; exact (HA5.out.keepS _ (by simp)).set 0 _)
          have HA8' : Hid (BoxN W2 w5.heap.size #[.slice a5 (sortedL g).length c5] 22) := Lib.hid (by rw [← hW]; have := h58.out; exact (HA8.out.keepS _ (by simp; omega)).keepS _ (by simp; omega))
          have HA3' : Hid (BoxN W2 w.heap.size #[Value.string g.name, vn, vi, .slice ao g.outs.length co, vt] 26) := Lib.hid (by rw [← hW]; exact (HA3.out.keepS _ (by simp)).keepS _ (by simp; omega))
          have HS7 : Hid (NodesR w W2 W1.heap.size (sortedL g) (.slice a5 (sortedL g).length c5) ns) := Lib.hid (by rw [← hW]; exact RowO.keep (RowO.keep HS6.out (keep_set (ts := [48]) HA4.out (by decide)) (by decide) (fun _ _ h => h)) (keep_set (ts := [48]) (HA5.out.keepS _ (by simp)) (by decide)) (by decide) (fun _ _ h => h))
          clear hW HB6 HS6 HB HA3 HA4 HA5 HA8 x4 x5 x8 f4 f5
          have HD := Lib.hid (Below.refl W2.heap.size W2).drew
          have HSn := Lib.hid (NodesR.reads' HS7.out HB7.out (by omega))
          generalize W2.drew = W3 at HD ⊢
          have HS8 : Hid (SlIn 5 rdNodeG W3 (.slice a5 (sortedL g).length c5) (sortedL g)) := Lib.hid (HSn.out.below (rdNodeG_below HD.out) HD.out)
          have HB8 : Hid (Below w.heap.size w W3) := Lib.hid (HB7.out.trans (HD.out.mono HB7.out.size))
          have HA3 := Lib.hid (HA3'.out.below' HD.out)
          have HA4 := Lib.hid (HA4'.out.below' HD.out)
          have HA5 := Lib.hid (HA5'.out.below' HD.out)
          have HA8 := Lib.hid (HA8'.out.below' HD.out)
          clear HS7 HSn HA3' HA4' HA5' HA8' HD HB7
          obtain ⟨x, hx⟩ : ∃ x, (sortedL g)[p]? = some x := ⟨_, List.getElem?_eq_getElem hpl⟩
          have HX0 : Hid ((sortedL g).getD p Nd.zero = x) := Lib.hid (by simp [List.getD, hx])
          obtain ⟨b8, o8, c8, _, _, hv8, hb8, _, _, _, cx3, _⟩ := node_at HS8.out hx
          obtain ⟨rfl, _, rfl⟩ := Value.slice.inj hv8
          have x3 := HA3.out.cell 3 rfl
          have x4 := HA4.out.cell 0 rfl
          have x5 := HA5.out.cell 0 rfl
          have x8 := HA8.out.cell 0 rfl
          have HC : Hid (Calls Tryd.prog 14 #[.slice ao g.outs.length co, .func (.func 15) #[] #[.pointer (some ⟨w5.heap.size, 0, none⟩), .pointer (some ⟨w.heap.size + 1, 0, none⟩)]] W3 fun e w' => e = .returned (.bool (g.outs.any fun v => decide (v.name = x.out))) ∧ Below W3.heap.size W3 w') :=
            Lib.hid (containsV_any (HN.out.below HB8.out).outs _ _ eg_apart1 _ (fun W y vd hB hy => apart1_any y vd (HA8.out.below' hB |>.cell 0 rfl) (HA4.out.below' hB |>.cell 0 rfl) hpl ((hB.cell (p := ⟨b8, o8 + p * 5 + 3, none⟩) hb8).trans cx3)))
          clear hx hv8 cx3 hb8
          have hmf : ∀ (fn : Fn) (first cap : Array Value) (w : World), (Instr.makeFunc fn first cap).run Tryd.prog w = .ok (.func fn first cap) w := fun _ _ _ _ => rfl
          generalize hany : (g.outs.any fun v => decide (v.name = x.out)) = t at HC
          cases t with
          | true =>
            have HD0 : Hid (doneB (sortedL g) g.outs p q = false) := Lib.hid (by unfold doneB; rw [HX0.out, hany]; simp)
            clear hany
            go_wp2_with (go_at_call 14; refine HC.out.mono ?_; rintro e w9 ⟨rfl, B9⟩; have HB9 := Lib.hid (HB8.out.trans (B9.mono HB8.out.size)); clear B9)
            go_ret2
            exact ApartR.good HE.out HM1.out HM2.out HD0.out HB9.out
          | false =>
            have HAny := Lib.hid hany
            clear hany
            go_wp2_with (first | (go_at_call 14; refine HC.out.mono ?_; rintro e w9 ⟨rfl, B9⟩; have HB9 := Lib.hid B9; have y8 := (HA8.out.below' B9).cell 0 rfl; clear B9) | fail)
            refine (HR.out _ _ (HS8.out.below (rdNodeG_below HB9.out) HB9.out) HE0.out).mono ?_
            rintro e w10 ⟨B10, v10, rfl, ht10⟩
            have HB10 : Hid (Below W3.heap.size W3 w10) := Lib.hid (HB9.out.trans (B10.mono HB9.out.size))
            have HT10 := Lib.hid ht10
            clear B10 ht10
            go_wp2_with fail
            refine (HT.out _ _ HT10.out).mono ?_
            rintro e w11 ⟨B11, v11, rfl, ht11⟩
            have HB11 : Hid (Below W3.heap.size W3 w11) := Lib.hid (HB10.out.trans (B11.mono HB10.out.size))
            have HT11 := Lib.hid ht11
            have HT11' := Lib.hid (HT10.out.below B11)
            clear B11 ht11 HT10 HB10 HB9 y8
            obtain ⟨Bt, hvt, hbt, ht⟩ := HT11.out.rows
            subst hvt
            obtain ⟨Br, hvr, hbr, hr⟩ := HT11'.out.rows
            subst hvr
            go_wp2_with fail
            have hB12 : Hid (Below w11.heap.size w11 (w11.alloc (Obj.cells #[Value.slice (some { block := Bt, off := 0 }) (sortedL g).length (sortedL g).length] 31))) := Lib.hid ((Below.refl _ _).alloc (Nat.le_refl _) _)
            have hA12 : Hid (BoxN (w11.alloc (Obj.cells #[Value.slice (some { block := Bt, off := 0 }) (sortedL g).length (sortedL g).length] 31)) w11.heap.size #[Value.slice (some { block := Bt, off := 0 }) (sortedL g).length (sortedL g).length] 31) := Lib.hid (BoxN.new _ _ _)
            generalize w11.alloc _ = W12 at hB12 hA12 ⊢
            obtain ⟨r, hr1, hr2⟩ := hr p hpl
            obtain ⟨br, ht1, ht2, ht3⟩ := ht p hpl
            have HB13 : Hid (Below W3.heap.size W3 W12) := Lib.hid (HB11.out.trans (hB12.out.mono HB11.out.size))
            have HR2 := Lib.hid (hr2.below hB12.out)
            have HF : Hid (∀ W', Below W12.heap.size W12 W' → W'.cell? ⟨w11.heap.size, 0, none⟩ = some (.slice (some { block := Bt, off := 0 }) (sortedL g).length (sortedL g).length) ∧ W'.cell? ⟨w.heap.size + 1, 0, none⟩ = some (.int .i64 (p : Int)) ∧ W'.cell? ⟨w.heap.size + 1 + 1, 0, none⟩ = some (.int .i64 (q : Int)) ∧ W'.cell? ⟨Bt, p, none⟩ = some (.slice (some ⟨br, 0, none⟩) (sortedL g).length (sortedL g).length) ∧ W'.cell? ⟨br, q, none⟩ = some (.bool (befB (sortedL g) p q)) ∧ W'.cell? ⟨Br, p, none⟩ = some r) := Lib.hid fun W' hW => by
              have hs := hB12.out.size
              refine ⟨(hA12.out.below' hW).cell 0 rfl, ((HA4.out.below' HB13.out).below' hW).cell 0 rfl, ((HA5.out.below' HB13.out).below' hW).cell 0 rfl, ?_, ?_, ?_⟩
              · exact (hW.cell (p := ⟨Bt, p, none⟩) (by show Bt < _; omega)).trans ((hB12.out.cell (p := ⟨Bt, p, none⟩) hbt).trans ht1)
              · exact (hW.cell (p := ⟨br, q, none⟩) (by show br < _; omega)).trans ((hB12.out.cell (p := ⟨br, q, none⟩) ht2).trans (ht3 q hql))
              · exact (hW.cell (p := ⟨Br, p, none⟩) (by show Br < _; omega)).trans ((hB12.out.cell (p := ⟨Br, p, none⟩) hbr).trans hr1)
            have HC2 : Hid (∀ W, Below W12.heap.size W12 W → Calls Tryd.prog 17 #[r, .func (.func 16) #[] #[.pointer (some ⟨w11.heap.size, 0, none⟩), .pointer (some ⟨w.heap.size + 1 + 1, 0, none⟩)]] W fun e w' => e = .returned (.bool (((rdsL (sortedL g) p).map fun (i : Nat) => (i : Int)).any fun z => !befB (sortedL g) z.toNat q)) ∧ Below W.heap.size W w') := Lib.hid fun W hW => by
              refine containsM_any (HR2.out.below hW) _ _ eg_apart2 _ (fun W' z hW' hz => ?_)
              obtain ⟨i, hi, rfl⟩ := List.mem_map.1 hz
              have hil := (rds_lt _ p hpl i hi).2
              obtain ⟨bi, hi1, hi2, hi3⟩ := ht i hil
              have hs := hB12.out.size
              have hW2 := hW.trans (hW'.mono hW.size)
              refine apart2_any (B := Bt) (n := (sortedL g).length) (r := i) (q := q) (br := bi) ((hA12.out.below' hW2).cell 0 rfl) (((HA5.out.below' HB13.out).below' hW2).cell 0 rfl) hil hql ?_ ?_
              · exact (hW2.cell (p := ⟨Bt, i, none⟩) (by show Bt < _; omega)).trans ((hB12.out.cell (p := ⟨Bt, i, none⟩) hbt).trans hi1)
              · exact (hW2.cell (p := ⟨bi, q, none⟩) (by show bi < _; omega)).trans ((hB12.out.cell (p := ⟨bi, q, none⟩) hi2).trans (hi3 q hql))
            have HBl : Hid (Below w.heap.size w W12) := Lib.hid (HB8.out.trans (HB13.out.mono HB8.out.size))
            have hp0' : ¬ (p : Int) < 0 := by omega
            have hp1' : (p : Int) < ((sortedL g).length : Int) := by omega
            have hq0' : ¬ (q : Int) < 0 := by omega
            have hq1' : (q : Int) < ((sortedL g).length : Int) := by omega
            clear hr ht hr1 hr2 ht1 ht2 ht3 HT11 HT11' HC HA8 HA3 HS8 x3 x4 x5 x8
            generalize hbf : befB (sortedL g) p q = t at HF
            have HBF := Lib.hid hbf
            clear hbf
            cases t with
            | false =>
              have HD0 : Hid (doneB (sortedL g) g.outs p q = false) := Lib.hid (by unfold doneB; rw [HBF.out]; simp)
              obtain ⟨y1, y2, y3, y4, y5, y6⟩ := HF.out W12 (Below.refl _ _)
              go_quiet (fail)
              go_wp2_with fail
              go_ret2
              exact ApartR.good HE.out HM1.out HM2.out HD0.out (below_dN HBl.out _)
            | true =>
              have HD0 : Hid (doneB (sortedL g) g.outs p q = !(((rdsL (sortedL g) p).map fun (i : Nat) => (i : Int)).any fun z => !befB (sortedL g) z.toNat q)) := Lib.hid (by
                unfold doneB
                rw [HX0.out, HAny.out, HBF.out]
                simp [List.any_map, List.all_eq_not_any_not, Function.comp_def])
              generalize (((rdsL (sortedL g) p).map fun (i : Nat) => (i : Int)).any fun z => !befB (sortedL g) z.toNat q) = y at HC2 HD0
              refine wp_region_plan 14 [0, 1, 2, 3, 4, 5, 6, 7, 8, 9, 10, 11, 12, 13] (fun W' => Below W12.heap.size W12 W') (by kernel_rfl) (by kernel_rfl) (fun _ d _ _ _ h => by cases d <;> exact h) (Below.refl _ _).drew ?_
              have B0 : Hid (Below W12.heap.size W12 W12.drew) := Lib.hid (Below.refl _ _).drew
              repeat
                refine plan_read (v := ?_) rfl rfl (Or.inl ⟨by rfl, ?_⟩) ?_
                rotate_left
                · intro w' hSw
                  obtain ⟨y1, y2, y3, y4, y5, y6⟩ := HF.out w' hSw
                  go_simp
                  try with_reducible rfl
                try simp only [Act.put, List.getElem_toArray, List.getElem_cons_zero, List.getElem_cons_succ, List.setIfInBounds_toArray, List.set_cons_zero, List.set_cons_succ]
              refine plan_act rfl rfl (fun K' hK => ?_)
              go_simp
              refine (HC2.out _ B0.out).mono ?_
              rintro e w13 ⟨rfl, B⟩
              have B1 := Lib.hid (B0.out.trans (B.mono B0.out.size))
              refine hK.out _ _ B1.out ?_
              clear hK K' B
              refine plan_tail rfl ?_
              simp only [List.toList_toArray, List.drop_succ_cons, List.drop_zero]
              have HBz := Lib.hid (HBl.out.trans (B1.out.mono HBl.out.size))
              clear HC2 HF B0 B1
              go_wp2_with fail
              go_ret2
              exact ApartR.good HE.out HM1.out HM2.out HD0.out HBz.out
  · have hzb : (ce != 0) = true := by simpa using hz
    have HZ := Lib.hid hz
    clear hz
    go_wp2
    go_ret2
    exact ApartR.bad (apartE_bad HCE.out HZ.out) HZ.out HB.out

end Go.Proofs.YtlbhepfbogcipaaDoor
