/- The walk of view.Read: what a view shows of elements. -/
import Derived.Test.YtfdafceolkmkoaaViewK
import Derived.RegionIn
import Derived.Shelf.RegionOpen
set_option linter.unusedVariables false
namespace Go.Proofs.Ytfdafceolkmkoaa
open Go.RowKit Go.Shelf Vw

attribute [local go_sem] Oper.semAt_some

theorem wanted_none {o : Oper} (h : o.guard = none) (y : Nat → Option Bool) : Region.wanted o y = true := by
  unfold Region.wanted; rw [h]

theorem op_append {F : Fence} {n : Nat} {P : Program} {o : Oper} {a : Act} {w w' : World} {K : Act → World → Prop} {Q : Exit → Act → World → Prop} {s x : Operand} {t : TypeId} {v u v' : Value}
    (hop : o.op = Op.call { callee := Callee.builtin Builtin.append, args := #[s, x], argTypes := #[t, t] }) (hs : a.eval s = v) (hx : a.eval x = u)
    (hrun : (Builtin.append_ #[t, t] o.type #[v, u]).run P w = .ok v' w') (hK : K (a.put o.dst v') w') : o.wpIn F n P a w K Q := by
  unfold Oper.wpIn
  refine ⟨?_, ?_⟩
  · simp [Oper.about, hop, resolve, Target.leads, Sem.run_pure]
  · rw [Oper.semAt_plain F _ _ (by rw [hop]; intro c hc'; cases hc')]
    simp [execOp, hop, resolve, invoke, builtin, hs, hx, hrun, Result.andThen]
    exact hK

theorem places_any (b0 : Int) (d s : Value) (w : World) :
    Calls Try.prog 45 #[.agg #[.int .i64 b0, d, s]] w fun e w' => e = .returned (.func (.func 55) #[] #[.pointer (some ⟨w.heap.size, 0, none⟩)]) ∧ w' = w.alloc (.cells #[.int .i64 b0, d, s] 24) := by
  go_enter Try.func45, Try.ntmps45
  go_wp2
  go_ret
  exact ⟨rfl, rfl⟩

/-- Numbers of 64 bits, as cells. -/
def got (data : List Int) (ps : List Int) : List Value := ps.map fun p => Value.int .i64 (data.getD p.toNat 0)

/-- 'out = append(out, x)', out in a box that lies below its row. -/
theorem appended_below {W w1 : World} {S B : Nat} {t e : TypeId} {v v' : Value} {k m : Nat} {xs ys : List Value} {tmp : Obj}
    (hv : Boxed W S t v) (hrow : W.ownsRow (B + 1) e 1 v k xs) (hS : S < B) (hB : B < W.heap.size)
    (hown' : w1.ownsRow (B + 1) e 1 v' m ys) (hgrow : (W.alloc tmp).grownBy w1 v.ownBlock) :
    Boxed w1 S t v ∧ Boxed (w1.setCell ⟨S, 0, none⟩ v') S t v' ∧ (w1.setCell ⟨S, 0, none⟩ v').ownsRow (B + 1) e 1 v' m ys ∧ KeepsOthers W (w1.setCell ⟨S, 0, none⟩ v') ∧
      (∀ n₁, n₁ ≤ S → Below n₁ W (w1.setCell ⟨S, 0, none⟩ v')) ∧ ∀ b, b ≤ B → b ≠ S → (w1.setCell ⟨S, 0, none⟩ v').heap[b]? = W.heap[b]? := by
  have hge : ∀ g, v.ownBlock = some g → B + 1 ≤ g := fun g hg => (hrow.lt g hg).1
  have hne : ∀ b, b ≤ B → some b ≠ v.ownBlock := fun b hb e' => by have := hge b e'.symm; omega
  have hblk : ∀ b, b ≤ B → w1.heap[b]? = W.heap[b]? := fun b hb => (hgrow.block b (by simp; omega) (hne b hb)).trans (Below.heap_alloc W tmp b (by omega))
  have hv1 : Boxed w1 S t v := (hblk S (by omega)).trans hv
  refine ⟨hv1, hv1.set v', hown'.kept (grownBy_setCell' w1 S v') ?_, ?_, ?_, ?_⟩
  · rcases hown'.2 with ⟨rfl, _⟩ | ⟨g, cap, cur, rfl, hg, _⟩
    · exact .inl rfl
    · refine .inr fun e' => ?_
      have : g = S := by simpa [Value.ownBlock] using e'
      omega
  · refine ((KeepsOthers.alloc W tmp).trans (KeepsOthers.of_grownBy hgrow fun j o ej hj => ?_)).trans (KeepsOthers.setCell _ _ _)
    rcases (hrow.alloc tmp).2 with ⟨rfl, _⟩ | ⟨g, cap, cur, rfl, _, hgb, _⟩
    · simp [Value.ownBlock] at ej
    · obtain rfl : g = j := by simpa [Value.ownBlock] using ej
      rw [hgb] at hj; cases hj; rfl
  · intro n₁ hn
    exact (((Below.refl n₁ W).alloc (by omega) tmp).grown hgrow (by simp; omega) fun j ej => by have := hge j ej; omega).setCell (p := ⟨S, 0, none⟩) hn v'
  · intro b hb hbS
    exact (Below.heap_setCell _ _ _ b hbS).trans (hblk b hb)

/-- What holds between two rounds. -/
structure RdI (w0 : World) (R1 R2 R3 S B : Nat) (dv : Value) (data : List Int) (pre : List Int) (W : World) : Prop where
  inr : ∀ p ∈ pre, p < data.length
  out : ∃ v, Boxed W S 34 v ∧ W.ownsRow (B + 1) 2 1 v pre.length (got data pre)
  dat : Boxed W R1 34 dv
  res : Boxed W R2 34 (.slice none 0 0)
  err : Boxed W R3 26 (.int .i64 0)
  below : Below w0.heap.size w0 W

/-- A round has returned. -/
structure RdX (w0 : World) (R2 R3 : Nat) (data all : List Int) (W : World) : Prop where
  bad : ∃ p ∈ all, (data.length : Int) ≤ p
  res : Boxed W R2 34 (.slice none 0 0)
  err : Boxed W R3 26 (.int .i64 1)
  below : Below w0.heap.size w0 W

theorem boxed_grown {A A' : World} {row : Option Nat} {b : Nat} {t : TypeId} {v : Value} (h : Boxed A b t v) (hg : A.grownBy A' row) (hne : ∀ r, row = some r → r ≠ b) : Boxed A' b t v :=
  h.kept hg (fun e => hne b e.symm rfl)

variable {w0 : World} {R1 R2 R3 S B : Nat} {dv : Value} {data all pre : List Int}

theorem rdI_grown {A A' : World} {row : Option Nat} (h : RdI w0 R1 R2 R3 S B dv data pre A) (hS : S < B) (hR1 : R1 < S) (hR2 : R2 < S) (hR3 : R3 < S) (h0 : w0.heap.size ≤ S) (hg : A.grownBy A' row) (hr : ∀ r, row = some r → S < r ∧ (r ≤ B ∨ ∃ o, A.heap[r]? = some o ∧ o.isCells = false)) : RdI w0 R1 R2 R3 S B dv data pre A' := by
  obtain ⟨v, hv, hrow⟩ := h.out
  have hne : ∀ b, b ≤ S → ∀ r, row = some r → r ≠ b := fun b hb r e => by have := (hr r e).1; omega
  refine ⟨h.inr, ⟨v, boxed_grown hv hg (hne S (by omega)), hrow.kept hg ?_⟩, boxed_grown h.dat hg (hne _ (by omega)), boxed_grown h.res hg (hne _ (by omega)), boxed_grown h.err hg (hne _ (by omega)), h.below.grown hg h.below.size (fun k e => by have := (hr k e).1; omega)⟩
  rcases hrow.2 with ⟨rfl, _⟩ | ⟨g, cap, cur, rfl, hge, hgb, _⟩
  · exact .inl rfl
  · refine .inr fun e' => ?_
    rcases (hr g (by simpa [Value.ownBlock] using e'.symm)).2 with h1 | ⟨o, ho, hc⟩
    · omega
    · rw [hgb] at ho; cases ho; cases hc

theorem rdX_grown {A A' : World} {row : Option Nat} (h : RdX w0 R2 R3 data all A) (hg : A.grownBy A' row) (hr : ∀ r, row = some r → R2 < r ∧ R3 < r ∧ w0.heap.size ≤ r) : RdX w0 R2 R3 data all A' :=
  ⟨h.bad, boxed_grown h.res hg (fun r e => by have := hr r e; omega), boxed_grown h.err hg (fun r e => by have := hr r e; omega), h.below.grown hg h.below.size (fun k e => by have := hr k e; omega)⟩

theorem rows_mono {W : World} {base base' : Nat} {e : TypeId} {size : Nat} {v : Value} {k : Nat} {xs : List Value} (h : W.ownsRow base e size v k xs) (hb : base' ≤ base) : W.ownsRow base' e size v k xs := by
  obtain ⟨h1, h2⟩ := h
  refine ⟨h1, ?_⟩
  rcases h2 with h | ⟨g, cap, cur, a, b, c⟩
  · exact Or.inl h
  · exact Or.inr ⟨g, cap, cur, a, by omega, c⟩

theorem box_cells {W : World} {b : Nat} {x y z : Value} {t : TypeId} (h : W.heap[b]? = some (.cells #[x, y, z] t (0, 0))) : W.cell? ⟨b, 0, none⟩ = some x ∧ W.cell? ⟨b, 1, none⟩ = some y ∧ W.cell? ⟨b, 2, none⟩ = some z := by
  refine ⟨?_, ?_, ?_⟩ <;> simp [World.cell?, h]

theorem info_int64 : (Try.prog.info? 2).map (fun i => (i.zero, i.size, i.bytes)) = some (some (.int .i64 0), 1, 8) := by kernel_rfl

/-- What a view shows: none: it may not be, or the elements do not reach. -/
def readL (off : Int) (ds ss data : List Int) : Option (List Int) :=
  if mayV off ds ss = true ∧ ∀ p ∈ places off ds ss (pr ds).toNat, p < data.length then some ((places off ds ss (pr ds).toNat).map fun p => data.getD p.toNat 0) else none

theorem places_bound {off : Int} {ds ss : List Int} (hss : ss.length = ds.length) (hlen : ds.length ≤ 6) (hD : ∀ d ∈ ds, 1 ≤ d ∧ d ≤ 65536) (hS : ∀ s ∈ ss, 0 ≤ s ∧ s ≤ 65536) (h0 : 0 ≤ off) (h1 : off ≤ 65535) :
    ∀ x ∈ places off ds ss (pr ds).toNat, 0 ≤ x ∧ x ≤ 1099511627776 := by
  intro x hx
  obtain ⟨k, hk, rfl⟩ := List.mem_map.1 hx
  have hpos : Pos ds := fun d hd => (hD d hd).1
  have hP := pr_pos hpos
  rw [List.mem_range] at hk
  have b := plc_bound (ss := ss) (cs := crd ds (k : Int)) hS (fun c hc => by
    obtain ⟨j, hj, rfl⟩ := List.getElem_of_mem hc
    have hj' : j < ds.length := by rw [crd_length] at hj; exact hj
    have h1 := crd_range hpos (k := (k : Int)) (by omega) (by omega) j hj'
    have h2 := hD _ (getD_mem hj')
    rw [show (crd ds (k : Int)).getD j 0 = (crd ds (k : Int))[j] by simp [List.getD, List.getElem?_eq_getElem hj]] at h1
    omega)
  rw [crd_length] at b
  omega

attribute [local irreducible] crd plc zeros pr nxt places mayV

set_option maxRecDepth 100000 in
set_option maxHeartbeats 2000000 in
theorem read_may (n : Nat) (hn : 4 ≤ n) (off : Int) (a1 a2 ad : Option Addr) (c1 c2 cd : Nat) (ds ss data : List Int) (w : World)
    (hd : Hid (IntsIn w (.slice a1 ds.length c1) ds)) (hs : Hid (IntsIn w (.slice a2 ds.length c2) ss)) (hdat : Hid (IntsIn w (.slice ad data.length cd) data)) (hm : Hid (mayV off ds ss = true))
    (hss : Hid (ss.length = ds.length)) (hlen : ds.length ≤ 6) (hD : Hid (∀ d ∈ ds, 1 ≤ d ∧ d ≤ 65536)) (hS : Hid (∀ s ∈ ss, 0 ≤ s ∧ s ≤ 65536)) (ho0 : 0 ≤ off) (ho1 : off ≤ 65535) (hN : Hid (pr ds ≤ 65536)) :
    CallsIn Fence.wide n Try.prog 21 #[.agg #[.int .i64 off, .slice a1 ds.length c1, .slice a2 ds.length c2], .slice ad data.length cd] w fun e w' =>
      Below w.heap.size w w' ∧ ((∃ l v, readL off ds ss data = some l ∧ e = .returned (.tuple #[v, .int .i64 0]) ∧ w'.ownsRow w.heap.size 2 1 v l.length (l.map (Value.int .i64))) ∨ (readL off ds ss data = none ∧ e = .returned (.tuple #[.slice none 0 0, .int .i64 1]))) := by
  obtain ⟨i0, hi, hz0, hz1, hz2⟩ := info_parts info_int64
  -- the boxes
  obtain ⟨WA, hWA⟩ : ∃ WA, (((w.alloc (.cells #[.int .i64 off, .slice a1 ds.length c1, .slice a2 ds.length c2] 24)).alloc (.cells #[.slice ad data.length cd] 34)).alloc (.cells #[.slice none 0 0] 34)).alloc (.cells #[.int .i64 0] 26) = WA := ⟨_, rfl⟩
  have zA : Hid (WA.heap.size = w.heap.size + 4) := Lib.hid (by rw [← hWA]; simp)
  have bA : Hid (Below w.heap.size w WA) := Lib.hid (by
    rw [← hWA]
    exact ((((Below.refl _ w).alloc (Nat.le_refl _) _).alloc (by simp) _).alloc (by simp; omega) _).alloc (by simp; omega) _)
  have xv : Hid (WA.heap[w.heap.size]? = some (.cells #[.int .i64 off, .slice a1 ds.length c1, .slice a2 ds.length c2] 24 (0, 0))) := Lib.hid (by
    rw [← hWA, Below.heap_alloc _ _ _ (by simp; omega), Below.heap_alloc _ _ _ (by simp; omega), Below.heap_alloc _ _ _ (by simp)]
    exact World.alloc_heap_new w _)
  have xd : Hid (Boxed WA (w.heap.size + 1) 34 (.slice ad data.length cd)) := Lib.hid (by
    rw [← hWA]
    have := ((Boxed.new (w.alloc (.cells #[.int .i64 off, .slice a1 ds.length c1, .slice a2 ds.length c2] 24)) 34 (.slice ad data.length cd)).alloc (.cells #[.slice none 0 0] 34)).alloc (.cells #[.int .i64 0] 26)
    rwa [World.size_alloc] at this)
  have xr : Hid (Boxed WA (w.heap.size + 1 + 1) 34 (.slice none 0 0)) := Lib.hid (by
    rw [← hWA]
    have := (Boxed.new ((w.alloc (.cells #[.int .i64 off, .slice a1 ds.length c1, .slice a2 ds.length c2] 24)).alloc (.cells #[.slice ad data.length cd] 34)) 34 (.slice none 0 0)).alloc (.cells #[.int .i64 0] 26)
    rwa [World.size_alloc, World.size_alloc] at this)
  have xe : Hid (Boxed WA (w.heap.size + 1 + 1 + 1) 26 (.int .i64 0)) := Lib.hid (by
    rw [← hWA]
    have := Boxed.new (((w.alloc (.cells #[.int .i64 off, .slice a1 ds.length c1, .slice a2 ds.length c2] 24)).alloc (.cells #[.slice ad data.length cd] 34)).alloc (.cells #[.slice none 0 0] 34)) 26 (.int .i64 0)
    rwa [World.size_alloc, World.size_alloc, World.size_alloc] at this)
  have HF := Lib.hid (fine_any (off := off) (hd.out.below bA.out) (hs.out.below bA.out))
  rw [hm.out, ← hWA] at HF
  have hEq := Lib.hid hWA
  clear hWA
  have h1 : 1 ≤ n := by omega
  have hf1 : Fence.wide.fn 33 := trivial
  have hf2 : Fence.wide.fn 45 := trivial
  refine callsIn_of_wp_marks Try.func21 rfl trivial ?_ rfl
  simp only [Try.ntmps21, List.size_toArray, List.length_cons, List.length_nil, Nat.reduceAdd, Nat.reduceSub, Array.replicate_succ, Array.replicate_zero, List.push_toArray, List.append_toArray, List.nil_append, List.cons_append]
  gi_wp2_with (first | (gi_at_call 33; refine (callsIn_wide.2 HF.out).mono ?_; rintro e w1 ⟨rfl, hB1⟩; rw [hEq.out] at hB1; obtain ⟨y0, y1, y2⟩ := box_cells ((Below.heap_alloc w1 (.cells #[.slice none 0 0] 34) w.heap.size (by have := zA.out; have := hB1.size; omega)).trans ((hB1.block w.heap.size (by have := zA.out; omega)).trans xv.out)); have HB1 := Lib.hid hB1; clear hB1) | (gi_at_call 45; refine (callsIn_wide.2 (places_any _ _ _ _)).mono ?_; rintro e w2 ⟨rfl, rfl⟩))
  obtain ⟨WC, hWC⟩ : ∃ WC, (w1.alloc (.cells #[.slice none 0 0] 34)).alloc (.cells #[.int .i64 off, .slice a1 ds.length c1, .slice a2 ds.length c2] 24) = WC := ⟨_, rfl⟩
  have zC : WC.heap.size = w1.heap.size + 2 := by rw [← hWC]; simp
  have z1 : w.heap.size + 4 ≤ w1.heap.size := by have := zA.out; have := HB1.out.size; omega
  have hC : ∀ b, b < w1.heap.size → WC.heap[b]? = w1.heap[b]? := fun b hb => by
    rw [← hWC, Below.heap_alloc _ _ _ (by simp; omega), Below.heap_alloc _ _ _ hb]
  have bC : Below w.heap.size w WC := by
    rw [← hWC]
    exact ((bA.out.trans (HB1.out.mono (by have := zA.out; omega))).alloc (by omega) _).alloc (by simp; omega) _
  have kC : ∀ {b : Nat} {t : TypeId} {v : Value}, Boxed WA b t v → Boxed WC b t v := fun {b t v} h => (hC b (by have := h.lt; have := zA.out; omega)).trans ((HB1.out.block b (by have := h.lt; have := zA.out; omega)).trans h)
  have oC : Boxed WC w1.heap.size 34 (.slice none 0 0) := by
    rw [← hWC]
    exact (Boxed.new w1 34 (.slice none 0 0)).alloc _
  have vC : WC.heap[w1.heap.size + 1]? = some (.cells #[.int .i64 off, .slice a1 ds.length c1, .slice a2 ds.length c2] 24 (0, 0)) := by
    rw [← hWC]
    have := World.alloc_heap_new (w1.alloc (.cells #[.slice none 0 0] 34)) (.cells #[.int .i64 off, .slice a1 ds.length c1, .slice a2 ds.length c2] 24)
    rwa [World.size_alloc] at this
  rw [hWC]
  have hseq : SeqCells Fence.wide (n - 1) Try.prog 55 #[.pointer (some ⟨w1.heap.size + 1, 0, none⟩)] (Keep w.heap.size (w1.heap.size + 1) (WC.heap.size + 2)) (WC.heap.size + 2) (places off ds ss (pr ds).toNat) WC := by
    intro l J Jx W hBW hW hJ hJx hY h0
    have b2 : Below w.heap.size w W := bC.trans (hBW.mono (by omega))
    exact places_walk (n - 1) (by omega) l w (w1.heap.size + 1) (WC.heap.size + 2) off a1 a2 c1 c2 ds ss (Lib.hid hd.out.rows.2) (Lib.hid hs.out.rows.2) hss.out hlen hD hS ho0 ho1 J Jx (Lib.hid hJ) (Lib.hid hJx) (Lib.hid hY) W hW (by omega) (by omega) ⟨(hBW.block _ (by omega)).trans vC, b2⟩ h0
  have hpl : Hid (∀ x ∈ places off ds ss (pr ds).toNat, 0 ≤ x ∧ x ≤ 1099511627776) := Lib.hid (places_bound hss.out hlen hD.out hS.out ho0 ho1)
  refine range_cells (a := _) rfl h1 (gf := 55) (lb := #[.pointer (some ⟨w1.heap.size + 1, 0, none⟩)]) rfl trivial (enters_of Try.func55 (by kernel_rfl) rfl) hseq (Below.refl _ _)
    (fun {A B C} h k => ⟨h.1.trans k.1, k.2.1.trans h.2.1, k.2.2.trans h.2.2⟩) (fun W o o' ho => ⟨(Below.refl _ _).grown (grownBy_putObj' W _ o') (by have := (Array.getElem?_eq_some_iff.1 ho).1; omega) (fun k e => by cases e; omega), World.putObj_heap_other (by omega), World.putObj_heap_other (by omega)⟩)
    (fun pre W => RdI w (w.heap.size + 1) (w.heap.size + 1 + 1) (w.heap.size + 1 + 1 + 1) w1.heap.size (WC.heap.size + 2) (.slice ad data.length cd) data pre W)
    (fun pre W => RdX w (w.heap.size + 1 + 1) (w.heap.size + 1 + 1 + 1) data (places off ds ss (pr ds).toNat) W)
    (fun s A A' row h hg hr => rdI_grown h (by omega) (by omega) (by omega) (by omega) (by omega) hg (fun r e => ⟨by have := (hr r e).1; omega, Or.inr (hr r e).2⟩))
    (fun s A A' row h hg hr => rdX_grown h hg (fun r e => by have := (hr r e).1; omega))
    (fun s A A' row h hg hr => rdI_grown h (by omega) (by omega) (by omega) (by omega) (by omega) hg (fun r e => by have := hr r e; omega))
    (fun s A A' row h hg hr => rdX_grown h hg (fun r e => by have := hr r e; omega))
    ⟨by simp, ⟨_, oC, World.ownsRow_nil _ _ _ _⟩, kC xd.out, kC xr.out, kC xe.out, bC⟩
    (fun x => { tmps := #[.agg #[.int .i64 off, .slice a1 ds.length c1, .slice a2 ds.length c2], .slice ad data.length cd, .pointer (some ⟨w.heap.size, 0, none⟩), .pointer (some ⟨w.heap.size + 1, 0, none⟩), .pointer (some ⟨w.heap.size + 1 + 1, 0, none⟩), .pointer (some ⟨w.heap.size + 1 + 1 + 1, 0, none⟩), .pointer (some ⟨w1.heap.size, 0, none⟩), .int .i64 x,
      .agg #[.int .i64 off, .slice a1 ds.length c1, .slice a2 ds.length c2], .bool true, .bool false, .agg #[.int .i64 off, .slice a1 ds.length c1, .slice a2 ds.length c2], .func (.func 55) #[] #[.pointer (some ⟨w1.heap.size + 1, 0, none⟩)], .int .i64 x, undef, undef, undef, undef, undef, undef, undef, undef, undef, undef, undef, undef], defers := [] }) ?assign ?body ?done ?stop
  case assign =>
    intro l x W K hK
    gi_wp2
    exact hK
  case body =>
    rintro l pre x W hI hz ⟨rest, hall⟩
    have hx := hpl.out x (by rw [hall]; simp)
    have cd1 := hI.dat.cell
    have cr := hI.res.cell
    have fr := hI.res.frozen
    have ce := hI.err.cell
    have fe := hI.err.frozen
    have HI := Lib.hid hI
    have HA := Lib.hid hall
    clear hI hall
    by_cases hlt : x < data.length
    · obtain ⟨bd, od, rfl, hbd, hrd⟩ := hdat.out.rows.2 x.toNat (by omega)
      obtain ⟨v, hv, hrow⟩ := HI.out.out
      obtain ⟨xn, rfl⟩ := Int.eq_ofNat_of_zero_le hx.1
      have cx := (HI.out.below.cell (p := ⟨bd, od + xn, none⟩) hbd).trans (hrd xn (by omega))
      have co := hv.cell
      have hdl := hdat.out.wf.1
      have hpre : Hid (pre.length ≤ 65536) := Lib.hid (by
        have h1 := congrArg List.length HA.out
        rw [places_length] at h1
        have := hN.out
        simp at h1; omega)
      generalize hdx : data.getD xn 0 = dx at *
      obtain ⟨g, cp, w1x, hap⟩ : ∃ (g cp : World → Nat) (w1x : World → World), ∀ X : World, X.heap = W.heap →
          (Builtin.append_ #[34, 34] 34 #[v, .slice (some ⟨W.heap.size, 0, none⟩) 1 1]).run Try.prog (X.alloc (.cells #[.int .i64 dx] 2)) = .ok (.slice (some ⟨g X, 0, none⟩) (pre.length + 1) (cp X)) (w1x X) ∧
          (w1x X).ownsRow (WC.heap.size + 2 + 1) 2 1 (.slice (some ⟨g X, 0, none⟩) (pre.length + 1) (cp X)) (pre.length + 1) (got data pre ++ [.int .i64 dx]) ∧ (X.alloc (.cells #[.int .i64 dx] 2)).grownBy (w1x X) v.ownBlock := by
        have key : ∀ X : World, X.heap = W.heap → ∃ (gg cc : Nat) (ww : World), (Builtin.append_ #[34, 34] 34 #[v, .slice (some ⟨W.heap.size, 0, none⟩) 1 1]).run Try.prog (X.alloc (.cells #[.int .i64 dx] 2)) = .ok (.slice (some ⟨gg, 0, none⟩) (pre.length + 1) cc) ww ∧
            ww.ownsRow (WC.heap.size + 2 + 1) 2 1 (.slice (some ⟨gg, 0, none⟩) (pre.length + 1) cc) (pre.length + 1) (got data pre ++ [.int .i64 dx]) ∧ (X.alloc (.cells #[.int .i64 dx] 2)).grownBy ww v.ownBlock := by
          intro X hX
          have hrX : X.ownsRow (WC.heap.size + 2 + 1) 2 1 v pre.length (got data pre) := by
            obtain ⟨q1, q2⟩ := hrow
            refine ⟨q1, ?_⟩
            rw [hX]; exact q2
          have hzX : X.heap.size = W.heap.size := by rw [hX]
          obtain ⟨v', w', e1, e2, e3, _⟩ := run_append_own (P := Try.prog) (w := X.alloc (.cells #[.int .i64 dx] 2)) (WC.heap.size + 2 + 1) 34 34 2 i0 (.int .i64 0) 1 8 Try.underlying34 hi hz0 hz1 hz2 rfl (by decide) v pre.length (got data pre) (hrX.alloc _) ⟨W.heap.size, 0, none⟩ 1 1 [.int .i64 dx] rfl (by rw [← hzX]; exact cell_one_new _ _ _) (by simp [Value.oneCell']) (by have := hpre.out; unfold maxLen; omega) (by have := hpre.out; omega) (by simp; omega)
          obtain ⟨gg, cc, rfl⟩ := ownsRow_succ e2
          exact ⟨gg, cc, w', e1, e2, e3⟩
        have key2 : ∀ X : World, ∃ q : Nat × Nat × World, X.heap = W.heap → (Builtin.append_ #[34, 34] 34 #[v, .slice (some ⟨W.heap.size, 0, none⟩) 1 1]).run Try.prog (X.alloc (.cells #[.int .i64 dx] 2)) = .ok (.slice (some ⟨q.1, 0, none⟩) (pre.length + 1) q.2.1) q.2.2 ∧
            q.2.2.ownsRow (WC.heap.size + 2 + 1) 2 1 (.slice (some ⟨q.1, 0, none⟩) (pre.length + 1) q.2.1) (pre.length + 1) (got data pre ++ [.int .i64 dx]) ∧ (X.alloc (.cells #[.int .i64 dx] 2)).grownBy q.2.2 v.ownBlock := fun X => by
          by_cases hX : X.heap = W.heap
          · obtain ⟨gg, cc, ww, h⟩ := key X hX
            exact ⟨(gg, cc, ww), fun _ => h⟩
          · exact ⟨(0, 0, X), fun h => absurd h hX⟩
        exact ⟨fun X => (Classical.choose (key2 X)).1, fun X => (Classical.choose (key2 X)).2.1, fun X => (Classical.choose (key2 X)).2.2, fun X hX => Classical.choose_spec (key2 X) hX⟩
      have ha1 : (Builtin.append_ #[34, 34] 34 #[v, .slice (some ⟨W.heap.size, 0, none⟩) 1 1]).run Try.prog (W.alloc (.cells #[.int .i64 dx] 2)).drew = .ok (.slice (some ⟨g W.drew, 0, none⟩) (pre.length + 1) (cp W.drew)) (w1x W.drew) := (hap W.drew rfl).1
      have hb := fun X (hX : X.heap = W.heap) => appended_below (W := X) (t := 34) (B := WC.heap.size + 2) ((show X.heap[w1.heap.size]? = _ by rw [hX]; exact hv)) (by obtain ⟨q1, q2⟩ := hrow; exact ⟨q1, by rw [hX]; exact q2⟩) (by omega) (by rw [hX]; omega) (hap X hX).2.1 (hap X hX).2.2
      have ha2 : (w1x W.drew).cell? ⟨w1.heap.size, 0, none⟩ = some v := (hb W.drew rfl).1.cell
      have ha3 : (w1x W.drew).frozen? ⟨w1.heap.size, 0, none⟩ = false := (hb W.drew rfl).1.frozen
      have hfin : Hid (KeepsOthers W ((w1x W.drew).setCell ⟨w1.heap.size, 0, none⟩ (.slice (some ⟨g W.drew, 0, none⟩) (pre.length + 1) (cp W.drew))) ∧
          Keep w.heap.size (w1.heap.size + 1) (WC.heap.size + 2) W ((w1x W.drew).setCell ⟨w1.heap.size, 0, none⟩ (.slice (some ⟨g W.drew, 0, none⟩) (pre.length + 1) (cp W.drew))) ∧
          RdI w (w.heap.size + 1) (w.heap.size + 1 + 1) (w.heap.size + 1 + 1 + 1) w1.heap.size (WC.heap.size + 2) (.slice (some ⟨bd, od, none⟩) data.length cd) data (pre ++ [(xn : Int)]) ((w1x W.drew).setCell ⟨w1.heap.size, 0, none⟩ (.slice (some ⟨g W.drew, 0, none⟩) (pre.length + 1) (cp W.drew)))) := Lib.hid (by
        obtain ⟨r1, r2, r3, r4, r5, r6⟩ := hb W.drew rfl
        have rb : ∀ {b : Nat} {t : TypeId} {u : Value}, b < w1.heap.size → Boxed W b t u → Boxed ((w1x W.drew).setCell ⟨w1.heap.size, 0, none⟩ (.slice (some ⟨g W.drew, 0, none⟩) (pre.length + 1) (cp W.drew))) b t u := fun {b t u} hlt' h => (r6 b (by omega) (by omega)).trans h
        refine ⟨(KeepsOthers.of_grownBy (grown_drew W none) (fun j o e _ => by cases e)).trans r4, ⟨(Below.refl _ W).drew.trans (r5 _ (by omega)), r6 _ (by omega) (by omega), r6 _ (by omega) (by omega)⟩, ?_, ⟨_, r2, ?_⟩, rb (by omega) HI.out.dat, rb (by omega) HI.out.res, rb (by omega) HI.out.err, HI.out.below.drew.trans (r5 _ (by omega))⟩
        · intro p hp
          rcases List.mem_append.1 hp with h | h
          · exact HI.out.inr p h
          · simp at h; subst h; omega
        · rw [List.length_append]
          unfold got at r3 ⊢
          rw [List.map_append]
          have hdx' : data[xn]?.getD 0 = dx := by rw [← hdx]; simp [List.getD]
          simpa [hdx'] using r3)
      clear hb hap
      have co2 : (W.alloc (.cells #[.int .i64 dx] 2)).cell? ⟨w1.heap.size, 0, none⟩ = some v := (hv.alloc _).cell
      have hd2 : 1 ≤ n - 1 - 1 := by omega
      have hmx : Try.prog.follows .mixedOrders = true := by kernel_rfl
      gi_wp2
      refine wpIn_region_any (by kernel_rfl) ?_
      (try (change wpAnyIn _ _ _ _ _ _ _ _ _ (World.drew _)))
      repeat' (first
        | (exact AllReadyIn.nil)
        | (refine AllReadyIn.cons rfl (fun K hK => ?_) ?_; go_simp; refine hK _ _ ?_; clear hK K)
        | (refine wpAnyIn_done (by decide +kernel) ?_ _)
        | (refine wpAnyIn_ready (rs := [6]) (by decide +kernel) (by simp) ?_; refine AllReadyIn.cons rfl (fun K hK => ?_) AllReadyIn.nil; simp only [List.getElem_toArray, List.getElem_cons_succ, List.getElem_cons_zero]; refine Eq.mpr (if_pos (wanted_none rfl _)) ?_; refine op_append (t := 34) (s := .tmp 18) (x := .tmp 23) rfl rfl rfl ha1 ?_; go_simp; refine hK _ _ ?_; clear hK K)
        | (refine wpAnyIn_ready (rs := [3]) (by decide +kernel) (by simp) ?_; refine AllReadyIn.cons rfl (fun K hK => ?_) AllReadyIn.nil; go_simp; refine hK _ _ ?_; clear hK K)
        | (refine wpAnyIn_ready (rs := [4]) (by decide +kernel) (by simp) ?_; refine AllReadyIn.cons rfl (fun K hK => ?_) AllReadyIn.nil; go_simp; refine hK _ _ ?_; clear hK K)
        | (refine wpAnyIn_ready (rs := [5]) (by decide +kernel) (by simp) ?_; refine AllReadyIn.cons rfl (fun K hK => ?_) AllReadyIn.nil; go_simp; refine hK _ _ ?_; clear hK K)
        | (refine wpAnyIn_ready (rs := [1]) (by decide +kernel) (by simp) ?_; refine AllReadyIn.cons rfl (fun K hK => ?_) AllReadyIn.nil; go_simp; refine hK _ _ ?_; clear hK K)
        | (refine wpAnyIn_ready (rs := [2]) (by decide +kernel) (by simp) ?_; refine AllReadyIn.cons rfl (fun K hK => ?_) AllReadyIn.nil; go_simp; refine hK _ _ ?_; clear hK K)
        | (refine wpAnyIn_ready (rs := [0]) (by decide +kernel) (by simp) ?_; refine AllReadyIn.cons rfl (fun K hK => ?_) AllReadyIn.nil; go_simp; refine hK _ _ ?_; clear hK K)
        | (refine wpAnyIn_ready (rs := [7]) (by decide +kernel) (by simp) ?_; refine AllReadyIn.cons rfl (fun K hK => ?_) AllReadyIn.nil; go_simp; refine hK _ _ ?_; clear hK K)
        | (refine wpAnyIn_ready (rs := [0, 1, 2]) (by decide +kernel) (by simp) ?_)
        | (refine wpAnyIn_ready (rs := [0, 1]) (by decide +kernel) (by simp) ?_)
        | (refine wpAnyIn_ready (rs := [0, 2]) (by decide +kernel) (by simp) ?_)
        | (refine wpAnyIn_ready (rs := [1, 2]) (by decide +kernel) (by simp) ?_)
        | (refine wpAnyIn_ready (rs := [0, 3]) (by decide +kernel) (by simp) ?_)
        | (refine wpAnyIn_ready (rs := [0, 4]) (by decide +kernel) (by simp) ?_)
        | (refine wpAnyIn_ready (rs := [0, 5]) (by decide +kernel) (by simp) ?_))
      all_goals gi_wp2
      all_goals exact hfin.out
    · have hbad : Hid (∃ p ∈ places off ds ss (pr ds).toNat, (data.length : Int) ≤ p) := Lib.hid ⟨x, by rw [HA.out]; simp, by omega⟩
      have b2 : Boxed (W.setCell ⟨w.heap.size + 1 + 1, 0, none⟩ (.slice none 0 0)) (w.heap.size + 1 + 1 + 1) 26 (.int .i64 0) := (Below.heap_setCell _ _ _ _ (by simp)).trans HI.out.err
      have ce2 := b2.cell
      have fe2 := b2.frozen
      have hfin : Hid (KeepsOthers W ((W.setCell ⟨w.heap.size + 1 + 1, 0, none⟩ (.slice none 0 0)).setCell ⟨w.heap.size + 1 + 1 + 1, 0, none⟩ (.int .i64 1)) ∧
          RdX w (w.heap.size + 1 + 1) (w.heap.size + 1 + 1 + 1) data (places off ds ss (pr ds).toNat) ((W.setCell ⟨w.heap.size + 1 + 1, 0, none⟩ (.slice none 0 0)).setCell ⟨w.heap.size + 1 + 1 + 1, 0, none⟩ (.int .i64 1))) := Lib.hid
        ⟨(KeepsOthers.setCell _ _ _).trans (KeepsOthers.setCell _ _ _), hbad.out, (Below.heap_setCell _ _ _ _ (by simp)).trans (HI.out.res.set _), b2.set _, (HI.out.below.setCell (p := ⟨w.heap.size + 1 + 1, 0, none⟩) (by simp; omega) _).setCell (p := ⟨w.heap.size + 1 + 1 + 1, 0, none⟩) (by simp; omega) _⟩
      clear b2
      gi_wp2
      exact hfin.out
  case done =>
    rintro D W hD hI hK
    obtain ⟨v, hv, hrow⟩ := hI.out
    have co := hv.cell
    have cr := hI.res.cell
    have fr := hI.res.frozen
    have b2 : Boxed (W.setCell ⟨w.heap.size + 1 + 1, 0, none⟩ v) (w.heap.size + 1 + 1 + 1) 26 (.int .i64 0) := (Below.heap_setCell _ _ _ _ (by simp)).trans hI.err
    have ce2 := b2.cell
    have fe2 := b2.frozen
    have hr : readL off ds ss data = some ((places off ds ss (pr ds).toNat).map fun p => data.getD p.toNat 0) := by
      unfold readL; rw [if_pos ⟨hm.out, hI.inr⟩]
    have hfin : Hid (Below w.heap.size w ((W.setCell ⟨w.heap.size + 1 + 1, 0, none⟩ v).setCell ⟨w.heap.size + 1 + 1 + 1, 0, none⟩ (.int .i64 0)) ∧ ((W.setCell ⟨w.heap.size + 1 + 1, 0, none⟩ v).setCell ⟨w.heap.size + 1 + 1 + 1, 0, none⟩ (.int .i64 0)).heap[D]? = some (.deferred (some [])) ∧
        Boxed ((W.setCell ⟨w.heap.size + 1 + 1, 0, none⟩ v).setCell ⟨w.heap.size + 1 + 1 + 1, 0, none⟩ (.int .i64 0)) (w.heap.size + 1 + 1) 34 v ∧ Boxed ((W.setCell ⟨w.heap.size + 1 + 1, 0, none⟩ v).setCell ⟨w.heap.size + 1 + 1 + 1, 0, none⟩ (.int .i64 0)) (w.heap.size + 1 + 1 + 1) 26 (.int .i64 0) ∧
        ((W.setCell ⟨w.heap.size + 1 + 1, 0, none⟩ v).setCell ⟨w.heap.size + 1 + 1 + 1, 0, none⟩ (.int .i64 0)).ownsRow (WC.heap.size + 2 + 1) 2 1 v (places off ds ss (pr ds).toNat).length (got data (places off ds ss (pr ds).toNat))) := Lib.hid
      ⟨(hI.below.setCell (p := ⟨w.heap.size + 1 + 1, 0, none⟩) (by simp; omega) _).setCell (p := ⟨w.heap.size + 1 + 1 + 1, 0, none⟩) (by simp; omega) _,
       (Below.heap_setCell _ _ _ _ (by simp; omega)).trans ((Below.heap_setCell _ _ _ _ (by simp; omega)).trans hK), (Below.heap_setCell _ _ _ _ (by simp)).trans (hI.res.set _), b2.set _,
       ownsRow_setCell_below (ownsRow_setCell_below hrow (by simp; omega) _) (by simp; omega) _⟩
    have HR := Lib.hid hr
    have HRow := Lib.hid hrow
    clear b2 hr hI hK hrow
    have hform : v = .slice none 0 0 ∨ ∃ g n cap, v = .slice (some ⟨g, 0, none⟩) n cap := by
      rcases HRow.out.2 with ⟨rfl, _⟩ | ⟨g, cap, cur, rfl, _⟩
      · exact Or.inl rfl
      · exact Or.inr ⟨_, _, _, rfl⟩
    rcases hform with rfl | ⟨g, nn, cap, rfl⟩
    · gi_wp2
      obtain ⟨q1, q2, q3, q4, q5⟩ := hfin.out
      refine ⟨by simp, .inl ⟨_, _, rfl, run_takeDeferred q2, ?_⟩⟩
      have c1 := cell_kept q3.cell (grownBy_putObj' _ D (.deferred none)) (fun r e => by cases e; exact ⟨_, q2, rfl⟩)
      have c2 := cell_kept q4.cell (grownBy_putObj' _ D (.deferred none)) (fun r e => by cases e; exact ⟨_, q2, rfl⟩)
      refine ⟨.tuple #[.slice none 0 0, .int .i64 0], by simp [results, Try.f21, go_sem, c1, c2], q1.grown (grownBy_putObj' _ D (.deferred none)) q1.size (fun k e => by cases e; omega), Or.inl ⟨_, _, HR.out, rfl, ?_⟩⟩
      have q6 := rows_mono (ownsRow_putObj q5 (.deferred none) q2 rfl) (show w.heap.size ≤ _ by omega)
      simpa [got, List.map_map, Function.comp_def] using q6
    · gi_wp2
      obtain ⟨q1, q2, q3, q4, q5⟩ := hfin.out
      refine ⟨by simp, .inl ⟨_, _, rfl, run_takeDeferred q2, ?_⟩⟩
      have c1 := cell_kept q3.cell (grownBy_putObj' _ D (.deferred none)) (fun r e => by cases e; exact ⟨_, q2, rfl⟩)
      have c2 := cell_kept q4.cell (grownBy_putObj' _ D (.deferred none)) (fun r e => by cases e; exact ⟨_, q2, rfl⟩)
      refine ⟨.tuple #[.slice (some ⟨g, 0, none⟩) nn cap, .int .i64 0], by simp [results, Try.f21, go_sem, c1, c2], q1.grown (grownBy_putObj' _ D (.deferred none)) q1.size (fun k e => by cases e; omega), Or.inl ⟨_, _, HR.out, rfl, ?_⟩⟩
      have q6 := rows_mono (ownsRow_putObj q5 (.deferred none) q2 rfl) (show w.heap.size ≤ _ by omega)
      simpa [got, List.map_map, Function.comp_def] using q6
  case stop =>
    rintro D pre W hD hX hK
    have hr : readL off ds ss data = none := by
      unfold readL
      rw [if_neg]
      rintro ⟨_, h⟩
      obtain ⟨p, hp, hge⟩ := hX.bad
      have := h p hp
      omega
    have hfin : Hid (RdX w (w.heap.size + 1 + 1) (w.heap.size + 1 + 1 + 1) data (places off ds ss (pr ds).toNat) W ∧ W.heap[D]? = some (.deferred (some []))) := Lib.hid ⟨hX, hK⟩
    have HR := Lib.hid hr
    clear hr hX hK
    gi_wp2
    obtain ⟨q1, q2⟩ := hfin.out
    refine ⟨by simp, .inl ⟨_, _, rfl, run_takeDeferred q2, ?_⟩⟩
    have c1 := cell_kept q1.res.cell (grownBy_putObj' _ D (.deferred none)) (fun r e => by cases e; exact ⟨_, q2, rfl⟩)
    have c2 := cell_kept q1.err.cell (grownBy_putObj' _ D (.deferred none)) (fun r e => by cases e; exact ⟨_, q2, rfl⟩)
    exact ⟨.tuple #[.slice none 0 0, .int .i64 1], by simp [results, Try.f21, go_sem, c1, c2], q1.below.grown (grownBy_putObj' _ D (.deferred none)) q1.below.size (fun k e => by cases e; omega), Or.inr ⟨HR.out, rfl⟩⟩


attribute [local irreducible] readL

end Go.Proofs.Ytfdafceolkmkoaa
