/- The walks of Int, Bits, Ints: schema's and the reference's. -/
import Derived.Test.YtijeblfhkkfjgaaDoorSchRd
set_option linter.unusedVariables false
set_option linter.unusedSimpArgs false
namespace Go.Proofs.YtijeblfhkkfjgaaDoor
open Go.RowKit

def intP (ats : List At) (nm : ByteArray) (other : Int) : Int := match findA ats nm 2 with | none => other | some a => a.i
def bitsP (ats : List At) (nm : ByteArray) (other : Int) : Int := match findA ats nm 1 with | none => other | some a => a.f
def intsP (ats : List At) (nm : ByteArray) (other : List Int) : List Int := match findA ats nm 7 with | none => other | some a => a.ints

theorem opt_parts {α : Type} (o : Option α) (z : α) : (o = none ∧ o.isSome = false ∧ o.getD z = z) ∨ ∃ a, o = some a ∧ o.isSome = true ∧ o.getD z = a := by
  cases o with
  | none => exact .inl ⟨rfl, rfl, rfl⟩
  | some a => exact .inr ⟨a, rfl, rfl, rfl⟩

/-- slices.Clone of whole numbers. -/
theorem clone_any {w : World} {v : Value} {zs : List Int} (h : IntsIn w v zs) :
    Calls Tryd.prog 41 #[v] w fun e w' => ∃ v', e = .returned v' ∧ w'.ownsRow w.heap.size 2 1 v' zs.length (zs.map (Value.int .i64)) ∧ Below w.heap.size w w' := by
  cases h with
  | empty a0 cap =>
    cases a0 with
    | none =>
      refine (Tryd.slices_Clone_int_nil 0 cap w).mono ?_
      rintro e w' ⟨rfl, rfl⟩
      exact ⟨_, rfl, World.ownsRow_nil _ _ _ _, Below.refl _ _⟩
    | some a =>
      refine (Tryd.slices_Clone_int_zero a cap w).mono ?_
      rintro e w' ⟨v', rfl, h1, _, h2⟩
      exact ⟨v', rfl, h1, h2⟩
  | row b off cap _ h0 hc hb hr hlen hw =>
    refine (Tryd.slices_Clone_int b off zs.length cap zs w (Nat.le_refl _) (by omega) hr).mono ?_
    rintro e w' ⟨v', rfl, h1, _, h2⟩
    rw [List.take_length] at h1
    exact ⟨v', rfl, h1, h2⟩

set_option maxRecDepth 100000 in
set_option maxHeartbeats 2000000 in
theorem sint_any {w : World} {v : Value} {n : Nd} (h : NodeV w v n) (nm : ByteArray) (other : Int) :
    Calls Tryd.prog 19 #[v, .string nm, .int .i64 other] w fun e w' => e = .returned (.int .i64 (intP n.attrs nm other)) ∧ Below w.heap.size w w' := by
  obtain ⟨vin, vat, rfl, hn⟩ := h
  obtain ⟨a1, c1, rfl⟩ := hn.is.form
  obtain ⟨a2, c2, rfl⟩ := hn.ia.form
  have hb0 : Below w.heap.size w (w.alloc (Obj.cells #[Value.string n.op, Value.string n.name, Value.slice a1 n.ins.length c1, Value.string n.out, Value.slice a2 n.attrs.length c2] 25)) := (Below.refl _ w).alloc (Nat.le_refl _) _
  have HF := Lib.hid (find_any ⟨_, _, rfl, hn.below hb0⟩ nm 2)
  have HB0 := Lib.hid hb0
  clear hn hb0
  unfold Nd.val at HF ⊢
  go_enter Tryd.func19, Tryd.ntmps19
  go_wp2_with fail
  refine HF.out.mono ?_
  rintro e w1 ⟨B1, va, rfl, vd, vx, vi, rfl, hna⟩
  have HB1 := Lib.hid (HB0.out.trans (B1.mono HB0.out.size))
  have HB2 : Hid (∀ o, Below w.heap.size w (w1.alloc o)) := Lib.hid fun o => HB1.out.alloc HB1.out.size o
  obtain ⟨ad, cd, rfl⟩ := hna.id.shape
  obtain ⟨ax, cx, rfl⟩ := hna.ix.shape
  obtain ⟨ai, ci, rfl⟩ := hna.ii.shape
  clear hna B1
  unfold At.val
  rcases opt_parts (findA n.attrs nm 2) At.zero with ⟨h1, h2, h3⟩ | ⟨a, h1, h2, h3⟩
  · have HP : Hid (intP n.attrs nm other = other) := Lib.hid (by unfold intP; rw [h1])
    rw [h2]
    clear h1 h2 h3
    go_wp2
    go_ret
    exact ⟨ret_val (int_val HP.out.symm), HB2.out _⟩
  · have HP : Hid (intP n.attrs nm other = a.i) := Lib.hid (by unfold intP; rw [h1])
    rw [h2, h3]
    clear h1 h2 h3
    go_wp2
    go_ret
    exact ⟨ret_val (int_val HP.out.symm), HB2.out _⟩

set_option maxRecDepth 100000 in
set_option maxHeartbeats 2000000 in
theorem rint_any {w : World} {v : Value} {n : Nd} (h : NodeV w v n) (nm : ByteArray) (other : Int) :
    Calls Tryd.prog 20 #[v, .string nm, .int .i64 other] w fun e w' => e = .returned (.int .i64 (intP n.attrs nm other)) ∧ Below w.heap.size w w' := by
  obtain ⟨vin, vat, rfl, hn⟩ := h
  obtain ⟨a1, c1, rfl⟩ := hn.is.form
  obtain ⟨a2, c2, rfl⟩ := hn.ia.form
  have hb0 : Below w.heap.size w (w.alloc (Obj.cells #[Value.string n.op, Value.string n.name, Value.slice a1 n.ins.length c1, Value.string n.out, Value.slice a2 n.attrs.length c2] 25)) := (Below.refl _ w).alloc (Nat.le_refl _) _
  have HF := Lib.hid (rfind_any ⟨_, _, rfl, hn.below hb0⟩ nm 2)
  have HB0 := Lib.hid hb0
  clear hn hb0
  unfold Nd.val at HF ⊢
  go_enter Tryd.func20, Tryd.ntmps20
  go_wp2_with fail
  refine HF.out.mono ?_
  rintro e w1 ⟨B1, va, rfl, vd, vx, vi, rfl, hna⟩
  have HB1 := Lib.hid (HB0.out.trans (B1.mono HB0.out.size))
  have HB2 : Hid (∀ o, Below w.heap.size w (w1.alloc o)) := Lib.hid fun o => HB1.out.alloc HB1.out.size o
  obtain ⟨ad, cd, rfl⟩ := hna.id.shape
  obtain ⟨ax, cx, rfl⟩ := hna.ix.shape
  obtain ⟨ai, ci, rfl⟩ := hna.ii.shape
  clear hna B1
  unfold At.val
  rcases opt_parts (findA n.attrs nm 2) At.zero with ⟨h1, h2, h3⟩ | ⟨a, h1, h2, h3⟩
  · have HP : Hid (intP n.attrs nm other = other) := Lib.hid (by unfold intP; rw [h1])
    rw [h2]
    clear h1 h2 h3
    go_wp2
    go_ret
    exact ⟨ret_val (int_val HP.out.symm), HB2.out _⟩
  · have HP : Hid (intP n.attrs nm other = a.i) := Lib.hid (by unfold intP; rw [h1])
    rw [h2, h3]
    clear h1 h2 h3
    go_wp2
    go_ret
    exact ⟨ret_val (int_val HP.out.symm), HB2.out _⟩

set_option maxRecDepth 100000 in
set_option maxHeartbeats 2000000 in
theorem sbits_any {w : World} {v : Value} {n : Nd} (h : NodeV w v n) (nm : ByteArray) (other : Int) :
    Calls Tryd.prog 21 #[v, .string nm, .int .i64 other] w fun e w' => e = .returned (.int .i64 (bitsP n.attrs nm other)) ∧ Below w.heap.size w w' := by
  obtain ⟨vin, vat, rfl, hn⟩ := h
  obtain ⟨a1, c1, rfl⟩ := hn.is.form
  obtain ⟨a2, c2, rfl⟩ := hn.ia.form
  have hb0 : Below w.heap.size w (w.alloc (Obj.cells #[Value.string n.op, Value.string n.name, Value.slice a1 n.ins.length c1, Value.string n.out, Value.slice a2 n.attrs.length c2] 25)) := (Below.refl _ w).alloc (Nat.le_refl _) _
  have HF := Lib.hid (find_any ⟨_, _, rfl, hn.below hb0⟩ nm 1)
  have HB0 := Lib.hid hb0
  clear hn hb0
  unfold Nd.val at HF ⊢
  go_enter Tryd.func21, Tryd.ntmps21
  go_wp2_with fail
  refine HF.out.mono ?_
  rintro e w1 ⟨B1, va, rfl, vd, vx, vi, rfl, hna⟩
  have HB1 := Lib.hid (HB0.out.trans (B1.mono HB0.out.size))
  have HB2 : Hid (∀ o, Below w.heap.size w (w1.alloc o)) := Lib.hid fun o => HB1.out.alloc HB1.out.size o
  obtain ⟨ad, cd, rfl⟩ := hna.id.shape
  obtain ⟨ax, cx, rfl⟩ := hna.ix.shape
  obtain ⟨ai, ci, rfl⟩ := hna.ii.shape
  clear hna B1
  unfold At.val
  rcases opt_parts (findA n.attrs nm 1) At.zero with ⟨h1, h2, h3⟩ | ⟨a, h1, h2, h3⟩
  · have HP : Hid (bitsP n.attrs nm other = other) := Lib.hid (by unfold bitsP; rw [h1])
    rw [h2]
    clear h1 h2 h3
    go_wp2
    go_ret
    exact ⟨ret_val (int_val HP.out.symm), HB2.out _⟩
  · have HP : Hid (bitsP n.attrs nm other = a.f) := Lib.hid (by unfold bitsP; rw [h1])
    rw [h2, h3]
    clear h1 h2 h3
    go_wp2
    go_ret
    exact ⟨ret_val (int_val HP.out.symm), HB2.out _⟩

set_option maxRecDepth 100000 in
set_option maxHeartbeats 2000000 in
theorem rbitsA_any {w : World} {v : Value} {n : Nd} (h : NodeV w v n) (nm : ByteArray) (other : Int) :
    Calls Tryd.prog 22 #[v, .string nm, .int .i64 other] w fun e w' => e = .returned (.int .i64 (bitsP n.attrs nm other)) ∧ Below w.heap.size w w' := by
  obtain ⟨vin, vat, rfl, hn⟩ := h
  obtain ⟨a1, c1, rfl⟩ := hn.is.form
  obtain ⟨a2, c2, rfl⟩ := hn.ia.form
  have hb0 : Below w.heap.size w (w.alloc (Obj.cells #[Value.string n.op, Value.string n.name, Value.slice a1 n.ins.length c1, Value.string n.out, Value.slice a2 n.attrs.length c2] 25)) := (Below.refl _ w).alloc (Nat.le_refl _) _
  have HF := Lib.hid (rfind_any ⟨_, _, rfl, hn.below hb0⟩ nm 1)
  have HB0 := Lib.hid hb0
  clear hn hb0
  unfold Nd.val at HF ⊢
  go_enter Tryd.func22, Tryd.ntmps22
  go_wp2_with fail
  refine HF.out.mono ?_
  rintro e w1 ⟨B1, va, rfl, vd, vx, vi, rfl, hna⟩
  have HB1 := Lib.hid (HB0.out.trans (B1.mono HB0.out.size))
  have HB2 : Hid (∀ o, Below w.heap.size w (w1.alloc o)) := Lib.hid fun o => HB1.out.alloc HB1.out.size o
  obtain ⟨ad, cd, rfl⟩ := hna.id.shape
  obtain ⟨ax, cx, rfl⟩ := hna.ix.shape
  obtain ⟨ai, ci, rfl⟩ := hna.ii.shape
  clear hna B1
  unfold At.val
  rcases opt_parts (findA n.attrs nm 1) At.zero with ⟨h1, h2, h3⟩ | ⟨a, h1, h2, h3⟩
  · have HP : Hid (bitsP n.attrs nm other = other) := Lib.hid (by unfold bitsP; rw [h1])
    rw [h2]
    clear h1 h2 h3
    go_wp2
    go_ret
    exact ⟨ret_val (int_val HP.out.symm), HB2.out _⟩
  · have HP : Hid (bitsP n.attrs nm other = a.f) := Lib.hid (by unfold bitsP; rw [h1])
    rw [h2, h3]
    clear h1 h2 h3
    go_wp2
    go_ret
    exact ⟨ret_val (int_val HP.out.symm), HB2.out _⟩

set_option maxRecDepth 100000 in
set_option maxHeartbeats 2000000 in
theorem sints_any {w : World} {v vo : Value} {n : Nd} (h : NodeV w v n) (nm : ByteArray) {other : List Int} (ho : IntsIn w vo other) :
    Calls Tryd.prog 17 #[v, .string nm, vo] w fun e w' => ∃ v', e = .returned v' ∧ w'.ownsRow w.heap.size 2 1 v' (intsP n.attrs nm other).length ((intsP n.attrs nm other).map (Value.int .i64)) ∧ Below w.heap.size w w' := by
  obtain ⟨i0, hi, hz0, hz1, hz2⟩ := info_parts info_int64
  obtain ⟨vin, vat, rfl, hn⟩ := h
  obtain ⟨a1, c1, rfl⟩ := hn.is.form
  obtain ⟨a2, c2, rfl⟩ := hn.ia.form
  obtain ⟨a3, c3, rfl⟩ := ho.shape
  have hb0 : Below w.heap.size w (w.alloc (Obj.cells #[Value.string n.op, Value.string n.name, Value.slice a1 n.ins.length c1, Value.string n.out, Value.slice a2 n.attrs.length c2] 25)) := (Below.refl _ w).alloc (Nat.le_refl _) _
  have HF := Lib.hid (find_any ⟨_, _, rfl, hn.below hb0⟩ nm 7)
  have HB0 := Lib.hid hb0
  have HO := Lib.hid ho
  clear hn hb0 ho
  unfold Nd.val at HF ⊢
  go_enter Tryd.func17, Tryd.ntmps17
  go_wp2_with fail
  refine HF.out.mono ?_
  rintro e w1 ⟨B1, va, rfl, vd, vx, vi, rfl, hna⟩
  have HB1 := Lib.hid (HB0.out.trans (B1.mono HB0.out.size))
  have HB2 : Hid (∀ o, Below w.heap.size w (w1.alloc o)) := Lib.hid fun o => HB1.out.alloc HB1.out.size o
  have HII : Hid (∀ o, IntsIn (w1.alloc o) vi ((findA n.attrs nm 7).getD At.zero).ints) := Lib.hid fun o => hna.ii.below ((Below.refl _ _).alloc (Nat.le_refl _) _)
  have HOO : Hid (∀ o, IntsIn (w1.alloc o) (.slice a3 other.length c3) other) := Lib.hid fun o => HO.out.below (HB2.out o)
  obtain ⟨ad, cd, rfl⟩ := hna.id.shape
  obtain ⟨ax, cx, rfl⟩ := hna.ix.shape
  obtain ⟨ai, ci, rfl⟩ := hna.ii.shape
  clear hna B1
  unfold At.val
  rcases opt_parts (findA n.attrs nm 7) At.zero with ⟨h1, h2, h3⟩ | ⟨a, h1, h2, h3⟩
  · have HP : Hid (intsP n.attrs nm other = other) := Lib.hid (by unfold intsP; rw [h1])
    rw [h2]
    clear h1 h2 h3 HII
    go_wp2_with fail
    refine (clone_any (HOO.out _)).mono ?_
    rintro e w2 ⟨v', rfl, h1, h2⟩
    have H1 := Lib.hid (owns_base (b0 := w.heap.size) h1 (by have := HB1.out.size; first | omega | (rw [World.size_alloc]; omega)))
    have H2 := Lib.hid ((HB2.out _).trans (h2.mono (by have := HB1.out.size; first | omega | (rw [World.size_alloc]; omega))))
    clear h1 h2
    go_wp2
    go_ret
    exact ⟨_, rfl, by rw [HP.out]; exact H1.out, H2.out⟩
  · have HP : Hid (intsP n.attrs nm other = a.ints) := Lib.hid (by unfold intsP; rw [h1])
    rw [h2, h3]
    rw [h3] at HII
    clear h1 h2 h3
    go_wp2_with fail
    refine (clone_any (HII.out _)).mono ?_
    rintro e w2 ⟨v', rfl, h1, h2⟩
    have H1 := Lib.hid (owns_base (b0 := w.heap.size) h1 (by have := HB1.out.size; first | omega | (rw [World.size_alloc]; omega)))
    have H2 := Lib.hid ((HB2.out _).trans (h2.mono (by have := HB1.out.size; first | omega | (rw [World.size_alloc]; omega))))
    clear h1 h2
    go_wp2
    go_ret
    exact ⟨_, rfl, by rw [HP.out]; exact H1.out, H2.out⟩

set_option maxRecDepth 100000 in
set_option maxHeartbeats 2000000 in
theorem rints_any {w : World} {v vo : Value} {n : Nd} (h : NodeV w v n) (nm : ByteArray) {other : List Int} (ho : IntsIn w vo other) :
    Calls Tryd.prog 18 #[v, .string nm, vo] w fun e w' => ∃ v', e = .returned v' ∧ w'.ownsRow w.heap.size 2 1 v' (intsP n.attrs nm other).length ((intsP n.attrs nm other).map (Value.int .i64)) ∧ Below w.heap.size w w' := by
  obtain ⟨i0, hi, hz0, hz1, hz2⟩ := info_parts info_int64
  obtain ⟨vin, vat, rfl, hn⟩ := h
  obtain ⟨a1, c1, rfl⟩ := hn.is.form
  obtain ⟨a2, c2, rfl⟩ := hn.ia.form
  obtain ⟨a3, c3, rfl⟩ := ho.shape
  have hb0 : Below w.heap.size w (w.alloc (Obj.cells #[Value.string n.op, Value.string n.name, Value.slice a1 n.ins.length c1, Value.string n.out, Value.slice a2 n.attrs.length c2] 25)) := (Below.refl _ w).alloc (Nat.le_refl _) _
  have HF := Lib.hid (rfind_any ⟨_, _, rfl, hn.below hb0⟩ nm 7)
  have HB0 := Lib.hid hb0
  have HO := Lib.hid ho
  clear hn hb0 ho
  unfold Nd.val at HF ⊢
  go_enter Tryd.func18, Tryd.ntmps18
  go_wp2_with fail
  refine HF.out.mono ?_
  rintro e w1 ⟨B1, va, rfl, vd, vx, vi, rfl, hna⟩
  have HB1 := Lib.hid (HB0.out.trans (B1.mono HB0.out.size))
  have HB2 : Hid (∀ o, Below w.heap.size w (w1.alloc o)) := Lib.hid fun o => HB1.out.alloc HB1.out.size o
  have HII : Hid (∀ o, IntsIn (w1.alloc o) vi ((findA n.attrs nm 7).getD At.zero).ints) := Lib.hid fun o => hna.ii.below ((Below.refl _ _).alloc (Nat.le_refl _) _)
  have HOO : Hid (∀ o, IntsIn (w1.alloc o) (.slice a3 other.length c3) other) := Lib.hid fun o => HO.out.below (HB2.out o)
  obtain ⟨ad, cd, rfl⟩ := hna.id.shape
  obtain ⟨ax, cx, rfl⟩ := hna.ix.shape
  obtain ⟨ai, ci, rfl⟩ := hna.ii.shape
  clear hna B1
  unfold At.val
  rcases opt_parts (findA n.attrs nm 7) At.zero with ⟨h1, h2, h3⟩ | ⟨a, h1, h2, h3⟩
  · have HP : Hid (intsP n.attrs nm other = other) := Lib.hid (by unfold intsP; rw [h1])
    rw [h2]
    clear h1 h2 h3 HII
    go_wp2_with (at_builtin; refine wpList_append_copy rfl _ _ 33 rfl Tryd.underlying33 hi hz0 hz1 hz2 rfl (by decide) rfl rfl (HOO.out _).news ?_)
    intro v' w2 h1 h2
    have H1 := Lib.hid (owns_base (b0 := w.heap.size) h1 (by have := HB1.out.size; first | omega | (rw [World.size_alloc]; omega)))
    have H2 := Lib.hid ((HB2.out _).trans (h2.mono (by have := HB1.out.size; first | omega | (rw [World.size_alloc]; omega))))
    clear h1 h2
    go_wp2
    go_ret
    exact ⟨_, rfl, by rw [HP.out]; exact H1.out, H2.out⟩
  · have HP : Hid (intsP n.attrs nm other = a.ints) := Lib.hid (by unfold intsP; rw [h1])
    rw [h2, h3]
    rw [h3] at HII
    clear h1 h2 h3
    go_wp2_with (at_builtin; refine wpList_append_copy rfl _ _ 33 rfl Tryd.underlying33 hi hz0 hz1 hz2 rfl (by decide) rfl rfl (HII.out _).news ?_)
    intro v' w2 h1 h2
    have H1 := Lib.hid (owns_base (b0 := w.heap.size) h1 (by have := HB1.out.size; first | omega | (rw [World.size_alloc]; omega)))
    have H2 := Lib.hid ((HB2.out _).trans (h2.mono (by have := HB1.out.size; first | omega | (rw [World.size_alloc]; omega))))
    clear h1 h2
    go_wp2
    go_ret
    exact ⟨_, rfl, by rw [HP.out]; exact H1.out, H2.out⟩

end Go.Proofs.YtijeblfhkkfjgaaDoor
