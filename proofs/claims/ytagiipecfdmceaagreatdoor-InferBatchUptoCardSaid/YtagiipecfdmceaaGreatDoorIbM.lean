/- Rows of a call's own as values and strings; mandrellaw08's live. -/
import Derived.Test.YtagiipecfdmceaaGreatDoorInM2
import Derived.Test.YtagiipecfdmceaaGreatDoorInM3
import Derived.Test.YtagiipecfdmceaaGreatDoorSchSm
set_option linter.unusedVariables false
set_option linter.unusedSimpArgs false
namespace Go.Proofs.YtagiipecfdmceaaGreatDoor
open Go.RowKit

set_option maxRecDepth 100000

theorem strs_box {W : World} {b : Nat} {cs : Array Value} {t : TypeId} {ss : List ByteArray} (h : BoxN W b cs t) (e : cs.toList = ss.map Value.string) (h0 : ss ≠ []) (hl : ss.length ≤ 1000) : StrsIn W (.slice (some ⟨b, 0, none⟩) ss.length ss.length) ss := by
  refine .row b 0 ss.length ss h0 (Nat.le_refl _) h.lt (fun j s hj => ?_) (by omega)
  have : cs[j]? = some (.string s) := by rw [← Array.getElem?_toList, e, List.getElem?_map, hj]; rfl
  simpa using h.cell j this
theorem ints_box {W : World} {b : Nat} {cs : Array Value} {t : TypeId} {zs : List Int} (h : BoxN W b cs t) (e : cs.toList = zs.map (Value.int .i64)) (h0 : zs ≠ []) (hl : zs.length ≤ 1000) (hi : ∀ z ∈ zs, InI z) : IntsIn W (.slice (some ⟨b, 0, none⟩) zs.length zs.length) zs := by
  refine .row b 0 zs.length zs h0 (Nat.le_refl _) h.lt (fun j hj => ?_) (by omega) hi
  have : cs[j]? = some (.int .i64 (zs.getD j 0)) := by
    rw [← Array.getElem?_toList, e, List.getElem?_map, List.getElem?_eq_getElem hj]
    simp [List.getD, List.getElem?_eq_getElem hj]
  simpa using h.cell j this
theorem vals_two {W : World} {b : Nat} {t : TypeId} {x y : Vl} {dx dy : Value} (h : BoxN W b #[.string x.name, .int .i64 x.typ, dx, .string y.name, .int .i64 y.typ, dy] t)
    (hx : x.name.size ≤ 1048576 ∧ InI x.typ ∧ IntsIn W dx x.dims) (hy : y.name.size ≤ 1048576 ∧ InI y.typ ∧ IntsIn W dy y.dims) : SlIn 3 rdValue W (.slice (some ⟨b, 0, none⟩) 2 2) [x, y] := by
  refine .row b 0 2 [x, y] (by simp) (by simp) h.lt (fun j z hj => ?_) (by simp)
  match j, hj with
  | 0, hj =>
    obtain rfl := Option.some.inj hj
    exact ⟨[.string x.name, .int .i64 x.typ, dx], rfl, ⟨dx, rfl, hx⟩, fun i u hu => by
      match i, hu with
      | 0, hu => obtain rfl := Option.some.inj hu; simpa using h.cell 0 rfl
      | 1, hu => obtain rfl := Option.some.inj hu; simpa using h.cell 1 rfl
      | 2, hu => obtain rfl := Option.some.inj hu; simpa using h.cell 2 rfl⟩
  | 1, hj =>
    obtain rfl := Option.some.inj hj
    exact ⟨[.string y.name, .int .i64 y.typ, dy], rfl, ⟨dy, rfl, hy⟩, fun i u hu => by
      match i, hu with
      | 0, hu => obtain rfl := Option.some.inj hu; simpa using h.cell 3 rfl
      | 1, hu => obtain rfl := Option.some.inj hu; simpa using h.cell 4 rfl
      | 2, hu => obtain rfl := Option.some.inj hu; simpa using h.cell 5 rfl⟩
theorem vals_one {W : World} {b : Nat} {t : TypeId} {x : Vl} {dx : Value} (h : BoxN W b #[.string x.name, .int .i64 x.typ, dx] t)
    (hx : x.name.size ≤ 1048576 ∧ InI x.typ ∧ IntsIn W dx x.dims) : SlIn 3 rdValue W (.slice (some ⟨b, 0, none⟩) 1 1) [x] := by
  refine .row b 0 1 [x] (by simp) (by simp) h.lt (fun j z hj => ?_) (by simp)
  match j, hj with
  | 0, hj =>
    obtain rfl := Option.some.inj hj
    exact ⟨[.string x.name, .int .i64 x.typ, dx], rfl, ⟨dx, rfl, hx⟩, fun i u hu => by
      match i, hu with
      | 0, hu => obtain rfl := Option.some.inj hu; simpa using h.cell 0 rfl
      | 1, hu => obtain rfl := Option.some.inj hu; simpa using h.cell 1 rfl
      | 2, hu => obtain rfl := Option.some.inj hu; simpa using h.cell 2 rfl⟩

theorem boxn_new {W : World} {b : Nat} {cs : Array Value} {t : TypeId} (h : b = W.heap.size) : BoxN (W.alloc (.cells cs t)) b cs t := by subst h; exact BoxN.new _ _ _

def sA : ByteArray := ⟨#[97]⟩
def sB : ByteArray := ⟨#[98]⟩
def sC : ByteArray := ⟨#[99]⟩
def ndMat : Nd := ⟨⟨#[77, 97, 116, 77, 117, 108]⟩, ⟨#[]⟩, [sA, sB], sC, []⟩
def ndRelu : Nd := ⟨⟨#[82, 101, 108, 117]⟩, ⟨#[]⟩, [sA], sC, []⟩
def vM1 : Vl := ⟨⟨#[]⟩, 1, [5, 2, 3]⟩
def vM2 : Vl := ⟨⟨#[]⟩, 1, [3, 4]⟩
def vR : Vl := ⟨⟨#[]⟩, 6, []⟩

theorem out_mat : outP ndMat [vM1, vM2] (typD (alB [vM1, vM2] 1) 1) (productP [5, 2, 3] [3, 4]) = (0, 1, [5, 2, 4]) := by decide +kernel
theorem out_relu (ds : Int × List Int) : outP ndRelu [vR] (typU (Fl.un [82, 101, 108, 117] 6 0).2 6) ds = (4, 0, []) := by
  have h1 : checkP ndRelu = 0 := by decide +kernel
  have h2 : inpE [vR] = 0 := by decide +kernel
  have h3 : typU (Fl.un [82, 101, 108, 117] 6 0).2 6 = (4, 0) := by decide +kernel
  rw [h3]
  exact outP_typ h1 rfl h2 (by decide)

theorem mat_any {w : World} {vn vv : Value} (hn : NodeV w vn ndMat) (hs : SlIn 3 rdValue w vv [vM1, vM2]) (hG : Glob w) :
    Calls Tryz.prog 11 #[vn, vv] w fun e w' => OutR w ndMat (0, 1, [5, 2, 4]) e w' := by
  have hl : ndMat.op.toList = [77, 97, 116, 77, 117, 108] := by unfold ndMat; rw [ByteArray.toList_eq]
  have := out_any (ty := typD (alB [vM1, vM2] 1) 1) (ds := productP [5, 2, 3] [3, 4]) hn hs hG
    (fun _ _ _ W v hB hm => typ_MatMul hm rfl hl) (fun _ _ _ _ W v hB hm => dims_MatMul hm rfl rfl hl)
  rwa [out_mat] at this
theorem relu_any {w : World} {vn vv : Value} (hn : NodeV w vn ndRelu) (hs : SlIn 3 rdValue w vv [vR]) (hG : Glob w) :
    Calls Tryz.prog 11 #[vn, vv] w fun e w' => OutR w ndRelu (4, 0, []) e w' := by
  have hl : ndRelu.op.toList = [82, 101, 108, 117] := by unfold ndRelu; rw [ByteArray.toList_eq]
  have h3 : typU (Fl.un [82, 101, 108, 117] 6 0).2 6 = (4, 0) := by decide +kernel
  have := out_any (ty := typU (Fl.un [82, 101, 108, 117] 6 0).2 6) (ds := (0, [])) hn hs hG
    (fun _ _ _ W v hB hm => by have := typ_Relu hm (x := vR) rfl hl; rwa [hl] at this) (fun _ _ _ h => by rw [h3] at h; exact absurd h (by decide))
  rwa [out_relu] at this

set_option maxHeartbeats 4000000 in
theorem live08_any {w : World} (hG : Glob w) : Calls Tryz.prog 10 #[] w fun e w' => e = .returned (.bool true) ∧ Below w.heap.size w w' := by
  have HG := Lib.hid hG
  clear hG
  go_enter Tryz.func10, Tryz.ntmps10
  go_wp2_with fail
  have HB1 : Hid (Below w.heap.size w ((((w.alloc (Obj.cells #[.string ⟨#[97]⟩, .string ⟨#[98]⟩] 9)).alloc (Obj.cells #[.int .i64 5, .int .i64 2, .int .i64 3] 3)).alloc (Obj.cells #[.int .i64 3, .int .i64 4] 3)).alloc (Obj.cells #[.string ⟨#[]⟩, .int .i64 1, .slice (some ⟨w.heap.size + 1, 0, none⟩) 3 3, .string ⟨#[]⟩, .int .i64 1, .slice (some ⟨w.heap.size + 1 + 1, 0, none⟩) 2 2] 30))) := Lib.hid (((((Below.refl _ w).alloc (Nat.le_refl _) _).alloc (by simp) _).alloc (by simp <;> omega) _).alloc (by simp <;> omega) _)
  have D1 : BoxN ((((w.alloc (Obj.cells #[.string ⟨#[97]⟩, .string ⟨#[98]⟩] 9)).alloc (Obj.cells #[.int .i64 5, .int .i64 2, .int .i64 3] 3)).alloc (Obj.cells #[.int .i64 3, .int .i64 4] 3)).alloc (Obj.cells #[.string ⟨#[]⟩, .int .i64 1, .slice (some ⟨w.heap.size + 1, 0, none⟩) 3 3, .string ⟨#[]⟩, .int .i64 1, .slice (some ⟨w.heap.size + 1 + 1, 0, none⟩) 2 2] 30)) w.heap.size #[.string ⟨#[97]⟩, .string ⟨#[98]⟩] 9 := (boxn_new rfl).below' ((((Below.refl _ _).alloc (Nat.le_refl _) _).alloc (by simp) _).alloc (by simp <;> omega) _)
  have D2 : BoxN ((((w.alloc (Obj.cells #[.string ⟨#[97]⟩, .string ⟨#[98]⟩] 9)).alloc (Obj.cells #[.int .i64 5, .int .i64 2, .int .i64 3] 3)).alloc (Obj.cells #[.int .i64 3, .int .i64 4] 3)).alloc (Obj.cells #[.string ⟨#[]⟩, .int .i64 1, .slice (some ⟨w.heap.size + 1, 0, none⟩) 3 3, .string ⟨#[]⟩, .int .i64 1, .slice (some ⟨w.heap.size + 1 + 1, 0, none⟩) 2 2] 30)) (w.heap.size + 1) #[.int .i64 5, .int .i64 2, .int .i64 3] 3 := (boxn_new (by simp)).below' (((Below.refl _ _).alloc (Nat.le_refl _) _).alloc (by simp) _)
  have D3 : BoxN ((((w.alloc (Obj.cells #[.string ⟨#[97]⟩, .string ⟨#[98]⟩] 9)).alloc (Obj.cells #[.int .i64 5, .int .i64 2, .int .i64 3] 3)).alloc (Obj.cells #[.int .i64 3, .int .i64 4] 3)).alloc (Obj.cells #[.string ⟨#[]⟩, .int .i64 1, .slice (some ⟨w.heap.size + 1, 0, none⟩) 3 3, .string ⟨#[]⟩, .int .i64 1, .slice (some ⟨w.heap.size + 1 + 1, 0, none⟩) 2 2] 30)) (w.heap.size + 1 + 1) #[.int .i64 3, .int .i64 4] 3 := (boxn_new (by simp)).below' ((Below.refl _ _).alloc (Nat.le_refl _) _)
  have D4 : BoxN ((((w.alloc (Obj.cells #[.string ⟨#[97]⟩, .string ⟨#[98]⟩] 9)).alloc (Obj.cells #[.int .i64 5, .int .i64 2, .int .i64 3] 3)).alloc (Obj.cells #[.int .i64 3, .int .i64 4] 3)).alloc (Obj.cells #[.string ⟨#[]⟩, .int .i64 1, .slice (some ⟨w.heap.size + 1, 0, none⟩) 3 3, .string ⟨#[]⟩, .int .i64 1, .slice (some ⟨w.heap.size + 1 + 1, 0, none⟩) 2 2] 30)) (w.heap.size + 1 + 1 + 1) #[.string ⟨#[]⟩, .int .i64 1, .slice (some ⟨w.heap.size + 1, 0, none⟩) 3 3, .string ⟨#[]⟩, .int .i64 1, .slice (some ⟨w.heap.size + 1 + 1, 0, none⟩) 2 2] 30 := boxn_new (by simp)
  generalize World.alloc (World.alloc (World.alloc (World.alloc w _) _) _) _ = W1 at HB1 D1 D2 D3 D4 ⊢
  have hN : NodeV W1 (.agg #[.string ⟨#[77, 97, 116, 77, 117, 108]⟩, .string ⟨#[]⟩, .slice (some ⟨w.heap.size, 0, none⟩) 2 2, .string ⟨#[99]⟩, .slice none 0 0]) ndMat :=
    ⟨_, _, rfl, ⟨strs_box (ss := [sA, sB]) D1 rfl (by simp) (by simp), .empty none 0⟩⟩
  have hV : SlIn 3 rdValue W1 (.slice (some ⟨w.heap.size + 1 + 1 + 1, 0, none⟩) 2 2) [vM1, vM2] :=
    vals_two (x := vM1) (y := vM2) D4 ⟨by decide, by unfold InI vM1; decide, ints_box (zs := [5, 2, 3]) D2 rfl (by simp) (by simp) (by intro z hz; simp at hz; unfold InI; omega)⟩ ⟨by decide, by unfold InI vM2; decide, ints_box (zs := [3, 4]) D3 rfl (by simp) (by simp) (by intro z hz; simp at hz; unfold InI; omega)⟩
  clear D1 D2 D3 D4
  refine (mat_any hN hV (HG.out.below HB1.out)).mono ?_
  clear hN hV
  rintro e w2 ⟨B2, ⟨h0, -⟩ | ⟨-, v2, rfl, hr2⟩⟩
  · exact absurd rfl h0
  have HB2 : Hid (Below w.heap.size w w2) := Lib.hid (HB1.out.trans (B2.mono HB1.out.size))
  have HI2 : Hid (IntsIn w2 v2 [5, 2, 4]) := Lib.hid (RowI.ints (B := W1.heap.size) hr2 (by simp) (by intro z hz; simp at hz; unfold InI; omega))
  clear B2 hr2
  obtain ⟨a2, k2, rfl⟩ := HI2.out.shape
  rw [show ndMat.out = (⟨#[99]⟩ : ByteArray) from rfl]
  go_wp2_with fail
  have hB3 : Below w2.heap.size w2 (((w2.alloc (Obj.cells #[.string ⟨#[99]⟩, .int .i64 1, .slice a2 3 k2] 30)).alloc (Obj.cells #[.string ⟨#[97]⟩] 9)).alloc (Obj.cells #[.string ⟨#[]⟩, .int .i64 6, .slice none 0 0] 30)) := (((Below.refl _ w2).alloc (Nat.le_refl _) _).alloc (by simp) _).alloc (by simp <;> omega) _
  have HB3 : Hid (Below w.heap.size w (((w2.alloc (Obj.cells #[.string ⟨#[99]⟩, .int .i64 1, .slice a2 3 k2] 30)).alloc (Obj.cells #[.string ⟨#[97]⟩] 9)).alloc (Obj.cells #[.string ⟨#[]⟩, .int .i64 6, .slice none 0 0] 30))) := Lib.hid (HB2.out.trans (hB3.mono HB2.out.size))
  have E1 : Hid (BoxN (((w2.alloc (Obj.cells #[.string ⟨#[99]⟩, .int .i64 1, .slice a2 3 k2] 30)).alloc (Obj.cells #[.string ⟨#[97]⟩] 9)).alloc (Obj.cells #[.string ⟨#[]⟩, .int .i64 6, .slice none 0 0] 30)) w2.heap.size #[.string ⟨#[99]⟩, .int .i64 1, .slice a2 3 k2] 30) := Lib.hid ((boxn_new rfl).below' (((Below.refl _ _).alloc (Nat.le_refl _) _).alloc (by simp) _))
  have D2 : BoxN (((w2.alloc (Obj.cells #[.string ⟨#[99]⟩, .int .i64 1, .slice a2 3 k2] 30)).alloc (Obj.cells #[.string ⟨#[97]⟩] 9)).alloc (Obj.cells #[.string ⟨#[]⟩, .int .i64 6, .slice none 0 0] 30)) (w2.heap.size + 1) #[.string ⟨#[97]⟩] 9 := (boxn_new (by simp)).below' ((Below.refl _ _).alloc (Nat.le_refl _) _)
  have D3 : BoxN (((w2.alloc (Obj.cells #[.string ⟨#[99]⟩, .int .i64 1, .slice a2 3 k2] 30)).alloc (Obj.cells #[.string ⟨#[97]⟩] 9)).alloc (Obj.cells #[.string ⟨#[]⟩, .int .i64 6, .slice none 0 0] 30)) (w2.heap.size + 1 + 1) #[.string ⟨#[]⟩, .int .i64 6, .slice none 0 0] 30 := boxn_new (by simp)
  have HI3 := Lib.hid (HI2.out.below hB3)
  clear hB3 HI2
  generalize World.alloc (World.alloc (World.alloc w2 _) _) _ = W3 at HB3 E1 D2 D3 HI3 ⊢
  have hN : NodeV W3 (.agg #[.string ⟨#[82, 101, 108, 117]⟩, .string ⟨#[]⟩, .slice (some ⟨w2.heap.size + 1, 0, none⟩) 1 1, .string ⟨#[99]⟩, .slice none 0 0]) ndRelu :=
    ⟨_, _, rfl, ⟨strs_box (ss := [sA]) D2 rfl (by simp) (by simp), .empty none 0⟩⟩
  have hV : SlIn 3 rdValue W3 (.slice (some ⟨w2.heap.size + 1 + 1, 0, none⟩) 1 1) [vR] :=
    vals_one (x := vR) D3 ⟨by decide, by unfold InI vR; decide, .empty none 0⟩
  clear D2 D3
  refine (relu_any hN hV (HG.out.below HB3.out)).mono ?_
  clear hN hV
  rintro e w4 ⟨B4, ⟨-, rfl⟩ | ⟨h0, -⟩⟩
  case inr => exact absurd h0 (by decide)
  have HB4 : Hid (Below w.heap.size w w4) := Lib.hid (HB3.out.trans (B4.mono HB3.out.size))
  have HI4 := Lib.hid (HI3.out.below B4)
  have E4 := Lib.hid (E1.out.below' B4)
  clear B4 HI3 E1
  have g0 := cell_alloc (E4.out.cell 0 rfl) (Obj.cells #[.string ⟨#[]⟩, .int .i64 0, .slice none 0 0] 30)
  have g1 := cell_alloc (E4.out.cell 1 rfl) (Obj.cells #[.string ⟨#[]⟩, .int .i64 0, .slice none 0 0] 30)
  have g2 := cell_alloc (E4.out.cell 2 rfl) (Obj.cells #[.string ⟨#[]⟩, .int .i64 0, .slice none 0 0] 30)
  go_wp2_with fail
  have hB5 : Below w4.heap.size w4 ((w4.alloc (Obj.cells #[.string ⟨#[]⟩, .int .i64 0, .slice none 0 0] 30)).alloc (Obj.cells #[.int .i64 5, .int .i64 2, .int .i64 4] 3)) := ((Below.refl _ w4).alloc (Nat.le_refl _) _).alloc (by simp) _
  have HB5 := Lib.hid (HB4.out.trans (hB5.mono HB4.out.size))
  have D5 : BoxN ((w4.alloc (Obj.cells #[.string ⟨#[]⟩, .int .i64 0, .slice none 0 0] 30)).alloc (Obj.cells #[.int .i64 5, .int .i64 2, .int .i64 4] 3)) (w4.heap.size + 1) #[.int .i64 5, .int .i64 2, .int .i64 4] 3 := boxn_new (by simp)
  refine (rsame_any (HI4.out.below hB5) (ints_box (zs := [5, 2, 4]) D5 rfl (by simp) (by simp) (by intro z hz; simp at hz; unfold InI; omega))).mono ?_
  rintro e w6 ⟨rfl, B6⟩
  have HB6 := Lib.hid (HB5.out.trans (B6.mono HB5.out.size))
  clear B6 g0 g1 g2 D5 hB5
  go_wp2
  go_ret
  exact ⟨rfl, HB6.out⟩

end Go.Proofs.YtagiipecfdmceaaGreatDoor

set_option linter.unusedVariables false
set_option linter.unusedSimpArgs false
namespace Go.Proofs.YtagiipecfdmceaaGreatDoor
open Go.RowKit

set_option maxRecDepth 100000

attribute [local irreducible] outP Vb.bcO Fl.bin

/-- What comes out of Out for an operator of two. -/
theorem out_two {w : World} {vn vv : Value} {n : Nd} {x y : Vl} (hn : NodeV w vn n) (hs : SlIn 3 rdValue w vv [x, y]) (hG : Glob w) (h2 : n.ins.length = 2) (ho : n.op.toList ∉ othL) :
    Calls Tryz.prog 11 #[vn, vv] w fun e w' => OutR w n (outP n [x, y] (typ2 n.op.toList x.typ y.typ) (Vb.bcO x.dims y.dims)) e w' :=
  out_any hn hs hG
    (fun hc _ _ W v hB hm => typ_two hm ((List.mem_append.1 (two_ops hc h2)).resolve_right ho))
    (fun hc _ _ _ W v hB hm => dims_two hm ((List.mem_append.1 (two_ops hc h2)).resolve_right ho))

theorem OutR.form {w w' : World} {n : Nd} {o : Int × Int × List Int} {e : Ending} (h : OutR w n o e w') (hz : o.1 ≠ 0 → o.2 = (0, [])) : Below w.heap.size w w' ∧ ∃ nm v, e = .returned (.tuple #[.agg #[.string nm, .int .i64 o.2.1, v], .int .i64 o.1]) ∧ RowI w' w.heap.size v o.2.2 := by
  obtain ⟨B, ⟨h0, rfl⟩ | ⟨h0, v, rfl, hr⟩⟩ := h
  · refine ⟨B, ⟨#[]⟩, .slice none 0 0, ?_, ?_⟩
    · rw [hz h0]
    · rw [hz h0]; exact RowI.nil _ _
  · exact ⟨B, n.out, v, by rw [h0], hr⟩
theorem outP_zero (n : Nd) (ins : List Vl) (ty : Int × Int) (ds : Int × List Int) (h : (outP n ins ty ds).1 ≠ 0) : (outP n ins ty ds).2 = (0, []) := by
  unfold outP at *
  split at h
  · rename_i g; rw [if_pos g]
  · rename_i g; rw [if_neg g]
    split at h
    · rename_i g; rw [if_pos g]
    · rename_i g; rw [if_neg g]
      split at h
      · rename_i g; rw [if_pos g]
      · rename_i g; rw [if_neg g]
        unfold restP at *
        split at h
        · rename_i g; rw [if_pos g]
        · rename_i g; rw [if_neg g]
          split at h
          · rename_i g; rw [if_pos g]
          · rename_i g; rw [if_neg g]
            split at h
            · rename_i g; rw [if_pos g]
            · rename_i g; rw [if_neg g]
              split at h
              · rename_i g; rw [if_pos g]
              · exact absurd rfl h
theorem bc_rowlen {a b : List Int} (ha : a.length * 8 ≤ 140737488351232) (hb : b.length * 8 ≤ 140737488351232) : (Vb.bcO a b).1 = 0 → (Vb.bcO a b).2.length * 8 ≤ 140737488351232 := fun h => by have := bc_len h; omega
theorem outP_row (n : Nd) (ins : List Vl) (ty : Int × Int) (ds : Int × List Int) (hl : ds.1 = 0 → ds.2.length * 8 ≤ 140737488351232) (hi : ∀ z ∈ ds.2, InI z) : (outP n ins ty ds).2.2.length * 8 ≤ 140737488351232 ∧ ∀ z ∈ (outP n ins ty ds).2.2, InI z := by
  by_cases h : (outP n ins ty ds).1 = 0
  · unfold outP at *
    split at h
    · rename_i g; exact absurd h g
    · rename_i g; rw [if_neg g]
      split at h
      · exact absurd h (by decide)
      · rename_i g; rw [if_neg g]
        split at h
        · rename_i g; exact absurd h g
        · rename_i g; rw [if_neg g]
          unfold restP at *
          split at h
          · rename_i g; exact absurd h g
          · rename_i g; rw [if_neg g]
            split at h
            · rename_i g; exact absurd h g
            · rename_i g0; rw [if_neg g0]
              split at h
              · rename_i g; exact absurd h g
              · rename_i g; rw [if_neg g]
                split at h
                · exact absurd h (by decide)
                · rename_i g; rw [if_neg g]; exact ⟨hl (by simpa using g0), hi⟩
  · rw [outP_zero n ins ty ds h]; simp

theorem ints_fresh {W : World} {PB : Nat} {u v t : Value} {a : Option Addr} {n c : Nat} {zs : List Int} (h : IntsIn W (.slice a n c) zs) (hp : PB = W.heap.size) (o : Obj) : IntsIn (put3 (W.alloc o) PB u v t) (.slice a n c) zs := by
  subst hp
  exact h.below (((((Below.refl _ W).alloc (Nat.le_refl _) o).setCell (p := ⟨W.heap.size, 0, none⟩) (Nat.le_refl _) _).setCell (p := ⟨W.heap.size, 1, none⟩) (Nat.le_refl _) _).setCell (p := ⟨W.heap.size, 2, none⟩) (Nat.le_refl _) _)
theorem ints_low {W : World} {D PB : Nat} {u v t r : Value} {zs : List Int} (h : RowI W D r zs) (hp : PB < D) (hl : zs.length * 8 ≤ 140737488351232 ∧ ∀ z ∈ zs, InI z) : IntsIn (put3 W PB u v t) r zs := by
  refine RowI.ints (B := D) ?_ hl.1 hl.2
  unfold RowI at *
  exact ownsRow_setCell_below (ownsRow_setCell_below (ownsRow_setCell_below h (a := ⟨PB, 0, none⟩) hp _) (a := ⟨PB, 1, none⟩) hp _) (a := ⟨PB, 2, none⟩) hp _

set_option maxHeartbeats 16000000 in
theorem batch_any {w : World} {vn vv : Value} {n : Nd} {ins : List Vl} (hn : NodeV w vn n) (hs : SlIn 3 rdValue w vv ins) (hG : Glob w) :
    Calls Tryz.prog 3 #[vn, vv] w fun e w' => e = .returned (.bool true) ∧ Below w.heap.size w w' := by
  obtain ⟨vin, vat, rfl, hm⟩ := hn
  obtain ⟨a1, c1, rfl⟩ := hm.is.form
  obtain ⟨a2, c2, rfl⟩ := hm.ia.form
  obtain ⟨a3, c3, rfl⟩ := hs.form
  have hil := hs.len
  have hnl := hm.is.len
  have HN := Lib.hid hm
  have HS := Lib.hid hs
  have HG := Lib.hid hG
  clear hm hs hG
  have HLv := Lib.hid (fun (W : World) (hB : Below w.heap.size w W) => live08_any (HG.out.below hB))
  unfold Nd.val
  have HB1 := Lib.hid ((Below.refl w.heap.size w).alloc (Nat.le_refl _) (Obj.cells #[.string n.op, .string n.name, .slice a1 n.ins.length c1, .string n.out, .slice a2 n.attrs.length c2] 25))
  by_cases h1 : ins.length = 2
  case neg =>
    have hb : ((ins.length : Int) != 2) = true := by simp; omega
    clear h1
    go_enter Tryz.func3, Tryz.ntmps3
    go_wp2_with fail
    generalize World.alloc w _ = W1 at HB1 ⊢
    refine (HLv.out _ HB1.out).mono ?_
    rintro e w2 ⟨rfl, B2⟩
    have HB2 := Lib.hid (HB1.out.trans (B2.mono HB1.out.size))
    clear B2
    go_wp2
    go_ret
    exact ⟨rfl, HB2.out⟩
  have hb1 : ((ins.length : Int) != 2) = false := by simp; omega
  by_cases h2 : n.ins.length = 2
  case neg =>
    have hb : ((n.ins.length : Int) != 2) = true := by simp; omega
    clear h1 h2
    go_enter Tryz.func3, Tryz.ntmps3
    go_wp2_with fail
    generalize World.alloc w _ = W1 at HB1 ⊢
    refine (HLv.out _ HB1.out).mono ?_
    rintro e w2 ⟨rfl, B2⟩
    have HB2 := Lib.hid (HB1.out.trans (B2.mono HB1.out.size))
    clear B2
    go_wp2
    go_ret
    exact ⟨rfl, HB2.out⟩
  have hb2 : ((n.ins.length : Int) != 2) = false := by simp; omega
  cases q0 : (n.op.toList == ([77, 97, 116, 77, 117, 108] : List UInt8)) with
  | true =>
    clear h1 h2
    go_enter Tryz.func3, Tryz.ntmps3
    go_wp2_with fail
    generalize World.alloc w _ = W1 at HB1 ⊢
    refine (HLv.out _ HB1.out).mono ?_
    rintro e w2 ⟨rfl, B2⟩
    have HB2 := Lib.hid (HB1.out.trans (B2.mono HB1.out.size))
    clear B2
    go_wp2
    go_ret
    exact ⟨rfl, HB2.out⟩
  | false =>
  cases q1 : (n.op.toList == ([71, 101, 109, 109] : List UInt8)) with
  | true =>
    clear h1 h2
    go_enter Tryz.func3, Tryz.ntmps3
    go_wp2_with fail
    generalize World.alloc w _ = W1 at HB1 ⊢
    refine (HLv.out _ HB1.out).mono ?_
    rintro e w2 ⟨rfl, B2⟩
    have HB2 := Lib.hid (HB1.out.trans (B2.mono HB1.out.size))
    clear B2
    go_wp2
    go_ret
    exact ⟨rfl, HB2.out⟩
  | false =>
  cases q2 : (n.op.toList == ([67, 111, 110, 118] : List UInt8)) with
  | true =>
    clear h1 h2
    go_enter Tryz.func3, Tryz.ntmps3
    go_wp2_with fail
    generalize World.alloc w _ = W1 at HB1 ⊢
    refine (HLv.out _ HB1.out).mono ?_
    rintro e w2 ⟨rfl, B2⟩
    have HB2 := Lib.hid (HB1.out.trans (B2.mono HB1.out.size))
    clear B2
    go_wp2
    go_ret
    exact ⟨rfl, HB2.out⟩
  | false =>
  cases q3 : (n.op.toList == ([71, 97, 116, 104, 101, 114] : List UInt8)) with
  | true =>
    clear h1 h2
    go_enter Tryz.func3, Tryz.ntmps3
    go_wp2_with fail
    generalize World.alloc w _ = W1 at HB1 ⊢
    refine (HLv.out _ HB1.out).mono ?_
    rintro e w2 ⟨rfl, B2⟩
    have HB2 := Lib.hid (HB1.out.trans (B2.mono HB1.out.size))
    clear B2
    go_wp2
    go_ret
    exact ⟨rfl, HB2.out⟩
  | false =>
  cases q4 : (n.op.toList == ([67, 111, 110, 99, 97, 116] : List UInt8)) with
  | true =>
    clear h1 h2
    go_enter Tryz.func3, Tryz.ntmps3
    go_wp2_with fail
    generalize World.alloc w _ = W1 at HB1 ⊢
    refine (HLv.out _ HB1.out).mono ?_
    rintro e w2 ⟨rfl, B2⟩
    have HB2 := Lib.hid (HB1.out.trans (B2.mono HB1.out.size))
    clear B2
    go_wp2
    go_ret
    exact ⟨rfl, HB2.out⟩
  | false =>
  have ho : n.op.toList ∉ othL := by
    intro c
    simp only [othL, List.mem_cons, List.not_mem_nil, or_false] at c
    rcases c with c | c | c | c | c
    · rw [c] at q0; exact absurd q0 (by decide)
    · rw [c] at q1; exact absurd q1 (by decide)
    · rw [c] at q2; exact absurd q2 (by decide)
    · rw [c] at q3; exact absurd q3 (by decide)
    · rw [c] at q4; exact absurd q4 (by decide)
  obtain ⟨x, y, rfl⟩ : ∃ x y, ins = [x, y] := by
    match ins, h1 with
    | [x, y], _ => exact ⟨x, y, rfl⟩
  have HO := Lib.hid ho
  have H2 := Lib.hid h2
  have HT := Lib.hid (out_turned n x y)
  have Z1 := Lib.hid (outP_zero n [x, y] (typ2 n.op.toList x.typ y.typ) (Vb.bcO x.dims y.dims))
  have Z2 := Lib.hid (outP_zero n [y, x] (typ2 n.op.toList y.typ x.typ) (Vb.bcO y.dims x.dims))
  clear ho h1 h2
  obtain ⟨bx, ox, cx, vx, hvx, hbx, x0, x1, x2, x3, x4, x5⟩ := value_at HS.out (j := 0) (x := x) rfl
  obtain ⟨rfl, hcc, rfl⟩ := Value.slice.inj hvx
  obtain ⟨by', oy, cy, vy, hvy, hby, y0, y1, y2, y3, y4, y5⟩ := value_at HS.out (j := 1) (x := y) rfl
  obtain ⟨e, -, -⟩ := Value.slice.inj hvy
  obtain ⟨e1, e2⟩ : bx = by' ∧ ox = oy := by simpa using e
  subst e1 e2
  clear hvx hvy e hby hcc
  have RL1 := Lib.hid (outP_row n [x, y] (typ2 n.op.toList x.typ y.typ) _ (bc_rowlen x5.wf.1 y5.wf.1) (bc_inI x5.wf.2 y5.wf.2))
  have RL2 := Lib.hid (outP_row n [y, x] (typ2 n.op.toList y.typ x.typ) _ (bc_rowlen y5.wf.1 x5.wf.1) (bc_inI y5.wf.2 x5.wf.2))
  have HX := Lib.hid (And.intro x3 (And.intro x4 x5))
  have HY := Lib.hid (And.intro y3 (And.intro y4 y5))
  obtain ⟨ax, kx, rfl⟩ := x5.shape
  obtain ⟨ay, ky, rfl⟩ := y5.shape
  clear x3 x4 x5 y3 y4 y5
  go_enter Tryz.func3, Tryz.ntmps3
  go_wp2_with fail
  have HA1 : Hid (BoxN (w.alloc (Obj.cells #[.string n.op, .string n.name, .slice a1 n.ins.length c1, .string n.out, .slice a2 n.attrs.length c2] 25)) w.heap.size #[.string n.op, .string n.name, .slice a1 n.ins.length c1, .string n.out, .slice a2 n.attrs.length c2] 25) := Lib.hid (BoxN.new _ _ _)
  generalize World.alloc w _ = W1 at HB1 HA1 ⊢
  refine (out_two ⟨_, _, rfl, HN.out.below HB1.out⟩ (HS.out.below (rdValue_below HB1.out) HB1.out) (HG.out.below HB1.out) H2.out HO.out).mono ?_
  rintro e w2 hR
  obtain ⟨B2, nm1, v2, rfl, hr2⟩ := hR.form Z1.out
  have HB2 : Hid (Below w.heap.size w w2) := Lib.hid (HB1.out.trans (B2.mono HB1.out.size))
  have HA2 := Lib.hid (HA1.out.below' B2)
  have HI2 : Hid (IntsIn w2 v2 _) := Lib.hid (hr2.ints RL1.out.1 RL1.out.2)
  clear hR B2 hr2 HA1 Z1 RL1
  obtain ⟨o1, ho1⟩ : ∃ o, outP n [x, y] (typ2 n.op.toList x.typ y.typ) (Vb.bcO x.dims y.dims) = o := ⟨_, rfl⟩
  rw [ho1] at HT HI2
  rw [ho1]
  obtain ⟨r1, t1, d1⟩ := o1
  obtain ⟨a4, c4, rfl⟩ := HI2.out.shape
  clear ho1
  go_wp2_with fail
  have HB23 : Hid (Below w2.heap.size w2 (w2.alloc (Obj.cells #[.string nm1, .int .i64 t1, .slice a4 d1.length c4] 30))) := Lib.hid ((Below.refl _ w2).alloc (Nat.le_refl _) _)
  have HB3 : Hid (Below w.heap.size w (w2.alloc (Obj.cells #[.string nm1, .int .i64 t1, .slice a4 d1.length c4] 30))) := Lib.hid (HB2.out.trans (HB23.out.mono HB2.out.size))
  have HU : Hid (BoxN (w2.alloc (Obj.cells #[.string nm1, .int .i64 t1, .slice a4 d1.length c4] 30)) w2.heap.size #[.string nm1, .int .i64 t1, .slice a4 d1.length c4] 30) := Lib.hid (BoxN.new _ _ _)
  have HA3 := Lib.hid (HA2.out.below' HB23.out)
  clear HA2
  generalize w2.alloc (Obj.cells #[.string nm1, .int .i64 t1, .slice a4 d1.length c4] 30) = w3 at HB23 HB3 HU HA3 ⊢
  generalize w2.heap.size = U2 at HU ⊢
  have HXY : Hid (∀ W', Below w3.heap.size w3 W' → W'.cell? ⟨bx, ox, none⟩ = some (.string x.name) ∧ W'.cell? ⟨bx, ox + 1, none⟩ = some (.int .i64 x.typ) ∧ W'.cell? ⟨bx, ox + 2, none⟩ = some (.slice ax x.dims.length kx) ∧ W'.cell? ⟨bx, ox + 1 * 3, none⟩ = some (.string y.name) ∧ W'.cell? ⟨bx, ox + 1 * 3 + 1, none⟩ = some (.int .i64 y.typ) ∧ W'.cell? ⟨bx, ox + 1 * 3 + 2, none⟩ = some (.slice ay y.dims.length ky)) := Lib.hid fun W' hB => by
    have hBw := HB3.out.trans (hB.mono HB3.out.size)
    exact ⟨(hBw.cell (p := ⟨bx, ox, none⟩) hbx).trans (by simpa using x0), (hBw.cell (p := ⟨bx, ox + 1, none⟩) hbx).trans (by simpa using x1), (hBw.cell (p := ⟨bx, ox + 2, none⟩) hbx).trans (by simpa using x2), (hBw.cell (p := ⟨bx, ox + 1 * 3, none⟩) hbx).trans y0, (hBw.cell (p := ⟨bx, ox + 1 * 3 + 1, none⟩) hbx).trans y1, (hBw.cell (p := ⟨bx, ox + 1 * 3 + 2, none⟩) hbx).trans y2⟩
  have HXw : Hid (∀ W', Below w3.heap.size w3 W' → x.name.size ≤ 1048576 ∧ InI x.typ ∧ IntsIn W' (.slice ax x.dims.length kx) x.dims) := Lib.hid fun W' hB => ⟨HX.out.1, HX.out.2.1, HX.out.2.2.below (HB3.out.trans (hB.mono HB3.out.size))⟩
  have HYw : Hid (∀ W', Below w3.heap.size w3 W' → y.name.size ≤ 1048576 ∧ InI y.typ ∧ IntsIn W' (.slice ay y.dims.length ky) y.dims) := Lib.hid fun W' hB => ⟨HY.out.1, HY.out.2.1, HY.out.2.2.below (HB3.out.trans (hB.mono HB3.out.size))⟩
  clear x0 x1 x2 y0 y1 y2 hbx HX HY HS
  have l2 : ([x, y] : List Vl).length = 2 := rfl
  refine wp_region_tree 14 (Pl.reads [0, 1, 2, 3, 4, 5, 6] (.two 7 (.two 8 (Pl.reads [9, 10, 11] (.act 12 (.act 13 .tail))) 12 (.act 8 (Pl.reads [9, 10, 11] (.act 13 .tail)))) 12 (.act 7 (.act 8 (Pl.reads [9, 10, 11] (.act 13 .tail)))))) (fun W' => Below w3.heap.size w3 W') (by kernel_rfl) (by kernel_rfl) (fun _ d _ _ _ h => by cases d <;> exact h) (Below.refl _ _).drew ?_
  simp only [Pl.reads]
  have B0 : Hid (Below w3.heap.size w3 w3.drew) := Lib.hid (Below.refl _ _).drew
  generalize w3.drew = wD at B0 ⊢
  repeat
    refine tree_read (v := ?_) rfl (Or.inl ⟨by rfl, ?_⟩) ?_
    rotate_left
    · intro W' hSw
      obtain ⟨x0, x1, x2, y0, y1, y2⟩ := HXY.out W' hSw
      obtain ⟨k0, k1, k2, k3, k4⟩ := (HA3.out.below' hSw).five
      go_simp
      try with_reducible rfl
    try simp only [Act.put, List.getElem_toArray, List.getElem_cons_zero, List.getElem_cons_succ, List.setIfInBounds_toArray, List.set_cons_zero, List.set_cons_succ]
  refine tree_two rfl rfl (fun K' hK => ?_) (fun K' hK => ?_)
  · go_simp
    have HB4 : Hid (Below w3.heap.size w3 (wD.alloc (Obj.cells #[.string y.name, .int .i64 y.typ, .slice ay y.dims.length ky, .string x.name, .int .i64 x.typ, .slice ax x.dims.length kx] 30))) := Lib.hid (B0.out.alloc B0.out.size _)
    have HBS : Hid (BoxN (wD.alloc (Obj.cells #[.string y.name, .int .i64 y.typ, .slice ay y.dims.length ky, .string x.name, .int .i64 x.typ, .slice ax x.dims.length kx] 30)) wD.heap.size #[.string y.name, .int .i64 y.typ, .slice ay y.dims.length ky, .string x.name, .int .i64 x.typ, .slice ax x.dims.length kx] 30) := Lib.hid (BoxN.new _ _ _)
    refine hK.out _ _ HB4.out ?_
    clear hK K'
    generalize wD.alloc (Obj.cells #[.string y.name, .int .i64 y.typ, .slice ay y.dims.length ky, .string x.name, .int .i64 x.typ, .slice ax x.dims.length kx] 30) = w4 at HB4 HBS ⊢
    generalize wD.heap.size = bs at HBS ⊢
    refine tree_two rfl rfl (fun K' hK => ?_) (fun K' hK => ?_)
    · go_simp
      refine (out_two (x := y) (y := x) ⟨_, _, rfl, HN.out.below (HB3.out.trans (HB4.out.mono HB3.out.size))⟩ (vals_two HBS.out (HYw.out _ HB4.out) (HXw.out _ HB4.out)) (HG.out.below (HB3.out.trans (HB4.out.mono HB3.out.size))) H2.out HO.out).mono ?_
      rintro e w6 hR
      obtain ⟨B6, nm2, v6, rfl, hr6⟩ := hR.form Z2.out
      have HB6 : Hid (Below w3.heap.size w3 w6) := Lib.hid (HB4.out.trans (B6.mono HB4.out.size))
      have HI6 : Hid (IntsIn w6 v6 _) := Lib.hid (hr6.ints RL2.out.1 RL2.out.2)
      obtain ⟨o2, ho2⟩ : ∃ o, outP n [y, x] (typ2 n.op.toList y.typ x.typ) (Vb.bcO y.dims x.dims) = o := ⟨_, rfl⟩
      have hl6 := RL2.out
      rw [ho2] at HI6 hr6 hl6
      rw [ho2]
      have hT2 := HT.out
      rw [ho2] at hT2
      have HT2 := Lib.hid hT2
      obtain ⟨r2, t2, d2⟩ := o2
      obtain ⟨a6, c6, rfl⟩ := HI6.out.shape
      clear ho2 hR hr6 hT2 B6 hl6
      refine hK.out _ _ HB6.out ?_
      clear hK K'
      repeat
        refine tree_read (v := ?_) rfl (Or.inl ⟨by rfl, ?_⟩) ?_
        rotate_left
        · intro W' hSw
          go_simp
          try with_reducible rfl
        try simp only [Act.put, List.getElem_toArray, List.getElem_cons_zero, List.getElem_cons_succ, List.setIfInBounds_toArray, List.set_cons_zero, List.set_cons_succ]
      refine tree_act rfl (fun K' hK => ?_)
      go_simp
      have HB5 : Hid (Below w3.heap.size w3 (w6.alloc (Obj.cells #[.string ⟨#[]⟩, .int .i64 0, .slice none 0 0] 30))) := Lib.hid (HB6.out.alloc HB6.out.size _)
      have HPZ : Hid (BoxN (w6.alloc (Obj.cells #[.string ⟨#[]⟩, .int .i64 0, .slice none 0 0] 30)) w6.heap.size #[.string ⟨#[]⟩, .int .i64 0, .slice none 0 0] 30) := Lib.hid (BoxN.new _ _ _)
      have HPL : Hid (w3.heap.size ≤ w6.heap.size) := Lib.hid HB6.out.size
      have HIP := Lib.hid (ints_fresh (u := .string nm2) (v := .int .i64 t2) (t := .slice a6 d2.length c6) HI6.out rfl (Obj.cells #[.string ⟨#[]⟩, .int .i64 0, .slice none 0 0] 30))
      refine hK.out _ _ HB5.out ?_
      clear hK K'
      generalize w6.alloc (Obj.cells #[.string ⟨#[]⟩, .int .i64 0, .slice none 0 0] 30) = w5 at HB5 HPZ HIP ⊢
      generalize w6.heap.size = PB at HPZ HPL HIP ⊢
      obtain ⟨f0, f1, f2⟩ := HPZ.out.three
      obtain ⟨z0, z1, z2⟩ := HPZ.out.thaw3
      refine tree_act rfl (fun K' hK => ?_)
      go_simp
      have HB7 : Hid (Below w3.heap.size w3 (put3 w5 PB (.string nm2) (.int .i64 t2) (.slice a6 d2.length c6))) := Lib.hid (((HB5.out.setCell (p := ⟨PB, 0, none⟩) HPL.out _).setCell (p := ⟨PB, 1, none⟩) HPL.out _).setCell (p := ⟨PB, 2, none⟩) HPL.out _)
      have HP : Hid (BoxN (put3 w5 PB (.string nm2) (.int .i64 t2) (.slice a6 d2.length c6)) PB #[.string nm2, .int .i64 t2, .slice a6 d2.length c6] 30) := Lib.hid (HPZ.out.put3 _ _ _)
      have HI : Hid (IntsIn (put3 w5 PB (.string nm2) (.int .i64 t2) (.slice a6 d2.length c6)) (.slice a6 d2.length c6) d2) := HIP
      refine hK.out _ (put3 w5 PB _ _ _) HB7.out ?_
      generalize put3 w5 PB (.string nm2) (.int .i64 t2) (.slice a6 d2.length c6) = w7 at HB7 HP HI ⊢
      clear hK K' f0 f1 f2 z0 z1 z2 HPZ HIP
      refine tree_tail rfl ?_
      simp only [List.toList_toArray, List.drop_succ_cons, List.drop_zero]
      obtain ⟨hti, hte⟩ := HT2.out
      have hte1 : t1 = t2 := congrArg Prod.fst hte
      have hte2 : d1 = d2 := congrArg Prod.snd hte
      have hrr : ((r1 == 0) == (r2 == 0)) = true := by
        by_cases hq : r1 = 0
        · have := hti.1 hq
          have e1 : (r1 == 0) = true := by simp [hq]
          have e2 : (r2 == 0) = true := by simpa using this
          rw [e1, e2]; rfl
        · have : r2 ≠ 0 := fun c => hq (hti.2 c)
          have e1 : (r1 == 0) = false := by simpa using hq
          have e2 : (r2 == 0) = false := by simpa using this
          rw [e1, e2]; rfl
      have htt : (t1 == t2) = true := by simp [hte1]
      have HDD : Hid (decide (d1 = d2) = true) := Lib.hid (by simp [hte2])
      clear hti hte hte1 hte2
      obtain ⟨p0, p1, p2⟩ := HP.out.three
      obtain ⟨u0, u1, u2⟩ := (HU.out.below' HB7.out).three
      go_wp2_with fail
      refine (rsame_any (HI2.out.below (HB23.out.trans (HB7.out.mono HB23.out.size))) HI.out).mono ?_
      rintro e w9 ⟨rfl, B9⟩
      have HB37 := Lib.hid (HB3.out.trans (HB7.out.mono HB3.out.size))
      have HB9 := Lib.hid (HB37.out.trans (B9.mono HB37.out.size))
      clear B9 p0 p1 p2 u0 u1 u2
      rw [HDD.out]
      go_wp2_with fail
      refine (HLv.out _ HB9.out).mono ?_
      rintro e w10 ⟨rfl, B10⟩
      have HB10 := Lib.hid (HB9.out.trans (B10.mono HB9.out.size))
      clear B10
      go_wp2
      go_ret
      exact ⟨rfl, HB10.out⟩
    · go_simp
      have HB5 : Hid (Below w3.heap.size w3 (w4.alloc (Obj.cells #[.string ⟨#[]⟩, .int .i64 0, .slice none 0 0] 30))) := Lib.hid (HB4.out.alloc HB4.out.size _)
      have HPZ : Hid (BoxN (w4.alloc (Obj.cells #[.string ⟨#[]⟩, .int .i64 0, .slice none 0 0] 30)) w4.heap.size #[.string ⟨#[]⟩, .int .i64 0, .slice none 0 0] 30) := Lib.hid (BoxN.new _ _ _)
      have HPL : Hid (w3.heap.size ≤ w4.heap.size) := Lib.hid HB4.out.size
      have HBS := Lib.hid (HBS.out.below' ((Below.refl _ w4).alloc (Nat.le_refl _) (Obj.cells #[.string ⟨#[]⟩, .int .i64 0, .slice none 0 0] 30)))
      have HPlt : Hid (w4.heap.size < (w4.alloc (Obj.cells #[.string ⟨#[]⟩, .int .i64 0, .slice none 0 0] 30)).heap.size) := Lib.hid (by simp)
      refine hK.out _ _ HB5.out ?_
      clear hK K'
      generalize w4.alloc (Obj.cells #[.string ⟨#[]⟩, .int .i64 0, .slice none 0 0] 30) = w5 at HB5 HPZ HBS HPlt ⊢
      generalize w4.heap.size = PB at HPZ HPL HPlt ⊢
      refine tree_act rfl (fun K' hK => ?_)
      go_simp
      refine (out_two (x := y) (y := x) ⟨_, _, rfl, HN.out.below (HB3.out.trans (HB5.out.mono HB3.out.size))⟩ (vals_two HBS.out (HYw.out _ HB5.out) (HXw.out _ HB5.out)) (HG.out.below (HB3.out.trans (HB5.out.mono HB3.out.size))) H2.out HO.out).mono ?_
      rintro e w6 hR
      obtain ⟨B6, nm2, v6, rfl, hr6⟩ := hR.form Z2.out
      have HB6 : Hid (Below w3.heap.size w3 w6) := Lib.hid (HB5.out.trans (B6.mono HB5.out.size))
      have HI6 : Hid (IntsIn w6 v6 _) := Lib.hid (hr6.ints RL2.out.1 RL2.out.2)
      obtain ⟨o2, ho2⟩ : ∃ o, outP n [y, x] (typ2 n.op.toList y.typ x.typ) (Vb.bcO y.dims x.dims) = o := ⟨_, rfl⟩
      have hl6 := RL2.out
      rw [ho2] at HI6 hr6 hl6
      rw [ho2]
      have hT2 := HT.out
      rw [ho2] at hT2
      have HT2 := Lib.hid hT2
      obtain ⟨r2, t2, d2⟩ := o2
      obtain ⟨a6, c6, rfl⟩ := HI6.out.shape
      have HIP := Lib.hid (ints_low (u := .string nm2) (v := .int .i64 t2) (t := .slice a6 d2.length c6) hr6 HPlt.out hl6)
      have HPZ := Lib.hid (HPZ.out.below' B6)
      clear ho2 hR hr6 hT2 B6 hl6
      refine hK.out _ _ HB6.out ?_
      clear hK K'
      repeat
        refine tree_read (v := ?_) rfl (Or.inl ⟨by rfl, ?_⟩) ?_
        rotate_left
        · intro W' hSw
          go_simp
          try with_reducible rfl
        try simp only [Act.put, List.getElem_toArray, List.getElem_cons_zero, List.getElem_cons_succ, List.setIfInBounds_toArray, List.set_cons_zero, List.set_cons_succ]
      obtain ⟨f0, f1, f2⟩ := HPZ.out.three
      obtain ⟨z0, z1, z2⟩ := HPZ.out.thaw3
      refine tree_act rfl (fun K' hK => ?_)
      go_simp
      have HB7 : Hid (Below w3.heap.size w3 (put3 w6 PB (.string nm2) (.int .i64 t2) (.slice a6 d2.length c6))) := Lib.hid (((HB6.out.setCell (p := ⟨PB, 0, none⟩) HPL.out _).setCell (p := ⟨PB, 1, none⟩) HPL.out _).setCell (p := ⟨PB, 2, none⟩) HPL.out _)
      have HP : Hid (BoxN (put3 w6 PB (.string nm2) (.int .i64 t2) (.slice a6 d2.length c6)) PB #[.string nm2, .int .i64 t2, .slice a6 d2.length c6] 30) := Lib.hid (HPZ.out.put3 _ _ _)
      have HI : Hid (IntsIn (put3 w6 PB (.string nm2) (.int .i64 t2) (.slice a6 d2.length c6)) (.slice a6 d2.length c6) d2) := HIP
      refine hK.out _ (put3 w6 PB _ _ _) HB7.out ?_
      generalize put3 w6 PB (.string nm2) (.int .i64 t2) (.slice a6 d2.length c6) = w7 at HB7 HP HI ⊢
      clear hK K' f0 f1 f2 z0 z1 z2 HPZ HIP
      refine tree_tail rfl ?_
      simp only [List.toList_toArray, List.drop_succ_cons, List.drop_zero]
      obtain ⟨hti, hte⟩ := HT2.out
      have hte1 : t1 = t2 := congrArg Prod.fst hte
      have hte2 : d1 = d2 := congrArg Prod.snd hte
      have hrr : ((r1 == 0) == (r2 == 0)) = true := by
        by_cases hq : r1 = 0
        · have := hti.1 hq
          have e1 : (r1 == 0) = true := by simp [hq]
          have e2 : (r2 == 0) = true := by simpa using this
          rw [e1, e2]; rfl
        · have : r2 ≠ 0 := fun c => hq (hti.2 c)
          have e1 : (r1 == 0) = false := by simpa using hq
          have e2 : (r2 == 0) = false := by simpa using this
          rw [e1, e2]; rfl
      have htt : (t1 == t2) = true := by simp [hte1]
      have HDD : Hid (decide (d1 = d2) = true) := Lib.hid (by simp [hte2])
      clear hti hte hte1 hte2
      obtain ⟨p0, p1, p2⟩ := HP.out.three
      obtain ⟨u0, u1, u2⟩ := (HU.out.below' HB7.out).three
      go_wp2_with fail
      refine (rsame_any (HI2.out.below (HB23.out.trans (HB7.out.mono HB23.out.size))) HI.out).mono ?_
      rintro e w9 ⟨rfl, B9⟩
      have HB37 := Lib.hid (HB3.out.trans (HB7.out.mono HB3.out.size))
      have HB9 := Lib.hid (HB37.out.trans (B9.mono HB37.out.size))
      clear B9 p0 p1 p2 u0 u1 u2
      rw [HDD.out]
      go_wp2_with fail
      refine (HLv.out _ HB9.out).mono ?_
      rintro e w10 ⟨rfl, B10⟩
      have HB10 := Lib.hid (HB9.out.trans (B10.mono HB9.out.size))
      clear B10
      go_wp2
      go_ret
      exact ⟨rfl, HB10.out⟩
  · go_simp
    have HB4 : Hid (Below w3.heap.size w3 (wD.alloc (Obj.cells #[.string ⟨#[]⟩, .int .i64 0, .slice none 0 0] 30))) := Lib.hid (B0.out.alloc B0.out.size _)
    have HPZ : Hid (BoxN (wD.alloc (Obj.cells #[.string ⟨#[]⟩, .int .i64 0, .slice none 0 0] 30)) wD.heap.size #[.string ⟨#[]⟩, .int .i64 0, .slice none 0 0] 30) := Lib.hid (BoxN.new _ _ _)
    have HPL : Hid (w3.heap.size ≤ wD.heap.size) := Lib.hid B0.out.size
    have HPlt : Hid (wD.heap.size < (wD.alloc (Obj.cells #[.string ⟨#[]⟩, .int .i64 0, .slice none 0 0] 30)).heap.size) := Lib.hid (by simp)
    refine hK.out _ _ HB4.out ?_
    clear hK K'
    generalize wD.alloc (Obj.cells #[.string ⟨#[]⟩, .int .i64 0, .slice none 0 0] 30) = w4 at HB4 HPZ HPlt ⊢
    generalize wD.heap.size = PB at HPZ HPL HPlt ⊢
    refine tree_act rfl (fun K' hK => ?_)
    go_simp
    have HB5 : Hid (Below w3.heap.size w3 (w4.alloc (Obj.cells #[.string y.name, .int .i64 y.typ, .slice ay y.dims.length ky, .string x.name, .int .i64 x.typ, .slice ax x.dims.length kx] 30))) := Lib.hid (HB4.out.alloc HB4.out.size _)
    have HBS : Hid (BoxN (w4.alloc (Obj.cells #[.string y.name, .int .i64 y.typ, .slice ay y.dims.length ky, .string x.name, .int .i64 x.typ, .slice ax x.dims.length kx] 30)) w4.heap.size #[.string y.name, .int .i64 y.typ, .slice ay y.dims.length ky, .string x.name, .int .i64 x.typ, .slice ax x.dims.length kx] 30) := Lib.hid (BoxN.new _ _ _)
    have HPZ := Lib.hid (HPZ.out.below' ((Below.refl _ w4).alloc (Nat.le_refl _) (Obj.cells #[.string y.name, .int .i64 y.typ, .slice ay y.dims.length ky, .string x.name, .int .i64 x.typ, .slice ax x.dims.length kx] 30)))
    have HPlt := Lib.hid (Nat.lt_of_lt_of_le HPlt.out ((Below.refl w4.heap.size w4).alloc (Nat.le_refl _) (Obj.cells #[.string y.name, .int .i64 y.typ, .slice ay y.dims.length ky, .string x.name, .int .i64 x.typ, .slice ax x.dims.length kx] 30)).size)
    refine hK.out _ _ HB5.out ?_
    clear hK K'
    generalize w4.alloc (Obj.cells #[.string y.name, .int .i64 y.typ, .slice ay y.dims.length ky, .string x.name, .int .i64 x.typ, .slice ax x.dims.length kx] 30) = w5 at HB5 HPZ HBS HPlt ⊢
    generalize w4.heap.size = bs at HBS ⊢
    refine tree_act rfl (fun K' hK => ?_)
    go_simp
    refine (out_two (x := y) (y := x) ⟨_, _, rfl, HN.out.below (HB3.out.trans (HB5.out.mono HB3.out.size))⟩ (vals_two HBS.out (HYw.out _ HB5.out) (HXw.out _ HB5.out)) (HG.out.below (HB3.out.trans (HB5.out.mono HB3.out.size))) H2.out HO.out).mono ?_
    rintro e w6 hR
    obtain ⟨B6, nm2, v6, rfl, hr6⟩ := hR.form Z2.out
    have HB6 : Hid (Below w3.heap.size w3 w6) := Lib.hid (HB5.out.trans (B6.mono HB5.out.size))
    have HI6 : Hid (IntsIn w6 v6 _) := Lib.hid (hr6.ints RL2.out.1 RL2.out.2)
    obtain ⟨o2, ho2⟩ : ∃ o, outP n [y, x] (typ2 n.op.toList y.typ x.typ) (Vb.bcO y.dims x.dims) = o := ⟨_, rfl⟩
    have hl6 := RL2.out
    rw [ho2] at HI6 hr6 hl6
    rw [ho2]
    have hT2 := HT.out
    rw [ho2] at hT2
    have HT2 := Lib.hid hT2
    obtain ⟨r2, t2, d2⟩ := o2
    obtain ⟨a6, c6, rfl⟩ := HI6.out.shape
    have HIP := Lib.hid (ints_low (u := .string nm2) (v := .int .i64 t2) (t := .slice a6 d2.length c6) hr6 HPlt.out hl6)
    have HPZ := Lib.hid (HPZ.out.below' B6)
    clear ho2 hR hr6 hT2 B6 hl6
    refine hK.out _ _ HB6.out ?_
    clear hK K'
    repeat
      refine tree_read (v := ?_) rfl (Or.inl ⟨by rfl, ?_⟩) ?_
      rotate_left
      · intro W' hSw
        go_simp
        try with_reducible rfl
      try simp only [Act.put, List.getElem_toArray, List.getElem_cons_zero, List.getElem_cons_succ, List.setIfInBounds_toArray, List.set_cons_zero, List.set_cons_succ]
    obtain ⟨f0, f1, f2⟩ := HPZ.out.three
    obtain ⟨z0, z1, z2⟩ := HPZ.out.thaw3
    refine tree_act rfl (fun K' hK => ?_)
    go_simp
    have HB7 : Hid (Below w3.heap.size w3 (put3 w6 PB (.string nm2) (.int .i64 t2) (.slice a6 d2.length c6))) := Lib.hid (((HB6.out.setCell (p := ⟨PB, 0, none⟩) HPL.out _).setCell (p := ⟨PB, 1, none⟩) HPL.out _).setCell (p := ⟨PB, 2, none⟩) HPL.out _)
    have HP : Hid (BoxN (put3 w6 PB (.string nm2) (.int .i64 t2) (.slice a6 d2.length c6)) PB #[.string nm2, .int .i64 t2, .slice a6 d2.length c6] 30) := Lib.hid (HPZ.out.put3 _ _ _)
    have HI : Hid (IntsIn (put3 w6 PB (.string nm2) (.int .i64 t2) (.slice a6 d2.length c6)) (.slice a6 d2.length c6) d2) := HIP
    refine hK.out _ (put3 w6 PB _ _ _) HB7.out ?_
    generalize put3 w6 PB (.string nm2) (.int .i64 t2) (.slice a6 d2.length c6) = w7 at HB7 HP HI ⊢
    clear hK K' f0 f1 f2 z0 z1 z2 HPZ HIP
    refine tree_tail rfl ?_
    simp only [List.toList_toArray, List.drop_succ_cons, List.drop_zero]
    obtain ⟨hti, hte⟩ := HT2.out
    have hte1 : t1 = t2 := congrArg Prod.fst hte
    have hte2 : d1 = d2 := congrArg Prod.snd hte
    have hrr : ((r1 == 0) == (r2 == 0)) = true := by
      by_cases hq : r1 = 0
      · have := hti.1 hq
        have e1 : (r1 == 0) = true := by simp [hq]
        have e2 : (r2 == 0) = true := by simpa using this
        rw [e1, e2]; rfl
      · have : r2 ≠ 0 := fun c => hq (hti.2 c)
        have e1 : (r1 == 0) = false := by simpa using hq
        have e2 : (r2 == 0) = false := by simpa using this
        rw [e1, e2]; rfl
    have htt : (t1 == t2) = true := by simp [hte1]
    have HDD : Hid (decide (d1 = d2) = true) := Lib.hid (by simp [hte2])
    clear hti hte hte1 hte2
    obtain ⟨p0, p1, p2⟩ := HP.out.three
    obtain ⟨u0, u1, u2⟩ := (HU.out.below' HB7.out).three
    go_wp2_with fail
    refine (rsame_any (HI2.out.below (HB23.out.trans (HB7.out.mono HB23.out.size))) HI.out).mono ?_
    rintro e w9 ⟨rfl, B9⟩
    have HB37 := Lib.hid (HB3.out.trans (HB7.out.mono HB3.out.size))
    have HB9 := Lib.hid (HB37.out.trans (B9.mono HB37.out.size))
    clear B9 p0 p1 p2 u0 u1 u2
    rw [HDD.out]
    go_wp2_with fail
    refine (HLv.out _ HB9.out).mono ?_
    rintro e w10 ⟨rfl, B10⟩
    have HB10 := Lib.hid (HB9.out.trans (B10.mono HB9.out.size))
    clear B10
    go_wp2
    go_ret
    exact ⟨rfl, HB10.out⟩

theorem batch_walk {w : World} {vn vv : Value} {n : Nd} {ins : List Vl} (hn : NodeV w vn n) (hb : n.attrs.length ≤ 1048575) (hs : SlIn 3 rdValue w vv ins) (hG : Glob w) :
    Calls Tryz.prog 3 #[vn, vv] w fun e w' => e = .returned (.bool true) ∧ Below w.heap.size w w' := batch_any hn hs hG

end Go.Proofs.YtagiipecfdmceaaGreatDoor
