import Derived.Test.YtijhdmidffenbaaGreatDoorInM2im
import Derived.Test.YtijhdmidffenbaaGreatDoorInM3im
import Derived.Test.YtijhdmidffenbaaGreatDoorSrMim
open Go.Lib (hid)
set_option linter.unusedVariables false
set_option linter.unusedSimpArgs false
namespace Go.Proofs.YtijhdmidffenbaaGreatDoor
section
open Go.RowKit
set_option maxRecDepth 100000
theorem strs_box {W:World} {b:Nat} {cs:Array Value} {t:TypeId} {ss:List ByteArray} (h:BoxN W b cs t) (e:cs.toList=ss.map Value.string) (h0:ss≠[]) (hl:ss.length≤1000):StrsIn W (.slice (some ⟨b,0,none⟩) ss.length ss.length) ss:=by
 refine .row b 0 ss.length ss h0 (Nat.le_refl _) h.lt (fun j s hj=>?_) (by omega)
 have:cs[j]?=some (.string s):=by rw [←Array.getElem?_toList,e,List.getElem?_map,hj];rfl
 simpa using h.cell j this
theorem ints_box {W:World} {b:Nat} {cs:Array Value} {t:TypeId} {zs:List Int} (h:BoxN W b cs t) (e:cs.toList=zs.map (Value.int .i64)) (h0:zs≠[]) (hl:zs.length≤1000) (hi:∀ z ∈ zs,InI z):IntsIn W (.slice (some ⟨b,0,none⟩) zs.length zs.length) zs:=by
 refine .row b 0 zs.length zs h0 (Nat.le_refl _) h.lt (fun j hj=>?_) (by omega) hi
 have:cs[j]?=some (.int .i64 (zs.getD j 0)):=by
  rw [←Array.getElem?_toList,e,List.getElem?_map,List.getElem?_eq_getElem hj]
  simp [List.getD,List.getElem?_eq_getElem hj]
 simpa using h.cell j this
theorem vals_two {W:World} {b:Nat} {t:TypeId} {x y:Vl} {dx dy:Value} (h:BoxN W b #[.string x.name,.int .i64 x.typ,dx,.string y.name,.int .i64 y.typ,dy] t)
  (hx:x.name.size≤1048576∧InI x.typ∧IntsIn W dx x.dims) (hy:y.name.size≤1048576∧InI y.typ∧IntsIn W dy y.dims):SlIn 3 rdValue W (.slice (some ⟨b,0,none⟩) 2 2) [x,y]:=by
 refine .row b 0 2 [x,y] (by simp) (by simp) h.lt (fun j z hj=>?_) (by simp)
 match j,hj with
 | 0,hj =>
  obtain rfl:=Option.some.inj hj
  exact ⟨[.string x.name,.int .i64 x.typ,dx],rfl,⟨dx,rfl,hx⟩,fun i u hu=>by
   match i,hu with
   | 0,hu=>obtain rfl:=Option.some.inj hu;simpa using h.cell 0 rfl
   | 1,hu=>obtain rfl:=Option.some.inj hu;simpa using h.cell 1 rfl
   | 2,hu=>obtain rfl:=Option.some.inj hu;simpa using h.cell 2 rfl⟩
 | 1,hj =>
  obtain rfl:=Option.some.inj hj
  exact ⟨[.string y.name,.int .i64 y.typ,dy],rfl,⟨dy,rfl,hy⟩,fun i u hu=>by
   match i,hu with
   | 0,hu=>obtain rfl:=Option.some.inj hu;simpa using h.cell 3 rfl
   | 1,hu=>obtain rfl:=Option.some.inj hu;simpa using h.cell 4 rfl
   | 2,hu=>obtain rfl:=Option.some.inj hu;simpa using h.cell 5 rfl⟩
theorem vals_one {W:World} {b:Nat} {t:TypeId} {x:Vl} {dx:Value} (h:BoxN W b #[.string x.name,.int .i64 x.typ,dx] t)
  (hx:x.name.size≤1048576∧InI x.typ∧IntsIn W dx x.dims):SlIn 3 rdValue W (.slice (some ⟨b,0,none⟩) 1 1) [x]:=by
 refine .row b 0 1 [x] (by simp) (by simp) h.lt (fun j z hj=>?_) (by simp)
 match j,hj with
 | 0,hj =>
  obtain rfl:=Option.some.inj hj
  exact ⟨[.string x.name,.int .i64 x.typ,dx],rfl,⟨dx,rfl,hx⟩,fun i u hu=>by
   match i,hu with
   | 0,hu=>obtain rfl:=Option.some.inj hu;simpa using h.cell 0 rfl
   | 1,hu=>obtain rfl:=Option.some.inj hu;simpa using h.cell 1 rfl
   | 2,hu=>obtain rfl:=Option.some.inj hu;simpa using h.cell 2 rfl⟩
theorem boxn_new {W:World} {b:Nat} {cs:Array Value} {t:TypeId} (h:b=W.heap.size):BoxN (W.alloc (.cells cs t)) b cs t:=by subst h;exact BoxN.new _ _ _
def sA:ByteArray:=⟨#[97]⟩
def sB:ByteArray:=⟨#[98]⟩
def sC:ByteArray:=⟨#[99]⟩
def ndMat:Nd:=⟨⟨#[77,97,116,77,117,108]⟩,⟨#[]⟩,[sA,sB],sC,[]⟩
def ndRelu:Nd:=⟨⟨#[82,101,108,117]⟩,⟨#[]⟩,[sA],sC,[]⟩
def vM1:Vl:=⟨⟨#[]⟩,1,[5,2,3]⟩
def vM2:Vl:=⟨⟨#[]⟩,1,[3,4]⟩
def vR:Vl:=⟨⟨#[]⟩,6,[]⟩
theorem out_mat:outP ndMat [vM1,vM2] (typD (alB [vM1,vM2] 1) 1) (productP [5,2,3] [3,4])=(0,1,[5,2,4]):=by decide +kernel
theorem out_relu (ds:Int × List Int):outP ndRelu [vR] (typU (Fl.un [82,101,108,117] 6 0).2 6) ds=(4,0,[]):=by
 have h1:checkP ndRelu=0:=by decide +kernel
 have h2:inpE [vR]=0:=by decide +kernel
 have h3:typU (Fl.un [82,101,108,117] 6 0).2 6=(4,0):=by decide +kernel
 rw [h3]
 exact outP_typ h1 rfl h2 (by decide)
theorem mat_any {w:World} {vn vv:Value} (hn:NodeV w vn ndMat) (hs:SlIn 3 rdValue w vv [vM1,vM2]) (hG:Glob w) :
  Calls Tryz.prog 9 #[vn,vv] w fun e w'=>OutR w ndMat (0,1,[5,2,4]) e w':=by
 have hl:ndMat.op.toList=[77,97,116,77,117,108]:=by unfold ndMat;rw [ByteArray.toList_eq]
 have:=out_any (ty:=typD (alB [vM1,vM2] 1) 1) (ds:=productP [5,2,3] [3,4]) hn hs hG
  (fun _ _ _ W v hB hm=>typ_MatMul hm rfl hl) (fun _ _ _ _ W v hB hm=>dims_MatMul hm rfl rfl hl)
 rwa [out_mat] at this
theorem relu_any {w:World} {vn vv:Value} (hn:NodeV w vn ndRelu) (hs:SlIn 3 rdValue w vv [vR]) (hG:Glob w) :
  Calls Tryz.prog 9 #[vn,vv] w fun e w'=>OutR w ndRelu (4,0,[]) e w':=by
 have hl:ndRelu.op.toList=[82,101,108,117]:=by unfold ndRelu;rw [ByteArray.toList_eq]
 have h3:typU (Fl.un [82,101,108,117] 6 0).2 6=(4,0):=by decide +kernel
 have:=out_any (ty:=typU (Fl.un [82,101,108,117] 6 0).2 6) (ds:=(0,[])) hn hs hG
  (fun _ _ _ W v hB hm=>by have:=typ_Relu hm (x:=vR) rfl hl;rwa [hl] at this) (fun _ _ _ h=>by rw [h3] at h;exact absurd h (by decide))
 rwa [out_relu] at this
set_option maxHeartbeats 4000000 in
theorem live08_any {w:World} (hG:Glob w):Calls Tryz.prog 10 #[] w fun e w'=>e=.returned (.bool true)∧Below w.heap.size w w':=by
 have HG:=hid hG
 clear hG
 go_enter Tryz.func10,Tryz.ntmps10
 go_wp2_with fail
 have HB1:Hid (Below w.heap.size w ((((w.alloc (Obj.cells #[.string ⟨#[97]⟩,.string ⟨#[98]⟩] 9)).alloc (Obj.cells #[.int .i64 5,.int .i64 2,.int .i64 3] 3)).alloc (Obj.cells #[.int .i64 3,.int .i64 4] 3)).alloc (Obj.cells #[.string ⟨#[]⟩,.int .i64 1,.slice (some ⟨w.heap.size+1,0,none⟩) 3 3,.string ⟨#[]⟩,.int .i64 1,.slice (some ⟨w.heap.size+1+1,0,none⟩) 2 2] 29))):=hid (((((Below.refl _ w).alloc (Nat.le_refl _) _).alloc (by simp) _).alloc (by simp<;>omega) _).alloc (by simp<;>omega) _)
 have D1:BoxN ((((w.alloc (Obj.cells #[.string ⟨#[97]⟩,.string ⟨#[98]⟩] 9)).alloc (Obj.cells #[.int .i64 5,.int .i64 2,.int .i64 3] 3)).alloc (Obj.cells #[.int .i64 3,.int .i64 4] 3)).alloc (Obj.cells #[.string ⟨#[]⟩,.int .i64 1,.slice (some ⟨w.heap.size+1,0,none⟩) 3 3,.string ⟨#[]⟩,.int .i64 1,.slice (some ⟨w.heap.size+1+1,0,none⟩) 2 2] 29)) w.heap.size #[.string ⟨#[97]⟩,.string ⟨#[98]⟩] 9:=(boxn_new rfl).below' ((((Below.refl _ _).alloc (Nat.le_refl _) _).alloc (by simp) _).alloc (by simp<;>omega) _)
 have D2:BoxN ((((w.alloc (Obj.cells #[.string ⟨#[97]⟩,.string ⟨#[98]⟩] 9)).alloc (Obj.cells #[.int .i64 5,.int .i64 2,.int .i64 3] 3)).alloc (Obj.cells #[.int .i64 3,.int .i64 4] 3)).alloc (Obj.cells #[.string ⟨#[]⟩,.int .i64 1,.slice (some ⟨w.heap.size+1,0,none⟩) 3 3,.string ⟨#[]⟩,.int .i64 1,.slice (some ⟨w.heap.size+1+1,0,none⟩) 2 2] 29)) (w.heap.size+1) #[.int .i64 5,.int .i64 2,.int .i64 3] 3:=(boxn_new (by simp)).below' (((Below.refl _ _).alloc (Nat.le_refl _) _).alloc (by simp) _)
 have D3:BoxN ((((w.alloc (Obj.cells #[.string ⟨#[97]⟩,.string ⟨#[98]⟩] 9)).alloc (Obj.cells #[.int .i64 5,.int .i64 2,.int .i64 3] 3)).alloc (Obj.cells #[.int .i64 3,.int .i64 4] 3)).alloc (Obj.cells #[.string ⟨#[]⟩,.int .i64 1,.slice (some ⟨w.heap.size+1,0,none⟩) 3 3,.string ⟨#[]⟩,.int .i64 1,.slice (some ⟨w.heap.size+1+1,0,none⟩) 2 2] 29)) (w.heap.size+1+1) #[.int .i64 3,.int .i64 4] 3:=(boxn_new (by simp)).below' ((Below.refl _ _).alloc (Nat.le_refl _) _)
 have D4:BoxN ((((w.alloc (Obj.cells #[.string ⟨#[97]⟩,.string ⟨#[98]⟩] 9)).alloc (Obj.cells #[.int .i64 5,.int .i64 2,.int .i64 3] 3)).alloc (Obj.cells #[.int .i64 3,.int .i64 4] 3)).alloc (Obj.cells #[.string ⟨#[]⟩,.int .i64 1,.slice (some ⟨w.heap.size+1,0,none⟩) 3 3,.string ⟨#[]⟩,.int .i64 1,.slice (some ⟨w.heap.size+1+1,0,none⟩) 2 2] 29)) (w.heap.size+1+1+1) #[.string ⟨#[]⟩,.int .i64 1,.slice (some ⟨w.heap.size+1,0,none⟩) 3 3,.string ⟨#[]⟩,.int .i64 1,.slice (some ⟨w.heap.size+1+1,0,none⟩) 2 2] 29:=boxn_new (by simp)
 generalize World.alloc (World.alloc (World.alloc (World.alloc w _) _) _) _=W1 at HB1 D1 D2 D3 D4 ⊢
 have hN:NodeV W1 (.agg #[.string ⟨#[77,97,116,77,117,108]⟩,.string ⟨#[]⟩,.slice (some ⟨w.heap.size,0,none⟩) 2 2,.string ⟨#[99]⟩,.slice none 0 0]) ndMat :=
  ⟨_,_,rfl,⟨strs_box (ss:=[sA,sB]) D1 rfl (by simp) (by simp),.empty none 0⟩⟩
 have hV:SlIn 3 rdValue W1 (.slice (some ⟨w.heap.size+1+1+1,0,none⟩) 2 2) [vM1,vM2] :=
  vals_two (x:=vM1) (y:=vM2) D4 ⟨by decide,by unfold InI vM1;decide,ints_box (zs:=[5,2,3]) D2 rfl (by simp) (by simp) (by intro z hz;simp at hz;unfold InI;omega)⟩ ⟨by decide,by unfold InI vM2;decide,ints_box (zs:=[3,4]) D3 rfl (by simp) (by simp) (by intro z hz;simp at hz;unfold InI;omega)⟩
 clear D1 D2 D3 D4
 refine (mat_any hN hV (HG.out.below HB1.out)).mono ?_
 clear hN hV
 rintro e w2 ⟨B2,⟨h0,-⟩ | ⟨-,v2,rfl,hr2⟩⟩
 ·exact absurd rfl h0
 have HB2:=hid (HB1.out.trans (B2.mono HB1.out.size))
 have HI2:Hid (IntsIn w2 v2 [5,2,4]):=hid (RowI.ints (B:=W1.heap.size) hr2 (by simp) (by intro z hz;simp at hz;unfold InI;omega))
 clear B2 hr2
 obtain ⟨a2,k2,rfl⟩:=HI2.out.shape
 rw [show ndMat.out=(⟨#[99]⟩:ByteArray) from rfl]
 go_wp2_with fail
 have hB3:Below w2.heap.size w2 (((w2.alloc (Obj.cells #[.string ⟨#[99]⟩,.int .i64 1,.slice a2 3 k2] 29)).alloc (Obj.cells #[.string ⟨#[97]⟩] 9)).alloc (Obj.cells #[.string ⟨#[]⟩,.int .i64 6,.slice none 0 0] 29)):=(((Below.refl _ w2).alloc (Nat.le_refl _) _).alloc (by simp) _).alloc (by simp<;>omega) _
 have HB3:Hid (Below w.heap.size w (((w2.alloc (Obj.cells #[.string ⟨#[99]⟩,.int .i64 1,.slice a2 3 k2] 29)).alloc (Obj.cells #[.string ⟨#[97]⟩] 9)).alloc (Obj.cells #[.string ⟨#[]⟩,.int .i64 6,.slice none 0 0] 29))):=hid (HB2.out.trans (hB3.mono HB2.out.size))
 have E1:Hid (BoxN (((w2.alloc (Obj.cells #[.string ⟨#[99]⟩,.int .i64 1,.slice a2 3 k2] 29)).alloc (Obj.cells #[.string ⟨#[97]⟩] 9)).alloc (Obj.cells #[.string ⟨#[]⟩,.int .i64 6,.slice none 0 0] 29)) w2.heap.size #[.string ⟨#[99]⟩,.int .i64 1,.slice a2 3 k2] 29):=hid ((boxn_new rfl).below' (((Below.refl _ _).alloc (Nat.le_refl _) _).alloc (by simp) _))
 have D2:BoxN (((w2.alloc (Obj.cells #[.string ⟨#[99]⟩,.int .i64 1,.slice a2 3 k2] 29)).alloc (Obj.cells #[.string ⟨#[97]⟩] 9)).alloc (Obj.cells #[.string ⟨#[]⟩,.int .i64 6,.slice none 0 0] 29)) (w2.heap.size+1) #[.string ⟨#[97]⟩] 9:=(boxn_new (by simp)).below' ((Below.refl _ _).alloc (Nat.le_refl _) _)
 have D3:BoxN (((w2.alloc (Obj.cells #[.string ⟨#[99]⟩,.int .i64 1,.slice a2 3 k2] 29)).alloc (Obj.cells #[.string ⟨#[97]⟩] 9)).alloc (Obj.cells #[.string ⟨#[]⟩,.int .i64 6,.slice none 0 0] 29)) (w2.heap.size+1+1) #[.string ⟨#[]⟩,.int .i64 6,.slice none 0 0] 29:=boxn_new (by simp)
 have HI3:=hid (HI2.out.below hB3)
 clear hB3 HI2
 generalize World.alloc (World.alloc (World.alloc w2 _) _) _=W3 at HB3 E1 D2 D3 HI3 ⊢
 have hN:NodeV W3 (.agg #[.string ⟨#[82,101,108,117]⟩,.string ⟨#[]⟩,.slice (some ⟨w2.heap.size+1,0,none⟩) 1 1,.string ⟨#[99]⟩,.slice none 0 0]) ndRelu :=
  ⟨_,_,rfl,⟨strs_box (ss:=[sA]) D2 rfl (by simp) (by simp),.empty none 0⟩⟩
 have hV:SlIn 3 rdValue W3 (.slice (some ⟨w2.heap.size+1+1,0,none⟩) 1 1) [vR] :=
  vals_one (x:=vR) D3 ⟨by decide,by unfold InI vR;decide,.empty none 0⟩
 clear D2 D3
 refine (relu_any hN hV (HG.out.below HB3.out)).mono ?_
 clear hN hV
 rintro e w4 ⟨B4,⟨-,rfl⟩ | ⟨h0,-⟩⟩
 case inr=>exact absurd h0 (by decide)
 have HB4:=hid (HB3.out.trans (B4.mono HB3.out.size))
 have HI4:=hid (HI3.out.below B4)
 have E4:=hid (E1.out.below' B4)
 clear B4 HI3 E1
 have g0:=cell_alloc (E4.out.cell 0 rfl) (Obj.cells #[.string ⟨#[]⟩,.int .i64 0,.slice none 0 0] 29)
 have g1:=cell_alloc (E4.out.cell 1 rfl) (Obj.cells #[.string ⟨#[]⟩,.int .i64 0,.slice none 0 0] 29)
 have g2:=cell_alloc (E4.out.cell 2 rfl) (Obj.cells #[.string ⟨#[]⟩,.int .i64 0,.slice none 0 0] 29)
 go_wp2_with fail
 have hB5:Below w4.heap.size w4 ((w4.alloc (Obj.cells #[.string ⟨#[]⟩,.int .i64 0,.slice none 0 0] 29)).alloc (Obj.cells #[.int .i64 5,.int .i64 2,.int .i64 4] 3)):=((Below.refl _ w4).alloc (Nat.le_refl _) _).alloc (by simp) _
 have HB5:=hid (HB4.out.trans (hB5.mono HB4.out.size))
 have D5:BoxN ((w4.alloc (Obj.cells #[.string ⟨#[]⟩,.int .i64 0,.slice none 0 0] 29)).alloc (Obj.cells #[.int .i64 5,.int .i64 2,.int .i64 4] 3)) (w4.heap.size+1) #[.int .i64 5,.int .i64 2,.int .i64 4] 3:=boxn_new (by simp)
 refine (rsame_any (HI4.out.below hB5) (ints_box (zs:=[5,2,4]) D5 rfl (by simp) (by simp) (by intro z hz;simp at hz;unfold InI;omega))).mono ?_
 rintro e w6 ⟨rfl,B6⟩
 have HB6:=hid (HB5.out.trans (B6.mono HB5.out.size))
 clear B6 g0 g1 g2 D5 hB5
 go_wp2
 go_ret
 exact ⟨rfl,HB6.out⟩
end
section
open Go.RowKit
set_option maxRecDepth 100000
attribute [local irreducible] outP Vb.bcO Fl.bin
end
end Go.Proofs.YtijhdmidffenbaaGreatDoor
