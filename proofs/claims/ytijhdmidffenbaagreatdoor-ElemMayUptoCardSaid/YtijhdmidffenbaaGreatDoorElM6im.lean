import Derived.Test.YtijhdmidffenbaaGreatDoorElM4im
import Derived.Test.YtijhdmidffenbaaGreatDoorSrMim
open Go.Lib (hid)
set_option linter.unusedVariables false
set_option linter.unusedSimpArgs false
namespace Go.Proofs.YtijhdmidffenbaaGreatDoor
open Go.RowKit
set_option maxRecDepth 100000
attribute [local irreducible] elA pbE
set_option maxHeartbeats 8000000 in
theorem may09_any {w:World} {vn vv:Value} {n:Nd} {ts:List Tn} (hn:NodeV w vn n) (hs:SlIn 3 rdTensor w vv ts) (hG:Glob w) (hax:(intsP n.attrs nmAxes []).length * 8+48≤140737488351232) :
  Calls Tryz.prog 5 #[vn,vv] w fun e w'=>e=.returned (.bool true)∧Below w.heap.size w w':=by
 have HNV:=hid hn
 obtain ⟨vin,vat,rfl,hm⟩:=hn
 obtain ⟨a1,c1,rfl⟩:=hm.is.form
 obtain ⟨a2,c2,rfl⟩:=hm.ia.form
 obtain ⟨a3,c3,rfl⟩:=hs.form
 have HS:=hid hs
 have HG:=hid hG
 have HAX:=hid hax
 clear hm hs hG hax
 have HLv:=hid (fun (W:World) (hB:Below w.heap.size w W)=>live09_any (HG.out.below hB))
 have HNo:=hid (fun h=>elA_no (n:=n) (ts:=ts) h)
 have HYe:=hid (fun h=>elA_may (n:=n) (ts:=ts) h)
 unfold Nd.val at HNV ⊢
 have HB1:=hid ((Below.refl w.heap.size w).alloc (Nat.le_refl _) (Obj.cells #[.string n.op,.string n.name,.slice a1 n.ins.length c1,.string n.out,.slice a2 n.attrs.length c2] 25))
 have HA1:=hid (BoxN.new w #[.string n.op,.string n.name,.slice a1 n.ins.length c1,.string n.out,.slice a2 n.attrs.length c2] 25)
 go_enter Tryz.func5,Tryz.ntmps5
 go_wp2_with fail
 generalize World.alloc w _=W1 at HB1 HA1 ⊢
 refine (small09_any (tensors_below HS.out HB1.out)).mono ?_
 rintro e w2 ⟨⟨b,rfl⟩,B2⟩
 have HB2:=hid (HB1.out.trans (B2.mono HB1.out.size))
 have HA2:=hid (HA1.out.below' B2)
 clear B2 HA1 HB1
 cases b
 case false =>
  go_wp2_with fail
  refine (HLv.out _ HB2.out).mono ?_
  rintro e w3 ⟨rfl,B3⟩
  have HB3:=hid (HB2.out.trans (B3.mono HB2.out.size))
  clear B3
  go_wp2
  go_ret
  exact ⟨rfl,HB3.out⟩
 obtain ⟨k0,k1,k2,k3,k4⟩:=HA2.out.five
 go_wp2_with fail
 clear k0 k1 k2 k3 k4
 refine (do_allU (n:=n) (ts:=ts) (HNV.out.below HB2.out) (tensors_below HS.out HB2.out) (HG.out.below HB2.out) HAX.out).mono ?_
 intro e w3 hu
 obtain ⟨p1,hp1⟩:∃ o,elA n ts=o:=⟨_,rfl⟩
 rw [hp1] at hu
 rw [hp1] at HNo HYe
 clear hp1
 obtain ⟨c,t,d,x⟩:=p1
 obtain ⟨vd3,vx3,rfl,hd3,hx3,-,B3⟩:=hu.out
 clear hu
 have HB3:=hid (HB2.out.trans (B3.mono HB2.out.size))
 have HD3:=hid hd3
 have HX3:=hid hx3
 obtain ⟨a4,c4,rfl⟩:=hd3.shape
 obtain ⟨a5,c5,rfl⟩:=hx3.shape
 clear hd3 hx3 B3 HA2
 have HB34:Hid (Below w3.heap.size w3 (w3.alloc (Obj.cells #[.int .i64 t,.slice a4 d.length c4,.slice a5 x.length c5] 46))):=hid ((Below.refl _ w3).alloc (Nat.le_refl _) _)
 have HB4:Hid (Below w.heap.size w (w3.alloc (Obj.cells #[.int .i64 t,.slice a4 d.length c4,.slice a5 x.length c5] 46))):=hid (HB3.out.trans (HB34.out.mono HB3.out.size))
 have HU:=hid (BoxN.new w3 #[.int .i64 t,.slice a4 d.length c4,.slice a5 x.length c5] 46)
 have HD4:=hid (HD3.out.below HB34.out)
 have HX4:=hid (HX3.out.below HB34.out)
 clear HD3 HX3 HB34
 by_cases hc:c=0
 ·have HPB:=hid (HYe.out hc)
  subst hc
  clear HNo HYe
  go_wp2_with fail
  generalize w3.alloc (Obj.cells #[.int .i64 t,.slice a4 d.length c4,.slice a5 x.length c5] 46)=w4 at HB4 HU HD4 HX4 ⊢
  generalize w3.heap.size=U2 at HU ⊢
  obtain ⟨u0,u1,u2⟩:=HU.out.three
  go_wp2_with fail
  refine (rpb_any t d x HD4.out HX4.out).mono ?_
  rintro e w5 ⟨rfl,B5⟩
  rw [show pbE t d x=0 from HPB.out]
  have HB5:=hid (HB4.out.trans (B5.mono HB4.out.size))
  clear B5 u0 u1 u2
  go_wp2_with fail
  refine (HLv.out _ HB5.out).mono ?_
  rintro e w6 ⟨rfl,B6⟩
  have HB6:=hid (HB5.out.trans (B6.mono HB5.out.size))
  clear B6
  go_wp2
  go_ret
  exact ⟨rfl,HB6.out⟩
 ·have hz:=HNo.out hc
  dsimp only at hz
  simp only [Prod.mk.injEq] at hz
  obtain ⟨rfl,rfl,rfl⟩:=hz
  have hb:(c != 0)=true:=by simpa using hc
  clear HNo HYe hc
  go_wp2_with fail
  generalize w3.alloc (Obj.cells #[.int .i64 0,.slice a4 ([]:List Int).length c4,.slice a5 ([]:List Int).length c5] 46)=w4 at HB4 HU HD4 HX4 ⊢
  generalize w3.heap.size=U2 at HU ⊢
  obtain ⟨u0,u1,u2⟩:=HU.out.three
  go_wp2_with fail
  refine (stensor_any 0 [] [] HD4.out HX4.out (.empty none 0) (.empty none 0)).mono ?_
  rintro e w5 ⟨rfl,B5⟩
  have HB5:=hid (HB4.out.trans (B5.mono HB4.out.size))
  clear B5 u0 u1 u2
  go_wp2_with fail
  refine (HLv.out _ HB5.out).mono ?_
  rintro e w6 ⟨rfl,B6⟩
  have HB6:=hid (HB5.out.trans (B6.mono HB5.out.size))
  clear B6
  go_wp2
  go_ret
  exact ⟨rfl,HB6.out⟩
theorem may09_walk {w:World} {vn vv:Value} {n:Nd} {ts:List Tn} (hn:NodeV w vn n) (hb:n.attrs.length≤1048575) (hbi:∀ a ∈ n.attrs,a.ints.length≤1048575) (hs:SlIn 3 rdTensor w vv ts) (hG:Glob w) :
  Calls Tryz.prog 5 #[vn,vv] w fun e w'=>e=.returned (.bool true)∧Below w.heap.size w w':=may09_any hn hs hG (hax_of hbi)
end Go.Proofs.YtijhdmidffenbaaGreatDoor
