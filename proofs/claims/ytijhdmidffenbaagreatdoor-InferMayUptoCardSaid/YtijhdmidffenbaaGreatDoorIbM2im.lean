import Derived.Test.YtijhdmidffenbaaGreatDoorJaM5im
import Derived.Test.YtijhdmidffenbaaGreatDoorIbMim
import Derived.Test.YtijhdmidffenbaaGreatDoorSrMim
open Go.Lib (hid)
set_option linter.unusedVariables false
set_option linter.unusedSimpArgs false
namespace Go.Proofs.YtijhdmidffenbaaGreatDoor
open Go.RowKit
set_option maxRecDepth 100000
theorem inferO_gd {n:Nd} {ins:List Vl} (h:(inferO n ins).1=0):Gd (inferO n ins).2.2:=by
 obtain ⟨-,-,-,-,-,a6,-,e⟩:=infer_ok h
 rw [e]
 exact (sm_of a6).gd
attribute [local irreducible] inferO cnt chk checkP
set_option maxHeartbeats 8000000 in
theorem may_any {w:World} {vn vv:Value} {n:Nd} {ins:List Vl} (hn:NodeV w vn n) (hs:SlIn 3 rdValue w vv ins) (hG:Glob w) (hax:(intsP n.attrs nmAxes []).length * 8+48≤140737488351232) :
  Calls Tryz.prog 4 #[vn,vv] w fun e w'=>e=.returned (.bool true)∧Below w.heap.size w w':=by
 obtain ⟨vin,vat,rfl,hm⟩:=hn
 obtain ⟨a1,c1,rfl⟩:=hm.is.form
 obtain ⟨a2,c2,rfl⟩:=hm.ia.form
 obtain ⟨a3,c3,rfl⟩:=hs.form
 have HN:=hid hm
 have HS:=hid hs
 have HG:=hid hG
 have HAX:=hid hax
 clear hm hs hG hax
 have HLv:=hid (fun (W:World) (hB:Below w.heap.size w W)=>live08_any (HG.out.below hB))
 have HPL:=hid (fun t ds h=>may_plain (n:=n) (ins:=ins) (t:=t) (ds:=ds) h)
 have HGd:=hid (fun h=>inferO_gd (n:=n) (ins:=ins) h)
 unfold Nd.val
 have HB1:=hid ((Below.refl w.heap.size w).alloc (Nat.le_refl _) (Obj.cells #[.string n.op,.string n.name,.slice a1 n.ins.length c1,.string n.out,.slice a2 n.attrs.length c2] 25))
 have HA1:=hid (BoxN.new w #[.string n.op,.string n.name,.slice a1 n.ins.length c1,.string n.out,.slice a2 n.attrs.length c2] 25)
 go_enter Tryz.func4,Tryz.ntmps4
 go_wp2_with fail
 generalize World.alloc w _=W1 at HB1 HA1 ⊢
 refine (infer_any (n:=n) (ins:=ins) ⟨_,_,rfl,HN.out.below HB1.out⟩ (HS.out.below (rdValue_below HB1.out) HB1.out) (HG.out.below HB1.out) HAX.out).mono ?_
 rintro e w2 ⟨B2,⟨hne,rfl⟩ | ⟨h0,v2,rfl,hr2⟩⟩
 ·have HB2:=hid (HB1.out.trans (B2.mono HB1.out.size))
  have hb:((inferO n ins).1 != 0)=true:=by simpa using hne
  generalize (inferO n ins).1=q at *
  clear hne B2 HA1
  go_wp2_with fail
  have HB3:Hid (Below w.heap.size w (w2.alloc (Obj.cells #[.string ⟨#[]⟩,.int .i64 0,.slice none 0 0] 29))):=hid (HB2.out.alloc HB2.out.size _)
  generalize w2.alloc _=w3 at HB3 ⊢
  refine (HLv.out _ HB3.out).mono ?_
  rintro e w4 ⟨rfl,B4⟩
  have HB4:=hid (HB3.out.trans (B4.mono HB3.out.size))
  clear B4
  go_wp2
  go_ret
  exact ⟨rfl,HB4.out⟩
 ·have HB2:=hid (HB1.out.trans (B2.mono HB1.out.size))
  have HA2:=hid (HA1.out.below' B2)
  have hgd:=HGd.out h0
  have hpl:=HPL.out (inferO n ins).2.1 (inferO n ins).2.2 (by rw [←h0])
  generalize (inferO n ins).2.1=t at *
  generalize (inferO n ins).2.2=ds at *
  have HI2:Hid (IntsIn w2 v2 ds):=hid (hr2.ints hgd.1 hgd.2)
  obtain ⟨a4,c4,rfl⟩:=HI2.out.shape
  have HC0:=hid hpl.1
  have HCT:=hid hpl.2
  clear h0 hr2 hgd hpl B2 HA1 HPL HGd
  go_wp2_with fail
  have HB23:Hid (Below w2.heap.size w2 (w2.alloc (Obj.cells #[.string n.out,.int .i64 t,.slice a4 ds.length c4] 29))):=hid ((Below.refl _ w2).alloc (Nat.le_refl _) _)
  have HB3:Hid (Below w.heap.size w (w2.alloc (Obj.cells #[.string n.out,.int .i64 t,.slice a4 ds.length c4] 29))):=hid (HB2.out.trans (HB23.out.mono HB2.out.size))
  have HU:=hid (BoxN.new w2 #[.string n.out,.int .i64 t,.slice a4 ds.length c4] 29)
  have HA3:=hid (HA2.out.below' HB23.out)
  have HI3:=hid (HI2.out.below HB23.out)
  clear HA2 HI2
  generalize w2.alloc (Obj.cells #[.string n.out,.int .i64 t,.slice a4 ds.length c4] 29)=w3 at HB23 HB3 HU HA3 HI3 ⊢
  generalize w2.heap.size=U2 at HU ⊢
  refine (rcount_any HI3.out).mono ?_
  rintro e w4 ⟨rfl,rfl⟩
  rw [HC0.out]
  obtain ⟨u0,u1,u2⟩:=HU.out.three
  obtain ⟨k0,k1,k2,k3,k4⟩:=HA3.out.five
  have hnn:(n.out.toList==n.out.toList)=true:=by simp
  go_wp2_with fail
  refine (rtyped_any t _).mono ?_
  rintro e w5 ⟨rfl,rfl⟩
  rw [HCT.out]
  go_wp2_with fail
  refine (HLv.out _ HB3.out).mono ?_
  rintro e w6 ⟨rfl,B6⟩
  have HB6:=hid (HB3.out.trans (B6.mono HB3.out.size))
  clear B6
  go_wp2
  go_ret
  exact ⟨rfl,HB6.out⟩
theorem may_walk {w:World} {vn vv:Value} {n:Nd} {ins:List Vl} (hn:NodeV w vn n) (hb:n.attrs.length≤1048575) (hbi:∀ a ∈ n.attrs,a.ints.length≤1048575) (hs:SlIn 3 rdValue w vv ins) (hG:Glob w) :
  Calls Tryz.prog 4 #[vn,vv] w fun e w'=>e=.returned (.bool true)∧Below w.heap.size w w':=may_any hn hs hG (hax_of hbi)
end Go.Proofs.YtijhdmidffenbaaGreatDoor
