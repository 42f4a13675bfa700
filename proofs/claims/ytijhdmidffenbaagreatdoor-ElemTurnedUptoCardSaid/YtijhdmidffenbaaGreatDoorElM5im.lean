import Derived.Test.YtijhdmidffenbaaGreatDoorElM2im
import Derived.Test.YtijhdmidffenbaaGreatDoorElMim
import Derived.Test.YtijhdmidffenbaaGreatDoorJaM5im
open Go.Lib (hid)
set_option linter.unusedVariables false
set_option linter.unusedSimpArgs false
namespace Go.Proofs.YtijhdmidffenbaaGreatDoor
open Go.RowKit
set_option maxRecDepth 100000
theorem do2_anyU {w:World} {vn vv:Value} {n:Nd} {x y:Tn} (hn:NodeV w vn n) (hs:SlIn 3 rdTensor w vv [x,y]) (hG:Glob w) (hax:(intsP n.attrs nmAxes []).length * 8+48≤140737488351232) :
  Calls Tryz.prog 18 #[vn,vv] w (UniR w (do2P n x y)):=by
 refine (do2_any hn hs hG hax).mono fun e w' h=>?_
 refine h.uni (fun h=>do2_zero h) (fun h=>?_)
 unfold do2P at *
 by_cases c:n.op.toList ∈ cmpL++ariL
 ·rw [if_pos c] at h ⊢
  obtain ⟨h0,e0⟩:=doO_zero h
  have e1:twoO n x y=_:=e0
  rw [e1]
  obtain ⟨-,-,-,-,-,-,hc,hB⟩:=twoB_yes h0
  have c6:=cnt_six hc
  rw [show (twoB n x y).2.2=(Vb.bcO x.2.1 y.2.1).2 by rw [hB]]
  refine ⟨⟨c6.1,c6.2.1⟩,?_,?_⟩
  ·rw [datAt_len];unfold nW;have:=c6.2.2;omega
  ·refine datAt_in fun k=>?_
   have hx:=spT_in (W:=(Vb.bcO x.2.1 y.2.1).2) (tens_mem hs (x:=x) (by simp)).2 k
   have hy:=spT_in (W:=(Vb.bcO x.2.1 y.2.1).2) (tens_mem hs (x:=y) (by simp)).2 k
   exact Fl.bin_rangeA hx.1 hx.2 hy.1 hy.2
 ·rw [if_neg c] at h
  exfalso
  unfold elseO at h
  split at h
  ·rename_i d;exact d h
  ·exact absurd h (by decide)
theorem ints_hi {W:World} {D PB:Nat} {u v t r:Value} {zs:List Int} (h:IntsIn W r zs) (hr:HiB D r) (hp:PB < D):IntsIn (put3 W PB u v t) r zs:=by
 unfold put3
 exact ints_set (ints_set (ints_set h _ (fun b o n c e=>by have:=hr b o n c e;show b≠PB;omega)) _ (fun b o n c e=>by have:=hr b o n c e;show b≠PB;omega)) _ (fun b o n c e=>by have:=hr b o n c e;show b≠PB;omega)
theorem ints_freshE {W:World} {PB:Nat} {u v t:Value} {a:Option Addr} {n c:Nat} {zs:List Int} (h:IntsIn W (.slice a n c) zs) (hp:PB=W.heap.size) (o:Obj):IntsIn (put3 (W.alloc o) PB u v t) (.slice a n c) zs:=by
 subst hp
 exact h.below (((((Below.refl _ W).alloc (Nat.le_refl _) o).setCell (p:=⟨W.heap.size,0,none⟩) (Nat.le_refl _) _).setCell (p:=⟨W.heap.size,1,none⟩) (Nat.le_refl _) _).setCell (p:=⟨W.heap.size,2,none⟩) (Nat.le_refl _) _)
attribute [local irreducible] do2P
set_option maxHeartbeats 16000000 in
theorem turned09_any {w:World} {vn vv:Value} {n:Nd} {ts:List Tn} (hn:NodeV w vn n) (hs:SlIn 3 rdTensor w vv ts) (hG:Glob w) (hax:(intsP n.attrs nmAxes []).length * 8+48≤140737488351232) :
  Calls Tryz.prog 7 #[vn,vv] w fun e w'=>e=.returned (.bool true)∧Below w.heap.size w w':=by
 have HNV:=hid hn
 obtain ⟨vin,vat,rfl,hm⟩:=hn
 obtain ⟨a1,c1,rfl⟩:=hm.is.form
 obtain ⟨a2,c2,rfl⟩:=hm.ia.form
 obtain ⟨a3,c3,rfl⟩:=hs.form
 have hll:=hs.len
 have HS:=hid hs
 have HG:=hid hG
 have HAX:=hid hax
 clear hm hs hG hax
 have HLv:=hid (fun (W:World) (hB:Below w.heap.size w W)=>live09_any (HG.out.below hB))
 unfold Nd.val at HNV ⊢
 have HB1:=hid ((Below.refl w.heap.size w).alloc (Nat.le_refl _) (Obj.cells #[.string n.op,.string n.name,.slice a1 n.ins.length c1,.string n.out,.slice a2 n.attrs.length c2] 25))
 have HA1:=hid (BoxN.new w #[.string n.op,.string n.name,.slice a1 n.ins.length c1,.string n.out,.slice a2 n.attrs.length c2] 25)
 go_enter Tryz.func7,Tryz.ntmps7
 go_wp2_with fail
 generalize World.alloc w _=W1 at HB1 HA1 ⊢
 refine (small09_any (tensors_below HS.out HB1.out)).mono ?_
 rintro e w2 ⟨⟨b,rfl⟩,B2⟩
 have HB2:=hid (HB1.out.trans (B2.mono HB1.out.size))
 have HA2:=hid (HA1.out.below' B2)
 clear B2 HA1 HB1
 have k0:=HA2.out.five.1
 cases b
 case false =>
  go_wp2_with fail
  refine (HLv.out _ HB2.out).mono ?_
  rintro e w3 ⟨rfl,B3⟩
  have HB3:=hid (HB2.out.trans (B3.mono HB2.out.size))
  clear B3
  go_wp2
  go_ret
  exact ⟨rfl,HB3.out⟩
 by_cases hl:ts.length=2
 case neg =>
  have hb:((ts.length:Int) != 2)=true:=by simp;omega
  clear hl
  go_wp2_with fail
  refine (HLv.out _ HB2.out).mono ?_
  rintro e w3 ⟨rfl,B3⟩
  have HB3:=hid (HB2.out.trans (B3.mono HB2.out.size))
  clear B3
  go_wp2
  go_ret
  exact ⟨rfl,HB3.out⟩
 have hb1:((ts.length:Int) != 2)=false:=by simp;omega
 cases q0:(n.op.toList==([83,117,98]:List UInt8)) with
 | true =>
  clear hl
  go_wp2_with fail
  refine (HLv.out _ HB2.out).mono ?_
  rintro e w3 ⟨rfl,B3⟩
  have HB3:=hid (HB2.out.trans (B3.mono HB2.out.size))
  clear B3
  go_wp2
  go_ret
  exact ⟨rfl,HB3.out⟩
 | false =>
 cases q1:(n.op.toList==([68,105,118]:List UInt8)) with
 | true =>
  clear hl
  go_wp2_with fail
  refine (HLv.out _ HB2.out).mono ?_
  rintro e w3 ⟨rfl,B3⟩
  have HB3:=hid (HB2.out.trans (B3.mono HB2.out.size))
  clear B3
  go_wp2
  go_ret
  exact ⟨rfl,HB3.out⟩
 | false =>
 cases q2:(n.op.toList==([76,101,115,115]:List UInt8)) with
 | true =>
  clear hl
  go_wp2_with fail
  refine (HLv.out _ HB2.out).mono ?_
  rintro e w3 ⟨rfl,B3⟩
  have HB3:=hid (HB2.out.trans (B3.mono HB2.out.size))
  clear B3
  go_wp2
  go_ret
  exact ⟨rfl,HB3.out⟩
 | false =>
 cases q3:(n.op.toList==([71,114,101,97,116,101,114]:List UInt8)) with
 | true =>
  clear hl
  go_wp2_with fail
  refine (HLv.out _ HB2.out).mono ?_
  rintro e w3 ⟨rfl,B3⟩
  have HB3:=hid (HB2.out.trans (B3.mono HB2.out.size))
  clear B3
  go_wp2
  go_ret
  exact ⟨rfl,HB3.out⟩
 | false =>
 have o0:n.op.toList≠[83,117,98]:=by simpa using q0
 have o1:n.op.toList≠[68,105,118]:=by simpa using q1
 have o2:n.op.toList≠[76,101,115,115]:=by simpa using q2
 have o3:n.op.toList≠[71,114,101,97,116,101,114]:=by simpa using q3
 obtain ⟨x,y,rfl⟩:∃ x y,ts=[x,y]:=by
  match ts,hl with
  | [x,y],_=>exact ⟨x,y,rfl⟩
 obtain ⟨hti,hte⟩:=turned_plain (n:=n) (x:=x) (y:=y) o0 o1 o2 o3
 obtain ⟨p1,hp1⟩:∃ o,do2P n x y=o:=⟨_,rfl⟩
 obtain ⟨p2,hp2⟩:∃ o,do2P n y x=o:=⟨_,rfl⟩
 rw [hp1,hp2] at hti hte
 obtain ⟨r1,t1,d1,x1⟩:=p1
 obtain ⟨r2,t2,d2,x2⟩:=p2
 dsimp only at hti hte
 simp only [Prod.mk.injEq] at hte
 obtain ⟨rfl,rfl,rfl⟩:=hte
 have HP1:=hid hp1
 have HP2:=hid hp2
 have hrr:((r1==0)==(r2==0))=true:=by
  by_cases hq:r1=0
  ·have:=hti.1 hq
   have e1:(r1==0)=true:=by simp [hq]
   have e2:(r2==0)=true:=by simpa using this
   rw [e1,e2];rfl
  ·have:r2≠0:=fun c=>hq (hti.2 c)
   have e1:(r1==0)=false:=by simpa using hq
   have e2:(r2==0)=false:=by simpa using this
   rw [e1,e2];rfl
 have HRR:=hid hrr
 clear hp1 hp2 hti hrr o0 o1 o2 o3 hl
 obtain ⟨bx,ox,cx,vd0,vx0,hvx,hbx,c0,c1',c2',c3',c4,c5⟩:=tensor_at HS.out (j:=0) (x:=x) rfl
 obtain ⟨rfl,hcc,rfl⟩:=Value.slice.inj hvx
 obtain ⟨by',oy,cy,vd1,vx1,hvy,hby,y0,y1,y2,y3,y4,y5⟩:=tensor_at HS.out (j:=1) (x:=y) rfl
 obtain ⟨e,-,-⟩:=Value.slice.inj hvy
 obtain ⟨e1,e2⟩:bx=by'∧ox=oy:=by simpa using e
 subst e1 e2
 clear hvx hvy e hby hcc
 have HX:=hid (And.intro c3' (And.intro c4 c5))
 have HY:=hid (And.intro y3 (And.intro y4 y5))
 obtain ⟨ad,kd,rfl⟩:=c4.shape
 obtain ⟨ax,kx,rfl⟩:=c5.shape
 obtain ⟨ae,ke,rfl⟩:=y4.shape
 obtain ⟨ay,ky,rfl⟩:=y5.shape
 clear c3' c4 c5 y3 y4 y5
 obtain ⟨k0',k1,k2,k3,k4⟩:=HA2.out.five
 clear k0'
 go_wp2_with fail
 clear k0 k1 k2 k3 k4
 refine (do2_anyU (n:=n) (x:=x) (y:=y) (HNV.out.below HB2.out) (tensors_below HS.out HB2.out) (HG.out.below HB2.out) HAX.out).mono ?_
 intro e w3 hu
 rw [HP1.out] at hu
 obtain ⟨vd3,vx3,rfl,hd3,hx3,-,B3⟩:=hu.out
 clear hu
 have HB3:=hid (HB2.out.trans (B3.mono HB2.out.size))
 have HA3:=hid (HA2.out.below' B3)
 have HD3:=hid hd3
 have HX3:=hid hx3
 obtain ⟨a4,c4,rfl⟩:=hd3.shape
 obtain ⟨a5,c5,rfl⟩:=hx3.shape
 clear hd3 hx3 B3 HA2
 go_wp2_with fail
 have HB34:Hid (Below w3.heap.size w3 (w3.alloc (Obj.cells #[.int .i64 t1,.slice a4 d1.length c4,.slice a5 x1.length c5] 46))):=hid ((Below.refl _ w3).alloc (Nat.le_refl _) _)
 have HB4:Hid (Below w.heap.size w (w3.alloc (Obj.cells #[.int .i64 t1,.slice a4 d1.length c4,.slice a5 x1.length c5] 46))):=hid (HB3.out.trans (HB34.out.mono HB3.out.size))
 have HU:=hid (BoxN.new w3 #[.int .i64 t1,.slice a4 d1.length c4,.slice a5 x1.length c5] 46)
 have HA4:=hid (HA3.out.below' HB34.out)
 have HD4:=hid (HD3.out.below HB34.out)
 have HX4:=hid (HX3.out.below HB34.out)
 clear HA3 HD3 HX3 HB34
 generalize w3.alloc (Obj.cells #[.int .i64 t1,.slice a4 d1.length c4,.slice a5 x1.length c5] 46)=w4 at HB4 HU HA4 HD4 HX4 ⊢
 generalize w3.heap.size=U2 at HU ⊢
 have HXY:Hid (∀ W',Below w4.heap.size w4 W'→W'.cell? ⟨bx,ox,none⟩=some (.int .i64 x.1)∧W'.cell? ⟨bx,ox+1,none⟩=some (.slice ad x.2.1.length kd)∧W'.cell? ⟨bx,ox+2,none⟩=some (.slice ax x.2.2.length kx)∧W'.cell? ⟨bx,ox+1 * 3,none⟩=some (.int .i64 y.1)∧W'.cell? ⟨bx,ox+1 * 3+1,none⟩=some (.slice ae y.2.1.length ke)∧W'.cell? ⟨bx,ox+1 * 3+2,none⟩=some (.slice ay y.2.2.length ky)):=hid fun W' hB=>by
  have hBw:=HB4.out.trans (hB.mono HB4.out.size)
  exact ⟨(hBw.cell (p:=⟨bx,ox,none⟩) hbx).trans (by simpa using c0),(hBw.cell (p:=⟨bx,ox+1,none⟩) hbx).trans (by simpa using c1'),(hBw.cell (p:=⟨bx,ox+2,none⟩) hbx).trans (by simpa using c2'),(hBw.cell (p:=⟨bx,ox+1 * 3,none⟩) hbx).trans y0,(hBw.cell (p:=⟨bx,ox+1 * 3+1,none⟩) hbx).trans y1,(hBw.cell (p:=⟨bx,ox+1 * 3+2,none⟩) hbx).trans y2⟩
 have HXw:Hid (∀ W',Below w4.heap.size w4 W'→InI x.1∧IntsIn W' (.slice ad x.2.1.length kd) x.2.1∧IntsIn W' (.slice ax x.2.2.length kx) x.2.2):=hid fun W' hB=>⟨HX.out.1,HX.out.2.1.below (HB4.out.trans (hB.mono HB4.out.size)),HX.out.2.2.below (HB4.out.trans (hB.mono HB4.out.size))⟩
 have HYw:Hid (∀ W',Below w4.heap.size w4 W'→InI y.1∧IntsIn W' (.slice ae y.2.1.length ke) y.2.1∧IntsIn W' (.slice ay y.2.2.length ky) y.2.2):=hid fun W' hB=>⟨HY.out.1,HY.out.2.1.below (HB4.out.trans (hB.mono HB4.out.size)),HY.out.2.2.below (HB4.out.trans (hB.mono HB4.out.size))⟩
 clear c0 c1' c2' y0 y1 y2 hbx HX HY HS
 have l2:([x,y]:List Tn).length=2:=rfl
 refine wp_region_tree 14 (Pl.reads [0,1,2,3,4,5,6] (.two 7 (.two 8 (Pl.reads [9,10,11] (.act 12 (.act 13 .tail))) 12 (.act 8 (Pl.reads [9,10,11] (.act 13 .tail)))) 12 (.act 7 (.act 8 (Pl.reads [9,10,11] (.act 13 .tail)))))) (fun W'=>Below w4.heap.size w4 W') (by kernel_rfl) (by kernel_rfl) (fun _ d _ _ _ h=>by cases d<;>exact h) (Below.refl _ _).drew ?_
 simp only [Pl.reads]
 have B0:Hid (Below w4.heap.size w4 w4.drew):=hid (Below.refl _ _).drew
 generalize w4.drew=wD at B0 ⊢
 repeat
  refine tree_read (v:=?_) rfl (Or.inl ⟨by rfl,?_⟩) ?_
  rotate_left
  ·intro W' hSw
   obtain ⟨x0,x1,x2,y0,y1,y2⟩:=HXY.out W' hSw
   obtain ⟨k0,k1,k2,k3,k4⟩:=(HA4.out.below' hSw).five
   go_simp
   try with_reducible rfl
  try simp only [Act.put,List.getElem_toArray,List.getElem_cons_zero,List.getElem_cons_succ,List.setIfInBounds_toArray,List.set_cons_zero,List.set_cons_succ]
 refine tree_two rfl rfl (fun K' hK=>?_) (fun K' hK=>?_)
 ·go_simp
  have HB5:Hid (Below w4.heap.size w4 (wD.alloc (Obj.cells #[.int .i64 y.1,.slice ae y.2.1.length ke,.slice ay y.2.2.length ky,.int .i64 x.1,.slice ad x.2.1.length kd,.slice ax x.2.2.length kx] 46))):=hid (B0.out.alloc B0.out.size _)
  have HBS:=hid (BoxN.new wD #[.int .i64 y.1,.slice ae y.2.1.length ke,.slice ay y.2.2.length ky,.int .i64 x.1,.slice ad x.2.1.length kd,.slice ax x.2.2.length kx] 46)
  refine hK.out _ _ HB5.out ?_
  clear hK K'
  generalize wD.alloc (Obj.cells #[.int .i64 y.1,.slice ae y.2.1.length ke,.slice ay y.2.2.length ky,.int .i64 x.1,.slice ad x.2.1.length kd,.slice ax x.2.2.length kx] 46)=w5 at HB5 HBS ⊢
  generalize wD.heap.size=bs at HBS ⊢
  refine tree_two rfl rfl (fun K' hK=>?_) (fun K' hK=>?_)
  ·go_simp
   have HCB:=hid (HB4.out.trans (HB5.out.mono HB4.out.size))
   refine (do2_anyU (n:=n) (x:=y) (y:=x) (HNV.out.below HCB.out) (tens_two (x:=y) (y:=x) HBS.out (HYw.out _ HB5.out) (HXw.out _ HB5.out)) (HG.out.below HCB.out) HAX.out).mono ?_
   intro e w6 hu
   rw [HP2.out] at hu
   obtain ⟨vd6,vx6,rfl,hd6,hx6,⟨hi6,hi7⟩,B6⟩:=hu.out
   clear hu
   have HB6:=hid (HB5.out.trans (B6.mono HB5.out.size))
   have HD6:=hid hd6
   have HX6:=hid hx6
   obtain ⟨a6,c6,rfl⟩:=hd6.shape
   obtain ⟨a7,c7,rfl⟩:=hx6.shape
   clear hd6 hx6 hi6 hi7 B6
   refine hK.out _ _ HB6.out ?_
   clear hK K'
   repeat
    refine tree_read (v:=?_) rfl (Or.inl ⟨by rfl,?_⟩) ?_
    rotate_left
    ·intro W' hSw
     go_simp
     try with_reducible rfl
    try simp only [Act.put,List.getElem_toArray,List.getElem_cons_zero,List.getElem_cons_succ,List.setIfInBounds_toArray,List.set_cons_zero,List.set_cons_succ]
   refine tree_act rfl (fun K' hK=>?_)
   go_simp
   have HB8:Hid (Below w4.heap.size w4 (w6.alloc (Obj.cells #[.int .i64 0,.slice none 0 0,.slice none 0 0] 46))):=hid (HB6.out.alloc HB6.out.size _)
   have HPZ:=hid (BoxN.new w6 #[.int .i64 0,.slice none 0 0,.slice none 0 0] 46)
   have HPL:Hid (w4.heap.size≤w6.heap.size):=hid HB6.out.size
   have HIP:=hid (ints_freshE (u:=.int .i64 t1) (v:=.slice a6 d1.length c6) (t:=.slice a7 x1.length c7) HD6.out rfl (Obj.cells #[.int .i64 0,.slice none 0 0,.slice none 0 0] 46))
   have HJP:=hid (ints_freshE (u:=.int .i64 t1) (v:=.slice a6 d1.length c6) (t:=.slice a7 x1.length c7) HX6.out rfl (Obj.cells #[.int .i64 0,.slice none 0 0,.slice none 0 0] 46))
   refine hK.out _ _ HB8.out ?_
   clear hK K'
   generalize w6.alloc (Obj.cells #[.int .i64 0,.slice none 0 0,.slice none 0 0] 46)=w8 at HB8 HPZ HIP HJP ⊢
   generalize w6.heap.size=PB at HPZ HPL HIP HJP ⊢
   obtain ⟨f0,f1,f2⟩:=HPZ.out.three
   obtain ⟨z0,z1,z2⟩:=HPZ.out.thaw3
   refine tree_act rfl (fun K' hK=>?_)
   go_simp
   have HB7:Hid (Below w4.heap.size w4 (put3 w8 PB (.int .i64 t1) (.slice a6 d1.length c6) (.slice a7 x1.length c7))):=hid (((HB8.out.setCell (p:=⟨PB,0,none⟩) HPL.out _).setCell (p:=⟨PB,1,none⟩) HPL.out _).setCell (p:=⟨PB,2,none⟩) HPL.out _)
   have HP:Hid (BoxN (put3 w8 PB (.int .i64 t1) (.slice a6 d1.length c6) (.slice a7 x1.length c7)) PB #[.int .i64 t1,.slice a6 d1.length c6,.slice a7 x1.length c7] 46):=hid (HPZ.out.put3 _ _ _)
   have HI:Hid (IntsIn (put3 w8 PB (.int .i64 t1) (.slice a6 d1.length c6) (.slice a7 x1.length c7)) (.slice a6 d1.length c6) d1):=HIP
   have HJ:Hid (IntsIn (put3 w8 PB (.int .i64 t1) (.slice a6 d1.length c6) (.slice a7 x1.length c7)) (.slice a7 x1.length c7) x1):=HJP
   refine hK.out _ (put3 w8 PB _ _ _) HB7.out ?_
   generalize put3 w8 PB (.int .i64 t1) (.slice a6 d1.length c6) (.slice a7 x1.length c7)=w7 at HB7 HP HI HJ ⊢
   clear hK K' f0 f1 f2 z0 z1 z2 HPZ HIP HJP
   refine tree_tail rfl ?_
   simp only [List.toList_toArray,List.drop_succ_cons,List.drop_zero]
   have hrr:=HRR.out
   obtain ⟨p0,p1,p2⟩:=HP.out.three
   obtain ⟨u0,u1,u2⟩:=(HU.out.below' HB7.out).three
   go_wp2_with fail
   have HB47:=hid (HB4.out.trans (HB7.out.mono HB4.out.size))
   refine (stensor_any t1 d1 x1 (HD4.out.below HB7.out) (HX4.out.below HB7.out) HI.out HJ.out).mono ?_
   rintro e w9 ⟨rfl,B9⟩
   have HB9:=hid (HB47.out.trans (B9.mono HB47.out.size))
   clear B9 p0 p1 p2 u0 u1 u2
   go_wp2_with fail
   refine (HLv.out _ HB9.out).mono ?_
   rintro e w10 ⟨rfl,B10⟩
   have HB10:=hid (HB9.out.trans (B10.mono HB9.out.size))
   clear B10
   go_wp2
   go_ret
   exact ⟨rfl,HB10.out⟩
  ·go_simp
   have HB8:Hid (Below w4.heap.size w4 (w5.alloc (Obj.cells #[.int .i64 0,.slice none 0 0,.slice none 0 0] 46))):=hid (HB5.out.alloc HB5.out.size _)
   have HPZ:=hid (BoxN.new w5 #[.int .i64 0,.slice none 0 0,.slice none 0 0] 46)
   have HPL:Hid (w4.heap.size≤w5.heap.size):=hid HB5.out.size
   have HBS:=hid (HBS.out.below' ((Below.refl _ w5).alloc (Nat.le_refl _) (Obj.cells #[.int .i64 0,.slice none 0 0,.slice none 0 0] 46)))
   have HPlt:Hid (w5.heap.size < (w5.alloc (Obj.cells #[.int .i64 0,.slice none 0 0,.slice none 0 0] 46)).heap.size):=hid (by simp)
   refine hK.out _ _ HB8.out ?_
   clear hK K'
   generalize w5.alloc (Obj.cells #[.int .i64 0,.slice none 0 0,.slice none 0 0] 46)=w8 at HB8 HPZ HBS HPlt ⊢
   generalize w5.heap.size=PB at HPZ HPL HPlt ⊢
   refine tree_act rfl (fun K' hK=>?_)
   go_simp
   have HCB:=hid (HB4.out.trans (HB8.out.mono HB4.out.size))
   refine (do2_anyU (n:=n) (x:=y) (y:=x) (HNV.out.below HCB.out) (tens_two (x:=y) (y:=x) HBS.out (HYw.out _ HB8.out) (HXw.out _ HB8.out)) (HG.out.below HCB.out) HAX.out).mono ?_
   intro e w6 hu
   rw [HP2.out] at hu
   obtain ⟨vd6,vx6,rfl,hd6,hx6,⟨hi6,hi7⟩,B6⟩:=hu.out
   clear hu
   have HB6:=hid (HB8.out.trans (B6.mono HB8.out.size))
   have HD6:=hid hd6
   have HX6:=hid hx6
   obtain ⟨a6,c6,rfl⟩:=hd6.shape
   obtain ⟨a7,c7,rfl⟩:=hx6.shape
   have HIP:=hid (ints_hi (u:=.int .i64 t1) (v:=.slice a6 d1.length c6) (t:=.slice a7 x1.length c7) HD6.out hi6 HPlt.out)
   have HJP:=hid (ints_hi (u:=.int .i64 t1) (v:=.slice a6 d1.length c6) (t:=.slice a7 x1.length c7) HX6.out hi7 HPlt.out)
   have HPZ:=hid (HPZ.out.below' B6)
   clear hd6 hx6 hi6 hi7 B6
   refine hK.out _ _ HB6.out ?_
   clear hK K'
   repeat
    refine tree_read (v:=?_) rfl (Or.inl ⟨by rfl,?_⟩) ?_
    rotate_left
    ·intro W' hSw
     go_simp
     try with_reducible rfl
    try simp only [Act.put,List.getElem_toArray,List.getElem_cons_zero,List.getElem_cons_succ,List.setIfInBounds_toArray,List.set_cons_zero,List.set_cons_succ]
   obtain ⟨f0,f1,f2⟩:=HPZ.out.three
   obtain ⟨z0,z1,z2⟩:=HPZ.out.thaw3
   refine tree_act rfl (fun K' hK=>?_)
   go_simp
   have HB7:Hid (Below w4.heap.size w4 (put3 w6 PB (.int .i64 t1) (.slice a6 d1.length c6) (.slice a7 x1.length c7))):=hid (((HB6.out.setCell (p:=⟨PB,0,none⟩) HPL.out _).setCell (p:=⟨PB,1,none⟩) HPL.out _).setCell (p:=⟨PB,2,none⟩) HPL.out _)
   have HP:Hid (BoxN (put3 w6 PB (.int .i64 t1) (.slice a6 d1.length c6) (.slice a7 x1.length c7)) PB #[.int .i64 t1,.slice a6 d1.length c6,.slice a7 x1.length c7] 46):=hid (HPZ.out.put3 _ _ _)
   have HI:Hid (IntsIn (put3 w6 PB (.int .i64 t1) (.slice a6 d1.length c6) (.slice a7 x1.length c7)) (.slice a6 d1.length c6) d1):=HIP
   have HJ:Hid (IntsIn (put3 w6 PB (.int .i64 t1) (.slice a6 d1.length c6) (.slice a7 x1.length c7)) (.slice a7 x1.length c7) x1):=HJP
   refine hK.out _ (put3 w6 PB _ _ _) HB7.out ?_
   generalize put3 w6 PB (.int .i64 t1) (.slice a6 d1.length c6) (.slice a7 x1.length c7)=w7 at HB7 HP HI HJ ⊢
   clear hK K' f0 f1 f2 z0 z1 z2 HPZ HIP HJP
   refine tree_tail rfl ?_
   simp only [List.toList_toArray,List.drop_succ_cons,List.drop_zero]
   have hrr:=HRR.out
   obtain ⟨p0,p1,p2⟩:=HP.out.three
   obtain ⟨u0,u1,u2⟩:=(HU.out.below' HB7.out).three
   go_wp2_with fail
   have HB47:=hid (HB4.out.trans (HB7.out.mono HB4.out.size))
   refine (stensor_any t1 d1 x1 (HD4.out.below HB7.out) (HX4.out.below HB7.out) HI.out HJ.out).mono ?_
   rintro e w9 ⟨rfl,B9⟩
   have HB9:=hid (HB47.out.trans (B9.mono HB47.out.size))
   clear B9 p0 p1 p2 u0 u1 u2
   go_wp2_with fail
   refine (HLv.out _ HB9.out).mono ?_
   rintro e w10 ⟨rfl,B10⟩
   have HB10:=hid (HB9.out.trans (B10.mono HB9.out.size))
   clear B10
   go_wp2
   go_ret
   exact ⟨rfl,HB10.out⟩
 ·go_simp
  have HB5:Hid (Below w4.heap.size w4 (wD.alloc (Obj.cells #[.int .i64 0,.slice none 0 0,.slice none 0 0] 46))):=hid (B0.out.alloc B0.out.size _)
  have HPZ:=hid (BoxN.new wD #[.int .i64 0,.slice none 0 0,.slice none 0 0] 46)
  have HPL:Hid (w4.heap.size≤wD.heap.size):=hid B0.out.size
  have HPlt:Hid (wD.heap.size < (wD.alloc (Obj.cells #[.int .i64 0,.slice none 0 0,.slice none 0 0] 46)).heap.size):=hid (by simp)
  refine hK.out _ _ HB5.out ?_
  clear hK K'
  generalize wD.alloc (Obj.cells #[.int .i64 0,.slice none 0 0,.slice none 0 0] 46)=w5 at HB5 HPZ HPlt ⊢
  generalize wD.heap.size=PB at HPZ HPL HPlt ⊢
  refine tree_act rfl (fun K' hK=>?_)
  go_simp
  have HB8:Hid (Below w4.heap.size w4 (w5.alloc (Obj.cells #[.int .i64 y.1,.slice ae y.2.1.length ke,.slice ay y.2.2.length ky,.int .i64 x.1,.slice ad x.2.1.length kd,.slice ax x.2.2.length kx] 46))):=hid (HB5.out.alloc HB5.out.size _)
  have HBS:=hid (BoxN.new w5 #[.int .i64 y.1,.slice ae y.2.1.length ke,.slice ay y.2.2.length ky,.int .i64 x.1,.slice ad x.2.1.length kd,.slice ax x.2.2.length kx] 46)
  have HPZ:=hid (HPZ.out.below' ((Below.refl _ w5).alloc (Nat.le_refl _) (Obj.cells #[.int .i64 y.1,.slice ae y.2.1.length ke,.slice ay y.2.2.length ky,.int .i64 x.1,.slice ad x.2.1.length kd,.slice ax x.2.2.length kx] 46)))
  have HPlt:=hid (Nat.lt_of_lt_of_le HPlt.out ((Below.refl w5.heap.size w5).alloc (Nat.le_refl _) (Obj.cells #[.int .i64 y.1,.slice ae y.2.1.length ke,.slice ay y.2.2.length ky,.int .i64 x.1,.slice ad x.2.1.length kd,.slice ax x.2.2.length kx] 46)).size)
  refine hK.out _ _ HB8.out ?_
  clear hK K'
  generalize w5.alloc (Obj.cells #[.int .i64 y.1,.slice ae y.2.1.length ke,.slice ay y.2.2.length ky,.int .i64 x.1,.slice ad x.2.1.length kd,.slice ax x.2.2.length kx] 46)=w8 at HB8 HPZ HBS HPlt ⊢
  generalize w5.heap.size=bs at HBS ⊢
  refine tree_act rfl (fun K' hK=>?_)
  go_simp
  have HCB:=hid (HB4.out.trans (HB8.out.mono HB4.out.size))
  refine (do2_anyU (n:=n) (x:=y) (y:=x) (HNV.out.below HCB.out) (tens_two (x:=y) (y:=x) HBS.out (HYw.out _ HB8.out) (HXw.out _ HB8.out)) (HG.out.below HCB.out) HAX.out).mono ?_
  intro e w6 hu
  rw [HP2.out] at hu
  obtain ⟨vd6,vx6,rfl,hd6,hx6,⟨hi6,hi7⟩,B6⟩:=hu.out
  clear hu
  have HB6:=hid (HB8.out.trans (B6.mono HB8.out.size))
  have HD6:=hid hd6
  have HX6:=hid hx6
  obtain ⟨a6,c6,rfl⟩:=hd6.shape
  obtain ⟨a7,c7,rfl⟩:=hx6.shape
  have HIP:=hid (ints_hi (u:=.int .i64 t1) (v:=.slice a6 d1.length c6) (t:=.slice a7 x1.length c7) HD6.out hi6 HPlt.out)
  have HJP:=hid (ints_hi (u:=.int .i64 t1) (v:=.slice a6 d1.length c6) (t:=.slice a7 x1.length c7) HX6.out hi7 HPlt.out)
  have HPZ:=hid (HPZ.out.below' B6)
  clear hd6 hx6 hi6 hi7 B6
  refine hK.out _ _ HB6.out ?_
  clear hK K'
  repeat
   refine tree_read (v:=?_) rfl (Or.inl ⟨by rfl,?_⟩) ?_
   rotate_left
   ·intro W' hSw
    go_simp
    try with_reducible rfl
   try simp only [Act.put,List.getElem_toArray,List.getElem_cons_zero,List.getElem_cons_succ,List.setIfInBounds_toArray,List.set_cons_zero,List.set_cons_succ]
  obtain ⟨f0,f1,f2⟩:=HPZ.out.three
  obtain ⟨z0,z1,z2⟩:=HPZ.out.thaw3
  refine tree_act rfl (fun K' hK=>?_)
  go_simp
  have HB7:Hid (Below w4.heap.size w4 (put3 w6 PB (.int .i64 t1) (.slice a6 d1.length c6) (.slice a7 x1.length c7))):=hid (((HB6.out.setCell (p:=⟨PB,0,none⟩) HPL.out _).setCell (p:=⟨PB,1,none⟩) HPL.out _).setCell (p:=⟨PB,2,none⟩) HPL.out _)
  have HP:Hid (BoxN (put3 w6 PB (.int .i64 t1) (.slice a6 d1.length c6) (.slice a7 x1.length c7)) PB #[.int .i64 t1,.slice a6 d1.length c6,.slice a7 x1.length c7] 46):=hid (HPZ.out.put3 _ _ _)
  have HI:Hid (IntsIn (put3 w6 PB (.int .i64 t1) (.slice a6 d1.length c6) (.slice a7 x1.length c7)) (.slice a6 d1.length c6) d1):=HIP
  have HJ:Hid (IntsIn (put3 w6 PB (.int .i64 t1) (.slice a6 d1.length c6) (.slice a7 x1.length c7)) (.slice a7 x1.length c7) x1):=HJP
  refine hK.out _ (put3 w6 PB _ _ _) HB7.out ?_
  generalize put3 w6 PB (.int .i64 t1) (.slice a6 d1.length c6) (.slice a7 x1.length c7)=w7 at HB7 HP HI HJ ⊢
  clear hK K' f0 f1 f2 z0 z1 z2 HPZ HIP HJP
  refine tree_tail rfl ?_
  simp only [List.toList_toArray,List.drop_succ_cons,List.drop_zero]
  have hrr:=HRR.out
  obtain ⟨p0,p1,p2⟩:=HP.out.three
  obtain ⟨u0,u1,u2⟩:=(HU.out.below' HB7.out).three
  go_wp2_with fail
  have HB47:=hid (HB4.out.trans (HB7.out.mono HB4.out.size))
  refine (stensor_any t1 d1 x1 (HD4.out.below HB7.out) (HX4.out.below HB7.out) HI.out HJ.out).mono ?_
  rintro e w9 ⟨rfl,B9⟩
  have HB9:=hid (HB47.out.trans (B9.mono HB47.out.size))
  clear B9 p0 p1 p2 u0 u1 u2
  go_wp2_with fail
  refine (HLv.out _ HB9.out).mono ?_
  rintro e w10 ⟨rfl,B10⟩
  have HB10:=hid (HB9.out.trans (B10.mono HB9.out.size))
  clear B10
  go_wp2
  go_ret
  exact ⟨rfl,HB10.out⟩
theorem turned09_walk {w:World} {vn vv:Value} {n:Nd} {ts:List Tn} (hn:NodeV w vn n) (hb:n.attrs.length≤1048575) (hbi:∀ a ∈ n.attrs,a.ints.length≤1048575) (hs:SlIn 3 rdTensor w vv ts) (hG:Glob w) :
  Calls Tryz.prog 7 #[vn,vv] w fun e w'=>e=.returned (.bool true)∧Below w.heap.size w w':=turned09_any hn hs hG (hax_of hbi)
end Go.Proofs.YtijhdmidffenbaaGreatDoor
