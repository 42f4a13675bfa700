import Derived.BigQuiet
import Derived.Deep.QuietTactic
import Derived.Test.YtkkeehnldcdccaaGreatDoorNe30
set_option linter.unusedVariables false
set_option linter.unusedSimpArgs false
set_option maxRecDepth 100000
set_option maxHeartbeats 16000000
namespace Go.Proofs.YtkkeehnldcdccaaGreatDoor
open Go.Lib (hid)
open Go.RowKit
section
attribute [local irreducible] Af AN Df AQ DM Ag
def WA(w:World)(x:Option (Int×Int))(pd:List Int)(e:Ending)(w':World):Prop:=Below w.heap.size w w'∧∃a0 n0 c0 a1 n1 c1 a2 n2 c2 a3 n3 c3 p q b,e=.returned (.tuple #[.agg #[.slice a0 n0 c0,.slice a1 n1 c1,.slice a2 n2 c2,.slice a3 n3 c3,.int .i64 p,.int .i64 q],.bool b])∧(b=false→x=none)∧(b=true→x=some (p,q)∧Aa w' (.slice a2 n2 c2) pd)
theorem WA.no{w w':World}{x:Option (Int×Int)}{pd:List Int}{a0 a1 a2 a3:Option Addr}{n0 c0 n1 c1 n2 c2 n3 c3:Nat}{p q:Int}(h:x=none)(hB:Below w.heap.size w w'):WA w x pd (.returned (.tuple #[.agg #[.slice a0 n0 c0,.slice a1 n1 c1,.slice a2 n2 c2,.slice a3 n3 c3,.int .i64 p,.int .i64 q],.bool false])) w':=⟨hB,a0,n0,c0,a1,n1,c1,a2,n2,c2,a3,n3,c3,p,q,false,rfl,fun _=>h,fun e=>by cases e⟩
theorem WA.yes{w w':World}{x:Option (Int×Int)}{pd:List Int}{a0 a1 a2 a3:Option Addr}{n0 c0 n1 c1 n2 c2 n3 c3:Nat}{p q:Int}(h:x=some (p,q))(hB:Below w.heap.size w w')(hi:Aa w' (.slice a2 n2 c2) pd):WA w x pd (.returned (.tuple #[.agg #[.slice a0 n0 c0,.slice a1 n1 c1,.slice a2 n2 c2,.slice a3 n3 c3,.int .i64 p,.int .i64 q],.bool true])) w':=⟨hB,a0,n0,c0,a1,n1,c1,a2,n2,c2,a3,n3,c3,p,q,true,rfl,fun e=>(by cases e),fun _=>⟨h,hi⟩⟩
def P1(w:World)(o:Option (List Int))(z0 z1:Int)(e:Ending)(w':World):Prop:=Below w.heap.size w w'∧∃a0 n0 c0 a1 n1 c1 a2 n2 c2 a3 n3 c3 p q b,e=.returned (.tuple #[.agg #[.slice a0 n0 c0,.slice a1 n1 c1,.slice a2 n2 c2,.slice a3 n3 c3,.int .i64 p,.int .i64 q],.bool b])∧(b=false→o=none)∧(b=true→o=some [z0,z1,p,q])
theorem P1.no{w w':World}{o:Option (List Int)}{z0 z1:Int}{a0 a1 a2 a3:Option Addr}{n0 c0 n1 c1 n2 c2 n3 c3:Nat}{p q:Int}(h:o=none)(hB:Below w.heap.size w w'):P1 w o z0 z1 (.returned (.tuple #[.agg #[.slice a0 n0 c0,.slice a1 n1 c1,.slice a2 n2 c2,.slice a3 n3 c3,.int .i64 p,.int .i64 q],.bool false])) w':=⟨hB,a0,n0,c0,a1,n1,c1,a2,n2,c2,a3,n3,c3,p,q,false,rfl,fun _=>h,fun e=>by cases e⟩
theorem P1.yes{w w':World}{o:Option (List Int)}{z0 z1:Int}{a0 a1 a2 a3:Option Addr}{n0 c0 n1 c1 n2 c2 n3 c3:Nat}{p q:Int}(h:o=some [z0,z1,p,q])(hB:Below w.heap.size w w'):P1 w o z0 z1 (.returned (.tuple #[.agg #[.slice a0 n0 c0,.slice a1 n1 c1,.slice a2 n2 c2,.slice a3 n3 c3,.int .i64 p,.int .i64 q],.bool true])) w':=⟨hB,a0,n0,c0,a1,n1,c1,a2,n2,c2,a3,n3,c3,p,q,true,rfl,fun e=>(by cases e),fun _=>h⟩
def Yw(W:World)(b:Nat)(v0 v1 v2 v3 v4 v5:Value):World:=(((((W.setCell ⟨b,0,none⟩ v0).setCell ⟨b,1,none⟩ v1).setCell ⟨b,2,none⟩ v2).setCell ⟨b,3,none⟩ v3).setCell ⟨b,4,none⟩ v4).setCell ⟨b,5,none⟩ v5
theorem Ac.put6{W:World}{b:Nat}{x0 x1 x2 x3 x4 x5:Value}{t:TypeId}(h:Ac W b #[x0,x1,x2,x3,x4,x5] t)(v0 v1 v2 v3 v4 v5:Value):Ac (Yw W b v0 v1 v2 v3 v4 v5) b #[v0,v1,v2,v3,v4,v5] t:=
 (((((h.set 0 v0).set 1 v1).set 2 v2).set 3 v3).set 4 v4).set 5 v5
theorem Bz{W:World}{b B:Nat}(hb:B≤b)(v0 v1 v2 v3 v4 v5:Value):Below B W (Yw W b v0 v1 v2 v3 v4 v5):=
 ((((((Below.refl B W).setCell (p:=⟨b,0,none⟩) hb _).setCell (p:=⟨b,1,none⟩) hb _).setCell (p:=⟨b,2,none⟩) hb _).setCell (p:=⟨b,3,none⟩) hb _).setCell (p:=⟨b,4,none⟩) hb _).setCell (p:=⟨b,5,none⟩) hb _
theorem CK{w:World}{B b i:Nat}{v u:Value}{zs:List Int}{cs:Array Value}(h:Ag w B v zs)(hb:Ac w b cs 102):Ag (w.setCell ⟨b,i,none⟩ u) B v zs:=by
 unfold Ag at h⊢;exact A6 h fun g hg=>Below.heap_setCell _ _ _ _ (Bu h hb (by decide) g hg)
theorem VS{w:World}{B b:Nat}{v x0 x1 x2 x3 x4 x5:Value}{zs:List Int}(h:Ag w B v zs)(hb:Ac w b #[x0,x1,x2,x3,x4,x5] 102)(v0 v1 v2 v3 v4 v5:Value):Ag (Yw w b v0 v1 v2 v3 v4 v5) B v zs:=
 CK (CK (CK (CK (CK (CK h hb) (hb.set 0 v0)) ((hb.set 0 v0).set 1 v1)) (((hb.set 0 v0).set 1 v1).set 2 v2)) ((((hb.set 0 v0).set 1 v1).set 2 v2).set 3 v3)) (((((hb.set 0 v0).set 1 v1).set 2 v2).set 3 v3).set 4 v4)
theorem Jw{w:World}{b:Nat}{cs:Array Value}{t:TypeId}(h:Ac w b cs t){p:Addr}(x:Value)(hn:b≠p.block):Ac (w.setCell p x) b cs t:=(Below.heap_setCell _ _ _ _ hn).trans h
theorem MD{l p:List Int}{count lo hi:Int}(h:AN l count lo hi=some p):p=l:=by
 unfold AN at h;split at h
 ·exact(Option.some.inj h).symm
 ·cases h
theorem CL{fn:Func}{R:Ending→World→Prop}{a:Act}{W:World}{b p u:Nat}{v0 v1 v2 v3 v4 v5:Value}{fl:Bool}(hr:fn.results=#[.cell p 102,.tmp u])(hb:Ac W b #[v0,v1,v2,v3,v4,v5] 102)
  (hp:a.tmps.getD p undef=.pointer (some ⟨b,0,none⟩)) (hu:a.tmps.getD u undef=.bool fl) (hd:a.defers=[]) (h:R (.returned (.tuple #[.agg #[v0,v1,v2,v3,v4,v5],.bool fl])) W):bodyPost Tryz.prog fn R .ret a W:=by
 refine bodyPost_ret ?_ hd h;obtain⟨c0,c1,c2,c3,c4,c5⟩:=hb.six;rw[results_cell_tmp hr,hp,hu];simp[go_sem,c0,c1,c2,c3,c4,c5]
theorem Jx{w:World}{v vx vk:Value}{n:Nd}{x k:List Int}(h:Ba w v n)(hx:Aa w vx x)(hk:Aa w vk k)
  (lx:x.length=4) (lk:k.length=2) (bx:∀z∈x,1≤z∧z≤65536) (bk:∀z∈k,1≤z∧z≤65536) :
  Calls Tryz.prog 136 #[v,vk,vx] w fun e w'=>WA w (AQ n x k) (Af n.attrs BG [0,0,0,0]) e w':=by
 obtain⟨a1,c1,a2,c2,rfl,HN⟩:=Cr h;obtain⟨a4,c4,rfl⟩:=hx.shape;obtain⟨a5,c5,rfl⟩:=hk.shape;have HX:=hid hx;have HK:=hid hk;have HLX:=hid lx;have HLK:=hid lk;have HBX:=hid bx;have HBK:=hid bk;clear hx hk bx bk lx lk h;go_enter Tryz.func136,Tryz.ntmps136
 go_wp2_with fail
 generalize hW1:w.alloc _=W1;obtain⟨HB1,HF,HN⟩:=HN.out W1 hW1;have hs1:W1.heap.size=w.heap.size+1:=by rw[←hW1];simp
 have D1:Hid (Ac ((W1.alloc (Obj.cells #[.slice none 0 0,.slice none 0 0,.slice none 0 0,.slice none 0 0,.int .i64 0,.int .i64 0] 102)).alloc (Obj.cells #[.slice a5 k.length c5,.slice none 0 0,.slice none 0 0,.slice none 0 0,.int .i64 0,.int .i64 0] 102)) (w.heap.size+1) #[.slice none 0 0,.slice none 0 0,.slice none 0 0,.slice none 0 0,.int .i64 0,.int .i64 0] 102):=hid (by
  rw[←hs1];exact(Ac.new _ _ _).below' ((Below.refl _ _).alloc (Nat.le_refl _) _))
 have D2:Hid (Ac ((W1.alloc (Obj.cells #[.slice none 0 0,.slice none 0 0,.slice none 0 0,.slice none 0 0,.int .i64 0,.int .i64 0] 102)).alloc (Obj.cells #[.slice a5 k.length c5,.slice none 0 0,.slice none 0 0,.slice none 0 0,.int .i64 0,.int .i64 0] 102)) (w.heap.size+1+1) #[.slice a5 k.length c5,.slice none 0 0,.slice none 0 0,.slice none 0 0,.int .i64 0,.int .i64 0] 102):=hid (by
  rw[←hs1,←World.size_alloc];exact Ac.new _ _ _)
 have HB3:Hid (Below W1.heap.size W1 ((W1.alloc (Obj.cells #[.slice none 0 0,.slice none 0 0,.slice none 0 0,.slice none 0 0,.int .i64 0,.int .i64 0] 102)).alloc (Obj.cells #[.slice a5 k.length c5,.slice none 0 0,.slice none 0 0,.slice none 0 0,.int .i64 0,.int .i64 0] 102))):=hid (((Below.refl _ _).alloc (Nat.le_refl _) _).alloc (by simp) _);have hs3:((W1.alloc (Obj.cells #[.slice none 0 0,.slice none 0 0,.slice none 0 0,.slice none 0 0,.int .i64 0,.int .i64 0] 102)).alloc (Obj.cells #[.slice a5 k.length c5,.slice none 0 0,.slice none 0 0,.slice none 0 0,.int .i64 0,.int .i64 0] 102)).heap.size=w.heap.size+1+1+1:=by simp[hs1]
 clear hW1;generalize World.alloc (World.alloc W1 _) _=W3 at D1 D2 HB3 hs3⊢;rw[←hs3];have hIL1:∀z∈([1,1]:List Int),Bf z:=by intro z hz;simp at hz;subst hz;exact FK
 have hIL0:∀z∈([0,0,0,0]:List Int),Bf z:=by intro z hz;simp at hz;subst hz;exact Ij
 have hsz:w.heap.size+1+1+1≤W3.heap.size:=by omega
 have HIL1:=hid hIL1;have HIL0:=hid hIL0;clear hIL1 hIL0;refine(CF (HN.out _ (HB3.out.alloc HB3.out.size _)) Jq (Eo (zs:=[1,1]) (Ac.new _ _ _) rfl (by simp) (by simp) HIL1.out) 2 1 100).mono ?_;rintro e w6 h6;obtain⟨a6,c6,s,b,rfl,B6,HR6,HE6⟩:=h6.form;have B6:=((Below.refl W3.heap.size W3).alloc (Nat.le_refl _) _).trans (B6.out.mono (by simp));have HR6:=hid (HR6.out.base (B':=w.heap.size+1+1+1) (by simp;have:=hsz;omega));have hsz:=Nat.le_trans hsz B6.size;have D1:=hid (D1.out.below' B6);have D2:=hid (D2.out.below' B6);have HB6:=hid (HB3.out.trans (B6.mono HB3.out.size));obtain⟨k0,k1,k2,k3,k4,k5⟩:=D1.out.six;obtain⟨l0,l1,l2,l3,l4,l5⟩:=D2.out.six;have y0:=D2.out.frozen 1;clear B6 h6;rcases b with _|_
 ·have E:=hid ((X2 (x:=x) (k:=k) HE6.out).trans rfl);have z0:=D1.out.frozen 0;have z1:=D1.out.frozen 1;have z2:=D1.out.frozen 2;have z3:=D1.out.frozen 3;have z4:=D1.out.frozen 4;have z5:=D1.out.frozen 5;go_wp2_with fail
  refine CL rfl ((Jw D1.out _ (by simp)).put6 _ _ _ _ _ _) rfl rfl rfl (WA.no E.out ?_);exact(((HB1.out.trans (HB6.out.mono HB1.out.size)).setCell (p:=⟨w.heap.size+1+1,1,none⟩) (by simp;omega) _).trans (Bz (by omega) _ _ _ _ _ _))
 obtain⟨f0,f1,f2,f3,f4⟩:=HF.out _ HB6.out;have HR6:=hid (CK (i:=1) (u:=.slice a6 s.length c6) HR6.out D2.out);have D1:=hid (Jw (p:=⟨w.heap.size+1+1,1,none⟩) D1.out (.slice a6 s.length c6) (by simp));have D2:=hid (D2.out.set 1 (.slice a6 s.length c6));have HB6:=hid (HB6.out.setCell (p:=⟨w.heap.size+1+1,1,none⟩) (by simp;omega) (.slice a6 s.length c6));rw[show(#[.slice a5 k.length c5,.slice none 0 0,.slice none 0 0,.slice none 0 0,.int .i64 0,.int .i64 0]:Array Value).setIfInBounds 1 (.slice a6 s.length c6)=#[.slice a5 k.length c5,.slice a6 s.length c6,.slice none 0 0,.slice none 0 0,.int .i64 0,.int .i64 0]from rfl]at D2;go_wp2_with fail
 have hsW:(w6.setCell ⟨w.heap.size+1+1,1,none⟩ (.slice a6 s.length c6)).heap.size=w6.heap.size:=by simp
 clear k0 k1 k2 k3 k4 k5 l0 l1 l2 l3 l4 l5 y0 f0 f1 f2 f3 f4;generalize w6.setCell ⟨w.heap.size+1+1,1,none⟩ (.slice a6 s.length c6)=W6 at*;rw[←hsW]at hsz
 try rw[←hsW]
 clear hsW;refine(CF (HN.out _ (HB6.out.alloc HB6.out.size _)) BG (Eo (zs:=[0,0,0,0]) (Ac.new _ _ _) rfl (by simp) (by simp) HIL0.out) 4 0 100).mono ?_;rintro e w7 h7;obtain⟨a7,c7,p,b,rfl,B7,HR7,HE7⟩:=h7.form;have B7:=((Below.refl W6.heap.size W6).alloc (Nat.le_refl _) _).trans (B7.out.mono (by simp));have HR7:=hid (HR7.out.base (B':=w.heap.size+1+1+1) (by simp;have:=hsz;omega));have hsz:=Nat.le_trans hsz B7.size;have D1:=hid (D1.out.below' B7);have D2:=hid (D2.out.below' B7);have HB7:=hid (HB6.out.trans (B7.mono HB6.out.size));have HR6:=hid (HR6.out.below B7);obtain⟨k0,k1,k2,k3,k4,k5⟩:=D1.out.six;obtain⟨l0,l1,l2,l3,l4,l5⟩:=D2.out.six;have y0:=D2.out.frozen 2;clear B7 h7;rcases b with _|_
 ·have E:=hid ((X3 (x:=x) (k:=k) HE6.out HE7.out).trans rfl);have z0:=D1.out.frozen 0;have z1:=D1.out.frozen 1;have z2:=D1.out.frozen 2;have z3:=D1.out.frozen 3;have z4:=D1.out.frozen 4;have z5:=D1.out.frozen 5;go_wp2_with fail
  refine CL rfl ((Jw D1.out _ (by simp)).put6 _ _ _ _ _ _) rfl rfl rfl (WA.no E.out ?_);exact(((HB1.out.trans (HB7.out.mono HB1.out.size)).setCell (p:=⟨w.heap.size+1+1,2,none⟩) (by simp;omega) _).trans (Bz (by omega) _ _ _ _ _ _))
 obtain⟨f0,f1,f2,f3,f4⟩:=HF.out _ HB7.out;have HR7:=hid (CK (i:=2) (u:=.slice a7 p.length c7) HR7.out D2.out);have HR6:=hid (CK (i:=2) (u:=.slice a7 p.length c7) HR6.out D2.out);have D1:=hid (Jw (p:=⟨w.heap.size+1+1,2,none⟩) D1.out (.slice a7 p.length c7) (by simp));have D2:=hid (D2.out.set 2 (.slice a7 p.length c7));have HB7:=hid (HB7.out.setCell (p:=⟨w.heap.size+1+1,2,none⟩) (by simp;omega) (.slice a7 p.length c7));rw[show(#[.slice a5 k.length c5,.slice a6 s.length c6,.slice none 0 0,.slice none 0 0,.int .i64 0,.int .i64 0]:Array Value).setIfInBounds 2 (.slice a7 p.length c7)=#[.slice a5 k.length c5,.slice a6 s.length c6,.slice a7 p.length c7,.slice none 0 0,.int .i64 0,.int .i64 0]from rfl]at D2;go_wp2_with fail
 have hsW:(w7.setCell ⟨w.heap.size+1+1,2,none⟩ (.slice a7 p.length c7)).heap.size=w7.heap.size:=by simp
 clear k0 k1 k2 k3 k4 k5 l0 l1 l2 l3 l4 l5 y0 f0 f1 f2 f3 f4;generalize w7.setCell ⟨w.heap.size+1+1,2,none⟩ (.slice a7 p.length c7)=W7 at*;rw[←hsW]at hsz
 try rw[←hsW]
 clear hsW;refine(CF (HN.out _ (HB7.out.alloc HB7.out.size _)) Mp (Eo (zs:=[1,1]) (Ac.new _ _ _) rfl (by simp) (by simp) HIL1.out) 2 1 100).mono ?_;rintro e w8 h8;obtain⟨a8,c8,d,b,rfl,B8,HR8,HE8⟩:=h8.form;have B8:=((Below.refl W7.heap.size W7).alloc (Nat.le_refl _) _).trans (B8.out.mono (by simp));have HR8:=hid (HR8.out.base (B':=w.heap.size+1+1+1) (by simp;have:=hsz;omega));have hsz:=Nat.le_trans hsz B8.size;have D1:=hid (D1.out.below' B8);have D2:=hid (D2.out.below' B8);have HB8:=hid (HB7.out.trans (B8.mono HB7.out.size));have HR6:=hid (HR6.out.below B8);have HR7:=hid (HR7.out.below B8);obtain⟨k0,k1,k2,k3,k4,k5⟩:=D1.out.six;obtain⟨l0,l1,l2,l3,l4,l5⟩:=D2.out.six;have y0:=D2.out.frozen 3;clear B8 h8;rcases b with _|_
 ·have E:=hid ((X4 (x:=x) (k:=k) HE6.out HE7.out HE8.out).trans rfl);have z0:=D1.out.frozen 0;have z1:=D1.out.frozen 1;have z2:=D1.out.frozen 2;have z3:=D1.out.frozen 3;have z4:=D1.out.frozen 4;have z5:=D1.out.frozen 5;go_wp2_with fail
  refine CL rfl ((Jw D1.out _ (by simp)).put6 _ _ _ _ _ _) rfl rfl rfl (WA.no E.out ?_);exact(((HB1.out.trans (HB8.out.mono HB1.out.size)).setCell (p:=⟨w.heap.size+1+1,3,none⟩) (by simp;omega) _).trans (Bz (by omega) _ _ _ _ _ _))
 obtain⟨f0,f1,f2,f3,f4⟩:=HF.out _ HB8.out;have HR8:=hid (CK (i:=3) (u:=.slice a8 d.length c8) HR8.out D2.out);have HR6:=hid (CK (i:=3) (u:=.slice a8 d.length c8) HR6.out D2.out);have HR7:=hid (CK (i:=3) (u:=.slice a8 d.length c8) HR7.out D2.out);have D1:=hid (Jw (p:=⟨w.heap.size+1+1,3,none⟩) D1.out (.slice a8 d.length c8) (by simp));have D2:=hid (D2.out.set 3 (.slice a8 d.length c8));have HB8:=hid (HB8.out.setCell (p:=⟨w.heap.size+1+1,3,none⟩) (by simp;omega) (.slice a8 d.length c8));rw[show(#[.slice a5 k.length c5,.slice a6 s.length c6,.slice a7 p.length c7,.slice none 0 0,.int .i64 0,.int .i64 0]:Array Value).setIfInBounds 3 (.slice a8 d.length c8)=#[.slice a5 k.length c5,.slice a6 s.length c6,.slice a7 p.length c7,.slice a8 d.length c8,.int .i64 0,.int .i64 0]from rfl]at D2;go_wp2_with fail
 have hsW:(w8.setCell ⟨w.heap.size+1+1,3,none⟩ (.slice a8 d.length c8)).heap.size=w8.heap.size:=by simp
 clear k0 k1 k2 k3 k4 k5 l0 l1 l2 l3 l4 l5 y0 f0 f1 f2 f3 f4;generalize w8.setCell ⟨w.heap.size+1+1,3,none⟩ (.slice a8 d.length c8)=W8 at*;rw[←hsW]at hsz
 try rw[←hsW]
 clear hsW;have pp:=AT (HE7.out.trans (if_pos trivial));have ps:=AT (HE6.out.trans (if_pos trivial));have pd:=AT (HE8.out.trans (if_pos trivial));have HPd:=hid (MD (HE7.out.trans (if_pos trivial)));have HAll:=hid (Sf (x:=x) (k:=k) (HE6.out.trans (if_pos trivial)) (HE7.out.trans (if_pos trivial)) (HE8.out.trans (if_pos trivial)));have HIs:=hid (HR6.out.ints (by omega) fun z hz=>Cg (by have:=ps.2 z hz;omega));have HIp:=hid (HR7.out.ints (by omega) fun z hz=>Cg (by have:=pp.2 z hz;omega));have HId:=hid (HR8.out.ints (by omega) fun z hz=>Cg (by have:=pd.2 z hz;omega));have HPP:=hid pp;have HPS:=hid ps;have HPD:=hid pd;have hb2:w.heap.size+1+1<W8.heap.size:=by omega
 clear HE6 HE7 HE8 pp ps pd;have HRs:=hid (And.intro HR6.out (And.intro HR7.out HR8.out));go_loopw [10,11] (fun i _ wr=>∃(j:Nat) (o0 o1:Int),j≤2∧i=.int .i64 (j:Int)∧Hid (1≤j→Df x k s p d 0=some o0)∧Hid (2≤j→Df x k s p d 1=some o1)∧Hid (Ac wr (w.heap.size+1) #[.slice none 0 0,.slice none 0 0,.slice none 0 0,.slice none 0 0,.int .i64 0,.int .i64 0] 102)∧Hid (Ac wr (w.heap.size+1+1) #[.slice a5 k.length c5,.slice a6 s.length c6,.slice a7 p.length c7,.slice a8 d.length c8,.int .i64 o0,.int .i64 o1] 102)∧Hid (Ag wr (w.heap.size+1+1+1) (.slice a6 s.length c6) s∧Ag wr (w.heap.size+1+1+1) (.slice a7 p.length c7) p∧Ag wr (w.heap.size+1+1+1) (.slice a8 d.length c8) d)∧Hid (Below W1.heap.size W1 wr)) (fun i _ _=>2-(intOf i).toNat)
 case atStart=>exact⟨0,0,0,by omega,rfl,hid (fun h=>by omega),hid (fun h=>by omega),D1,D2,HRs,HB8⟩
 case round=>
  clear D1 D2 HR6 HR7 HR8 HRs HB8;obtain⟨j,o0,o1,hj,rfl,S0,S1,D1,D2,HRs,HW⟩:=hrel;have HBr:=hid (HB1.out.trans (HW.out.mono HB1.out.size));by_cases hj2:j<2
  case neg=>
   obtain rfl:j=2:=by omega
   obtain⟨l0,l1,l2,l3,l4,l5⟩:=D2.out.six;obtain⟨k0,k1,k2,k3,k4,k5⟩:=D1.out.six;have z0:=D1.out.frozen 0;have z1:=D1.out.frozen 1;have z2:=D1.out.frozen 2;have z3:=D1.out.frozen 3;have z4:=D1.out.frozen 4;have z5:=D1.out.frozen 5;have HI:=(VS HRs.out.2.1 D1.out (.slice a5 k.length c5) (.slice a6 s.length c6) (.slice a7 p.length c7) (.slice a8 d.length c8) (.int .i64 o0) (.int .i64 o1)).ints (by have:=HPP.out.1;omega) fun z hz=>Cg (by have:=HPP.out.2 z hz;omega);have HI:=hid HI;have Y:=hid (HAll.out.trans (Mq (S0.out (by omega)) (S1.out (by omega))));go_wp2_with fail
   refine CL rfl (D1.out.put6 _ _ _ _ _ _) rfl rfl rfl (WA.yes Y.out (HBr.out.trans (Bz (by omega) _ _ _ _ _ _)) ?_);rw[←HPd.out];exact HI.out
  have HIs:=HRs.out.1.ints (by have:=HPS.out.1;omega) fun z hz=>Cg (by have:=HPS.out.2 z hz;omega);have HIp:=HRs.out.2.1.ints (by have:=HPP.out.1;omega) fun z hz=>Cg (by have:=HPP.out.2 z hz;omega);have HId:=HRs.out.2.2.ints (by have:=HPD.out.1;omega) fun z hz=>Cg (by have:=HPD.out.2 z hz;omega);obtain⟨bx,ox,hax,-,gx,ux,-⟩:=Ai (k:=2+j) HX.out (by have:=HLX.out;omega);obtain⟨bk,ok',hak,-,gk,uk,-⟩:=Ai (k:=j) HK.out (by have:=HLK.out;omega);obtain⟨bs,os,has,-,-,us,-⟩:=Ai (k:=j) HIs (by have:=HPS.out.1;omega);obtain⟨bp,op',hap,-,-,up,-⟩:=Ai (k:=j) HIp (by have:=HPP.out.1;omega);obtain⟨bq,oq,haq,-,-,uq,-⟩:=Ai (k:=2+j) HIp (by have:=HPP.out.1;omega);obtain⟨bd,od,had,-,-,ud,-⟩:=Ai (k:=j) HId (by have:=HPD.out.1;omega);rw[hap]at haq;obtain⟨rfl,rfl⟩:bp=bq∧op'=oq:=by simpa using haq
  have ux:=(HBr.out.cell (p:=⟨bx,ox+(2+j),none⟩) gx).trans ux;have uk:=(HBr.out.cell (p:=⟨bk,ok'+j,none⟩) gk).trans uk;have rx:=HBX.out _ (Am (zs:=x) (k:=2+j) (by have:=HLX.out;omega));have rk:=HBK.out _ (Am (zs:=k) (k:=j) (by have:=HLK.out;omega));have rp:=HPP.out.2 _ (Am (zs:=p) (k:=j) (by have:=HPP.out.1;omega));have rq:=HPP.out.2 _ (Am (zs:=p) (k:=2+j) (by have:=HPP.out.1;omega));have rs:=HPS.out.2 _ (Am (zs:=s) (k:=j) (by have:=HPS.out.1;omega));have rd:=HPD.out.2 _ (Am (zs:=d) (k:=j) (by have:=HPD.out.1;omega));have E:Hid (Df x k s p d j=if 0≤x.getD (2+j) 0+p.getD j 0+p.getD (2+j) 0-d.getD j 0*(k.getD j 0-1)-1 then
   some ((x.getD (2+j) 0+p.getD j 0+p.getD (2+j) 0-d.getD j 0*(k.getD j 0-1)-1)/s.getD j 0+1)else none):=hid (by unfold Df;rfl)
  have hm:0≤d.getD j 0*(k.getD j 0-1)∧d.getD j 0*(k.getD j 0-1)≤6553500:=by
   refine⟨Int.mul_nonneg (by omega) (by omega),?_⟩;have:=Int.mul_le_mul rd.2 (show k.getD j 0-1≤65535 by omega) (by omega) (by omega);omega
  clear HIs HIp HId haq;subst hax hak has hap had;generalize x.getD (2+j) 0=X at*;generalize p.getD j 0=P at*;generalize p.getD (2+j) 0=Q at*;generalize d.getD j 0=D at*;generalize k.getD j 0=K at*;generalize s.getD j 0=S at*;obtain⟨l0,l1,l2,l3,l4,l5⟩:=D2.out.six;have bx4:(0:Int)≤2+(j:Int)∧2+(j:Int)<(x.length:Int):=⟨by omega,by have:=HLX.out;omega⟩;have bp4:(0:Int)≤2+(j:Int)∧2+(j:Int)<(p.length:Int):=⟨by omega,by have:=HPP.out.1;omega⟩;have bp2:(0:Int)≤(j:Int)∧(j:Int)<(p.length:Int):=⟨by omega,by have:=HPP.out.1;omega⟩;have bk2:(0:Int)≤(j:Int)∧(j:Int)<(k.length:Int):=⟨by omega,by have:=HLK.out;omega⟩;have bd2:(0:Int)≤(j:Int)∧(j:Int)<(d.length:Int):=⟨by omega,by have:=HPD.out.1;omega⟩;have bs2:(0:Int)≤(j:Int)∧(j:Int)<(s.length:Int):=⟨by omega,by have:=HPS.out.1;omega⟩;have ti:(2+(j:Int)).toNat=2+j:=by omega
  have i2:(j:Int)<2:=by omega
  go_wp2_with fail
  go_quiet (fail)
  have BD:=below_drewN (Below.refl wr.heap.size wr) nq;have D1:=hid (D1.out.below' BD);have D2:=hid (D2.out.below' BD);have HRs:=hid (And.intro (HRs.out.1.below BD) (And.intro (HRs.out.2.1.below BD) (HRs.out.2.2.below BD)));have us:=(BD.cell (Al us)).trans us;have HBr:=hid (HBr.out.trans (BD.mono HBr.out.size));have HW:=hid (HW.out.trans (BD.mono HW.out.size));generalize wr.drewN nq=wd at*;obtain⟨l0,l1,l2,l3,l4,l5⟩:=D2.out.six;obtain⟨k0,k1,k2,k3,k4,k5⟩:=D1.out.six;have hroom:X+P+Q-D*(K-1)-1≤70000:=by omega
  generalize X+P+Q-D*(K-1)-1=room at*;by_cases g:0≤room
  case neg=>
   have N:Hid (AQ n x k=none):=hid (by
    rw[HAll.out];have E:=E.out.trans (if_neg g);obtain rfl|rfl:j=0∨j=1:=by omega
    ·exact Sg E
    ·exact Sh (S0.out (Nat.le_refl _)) E)
   have z0:=D1.out.frozen 0;have z1:=D1.out.frozen 1;have z2:=D1.out.frozen 2;have z3:=D1.out.frozen 3;have z4:=D1.out.frozen 4;have z5:=D1.out.frozen 5;go_wp2_with fail
   exact CL rfl (D1.out.put6 _ _ _ _ _ _) rfl rfl rfl (WA.no N.out (HBr.out.trans (Bz (by omega) _ _ _ _ _ _)))
  have dv:0≤room/S∧room/S≤70000:=by
   have h1:=Int.ediv_nonneg g (show 0≤S by omega);have h2:=Int.ediv_le_self S g;omega
  have tde:room.tdiv S=room/S:=Int.tdiv_eq_ediv_of_nonneg g;have S00:¬S=0:=by omega
  have Sm1:¬S=-1:=by omega
  have F:=hid (E.out.trans (if_pos g));have l4j:wd.cell? ⟨w.heap.size+1+1,4+j,none⟩=some (.int .i64 (if j=0 then o0 else o1)):=by
   obtain rfl|rfl:j=0∨j=1:=by omega
   ·exact l4
   ·exact l5
  have z4j:=D2.out.frozen (4+j);have b02:(0:Int)≤(j:Int)∧(j:Int)<2:=⟨by omega,i2⟩;generalize room/S=q at*;have D1:=hid (Jw (p:=⟨w.heap.size+1+1,4+j,none⟩) D1.out (.int .i64 (q+1)) (by simp));have HRs:=hid (And.intro (CK (i:=4+j) (u:=.int .i64 (q+1)) HRs.out.1 D2.out) (And.intro (CK (i:=4+j) (u:=.int .i64 (q+1)) HRs.out.2.1 D2.out) (CK (i:=4+j) (u:=.int .i64 (q+1)) HRs.out.2.2 D2.out)));have D2:=hid (D2.out.set (4+j) (.int .i64 (q+1)));have HW:=hid (HW.out.setCell (p:=⟨w.heap.size+1+1,4+j,none⟩) (by have:=HB1.out.size;simp;omega) (.int .i64 (q+1)));clear E l4 l5 k0 k1 k2 k3 k4 k5;go_wp2_with fail
  go_roundw
  case rel=>
   refine⟨j+1,if j=0 then q+1 else o0,if j=0 then o1 else q+1,by omega,by go_num,?_,?_,D1,?_,HRs,HW⟩
   ·refine hid fun _=>?_;obtain rfl|rfl:j=0∨j=1:=by omega
    ·exact F.out
    ·exact S0.out (Nat.le_refl _)
   ·refine hid fun h=>?_;obtain rfl:j=1:=by omega
    exact F.out
   ·refine hid ?_;obtain rfl|rfl:j=0∨j=1:=by omega
    ·exact D2.out
    ·exact D2.out
  case measure=>simp[intOf];omega
end
section
theorem Xy{l p:List Int}{count lo hi:Int}(h:AN l count lo hi=some p):(l.length:Int)=count∧∀z∈l,lo≤z∧z≤hi:=by
 obtain rfl:=MD h;exact AT h
theorem PB{n:Nd}{x k:List Int}{ab:Int×Int}(h:AQ n x k=some ab):((Af n.attrs BG [0,0,0,0]).length:Int)=4∧∀z∈Af n.attrs BG [0,0,0,0],0≤z∧z≤100:=by
 unfold AQ at h;split at h
 ·cases h
 ·split at h
  ·cases h
  ·rename_i hp
   exact Xy hp
theorem TO{n:Nd}{x k:List Int}{ab:Int×Int}(h:AQ n x k=some ab)(lk:k.length=2)(bk:∀z∈k,1≤z):DV (Af n.attrs BG []) k (Af n.attrs BG []).length=DV (Af n.attrs BG [0,0,0,0]) k 4:=by
 have hl:=(PB h).1;have hk0:=bk _ (Am (zs:=k) (k:=0) (by omega));have hk1:=bk _ (Am (zs:=k) (k:=1) (by omega))
 revert hl
 unfold Af;cases Az n.attrs BG 7 with
 | none=>
  intro _;unfold DV;simp only[List.getD]at hk0 hk1;simp[List.range_succ];omega
 | some a=>
  intro hl;simp only at hl⊢;rw[show a.ints.length=4 by omega]
attribute [local irreducible] Af AN Df AQ DM Ag BZ DV
theorem TP{w:World}{v vx:Value}{n:Nd}{x:List Int}(h:Ba w v n)(hx:Aa w vx x)(hsm:Sm x) :
  Calls Tryz.prog 75 #[v,vx] w fun e w'=>P1 w (BZ n x) (x.getD 0 0) (x.getD 1 0) e w':=by
 obtain⟨a1,c1,a2,c2,rfl,HN⟩:=Cr h;obtain⟨a4,c4,rfl⟩:=hx.shape;have HX:=hid hx;have HSm:=hid hsm;clear hx hsm h;go_enter Tryz.func75,Tryz.ntmps75
 go_wp2_with fail
 generalize hW1:w.alloc _=W1;obtain⟨HB1,HF,HN⟩:=HN.out W1 hW1;have hs1:W1.heap.size=w.heap.size+1:=by rw[←hW1];simp
 clear hW1;have D1:Hid (Ac (W1.alloc (Obj.cells #[.slice none 0 0,.slice none 0 0,.slice none 0 0,.slice none 0 0,.int .i64 0,.int .i64 0] 102)) (w.heap.size+1) #[.slice none 0 0,.slice none 0 0,.slice none 0 0,.slice none 0 0,.int .i64 0,.int .i64 0] 102):=hid (by rw[←hs1];exact Ac.new _ _ _);have HW2:=hid ((Below.refl W1.heap.size W1).alloc (Nat.le_refl _) (Obj.cells #[.slice none 0 0,.slice none 0 0,.slice none 0 0,.slice none 0 0,.int .i64 0,.int .i64 0] 102));generalize W1.alloc _=W2 at D1 HW2⊢;refine(CF (HN.out _ HW2.out) GV (.empty none 0) 2 1 100).mono ?_;rintro e w3 h3;obtain⟨a6,c6,k,b,rfl,B3,HR3,HE3⟩:=h3.form;have D1:=hid (D1.out.below' B3.out);have HW3:=hid (HW2.out.trans (B3.out.mono HW2.out.size));have HB3:=hid (HB1.out.trans (HW3.out.mono HB1.out.size));have HLx:Hid (x.length*8≤140737488351232):=hid HX.out.wf.1;clear h3;obtain⟨k0,k1,k2,k3,k4,k5⟩:=D1.out.six;by_cases g:b=true∧x.length=4
 case neg=>
  have N:Hid (BZ n x=none):=hid (by
   cases b with
   | false=>exact QW HE3.out
   | true=>exact QX HE3.out (fun e=>g ⟨rfl,e⟩))
  have z0:=D1.out.frozen 0;have z1:=D1.out.frozen 1;have z2:=D1.out.frozen 2;have z3:=D1.out.frozen 3;have z4:=D1.out.frozen 4;have z5:=D1.out.frozen 5;cases b with
  | false=>
   go_wp2_with fail
   exact CL rfl (D1.out.put6 _ _ _ _ _ _) rfl rfl rfl (P1.no N.out (HB3.out.trans (Bz (by omega) _ _ _ _ _ _)))
  | true=>
   have g2:¬(x.length:Int)=4:=by have:¬x.length=4:=fun e=>g ⟨rfl,e⟩;omega
   go_wp2_with fail
   exact CL rfl (D1.out.put6 _ _ _ _ _ _) rfl rfl rfl (P1.no N.out (HB3.out.trans (Bz (by omega) _ _ _ _ _ _)))
 obtain⟨rfl,g⟩:=g;have hx4:(x.length:Int)=4:=by omega
 have G:=hid g;have HE4:=hid (HE3.out.trans (if_pos rfl));have pk:=AT HE4.out;clear HE3;have HPK:=hid pk;have HIk:=hid (HR3.out.ints (by omega) fun z hz=>Cg (by have:=pk.2 z hz;omega));obtain⟨f0,f1,f2,f3,f4⟩:=HF.out _ HW3.out;clear g pk;go_wp2_with fail
 refine(Jx (HN.out _ HW3.out) (HX.out.below HB3.out) HIk.out G.out (by have:=HPK.out.1;omega) HSm.out.2 (fun z hz=>by have:=HPK.out.2 z hz;omega)).mono ?_;clear f0 f1 f2 f3 f4 k0 k1 k2 k3 k4 k5;rintro e w5⟨B5,b0,m0,d0,b1,m1,d1,b2,m2,d2,b3,m3,d3,p,q,b,rfl,hno,hye⟩;have D1:=hid (D1.out.below' B5);have HIk:=hid (HIk.out.below B5);have B6:=(Below.refl w5.heap.size w5).alloc (Nat.le_refl _) (Obj.cells #[.slice b0 m0 d0,.slice b1 m1 d1,.slice b2 m2 d2,.slice b3 m3 d3,.int .i64 p,.int .i64 q] 102);have D1:=hid (D1.out.below' B6);have D8:=hid (Ac.new w5 #[.slice b0 m0 d0,.slice b1 m1 d1,.slice b2 m2 d2,.slice b3 m3 d3,.int .i64 p,.int .i64 q] 102);have HW5:=hid (HW3.out.trans (B5.mono HW3.out.size));have HW6:=hid (HW5.out.trans (B6.mono HW5.out.size));have HB6:=hid (HB1.out.trans (HW6.out.mono HB1.out.size));have HIk:=hid (HIk.out.below B6);obtain⟨k0,k1,k2,k3,k4,k5⟩:=D1.out.six;have z0:=D1.out.frozen 0;have z1:=D1.out.frozen 1;have z2:=D1.out.frozen 2;have z3:=D1.out.frozen 3;have z4:=D1.out.frozen 4;have z5:=D1.out.frozen 5;clear B5;cases b with
 | false=>
  have N:=hid (Vs HE4.out G.out (hno rfl));clear hno hye B6;go_wp2_with fail
  exact CL rfl (D1.out.put6 _ _ _ _ _ _) rfl rfl rfl (P1.no N.out (HB6.out.trans (Bz (by omega) _ _ _ _ _ _)))
 | true=>
  obtain⟨hw,hp⟩:=hye rfl;have HP:=hid (hp.below B6);have HWn:=hid hw;obtain⟨pl,pz⟩:=PB hw;have HPZ:=hid pz;have HPL:Hid ((Af n.attrs BG [0,0,0,0]).length=4):=hid (by omega);have hsm:=TO hw (by have:=HPK.out.1;omega) (fun z hz=>(HPK.out.2 z hz).1);have HSa:=hid hsm;have HM2:Hid (m2=4):=hid (by
   obtain⟨a,c,e⟩:=hp.shape;obtain⟨-,e2,-⟩:=Value.slice.inj e;omega)
  clear hno hye hp hw pl pz hsm B6;go_wp2_with fail
  generalize w5.alloc _=W6 at*;have hsz:w.heap.size+1<W6.heap.size:=D1.out.lt;generalize Af n.attrs BG [0,0,0,0]=ps at*;go_loopw [10] (fun i wr=>∃(j:Nat),j≤4∧i=.int .i64 (j:Int)∧Hid (DV ps k j=true)∧Hid (Below W6.heap.size W6 wr)) (fun i _=>4-(intOf i).toNat)
  case atStart=>exact⟨0,by omega,rfl,hid (by unfold DV;rfl),hid (Below.refl _ _)⟩
  case round=>
   clear k0 k1 k2 k3 k4 k5 z0 z1 z2 z3 z4 z5;obtain⟨j,hj,rfl,hP,hW⟩:=hrel;have D1:=hid (D1.out.below' hW.out);have D8:=hid (D8.out.below' hW.out);have HBr:=hid (HB6.out.trans (hW.out.mono HB6.out.size));obtain⟨k0,k1,k2,k3,k4,k5⟩:=D1.out.six;obtain⟨l0,l1,l2,l3,l4,l5⟩:=D8.out.six;have z0:=D1.out.frozen 0;have z1:=D1.out.frozen 1;have z2:=D1.out.frozen 2;have z3:=D1.out.frozen 3;have z4:=D1.out.frozen 4;have z5:=D1.out.frozen 5;by_cases hj4:j<4
   case neg=>
    obtain rfl:j=4:=by omega
    have Y:=hid (Po HE4.out G.out HWn.out rfl (HSa.out.trans hP.out));go_wp2_with fail
    exact CL rfl (D1.out.put6 _ _ _ _ _ _) rfl rfl rfl (P1.yes Y.out (HBr.out.trans (Bz (by omega) _ _ _ _ _ _)))
   have hm2:=HM2.out;subst hm2;obtain⟨bp,op',hap,-,gp,up,-⟩:=Ai (k:=j) HP.out (by have:=HPL.out;omega);obtain⟨bk,ok',hak,-,gk,uk,-⟩:=Ai (k:=j%2) HIk.out (by have:=HPK.out.1;omega);subst hap hak;have up:=(hW.out.cell (p:=⟨bp,op'+j,none⟩) gp).trans up;have uk:=(hW.out.cell (p:=⟨bk,ok'+j%2,none⟩) gk).trans uk;have rp:=HPZ.out _ (Am (zs:=ps) (k:=j) (by have:=HPL.out;omega));have rk:=HPK.out.2 _ (Am (zs:=k) (k:=j%2) (by have:=HPK.out.1;omega));have F1:=hid (fun h=>Mr (l:=ps) (k:=k) (m:=j) hP.out h);have F2:=hid (fun h=>Pn (l:=ps) (k:=k) (m:=j) (by have:=HPL.out;omega) h);generalize ps.getD j 0=pj at*;generalize k.getD (j%2) 0=kj at*;have tm:(j:Int).tmod 2=(j:Int)%2:=Int.tmod_eq_emod_of_nonneg (by omega);have tn:((j:Int)%2).toNat=j%2:=by omega
   have bp4:(0:Int)≤(j:Int)∧(j:Int)<4:=⟨by omega,by omega⟩;have bk2:(0:Int)≤(j:Int)%2∧(j:Int)%2<(k.length:Int):=⟨by omega,by have:=HPK.out.1;omega⟩;have j4:(j:Int)<4:=by omega
   go_wp2_with fail
   refine Ae 10 [0,1,2,3,4,5,6,7,8,9] (fun W'=>Below wr.heap.size wr W') (by kernel_rfl) (by kernel_rfl) (fun _ d _ _ _ h=>by cases d<;>exact h) (Below.refl _ _).drew ?_;have BD:=(Below.refl wr.heap.size wr).drew;have D1:=hid (D1.out.below' BD);have D8:=hid (D8.out.below' BD);have HWd:=hid (hW.out.trans (BD.mono hW.out.size));have HBr:=hid (HBr.out.trans (BD.mono HBr.out.size));generalize wr.drew=wD at*
   repeat
    refine Ah (v:=?_) rfl rfl (Or.inl ⟨by rfl,?_⟩) ?_;rotate_left
    ·intro W' hSw;have l2:=(hSw.cell (Al l2)).trans l2;have up:=(hSw.cell (Al up)).trans up;have uk:=(hSw.cell (Al uk)).trans uk;go_simp
     try with_reducible rfl
    try simp only[Act.put,List.getElem_toArray,List.getElem_cons_zero,List.getElem_cons_succ,List.setIfInBounds_toArray,List.set_cons_zero,List.set_cons_succ]
   refine Aq rfl ?_;simp only[List.toList_toArray,List.drop_succ_cons,List.drop_zero];obtain⟨k0,k1,k2,k3,k4,k5⟩:=D1.out.six;obtain⟨l0,l1,l2,l3,l4,l5⟩:=D8.out.six;have z0:=D1.out.frozen 0;have z1:=D1.out.frozen 1;have z2:=D1.out.frozen 2;have z3:=D1.out.frozen 3;have z4:=D1.out.frozen 4;have z5:=D1.out.frozen 5;by_cases c:pj<kj
   ·have G2:=hid (F1.out c);go_wp2_with fail
    go_roundw
    case rel=>exact⟨j+1,by omega,by go_num,G2,HWd⟩
    case measure=>simp[intOf];omega
   ·have F2:=F2.out (by omega);rw[HPL.out]at F2;have N:=hid (Vt HE4.out G.out HWn.out rfl (HSa.out.trans F2));have c2:kj≤pj:=by omega
    clear F1 F2;go_wp2_with fail
    exact CL rfl (D1.out.put6 _ _ _ _ _ _) rfl rfl rfl (P1.no N.out (HBr.out.trans (Bz (by omega) _ _ _ _ _ _)))
end
end Go.Proofs.YtkkeehnldcdccaaGreatDoor
