import Derived.Test.YtkkeehnldcdccaaGreatDoorNe23
set_option linter.unusedVariables false
set_option linter.unusedSimpArgs false
set_option maxRecDepth 100000
set_option maxHeartbeats 16000000
namespace Go.Proofs.YtkkeehnldcdccaaGreatDoor
open Go.Lib (hid)
open Go.RowKit
section
def Jq:ByteArray:=⟨#[115,116,114,105,100,101,115]⟩
def Mp:ByteArray:=⟨#[100,105,108,97,116,105,111,110,115]⟩
def DM(x k s p d:List Int):Option (Int×Int):=match Df x k s p d 0 with |none=>none|some h=>match Df x k s p d 1 with |none=>none|some v=>some (h,v)
def AQ(n:Nd)(x k:List Int):Option (Int×Int):=
 match AN (Af n.attrs Jq [1,1]) 2 1 100 with
 | none=>none
 | some s=>match AN (Af n.attrs BG [0,0,0,0]) 4 0 100 with
  | none=>none
  | some p=>match AN (Af n.attrs Mp [1,1]) 2 1 100 with
   | none=>none
   | some d=>DM x k s p d
theorem X2{n:Nd}{x k:List Int}(h:AN (Af n.attrs Jq [1,1]) 2 1 100=none):AQ n x k=none:=by unfold AQ;rw[h]
theorem X3{n:Nd}{x k s:List Int}(h:AN (Af n.attrs Jq [1,1]) 2 1 100=some s)(g:AN (Af n.attrs BG [0,0,0,0]) 4 0 100=none):AQ n x k=none:=by unfold AQ;rw[h];simp only[];rw[g]
theorem X4{n:Nd}{x k s p:List Int}(h:AN (Af n.attrs Jq [1,1]) 2 1 100=some s)(g:AN (Af n.attrs BG [0,0,0,0]) 4 0 100=some p)(f:AN (Af n.attrs Mp [1,1]) 2 1 100=none):AQ n x k=none:=by unfold AQ;rw[h];simp only[];rw[g];simp only[];rw[f]
theorem Sf{n:Nd}{x k s p d:List Int}(h:AN (Af n.attrs Jq [1,1]) 2 1 100=some s)(g:AN (Af n.attrs BG [0,0,0,0]) 4 0 100=some p)(f:AN (Af n.attrs Mp [1,1]) 2 1 100=some d):AQ n x k=DM x k s p d:=by unfold AQ;rw[h];simp only[];rw[g];simp only[];rw[f]
theorem Sg{x k s p d:List Int}(h:Df x k s p d 0=none):DM x k s p d=none:=by unfold DM;rw[h]
theorem Sh{x k s p d:List Int}{a:Int}(h:Df x k s p d 0=some a)(g:Df x k s p d 1=none):DM x k s p d=none:=by unfold DM;rw[h];simp only[];rw[g]
theorem Mq{x k s p d:List Int}{a b:Int}(h:Df x k s p d 0=some a)(g:Df x k s p d 1=some b):DM x k s p d=some (a,b):=by unfold DM;rw[h];simp only[];rw[g]
def JP(o:Option (Int×Int))(e:Ending):Prop:=match o with |none=>e=Em 4|some (a,b)=>e=.returned (.tuple #[.int .i64 a,.int .i64 b])
theorem JP.no{o:Option (Int×Int)}(h:o=none):JP o (Em 4):=by subst h;rfl
theorem JP.yes{o:Option (Int×Int)}{a b:Int}(h:o=some (a,b)):JP o (.returned (.tuple #[.int .i64 a,.int .i64 b])):=by subst h;rfl
theorem Eo{W:World}{b:Nat}{cs:Array Value}{t:TypeId}{zs:List Int}(h:Ac W b cs t)(e:cs.toList=zs.map (Value.int .i64))(h0:zs≠[])(hl:zs.length≤1000)(hi:∀z∈zs,Bf z):Aa W (.slice (some ⟨b,0,none⟩) zs.length zs.length) zs:=by
 refine .row b 0 zs.length zs h0 (Nat.le_refl _) h.lt (fun j hj=>?_) (by omega) hi;have:cs[j]?=some (.int .i64 (zs.getD j 0)):=by
  rw[←Array.getElem?_toList,e,List.getElem?_map,List.getElem?_eq_getElem hj];simp[List.getD,List.getElem?_eq_getElem hj]
 simpa using h.cell j this
theorem Dv{W:World}{b:Nat}{cs:Array Value}{t:TypeId}(h:b=W.heap.size):Ac (W.alloc (.cells cs t)) b cs t:=by subst h;exact Ac.new _ _ _
attribute [local irreducible] Af AN Df AQ DM Ag
theorem K6{w:World}{v vx vk:Value}{n:Nd}{ins:List Vl}{x k:List Int}(h:BF w v n ins)(hx:Aa w vx x)(hk:Aa w vk k)
  (lx:x.length=4) (lk:k.length=2) (bx:∀z∈x,1≤z∧z≤65536) (bk:∀z∈k,1≤z∧z≤65536) :
  Calls Tryz.prog 114 #[v,vx,vk] w fun e w'=>JP (AQ n x k) e∧Below w.heap.size w w':=by
 have hmf:∀(fn:Fn) (first cap:Array Value) (w:World),(Instr.makeFunc fn first cap).run Tryz.prog w=.ok (.func fn first cap) w:=fun _ _ _ _=>rfl;obtain⟨vin,vat,vv,rfl,hm⟩:=h;obtain⟨a1,c1,rfl⟩:=hm.node.is.form;obtain⟨a2,c2,rfl⟩:=hm.node.ia.form;obtain⟨a3,c3,rfl⟩:=hm.ins.form;obtain⟨a4,c4,rfl⟩:=hx.shape;obtain⟨a5,c5,rfl⟩:=hk.shape;have HM:=hid hm;have HX:=hid hx;have HK:=hid hk;have HLX:=hid lx;have HLK:=hid lk;have HBX:=hid bx;have HBK:=hid bk;clear hm hx hk bx bk lx lk;go_enter Tryz.func114,Tryz.ntmps114
 go_wp2_with fail
 have HB4:Hid (Below w.heap.size w ((((w.alloc (Obj.cells #[.string n.op,.string n.name,.slice a1 n.ins.length c1,.string n.out,.slice a2 n.attrs.length c2,.slice a3 ins.length c3] 55)).alloc (Obj.cells #[.slice a4 x.length c4] 29)).alloc (Obj.cells #[.slice a5 k.length c5] 29)).alloc (Obj.cells #[.int .i64 1,.int .i64 1] 2))):=hid (((((Below.refl _ w).alloc (Nat.le_refl _) _).alloc (by simp) _).alloc (by simp<;>omega) _).alloc (by simp<;>omega) _);have D0:Hid (Ac ((((w.alloc (Obj.cells #[.string n.op,.string n.name,.slice a1 n.ins.length c1,.string n.out,.slice a2 n.attrs.length c2,.slice a3 ins.length c3] 55)).alloc (Obj.cells #[.slice a4 x.length c4] 29)).alloc (Obj.cells #[.slice a5 k.length c5] 29)).alloc (Obj.cells #[.int .i64 1,.int .i64 1] 2)) w.heap.size #[.string n.op,.string n.name,.slice a1 n.ins.length c1,.string n.out,.slice a2 n.attrs.length c2,.slice a3 ins.length c3] 55):=hid ((Dv rfl).below' ((((Below.refl _ _).alloc (Nat.le_refl _) _).alloc (by simp) _).alloc (by simp<;>omega) _));have D1:Hid (Ac ((((w.alloc (Obj.cells #[.string n.op,.string n.name,.slice a1 n.ins.length c1,.string n.out,.slice a2 n.attrs.length c2,.slice a3 ins.length c3] 55)).alloc (Obj.cells #[.slice a4 x.length c4] 29)).alloc (Obj.cells #[.slice a5 k.length c5] 29)).alloc (Obj.cells #[.int .i64 1,.int .i64 1] 2)) (w.heap.size+1) #[.slice a4 x.length c4] 29):=hid ((Dv (by simp)).below' (((Below.refl _ _).alloc (Nat.le_refl _) _).alloc (by simp) _));have D2:Hid (Ac ((((w.alloc (Obj.cells #[.string n.op,.string n.name,.slice a1 n.ins.length c1,.string n.out,.slice a2 n.attrs.length c2,.slice a3 ins.length c3] 55)).alloc (Obj.cells #[.slice a4 x.length c4] 29)).alloc (Obj.cells #[.slice a5 k.length c5] 29)).alloc (Obj.cells #[.int .i64 1,.int .i64 1] 2)) (w.heap.size+1+1) #[.slice a5 k.length c5] 29):=hid ((Dv (by simp)).below' ((Below.refl _ _).alloc (Nat.le_refl _) _));have DL:Hid (Ac ((((w.alloc (Obj.cells #[.string n.op,.string n.name,.slice a1 n.ins.length c1,.string n.out,.slice a2 n.attrs.length c2,.slice a3 ins.length c3] 55)).alloc (Obj.cells #[.slice a4 x.length c4] 29)).alloc (Obj.cells #[.slice a5 k.length c5] 29)).alloc (Obj.cells #[.int .i64 1,.int .i64 1] 2)) (w.heap.size+1+1+1) #[.int .i64 1,.int .i64 1] 2):=hid (Dv (by simp));generalize World.alloc (World.alloc (World.alloc (World.alloc w _) _) _) _=W4 at HB4 D0 D1 D2 DL⊢;have HW4:Hid (Below W4.heap.size W4 W4):=hid (Below.refl _ _);have HBw:Hid (∀W,Below W4.heap.size W4 W→Below w.heap.size w W):=hid fun W hB=>HB4.out.trans (hB.mono HB4.out.size);have hIL1:∀z∈([1,1]:List Int),Bf z:=by intro z hz;simp at hz;subst hz;exact FK
 have hIL0:∀z∈([0,0,0,0]:List Int),Bf z:=by intro z hz;simp at hz;subst hz;exact Ij
 have HIL1:=hid hIL1;have HIL0:=hid hIL0;clear hIL1 hIL0;refine(CZ (n:=n) ⟨_,_,rfl,(HM.out.below (HBw.out _ HW4.out)).node⟩ Jq (Eo (zs:=[1,1]) DL.out rfl (by simp) (by simp) HIL1.out) 2 1 100).mono ?_;rintro e w5⟨B5,hc⟩;have Hw5:=hid (HW4.out.trans (B5.mono HW4.out.size));cases hNs:AN (Af n.attrs Jq [1,1]) 2 1 100 with
 | none=>
  rw[hNs]at hc;obtain rfl:e=Em 4:=hc;have E:=hid (X2 (x:=x) (k:=k)  hNs);clear hNs;exact⟨rfl,JP.no E.out,HBw.out _ Hw5.out⟩
 | some s=>
 rw[hNs]at hc;obtain⟨vs,rfl,hrs⟩:∃v,e=.returned v∧Ag w5 _ v s:=hc;have HNs:=hid hNs;obtain⟨hls,hps⟩:=AT hNs;have hls':s.length=2:=by omega
 have HIs:Hid (Aa w5 vs s):=hid (hrs.ints (by omega) (fun z hz=>by have:=hps z hz;unfold Bf;omega));have HRs:=hid hps;have HLs:=hid hls';obtain⟨As,Cs,rfl⟩:=HIs.out.shape;have BBw5:=hid B5;clear hNs hrs hps hls hls' B5;obtain⟨k0,k1,k2,k3,k4,k5⟩:=(D0.out.below' Hw5.out).six;have k0:=Aj k0 (Obj.cells #[.slice As s.length Cs] 29);have k1:=Aj k1 (Obj.cells #[.slice As s.length Cs] 29);have k2:=Aj k2 (Obj.cells #[.slice As s.length Cs] 29);have k3:=Aj k3 (Obj.cells #[.slice As s.length Cs] 29);have k4:=Aj k4 (Obj.cells #[.slice As s.length Cs] 29);go_wp2_with fail
 clear k0 k1 k2 k3 k4 k5;have hBw7:Below w5.heap.size w5 ((w5.alloc (Obj.cells #[.slice As s.length Cs] 29)).alloc (Obj.cells #[.int .i64 0,.int .i64 0,.int .i64 0,.int .i64 0] 2)):=((Below.refl _ _).alloc (Nat.le_refl _) _).alloc (by simp) _;have Hw7:Hid (Below W4.heap.size W4 ((w5.alloc (Obj.cells #[.slice As s.length Cs] 29)).alloc (Obj.cells #[.int .i64 0,.int .i64 0,.int .i64 0,.int .i64 0] 2))):=hid (Hw5.out.trans (hBw7.mono Hw5.out.size));have HXs:Hid (Ac ((w5.alloc (Obj.cells #[.slice As s.length Cs] 29)).alloc (Obj.cells #[.int .i64 0,.int .i64 0,.int .i64 0,.int .i64 0] 2)) w5.heap.size #[.slice As s.length Cs] 29):=hid ((Dv rfl).below' ((Below.refl _ _).alloc (Nat.le_refl _) _));have DL:Hid (Ac ((w5.alloc (Obj.cells #[.slice As s.length Cs] 29)).alloc (Obj.cells #[.int .i64 0,.int .i64 0,.int .i64 0,.int .i64 0] 2)) (w5.heap.size+1) #[.int .i64 0,.int .i64 0,.int .i64 0,.int .i64 0] 2):=hid (Dv (by simp));have HIs:=hid (HIs.out.below hBw7);have Tw7:Hid (Below W4.heap.size W4 ((w5.alloc (Obj.cells #[.slice As s.length Cs] 29)).alloc (Obj.cells #[.int .i64 0,.int .i64 0,.int .i64 0,.int .i64 0] 2))):=hid (BBw5.out.trans (hBw7.mono BBw5.out.size));clear hBw7 BBw5;generalize World.alloc (World.alloc w5 _) _=w7 at Hw7 HXs DL HIs Tw7⊢;refine(CZ (n:=n) ⟨_,_,rfl,(HM.out.below (HBw.out _ Hw7.out)).node⟩ BG (Eo (zs:=[0,0,0,0]) DL.out rfl (by simp) (by simp) HIL0.out) 4 0 100).mono ?_;rintro e w8⟨B5,hc⟩;have Hw8:=hid (Hw7.out.trans (B5.mono Hw7.out.size));cases hNp:AN (Af n.attrs BG [0,0,0,0]) 4 0 100 with
 | none=>
  rw[hNp]at hc;obtain rfl:e=Em 4:=hc;have E:=hid (X3 (x:=x) (k:=k) HNs.out hNp);clear hNp;exact⟨rfl,JP.no E.out,HBw.out _ Hw8.out⟩
 | some p=>
 rw[hNp]at hc;obtain⟨vp,rfl,hrp⟩:∃v,e=.returned v∧Ag w8 _ v p:=hc;have HNp:=hid hNp;obtain⟨hlp,hpp⟩:=AT hNp;have hlp':p.length=4:=by omega
 have HIp:Hid (Aa w8 vp p):=hid (hrp.ints (by omega) (fun z hz=>by have:=hpp z hz;unfold Bf;omega));have HRp:=hid hpp;have HLp:=hid hlp';obtain⟨Ap,Cp,rfl⟩:=HIp.out.shape;have BBw8:=hid B5;clear hNp hrp hpp hlp hlp' B5;obtain⟨k0,k1,k2,k3,k4,k5⟩:=(D0.out.below' Hw8.out).six;have k0:=Aj k0 (Obj.cells #[.slice Ap p.length Cp] 29);have k1:=Aj k1 (Obj.cells #[.slice Ap p.length Cp] 29);have k2:=Aj k2 (Obj.cells #[.slice Ap p.length Cp] 29);have k3:=Aj k3 (Obj.cells #[.slice Ap p.length Cp] 29);have k4:=Aj k4 (Obj.cells #[.slice Ap p.length Cp] 29);go_wp2_with fail
 clear k0 k1 k2 k3 k4 k5;have hBw10:Below w8.heap.size w8 ((w8.alloc (Obj.cells #[.slice Ap p.length Cp] 29)).alloc (Obj.cells #[.int .i64 1,.int .i64 1] 2)):=((Below.refl _ _).alloc (Nat.le_refl _) _).alloc (by simp) _;have Hw10:Hid (Below W4.heap.size W4 ((w8.alloc (Obj.cells #[.slice Ap p.length Cp] 29)).alloc (Obj.cells #[.int .i64 1,.int .i64 1] 2))):=hid (Hw8.out.trans (hBw10.mono Hw8.out.size));have HXp:Hid (Ac ((w8.alloc (Obj.cells #[.slice Ap p.length Cp] 29)).alloc (Obj.cells #[.int .i64 1,.int .i64 1] 2)) w8.heap.size #[.slice Ap p.length Cp] 29):=hid ((Dv rfl).below' ((Below.refl _ _).alloc (Nat.le_refl _) _));have DL:Hid (Ac ((w8.alloc (Obj.cells #[.slice Ap p.length Cp] 29)).alloc (Obj.cells #[.int .i64 1,.int .i64 1] 2)) (w8.heap.size+1) #[.int .i64 1,.int .i64 1] 2):=hid (Dv (by simp));have HIp:=hid (HIp.out.below hBw10);have Tw10:Hid (Below w7.heap.size w7 ((w8.alloc (Obj.cells #[.slice Ap p.length Cp] 29)).alloc (Obj.cells #[.int .i64 1,.int .i64 1] 2))):=hid (BBw8.out.trans (hBw10.mono BBw8.out.size));clear hBw10 BBw8;generalize World.alloc (World.alloc w8 _) _=w10 at Hw10 HXp DL HIp Tw10⊢;refine(CZ (n:=n) ⟨_,_,rfl,(HM.out.below (HBw.out _ Hw10.out)).node⟩ Mp (Eo (zs:=[1,1]) DL.out rfl (by simp) (by simp) HIL1.out) 2 1 100).mono ?_;rintro e w11⟨B5,hc⟩;have Hw11:=hid (Hw10.out.trans (B5.mono Hw10.out.size));cases hNd:AN (Af n.attrs Mp [1,1]) 2 1 100 with
 | none=>
  rw[hNd]at hc;obtain rfl:e=Em 4:=hc;have E:=hid (X4 (x:=x) (k:=k) HNs.out HNp.out hNd);clear hNd;exact⟨rfl,JP.no E.out,HBw.out _ Hw11.out⟩
 | some d=>
 rw[hNd]at hc;obtain⟨vd,rfl,hrd⟩:∃v,e=.returned v∧Ag w11 _ v d:=hc;have HNd:=hid hNd;obtain⟨hld,hpd⟩:=AT hNd;have hld':d.length=2:=by omega
 have HId:Hid (Aa w11 vd d):=hid (hrd.ints (by omega) (fun z hz=>by have:=hpd z hz;unfold Bf;omega));have HRd:=hid hpd;have HLd:=hid hld';obtain⟨Ad,Cd,rfl⟩:=HId.out.shape;have BBw11:=hid B5;clear hNd hrd hpd hld hld' B5;go_wp2_with fail
 have hBw12:Below w11.heap.size w11 (w11.alloc (Obj.cells #[.slice Ad d.length Cd] 29)):=(Below.refl _ _).alloc (Nat.le_refl _) _;have Hw12:Hid (Below W4.heap.size W4 (w11.alloc (Obj.cells #[.slice Ad d.length Cd] 29))):=hid (Hw11.out.trans (hBw12.mono Hw11.out.size));have HXd:=hid (Ac.new w11 #[.slice Ad d.length Cd] 29);have HId:=hid (HId.out.below hBw12);have Tw12:Hid (Below w10.heap.size w10 (w11.alloc (Obj.cells #[.slice Ad d.length Cd] 29))):=hid (BBw11.out.trans (hBw12.mono BBw11.out.size));clear hBw12 BBw11;generalize World.alloc w11 _=w12 at Hw12 HXd HId Tw12⊢;have HXs:=hid ((HXs.out.below' Tw10.out).below' Tw12.out);have HIs:=hid ((HIs.out.below Tw10.out).below Tw12.out);have HXp:=hid (HXp.out.below' Tw12.out);have HIp:=hid (HIp.out.below Tw12.out);have HX1:=hid (D1.out.below' Hw12.out);have HX2:=hid (D2.out.below' Hw12.out);have HIx:=hid (HX.out.below (HBw.out _ Hw12.out));have HIk:=hid (HK.out.below (HBw.out _ Hw12.out));have HWn:=hid (Sf (x:=x) (k:=k) HNs.out HNp.out HNd.out);clear Tw7 Tw10 Tw12 D0 D1 D2 DL HX HK HM HIL0 HIL1;refine(Pk (i:=0) (by decide) (HX1.out.cell 0 rfl) (HXp.out.cell 0 rfl) (HXd.out.cell 0 rfl) (HX2.out.cell 0 rfl) (HXs.out.cell 0 rfl) HIx.out HIp.out HId.out HIk.out HIs.out HLX.out HLp.out HLd.out HLK.out HLs.out HBX.out HRp.out HRd.out HBK.out HRs.out).mono ?_;rintro e w13⟨hc,B13⟩;have Hw13:=hid (Hw12.out.trans (B13.mono Hw12.out.size));cases h0:Df x k s p d 0 with
 | none=>
  rw[h0]at hc;obtain rfl:e=Em 4:=hc;have E:=hid (HWn.out.trans (Sg h0));exact⟨rfl,JP.no E.out,HBw.out _ Hw13.out⟩
 | some q0=>
 rw[h0]at hc;obtain rfl:e=.returned (.int .i64 q0):=hc;have H0:=hid h0;have B13:=hid B13;clear h0;go_wp2_with fail
 refine(Pk (i:=1) (by decide) ((HX1.out.below' B13.out).cell 0 rfl) ((HXp.out.below' B13.out).cell 0 rfl) ((HXd.out.below' B13.out).cell 0 rfl) ((HX2.out.below' B13.out).cell 0 rfl) ((HXs.out.below' B13.out).cell 0 rfl) (HIx.out.below B13.out) (HIp.out.below B13.out) (HId.out.below B13.out) (HIk.out.below B13.out) (HIs.out.below B13.out) HLX.out HLp.out HLd.out HLK.out HLs.out HBX.out HRp.out HRd.out HBK.out HRs.out).mono ?_;rintro e w14⟨hc,B14⟩;have Hw14:=hid (Hw13.out.trans (B14.mono Hw13.out.size));cases h1:Df x k s p d 1 with
 | none=>
  rw[h1]at hc;obtain rfl:e=Em 4:=hc;have E:=hid (HWn.out.trans (Sh H0.out h1));exact⟨rfl,JP.no E.out,HBw.out _ Hw14.out⟩
 | some q1=>
 rw[h1]at hc;obtain rfl:e=.returned (.int .i64 q1):=hc;have E:=hid (HWn.out.trans (Mq H0.out h1));clear h1;go_wp2
 go_ret2
 exact⟨JP.yes E.out,HBw.out _ Hw14.out⟩
end
section
theorem Pm{x k s p d:List Int}{i:Nat}{q:Int}(h:Df x k s p d i=some q)(hi:i<2)(lx:x.length=4)(lp:p.length=4)(ld:d.length=2)(lk:k.length=2)(ls:s.length=2)
  (bx:∀z∈x,1≤z∧z≤65536) (bp:∀z∈p,0≤z∧z≤100) (bd:∀z∈d,1≤z∧z≤100) (bk:∀z∈k,1≤z∧z≤65536) (bs:∀z∈s,1≤z∧z≤100):Bf q:=by
 have r1:=bx _ (Am (zs:=x) (k:=2+i) (by omega));have r2:=bp _ (Am (zs:=p) (k:=i) (by omega));have r3:=bp _ (Am (zs:=p) (k:=2+i) (by omega));have r4:=bd _ (Am (zs:=d) (k:=i) (by omega));have r5:=bk _ (Am (zs:=k) (k:=i) (by omega));have r6:=bs _ (Am (zs:=s) (k:=i) (by omega));have hm:0≤d.getD i 0*(k.getD i 0-1):=Int.mul_nonneg (by omega) (by omega);unfold Df at h;generalize x.getD (2+i) 0=X at*;generalize p.getD i 0=P at*;generalize p.getD (2+i) 0=Q at*;generalize d.getD i 0*(k.getD i 0-1)=M at*;generalize s.getD i 0=S at*;split at h
 ·rename_i h0
  obtain rfl:=Option.some.inj h;have h1:=Int.ediv_nonneg h0 (show 0≤S by omega);have h2:=Int.ediv_le_self S h0;unfold Bf;omega
 ·cases h
theorem K7{n:Nd}{x k:List Int}{a b:Int}(h:AQ n x k=some (a,b))(lx:x.length=4)(lk:k.length=2)(bx:∀z∈x,1≤z∧z≤65536)(bk:∀z∈k,1≤z∧z≤65536):Bf a∧Bf b:=by
 unfold AQ at h;split at h
 ·cases h
 rename_i s hs
 split at h
 ·cases h
 rename_i p hp
 split at h
 ·cases h
 rename_i d hd
 obtain⟨ls,bs⟩:=AT hs;obtain⟨lp,bp⟩:=AT hp;obtain⟨ld,bd⟩:=AT hd;unfold DM at h;split at h
 ·cases h
 rename_i u hu
 split at h
 ·cases h
 rename_i v hv
 obtain⟨rfl,rfl⟩:u=a∧v=b:=by simpa using h
 exact⟨Pm hu (by decide) lx (by omega) (by omega) lk (by omega) bx bp bd bk bs,Pm hv (by decide) lx (by omega) (by omega) lk (by omega) bx bp bd bk bs⟩
def GV:ByteArray:=⟨#[107,101,114,110,101,108,95,115,104,97,112,101]⟩
def DV(l k:List Int)(m:Nat):Bool:=(List.range m).all fun i=>decide (l.getD i 0<k.getD (i%2) 0)
theorem Mr{l k:List Int}{m:Nat}(h:DV l k m=true)(g:l.getD m 0<k.getD (m%2) 0):DV l k (m+1)=true:=by
 unfold DV at*;rw[List.range_succ,List.all_append,h];simpa using g
theorem Pn{l k:List Int}{m:Nat}(hm:m<l.length)(g:¬l.getD m 0<k.getD (m%2) 0):DV l k l.length=false:=by
 unfold DV;refine List.all_eq_false.2 ⟨m,List.mem_range.2 hm,?_⟩
 simpa using g
def BZ(n:Nd)(x:List Int):Option (List Int):=
 match AN (Af n.attrs GV []) 2 1 100 with
 | none=>none
 | some k=>if x.length=4 then(match AQ n x k with
  | none=>none
  | some (h,v)=>if DV (Af n.attrs BG []) k (Af n.attrs BG []).length=true then some [x.getD 0 0,x.getD 1 0,h,v]else none)else none
theorem QW{n:Nd}{x:List Int}(h:AN (Af n.attrs GV []) 2 1 100=none):BZ n x=none:=by unfold BZ;rw[h]
theorem QX{n:Nd}{x k:List Int}(h:AN (Af n.attrs GV []) 2 1 100=some k)(g:¬x.length=4):BZ n x=none:=by unfold BZ;rw[h];exact if_neg g
theorem Vs{n:Nd}{x k:List Int}(h:AN (Af n.attrs GV []) 2 1 100=some k)(g:x.length=4)(f:AQ n x k=none):BZ n x=none:=by unfold BZ;rw[h];simp only[];rw[if_pos g,f]
theorem Vt{n:Nd}{x k l:List Int}{a b:Int}(h:AN (Af n.attrs GV []) 2 1 100=some k)(g:x.length=4)(f:AQ n x k=some (a,b))(e:Af n.attrs BG []=l)(p:DV l k l.length=false):BZ n x=none:=by
 subst e;unfold BZ;rw[h];simp only[];rw[if_pos g,f];exact if_neg (by rw[p];decide)
theorem Po{n:Nd}{x k l:List Int}{a b:Int}(h:AN (Af n.attrs GV []) 2 1 100=some k)(g:x.length=4)(f:AQ n x k=some (a,b))(e:Af n.attrs BG []=l)(p:DV l k l.length=true):BZ n x=some [x.getD 0 0,x.getD 1 0,a,b]:=by
 subst e;unfold BZ;rw[h];simp only[];rw[if_pos g,f];exact if_pos p
attribute [local irreducible] Af AN AQ BZ DV Ag
theorem Vu{w:World}{v vx:Value}{n:Nd}{ins:List Vl}{x:List Int}(h:BF w v n ins)(hx:Aa w vx x)(hsm:Sm x) :
  Calls Tryz.prog 52 #[v,vx] w fun e w'=>AY w (BZ n x) e w':=by
 obtain⟨i0,hi,hz0,hz1,hz2⟩:=info_parts AI;obtain⟨vin,vat,vv,rfl,hm⟩:=h;obtain⟨a1,c1,rfl⟩:=hm.node.is.form;obtain⟨a2,c2,rfl⟩:=hm.node.ia.form;obtain⟨a3,c3,rfl⟩:=hm.ins.form;have HM:=hid hm;clear hm;obtain⟨a4,c4,rfl⟩:=hx.shape;have hxl:=hx.wf.1;have hxc:=hx.capI.2;have HX:=hid hx;clear hx;have HY:=hid (fun(W:World)=>Ao W);have HNo:=hid (fun(W:World)=>Aw W);have HB1:=hid ((Below.refl w.heap.size w).alloc (Nat.le_refl _) (Obj.cells #[.string n.op,.string n.name,.slice a1 n.ins.length c1,.string n.out,.slice a2 n.attrs.length c2,.slice a3 ins.length c3] 55));have HA1:=hid (Ac.new w #[.string n.op,.string n.name,.slice a1 n.ins.length c1,.string n.out,.slice a2 n.attrs.length c2,.slice a3 ins.length c3] 55);have HSm:=hid hsm;clear hsm;go_enter Tryz.func52,Tryz.ntmps52
 go_wp2_with fail
 generalize World.alloc w (Obj.cells #[.string n.op,.string n.name,.slice a1 n.ins.length c1,.string n.out,.slice a2 n.attrs.length c2,.slice a3 ins.length c3] 55)=W1 at HB1 HA1⊢;have HMk:Hid (∀W,Below W1.heap.size W1 W→BF W (.agg #[.string n.op,.string n.name,.slice a1 n.ins.length c1,.string n.out,.slice a2 n.attrs.length c2,.slice a3 ins.length c3]) n ins):=hid fun W hB=>⟨_,_,_,rfl,HM.out.below (HB1.out.trans (hB.mono HB1.out.size))⟩;have HBw:Hid (∀W,Below W1.heap.size W1 W→Below w.heap.size w W):=hid fun W hB=>HB1.out.trans (hB.mono HB1.out.size);refine(CZ (n:=n) ⟨_,_,rfl,(HM.out.below HB1.out).node⟩ GV (.empty none 0) 2 1 100).mono ?_;rintro e w2⟨B2,hc⟩;have HW2:Hid (Below W1.heap.size W1 w2):=hid B2;cases hk:AN (Af n.attrs GV []) 2 1 100 with
 | none=>
  rw[hk]at hc;obtain rfl:e=Em 4:=hc;exact⟨rfl,AY.no (QW hk) (HBw.out _ HW2.out)⟩
 | some k=>
 rw[hk]at hc;obtain⟨v2,rfl,hr2⟩:∃v,e=.returned v∧Ag w2 _ v k:=hc;have HKe:=hid hk;obtain⟨hkl,hkp⟩:=AT hk;have hkl':k.length=2:=by omega
 have HI2:Hid (Aa w2 v2 k):=hid (hr2.ints (by omega) (fun z hz=>by have:=hkp z hz;unfold Bf;omega));have HKP:=hid hkp;have HKL:=hid hkl';obtain⟨a5,c5,rfl⟩:=HI2.out.shape;clear hk hr2 hkp hkl hkl' B2;by_cases hl:x.length=4
 case neg=>
  have E:=hid (QX HKe.out hl);have hb:((x.length:Int)==4)=false:=by simp;omega
  clear hl;go_wp2_with fail
  refine(HNo.out _).mono ?_;rintro e w'⟨rfl,rfl⟩;exact⟨rfl,AY.no E.out (HBw.out _ HW2.out)⟩
 have HL:=hid hl;have hb:((x.length:Int)==4)=true:=by simp;omega
 clear hl;obtain⟨k0,k1,k2,k3,k4,k5⟩:=(HA1.out.below' HW2.out).six;go_wp2_with fail
 refine(HY.out _).mono ?_;rintro e w'⟨rfl,rfl⟩;go_wp2_with fail
 clear k0 k1 k2 k3 k4 k5 hb;refine(K6 (HMk.out _ HW2.out) (HX.out.below (HBw.out _ HW2.out)) HI2.out HL.out HKL.out HSm.out.2 (fun z hz=>by have:=HKP.out z hz;omega)).mono ?_;rintro e w3⟨hc,B3⟩;have HW3:=hid (HW2.out.trans (B3.mono HW2.out.size));have HI3:=hid (HI2.out.below B3);clear B3 HI2 HW2;cases hw:AQ n x k with
 | none=>
  rw[hw]at hc;obtain rfl:e=Em 4:=hc;exact⟨rfl,AY.no (Vs HKe.out HL.out hw) (HBw.out _ HW3.out)⟩
 | some ab=>
 obtain⟨qh,qv⟩:=ab;rw[hw]at hc;obtain rfl:e=.returned (.tuple #[.int .i64 qh,.int .i64 qv]):=hc;have HWn:=hid hw;have HQ:=hid (K7 hw HL.out HKL.out HSm.out.2 (fun z hz=>by have:=HKP.out z hz;omega));clear hw;obtain⟨k0,k1,k2,k3,k4,k5⟩:=(HA1.out.below' HW3.out).six;go_wp2_with fail
 clear k0 k1 k2 k3 k4 k5;refine(CR (n:=n) ⟨_,_,rfl,(HM.out.below (HBw.out _ HW3.out)).node⟩ BG (.empty none 0)).mono ?_;rintro e w4⟨v4,rfl,hr4,B4⟩;have HW4:=hid (HW3.out.trans (B4.mono HW3.out.size));have HI4:=hid (HI3.out.below B4);have hok:=BS (nm:=BG) (other:=[]) (v:=.agg #[.string n.op,.string n.name,.slice a1 n.ins.length c1,.string n.out,.slice a2 n.attrs.length c2]) ⟨_,_,rfl,HM.out.node⟩ (by simp) (by simp);obtain⟨l,hle⟩:∃l,Af n.attrs BG []=l:=⟨_,rfl⟩;rw[hle]at hr4 hok;have HLe:=hid hle;have HPd:Hid (Aa w4 v4 l):=hid (BI.ints (B:=w3.heap.size) (by unfold BI;exact hr4) hok.1 hok.2);have hll:=hok.1;have HOk:=hid hok.2;obtain⟨a6,c6,rfl⟩:=HPd.out.shape;clear hle hr4 hok B4 HI3 HW3 HMk HA1;go_wp2_with fail
 go_loopw [28] (fun i wr=>∃(m:Nat),m≤l.length∧i=.int .i64 (m:Int)∧Hid (DV l k m=true)∧Hid (Below w4.heap.size w4 wr)) (fun i _=>l.length-(intOf i).toNat)
 case atStart=>exact⟨0,Nat.zero_le _,rfl,hid (by unfold DV;rfl),hid (Below.refl _ _)⟩
 case round=>
  obtain⟨m,hm,rfl,hT,hW⟩:=hrel;have HBr:=hid (HBw.out _ (HW4.out.trans (hW.out.mono HW4.out.size)));by_cases hml:m<l.length
  ·have hki:(m:Int)<(l.length:Int):=by omega
   obtain⟨bl,ol,hal,-,gl,ul,-⟩:=Ai HPd.out hml;subst hal;have ul:=(hW.out.cell (p:=⟨bl,ol+m,none⟩) gl).trans ul;obtain⟨bk,ok',hak,-,gk,uk,-⟩:=Ai (k:=m%2) HI4.out (by have:=HKL.out;omega);subst hak;have uk:=(hW.out.cell (p:=⟨bk,ok'+m%2,none⟩) gk).trans uk;rw[HKL.out];have F1:=hid (fun h=>Mr (l:=l) (k:=k) (m:=m) hT.out h);have F2:=hid (fun h=>Pn (k:=k) hml h);have hm2:m%2<2:=Nat.mod_lt _ (by decide);have tm:((m:Int)%2).toNat=m%2:=by omega
   have bm:(m:Int)%2<2:=by omega
   have bm0:0≤(m:Int)%2:=by omega
   generalize l.getD m 0=q1 at*;generalize k.getD (m%2) 0=q2 at*;by_cases hq:q1<q2
   ·have hN:=hid (F1.out hq);have hqb:decide (q1<q2)=true:=by simpa using hq
    go_wp2_with fail
    refine(HY.out _).mono ?_;rintro e w'⟨rfl,rfl⟩;go_wp2
    go_roundw
    case rel=>exact⟨m+1,by omega,by go_num,hN,hW⟩
    case measure=>simp[intOf];omega
   ·have hN:=hid (F2.out hq);have hqb:decide (q1<q2)=false:=by simpa using hq
    go_wp2_with fail
    refine(HNo.out _).mono ?_;rintro e w'⟨rfl,rfl⟩;exact⟨rfl,AY.no (Vt HKe.out HL.out HWn.out HLe.out hN.out) HBr.out⟩
  ·have hki:¬(m:Int)<(l.length:Int):=by omega
   obtain rfl:m=l.length:=by omega
   have E:=hid (Po HKe.out HL.out HWn.out HLe.out hT.out);obtain⟨bx,ox,hax,-,gx,u0,i0'⟩:=Ai (k:=0) HX.out (by have:=HL.out;omega);subst hax;obtain⟨bx',ox',hax,-,-,u1,i1'⟩:=Ai (k:=1) HX.out (by have:=HL.out;omega);obtain⟨e1,e2⟩:bx=bx'∧ox=ox':=by simpa using hax
   subst e1 e2;clear hax;rw[Nat.add_zero]at u0;have u0:=(HBr.out.cell (p:=⟨bx,ox,none⟩) gx).trans u0;have u1:=(HBr.out.cell (p:=⟨bx,ox+1,none⟩) gx).trans u1;have gx:bx<wr.heap.size:=Al u0;have hLx:=HL.out;rw[hLx];clear hLx hxl hxc;generalize x.getD 0 0=q0 at*;generalize x.getD 1 0=q1 at*;go_wp2_with fail
   refine Ae 8 [0,1,2,3,4,5,6,7] (fun W'=>Below wr.heap.size wr W') (by kernel_rfl) (by kernel_rfl) (fun _ d _ _ _ h=>by cases d<;>exact h) (Below.refl _ _).drew ?_;have B0:Hid (Below wr.heap.size wr wr.drew):=hid (Below.refl _ _).drew;generalize wr.drew=wD at B0⊢
   repeat
    refine Ah (v:=?_) rfl rfl (Or.inl ⟨by rfl,?_⟩) ?_;rotate_left
    ·intro W' hSw;have u0:=(hSw.cell (p:=⟨bx,ox,none⟩) gx).trans u0;have u1:=(hSw.cell (p:=⟨bx,ox+1,none⟩) gx).trans u1;go_simp
     try with_reducible rfl
    try simp only[Act.put,List.getElem_toArray,List.getElem_cons_zero,List.getElem_cons_succ,List.setIfInBounds_toArray,List.set_cons_zero,List.set_cons_succ]
   refine Aq rfl ?_;simp only[List.toList_toArray,List.drop_succ_cons,List.drop_zero];have HBD:=hid (HBr.out.trans (B0.out.mono HBr.out.size));have HBF:=hid (HBD.out.alloc HBD.out.size (Obj.cells #[.int .i64 q0,.int .i64 q1,.int .i64 qh,.int .i64 qv] 3));have HRw:Hid (Ag (wD.alloc (Obj.cells #[.int .i64 q0,.int .i64 q1,.int .i64 qh,.int .i64 qv] 3)) w.heap.size (.slice (some ⟨wD.heap.size,0,none⟩) 4 4) [q0,q1,qh,qv]):=hid (Db (zs:=[q0,q1,qh,qv]) (Ac.new wD _ _) HBD.out.size rfl (by simp));go_wp2
   go_ret
   exact AY.yes E.out HBF.out HRw.out
end
end Go.Proofs.YtkkeehnldcdccaaGreatDoor
