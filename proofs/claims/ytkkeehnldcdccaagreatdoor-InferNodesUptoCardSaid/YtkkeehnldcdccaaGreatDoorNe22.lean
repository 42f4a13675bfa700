import Derived.Test.YtkkeehnldcdccaaGreatDoorNe20
import Derived.Test.YtkkeehnldcdccaaGreatDoorNe21
set_option linter.unusedVariables false
set_option linter.unusedSimpArgs false
set_option maxRecDepth 100000
set_option maxHeartbeats 8000000
namespace Go.Proofs.YtkkeehnldcdccaaGreatDoor
open Go.RowKit
open Go.Lib (hid)
def Gd(zs:List Int):Prop:=zs.length*8≤140737488351232∧∀z∈zs,Bf z
theorem Cg{z:Int}(h:0≤z∧z≤1152921504606846976):Bf z:=by unfold Bf;omega
theorem Sm.inI{x:List Int}(h:Sm x):∀z∈x,Bf z:=fun z hz=>Cg (by have:=h.2 z hz;omega)
theorem Sm.gd{x:List Int}(h:Sm x):Gd x:=⟨by have:=h.1;omega,h.inI⟩
theorem Kp{x:List Int}(h:∀z∈x,Bf z)(k:Nat):Bf (x.getD k 0):=by
 by_cases c:k<x.length
 ·exact h _ (Am c)
 ·rw[List.getD,List.getElem?_eq_none (by omega)];exact Cg (by decide)
theorem Gl{x:List Int}(h:Sm x)(k:Nat):0≤x.getD k 0∧x.getD k 0≤65536:=by
 by_cases c:k<x.length
 ·have:=h.at c;omega
 ·rw[List.getD,List.getElem?_eq_none (by omega)];decide
theorem Vf{n:Nd}{x zs:List Int}(hx:Sm x)(h:Ej n x=some zs):Gd zs:=by
 unfold Ej at h;split at h
 ·cases h
 ·rename_i p hp
  obtain rfl:=Option.some.inj h;obtain⟨hl,hr⟩:=AT hp;have hg:∀k,0≤p.getD k 0∧p.getD k 0≤65536:=fun k=>by
   by_cases c:k<p.length
   ·exact hr _ (Am c)
   ·rw[List.getD,List.getElem?_eq_none (by omega)];decide
  refine⟨by rw[Fu];have:=hx.1;omega,fun z hz=>?_⟩;unfold EG at hz;obtain⟨i,-,rfl⟩:=List.mem_map.1 hz;have h1:=Gl hx i;have h2:=hg i;have h3:=hg (x.length+i);split<;>exact Cg (by omega)
theorem R7{x:List Int}:∀(l:List Int) (i:Nat) (left prod:Int) (out:List Int) (r:Int×Int×List Int),EO x i left prod out l=some r→(∀z∈out,1≤z∧z≤65536)→(∀z∈r.2.2,1≤z∧z≤65536)∧r.2.2.length=out.length+l.length
 | [],i,left,prod,out,r,h,ho=>by
  rw[EO]at h;obtain rfl:=Option.some.inj h;exact⟨ho,rfl⟩
 | d::l,i,left,prod,out,r,h,ho=>by
  rw[EO]at h;split at h
  ·rename_i g
   split at h
   ·obtain⟨h1,h2⟩:=R7 l _ _ _ _ r h fun z hz=>by
     rcases List.mem_append.1 hz with hz|hz
     ·exact ho z hz
     ·obtain rfl:=List.mem_singleton.1 hz;exact g
    exact⟨h1,by rw[h2];simp;omega⟩
   ·cases h
  ·cases h
theorem R8{n:Nd}{x zs:List Int}(hx:Sm x)(hl:(Af n.attrs BK []).length *8≤140737488351232)(h:Bv n x=some zs):Gd zs:=by
 unfold Bv at h;split at h
 ·cases h
 ·rename_i r hr
  obtain⟨h1,h2⟩:=R7 _ _ _ _ _ r hr (by simp);have h3:∀z∈r.2.2,Bf z:=fun z hz=>Cg (by have:=h1 z hz;omega);unfold Nq at h;split at h
  ·split at h
   ·obtain rfl:=Option.some.inj h;refine⟨by rw[List.length_set,h2];simp;omega,fun z hz=>?_⟩;rcases List.mem_or_eq_of_mem_set hz with hz|rfl
    ·exact h3 z hz
    ·have hc:=JW x;have:Bf (((AK x).1).tdiv r.2.1):=by
      have h4:=Int.natAbs_tdiv_le_natAbs ((AK x).1) r.2.1;unfold Bf;omega
     exact this
   ·cases h
  ·split at h
   ·obtain rfl:=Option.some.inj h;exact⟨by rw[h2];simp;omega,h3⟩
   ·cases h
theorem Vg{x s e:List Int}(hx:Sm x):∀(l:List Int) (i:Nat) (out zs:List Int),Mj x s e i out l=some zs→(∀z∈out,Bf z)→(∀k∈l,0≤k∧k<(x.length:Int))→(∀z∈zs,Bf z)∧zs.length=out.length
 | [],i,out,zs,h,ho,_=>by
  rw[Mj]at h;obtain rfl:=Option.some.inj h;exact⟨ho,rfl⟩
 | k::l,i,out,zs,h,ho,hk=>by
  rw[Mj]at h;split at h
  ·have hk0:=hk k (List.mem_cons_self ..);have hd:=hx.at (k:=k.toNat) (by omega);have r1:=En (a:=e.getD i 0) hd;have r2:=En (a:=s.getD i 0) hd;obtain⟨h1,h2⟩:=Vg hx l _ _ zs h (fun z hz=>by
    rcases List.mem_or_eq_of_mem_set hz with hz|rfl
    ·exact ho z hz
    ·unfold Bf;omega) (fun j hj=>hk j (List.mem_cons_of_mem _ hj))
   exact⟨h1,by rw[h2,List.length_set]⟩
  ·cases h
theorem Pe{n:Nd}{x zs:List Int}(hx:Sm x)(h:BY n x=some zs):Gd zs:=by
 unfold BY at h;split at h
 ·cases h
 ·rename_i l hl
  split at h
  ·obtain⟨h1,h2⟩:=Vg hx _ _ _ _ h hx.inI (A8 hl).1;exact⟨by rw[h2];have:=hx.1;omega,h1⟩
  ·cases h
theorem Vh{x:List Int}{a:Nat}:∀(l:List Vl) (out zs:List Int) (M:Int),LF x a out l=some zs→(∀v∈l,Sm v.dims)→(∀z∈out,0≤z∧z≤M)→0≤M→(∀z∈zs,0≤z∧z≤M+65536*(l.length:Int))∧zs.length=out.length
 | [],out,zs,M,h,_,ho,hM=>by
  rw[LF]at h;obtain rfl:=Option.some.inj h;exact⟨fun z hz=>by have:=ho z hz;simp;omega,rfl⟩
 | v::l,out,zs,M,h,hv,ho,hM=>by
  rw[LF]at h;split at h
  ·have hd:=Gl (hv v (List.mem_cons_self ..)) a;have hg:0≤out.getD a 0∧out.getD a 0≤M:=by
    by_cases c:a<out.length
    ·exact ho _ (Am c)
    ·rw[List.getD,List.getElem?_eq_none (by omega)];exact⟨by decide,hM⟩
   obtain⟨h1,h2⟩:=Vh l _ zs (M+65536) h (fun u hu=>hv u (List.mem_cons_of_mem _ hu)) (fun z hz=>by
    rcases List.mem_or_eq_of_mem_set hz with hz|rfl
    ·have:=ho z hz;omega
    ·omega) (by omega)
   refine⟨fun z hz=>?_,by rw[h2,List.length_set]⟩;have:=h1 z hz;rw[List.length_cons];omega
  ·cases h
theorem Mn{n:Nd}{x zs:List Int}{l:List Vl}(hx:Sm x)(hl:∀v∈l,Sm v.dims)(hn:l.length≤8796093022208)(h:BV n x l=some zs):Gd zs:=by
 unfold BV at h;split at h
 ·cases h
 ·obtain⟨h1,h2⟩:=Vh l x zs 65536 h hl (fun z hz=>by have:=hx.2 z hz;omega) (by decide);exact⟨by rw[h2];have:=hx.1;omega,fun z hz=>Cg (by have:=h1 z hz;omega)⟩
theorem Xo{n:Nd}{x zs:List Int}(h:Dm n x=some zs):Gd zs:=by
 unfold Dm at h;split at h
 ·obtain rfl:=Option.some.inj h;refine⟨by simp,fun z hz=>?_⟩;simp only[List.mem_cons,List.not_mem_nil,or_false]at hz;rcases hz with rfl|rfl<;>exact Nk _
 ·cases h
theorem Vi{x:List Int}:∀(l ks zs:List Int),QN x ks l=some zs→∃m,zs=Dt x m∧m.length=ks.length+l.length
 | [],ks,zs,h=>by rw[QN]at h;obtain rfl:=Option.some.inj h;exact⟨ks,rfl,rfl⟩
 | p::l,ks,zs,h=>by
  rw[QN]at h;split at h
  ·cases h
  ·obtain⟨m,h1,h2⟩:=Vi l _ zs h;exact⟨m,h1,by rw[h2];simp;omega⟩
theorem Pf{n:Nd}{x zs:List Int}(hx:Sm x)(h:Cb n x=some zs):Gd zs:=by
 unfold Cb at h;split at h
 ·cases h
 ·rename_i p hp
  obtain⟨m,rfl,hm⟩:=Vi _ _ _ h;have hl:=(AT hp).1;refine⟨by rw[KV,hm];have:=hx.1;simp;omega,fun z hz=>?_⟩;unfold Dt at hz;obtain⟨q,-,rfl⟩:=List.mem_map.1 hz;exact Kp hx.inI _
theorem Vj:∀(l out zs:List Int),P0 out l=some zs→(∀z∈zs,z∈out)∧zs.length≤out.length
 | [],out,zs,h=>by rw[P0]at h;obtain rfl:=Option.some.inj h;exact⟨fun z hz=>hz,Nat.le_refl _⟩
 | a::l,out,zs,h=>by
  rw[P0]at h;split at h
  ·obtain⟨h1,h2⟩:=Vj l _ zs h;refine⟨fun z hz=>?_,Nat.le_trans h2 (by simp;omega)⟩;rcases List.mem_append.1 (h1 z hz)with h|h
   ·exact List.mem_of_mem_take h
   ·exact List.mem_of_mem_drop h
  ·cases h
theorem QR{n:Nd}{x zs:List Int}(hx:Sm x)(h:Bn n x=some zs):Gd zs:=by
 unfold Bn at h;split at h
 ·cases h
 ·obtain⟨h1,h2⟩:=Vj _ _ _ h;exact⟨by have:=hx.1;omega,fun z hz=>hx.inI z (h1 z hz)⟩
theorem Vk:∀(l out:List Int),(∀z∈out,Bf z)→(∀z∈Hv out l,Bf z)∧(Hv out l).length≤out.length+l.length
 | [],out,ho=>by rw[Hv];exact⟨ho,by simp⟩
 | a::l,out,ho=>by
  rw[Hv];obtain⟨h1,h2⟩:=Vk l (out.take a.toNat++1::out.drop a.toNat) fun z hz=>by
   rcases List.mem_append.1 hz with h|h
   ·exact ho z (List.mem_of_mem_take h)
   ·rcases List.mem_cons.1 h with rfl|h
    ·exact Cg (by decide)
    ·exact ho z (List.mem_of_mem_drop h)
  exact⟨h1,Nat.le_trans h2 (by simp;omega)⟩
theorem R9{n:Nd}{x zs:List Int}(hx:Sm x)(hl:(Af n.attrs AF []).length *8+48≤140737488351232)(h:Dd n x=some zs):Gd zs:=by
 unfold Dd at h;split at h
 ·cases h
 ·rename_i l hk
  obtain rfl:=Option.some.inj h;obtain⟨h1,h2⟩:=Vk (F0 l) x hx.inI;rw[GJ,(A8 hk).2]at h2;exact⟨by have:=hx.1;omega,h1⟩
section
def LG(n:Nd)(x:List Int):Int×List Int:=match AN (Af n.attrs BK []) (Af n.attrs BK []).length 1 9223372036854775807 with |none=>(4,[])|some s=>Vb.Bx x s
theorem Vm{n:Nd}{x s:List Int}(e:Af n.attrs BK []=s)(h:AN s s.length 1 9223372036854775807=none):LG n x=(4,[]):=by subst e;unfold LG;rw[h]
theorem Sa{n:Nd}{x s l:List Int}(e:Af n.attrs BK []=s)(h:AN s s.length 1 9223372036854775807=some l):LG n x=Vb.Bx x l:=by subst e;unfold LG;rw[h]
def LH(n:Nd)(x y:List Int):Int×List Int:=match Bq (AH n.attrs AB 0) x.length with |none=>(4,[])|some a=>(0,x.take a.toNat++y++x.drop (a.toNat+1))
theorem Vn{n:Nd}{x y:List Int}(h:Bq (AH n.attrs AB 0) x.length=none):LH n x y=(4,[]):=by unfold LH;rw[h]
theorem Sb{n:Nd}{x y:List Int}{a:Nat}(h:Bq (AH n.attrs AB 0) x.length=some (a:Int)):LH n x y=(0,x.take a++y++x.drop (a+1)):=by unfold LH;rw[h];rfl
theorem Pg{w:World}{b:Nat}{v0 v1 v2:Value}{l0 l1 l2:List Int}(hb:Ac w b #[v0,v1,v2] 29)(h0:Aa w v0 l0)(h1:Aa w v1 l1)(h2:Aa w v2 l2)(hs:(l0.length+l1.length+l2.length)*8≤140737488351232) :
  Calls Tryz.prog 120 #[.slice (some ⟨b,0,none⟩) 3 3] w fun e w'=>∃v',e=.returned v'∧Ag w' w.heap.size v' (l0++l1++l2)∧Below w.heap.size w w':=by
 have h:=O7 (w:=w) (b:=b) (us:=[v0,v1,v2]) (ls:=[l0,l1,l2]) hb rfl (fun k v l hv hl=>by
  match k,hv,hl with
  | 0,hv,hl=>cases hv;cases hl;exact h0
  | 1,hv,hl=>cases hv;cases hl;exact h1
  | 2,hv,hl=>cases hv;cases hl;exact h2) (by simp;omega) (by simp)
 have e:[l0,l1,l2].flatten=l0++l1++l2:=by simp
 rw[e]at h;exact h
attribute [local irreducible] Vb.Bx Bv Cb BV BY Ej Bn Dd Dm LG LH Bq AH Af AN Ag BI
theorem LI{w:World}{v vx:Value}{n:Nd}{ins:List Vl}{x:List Int}(h:BF w v n ins)(hx:Aa w vx x)(hsm:Sm x)(hl:n.op.toList=[82,101,115,104,97,112,101]) :
  Calls Tryz.prog 54 #[v,vx] w fun e w'=>AV w (AX (Bv n x)) e w':=by
 obtain⟨i0,hi,hz0,hz1,hz2⟩:=info_parts AI;obtain⟨vin,vat,vv,rfl,hm⟩:=h;obtain⟨a1,c1,rfl⟩:=hm.node.is.form;obtain⟨a2,c2,rfl⟩:=hm.node.ia.form;obtain⟨a3,c3,rfl⟩:=hm.ins.form;have HM:=hid hm;clear hm;obtain⟨a4,c4,rfl⟩:=hx.shape;have hxl:=hx.wf.1;have hxc:=hx.capI.2;have HX:=hid hx;clear hx;have HY:=hid (fun(W:World)=>Ao W);have HNo:=hid (fun(W:World)=>Aw W);have HB1:=hid ((Below.refl w.heap.size w).alloc (Nat.le_refl _) (Obj.cells #[.string n.op,.string n.name,.slice a1 n.ins.length c1,.string n.out,.slice a2 n.attrs.length c2,.slice a3 ins.length c3] 55));have HA1:=hid (Ac.new w #[.string n.op,.string n.name,.slice a1 n.ins.length c1,.string n.out,.slice a2 n.attrs.length c2,.slice a3 ins.length c3] 55);obtain⟨k0,k1,k2,k3,k4,k5⟩:=HA1.out.six;have HGd:Hid (∀zs,Bv n x=some zs→Gd zs):=hid (fun zs h=>R8 hsm (BS (nm:=BK) (other:=[]) (v:=(.agg #[.string n.op,.string n.name,.slice a1 n.ins.length c1,.string n.out,.slice a2 n.attrs.length c2])) ⟨_,_,rfl,HM.out.node⟩ (by simp) (by simp)).1 h);go_enter Tryz.func54,Tryz.ntmps54
 go_wp2_with fail
 generalize World.alloc w (Obj.cells #[.string n.op,.string n.name,.slice a1 n.ins.length c1,.string n.out,.slice a2 n.attrs.length c2,.slice a3 ins.length c3] 55)=W1 at HB1 HA1⊢;clear k0 k1 k2 k3 k4 k5;refine(Pa (n:=n) (ins:=ins) ⟨_,_,_,rfl,HM.out.below HB1.out⟩ (HX.out.below HB1.out) hsm).mono ?_;rintro e w2 hR;have hX:AV w (AX (Bv n x)) e w2:=hR.dim HB1.out HGd.out;have HX2:=hid hX;clear hX;obtain⟨-,hc⟩:=hR;cases hq:Bv n x with
 | none=>
  rw[hq]at hc;obtain rfl:e=Em 4:=hc;clear hq;exact⟨rfl,HX2.out⟩
 | some zs=>
  rw[hq]at hc;obtain⟨v2,rfl,-⟩:=hc;clear hq;go_wp2
  go_ret
  exact HX2.out
theorem JN{w:World}{v vx:Value}{n:Nd}{ins:List Vl}{x:List Int}(h:BF w v n ins)(hx:Aa w vx x)(hsm:Sm x)(hl:n.op.toList=[84,114,97,110,115,112,111,115,101]) :
  Calls Tryz.prog 54 #[v,vx] w fun e w'=>AV w (AX (Cb n x)) e w':=by
 obtain⟨i0,hi,hz0,hz1,hz2⟩:=info_parts AI;obtain⟨vin,vat,vv,rfl,hm⟩:=h;obtain⟨a1,c1,rfl⟩:=hm.node.is.form;obtain⟨a2,c2,rfl⟩:=hm.node.ia.form;obtain⟨a3,c3,rfl⟩:=hm.ins.form;have HM:=hid hm;clear hm;obtain⟨a4,c4,rfl⟩:=hx.shape;have hxl:=hx.wf.1;have hxc:=hx.capI.2;have HX:=hid hx;clear hx;have HY:=hid (fun(W:World)=>Ao W);have HNo:=hid (fun(W:World)=>Aw W);have HB1:=hid ((Below.refl w.heap.size w).alloc (Nat.le_refl _) (Obj.cells #[.string n.op,.string n.name,.slice a1 n.ins.length c1,.string n.out,.slice a2 n.attrs.length c2,.slice a3 ins.length c3] 55));have HA1:=hid (Ac.new w #[.string n.op,.string n.name,.slice a1 n.ins.length c1,.string n.out,.slice a2 n.attrs.length c2,.slice a3 ins.length c3] 55);obtain⟨k0,k1,k2,k3,k4,k5⟩:=HA1.out.six;have HGd:Hid (∀zs,Cb n x=some zs→Gd zs):=hid (fun zs h=>Pf hsm h);go_enter Tryz.func54,Tryz.ntmps54
 go_wp2_with fail
 generalize World.alloc w (Obj.cells #[.string n.op,.string n.name,.slice a1 n.ins.length c1,.string n.out,.slice a2 n.attrs.length c2,.slice a3 ins.length c3] 55)=W1 at HB1 HA1⊢;clear k0 k1 k2 k3 k4 k5;refine(LD (n:=n) (ins:=ins) ⟨_,_,_,rfl,HM.out.below HB1.out⟩ (HX.out.below HB1.out) hsm).mono ?_;rintro e w2 hR;have hX:AV w (AX (Cb n x)) e w2:=hR.dim HB1.out HGd.out;have HX2:=hid hX;clear hX;obtain⟨-,hc⟩:=hR;cases hq:Cb n x with
 | none=>
  rw[hq]at hc;obtain rfl:e=Em 4:=hc;clear hq;exact⟨rfl,HX2.out⟩
 | some zs=>
  rw[hq]at hc;obtain⟨v2,rfl,-⟩:=hc;clear hq;go_wp2
  go_ret
  exact HX2.out
theorem Nr{w:World}{v vx:Value}{n:Nd}{ins:List Vl}{x:List Int}(h:BF w v n ins)(hx:Aa w vx x)(hsm:Sm x)(hi0:0<ins.length)(hall:∀v∈ins,Sm v.dims)(hin:ins.length≤8796093022208)(hl:n.op.toList=[67,111,110,99,97,116]) :
  Calls Tryz.prog 54 #[v,vx] w fun e w'=>AV w (AX (BV n x (ins.drop 1))) e w':=by
 obtain⟨i0,hi,hz0,hz1,hz2⟩:=info_parts AI;obtain⟨vin,vat,vv,rfl,hm⟩:=h;obtain⟨a1,c1,rfl⟩:=hm.node.is.form;obtain⟨a2,c2,rfl⟩:=hm.node.ia.form;obtain⟨a3,c3,rfl⟩:=hm.ins.form;have HM:=hid hm;clear hm;obtain⟨a4,c4,rfl⟩:=hx.shape;have hxl:=hx.wf.1;have hxc:=hx.capI.2;have HX:=hid hx;clear hx;have HY:=hid (fun(W:World)=>Ao W);have HNo:=hid (fun(W:World)=>Aw W);have HB1:=hid ((Below.refl w.heap.size w).alloc (Nat.le_refl _) (Obj.cells #[.string n.op,.string n.name,.slice a1 n.ins.length c1,.string n.out,.slice a2 n.attrs.length c2,.slice a3 ins.length c3] 55));have HA1:=hid (Ac.new w #[.string n.op,.string n.name,.slice a1 n.ins.length c1,.string n.out,.slice a2 n.attrs.length c2,.slice a3 ins.length c3] 55);obtain⟨k0,k1,k2,k3,k4,k5⟩:=HA1.out.six;have HGd:Hid (∀zs,BV n x (ins.drop 1)=some zs→Gd zs):=hid (fun zs h=>Mn hsm (fun v hv=>hall v (List.mem_of_mem_drop hv)) (by rw[List.length_drop];omega) h);go_enter Tryz.func54,Tryz.ntmps54
 go_wp2_with fail
 generalize World.alloc w (Obj.cells #[.string n.op,.string n.name,.slice a1 n.ins.length c1,.string n.out,.slice a2 n.attrs.length c2,.slice a3 ins.length c3] 55)=W1 at HB1 HA1⊢;clear k0 k1 k2 k3 k4 k5;refine(QQ (n:=n) (ins:=ins) ⟨_,_,_,rfl,HM.out.below HB1.out⟩ (HX.out.below HB1.out) hsm hi0 hall).mono ?_;rintro e w2 hR;have hX:AV w (AX (BV n x (ins.drop 1))) e w2:=hR.dim HB1.out HGd.out;have HX2:=hid hX;clear hX;obtain⟨-,hc⟩:=hR;cases hq:BV n x (ins.drop 1)with
 | none=>
  rw[hq]at hc;obtain rfl:e=Em 4:=hc;clear hq;exact⟨rfl,HX2.out⟩
 | some zs=>
  rw[hq]at hc;obtain⟨v2,rfl,-⟩:=hc;clear hq;go_wp2
  go_ret
  exact HX2.out
theorem Ph{w:World}{v vx:Value}{n:Nd}{ins:List Vl}{x:List Int}(h:BF w v n ins)(hx:Aa w vx x)(hsm:Sm x)(hl:n.op.toList=[83,108,105,99,101]) :
  Calls Tryz.prog 54 #[v,vx] w fun e w'=>AV w (AX (BY n x)) e w':=by
 obtain⟨i0,hi,hz0,hz1,hz2⟩:=info_parts AI;obtain⟨vin,vat,vv,rfl,hm⟩:=h;obtain⟨a1,c1,rfl⟩:=hm.node.is.form;obtain⟨a2,c2,rfl⟩:=hm.node.ia.form;obtain⟨a3,c3,rfl⟩:=hm.ins.form;have HM:=hid hm;clear hm;obtain⟨a4,c4,rfl⟩:=hx.shape;have hxl:=hx.wf.1;have hxc:=hx.capI.2;have HX:=hid hx;clear hx;have HY:=hid (fun(W:World)=>Ao W);have HNo:=hid (fun(W:World)=>Aw W);have HB1:=hid ((Below.refl w.heap.size w).alloc (Nat.le_refl _) (Obj.cells #[.string n.op,.string n.name,.slice a1 n.ins.length c1,.string n.out,.slice a2 n.attrs.length c2,.slice a3 ins.length c3] 55));have HA1:=hid (Ac.new w #[.string n.op,.string n.name,.slice a1 n.ins.length c1,.string n.out,.slice a2 n.attrs.length c2,.slice a3 ins.length c3] 55);obtain⟨k0,k1,k2,k3,k4,k5⟩:=HA1.out.six;have HGd:Hid (∀zs,BY n x=some zs→Gd zs):=hid (fun zs h=>Pe hsm h);go_enter Tryz.func54,Tryz.ntmps54
 go_wp2_with fail
 generalize World.alloc w (Obj.cells #[.string n.op,.string n.name,.slice a1 n.ins.length c1,.string n.out,.slice a2 n.attrs.length c2,.slice a3 ins.length c3] 55)=W1 at HB1 HA1⊢;clear k0 k1 k2 k3 k4 k5;refine(Tr (n:=n) (ins:=ins) ⟨_,_,_,rfl,HM.out.below HB1.out⟩ (HX.out.below HB1.out) hsm).mono ?_;rintro e w2 hR;have hX:AV w (AX (BY n x)) e w2:=hR.dim HB1.out HGd.out;have HX2:=hid hX;clear hX;obtain⟨-,hc⟩:=hR;cases hq:BY n x with
 | none=>
  rw[hq]at hc;obtain rfl:e=Em 4:=hc;clear hq;exact⟨rfl,HX2.out⟩
 | some zs=>
  rw[hq]at hc;obtain⟨v2,rfl,-⟩:=hc;clear hq;go_wp2
  go_ret
  exact HX2.out
theorem Ts{w:World}{v vx:Value}{n:Nd}{ins:List Vl}{x:List Int}(h:BF w v n ins)(hx:Aa w vx x)(hsm:Sm x)(hl:n.op.toList=[80,97,100]) :
  Calls Tryz.prog 54 #[v,vx] w fun e w'=>AV w (AX (Ej n x)) e w':=by
 obtain⟨i0,hi,hz0,hz1,hz2⟩:=info_parts AI;obtain⟨vin,vat,vv,rfl,hm⟩:=h;obtain⟨a1,c1,rfl⟩:=hm.node.is.form;obtain⟨a2,c2,rfl⟩:=hm.node.ia.form;obtain⟨a3,c3,rfl⟩:=hm.ins.form;have HM:=hid hm;clear hm;obtain⟨a4,c4,rfl⟩:=hx.shape;have hxl:=hx.wf.1;have hxc:=hx.capI.2;have HX:=hid hx;clear hx;have HY:=hid (fun(W:World)=>Ao W);have HNo:=hid (fun(W:World)=>Aw W);have HB1:=hid ((Below.refl w.heap.size w).alloc (Nat.le_refl _) (Obj.cells #[.string n.op,.string n.name,.slice a1 n.ins.length c1,.string n.out,.slice a2 n.attrs.length c2,.slice a3 ins.length c3] 55));have HA1:=hid (Ac.new w #[.string n.op,.string n.name,.slice a1 n.ins.length c1,.string n.out,.slice a2 n.attrs.length c2,.slice a3 ins.length c3] 55);obtain⟨k0,k1,k2,k3,k4,k5⟩:=HA1.out.six;have HGd:Hid (∀zs,Ej n x=some zs→Gd zs):=hid (fun zs h=>Vf hsm h);go_enter Tryz.func54,Tryz.ntmps54
 go_wp2_with fail
 generalize World.alloc w (Obj.cells #[.string n.op,.string n.name,.slice a1 n.ins.length c1,.string n.out,.slice a2 n.attrs.length c2,.slice a3 ins.length c3] 55)=W1 at HB1 HA1⊢;clear k0 k1 k2 k3 k4 k5;refine(Xj (n:=n) (ins:=ins) ⟨_,_,_,rfl,HM.out.below HB1.out⟩ (HX.out.below HB1.out) hsm).mono ?_;rintro e w2 hR;have hX:AV w (AX (Ej n x)) e w2:=hR.dim HB1.out HGd.out;have HX2:=hid hX;clear hX;obtain⟨-,hc⟩:=hR;cases hq:Ej n x with
 | none=>
  rw[hq]at hc;obtain rfl:e=Em 4:=hc;clear hq;exact⟨rfl,HX2.out⟩
 | some zs=>
  rw[hq]at hc;obtain⟨v2,rfl,-⟩:=hc;clear hq;go_wp2
  go_ret
  exact HX2.out
theorem LJ{w:World}{v vx:Value}{n:Nd}{ins:List Vl}{x:List Int}(h:BF w v n ins)(hx:Aa w vx x)(hsm:Sm x)(hl:n.op.toList=[83,113,117,101,101,122,101]) :
  Calls Tryz.prog 54 #[v,vx] w fun e w'=>AV w (AX (Bn n x)) e w':=by
 obtain⟨i0,hi,hz0,hz1,hz2⟩:=info_parts AI;obtain⟨vin,vat,vv,rfl,hm⟩:=h;obtain⟨a1,c1,rfl⟩:=hm.node.is.form;obtain⟨a2,c2,rfl⟩:=hm.node.ia.form;obtain⟨a3,c3,rfl⟩:=hm.ins.form;have HM:=hid hm;clear hm;obtain⟨a4,c4,rfl⟩:=hx.shape;have hxl:=hx.wf.1;have hxc:=hx.capI.2;have HX:=hid hx;clear hx;have HY:=hid (fun(W:World)=>Ao W);have HNo:=hid (fun(W:World)=>Aw W);have HB1:=hid ((Below.refl w.heap.size w).alloc (Nat.le_refl _) (Obj.cells #[.string n.op,.string n.name,.slice a1 n.ins.length c1,.string n.out,.slice a2 n.attrs.length c2,.slice a3 ins.length c3] 55));have HA1:=hid (Ac.new w #[.string n.op,.string n.name,.slice a1 n.ins.length c1,.string n.out,.slice a2 n.attrs.length c2,.slice a3 ins.length c3] 55);obtain⟨k0,k1,k2,k3,k4,k5⟩:=HA1.out.six;have HGd:Hid (∀zs,Bn n x=some zs→Gd zs):=hid (fun zs h=>QR hsm h);go_enter Tryz.func54,Tryz.ntmps54
 go_wp2_with fail
 generalize World.alloc w (Obj.cells #[.string n.op,.string n.name,.slice a1 n.ins.length c1,.string n.out,.slice a2 n.attrs.length c2,.slice a3 ins.length c3] 55)=W1 at HB1 HA1⊢;clear k0 k1 k2 k3 k4 k5;refine(O6 (n:=n) (ins:=ins) ⟨_,_,_,rfl,HM.out.below HB1.out⟩ (HX.out.below HB1.out) hsm).mono ?_;rintro e w2 hR;have hX:AV w (AX (Bn n x)) e w2:=hR.dim HB1.out HGd.out;have HX2:=hid hX;clear hX;obtain⟨-,hc⟩:=hR;cases hq:Bn n x with
 | none=>
  rw[hq]at hc;obtain rfl:e=Em 4:=hc;clear hq;exact⟨rfl,HX2.out⟩
 | some zs=>
  rw[hq]at hc;obtain⟨v2,rfl,-⟩:=hc;clear hq;go_wp2
  go_ret
  exact HX2.out
theorem JO{w:World}{v vx:Value}{n:Nd}{ins:List Vl}{x:List Int}(h:BF w v n ins)(hx:Aa w vx x)(hsm:Sm x)(hax:(Af n.attrs AF []).length *8+48≤140737488351232)(hl:n.op.toList=[85,110,115,113,117,101,101,122,101]) :
  Calls Tryz.prog 54 #[v,vx] w fun e w'=>AV w (AX (Dd n x)) e w':=by
 obtain⟨i0,hi,hz0,hz1,hz2⟩:=info_parts AI;obtain⟨vin,vat,vv,rfl,hm⟩:=h;obtain⟨a1,c1,rfl⟩:=hm.node.is.form;obtain⟨a2,c2,rfl⟩:=hm.node.ia.form;obtain⟨a3,c3,rfl⟩:=hm.ins.form;have HM:=hid hm;clear hm;obtain⟨a4,c4,rfl⟩:=hx.shape;have hxl:=hx.wf.1;have hxc:=hx.capI.2;have HX:=hid hx;clear hx;have HY:=hid (fun(W:World)=>Ao W);have HNo:=hid (fun(W:World)=>Aw W);have HB1:=hid ((Below.refl w.heap.size w).alloc (Nat.le_refl _) (Obj.cells #[.string n.op,.string n.name,.slice a1 n.ins.length c1,.string n.out,.slice a2 n.attrs.length c2,.slice a3 ins.length c3] 55));have HA1:=hid (Ac.new w #[.string n.op,.string n.name,.slice a1 n.ins.length c1,.string n.out,.slice a2 n.attrs.length c2,.slice a3 ins.length c3] 55);obtain⟨k0,k1,k2,k3,k4,k5⟩:=HA1.out.six;have HGd:Hid (∀zs,Dd n x=some zs→Gd zs):=hid (fun zs h=>R9 hsm hax h);go_enter Tryz.func54,Tryz.ntmps54
 go_wp2_with fail
 generalize World.alloc w (Obj.cells #[.string n.op,.string n.name,.slice a1 n.ins.length c1,.string n.out,.slice a2 n.attrs.length c2,.slice a3 ins.length c3] 55)=W1 at HB1 HA1⊢;clear k0 k1 k2 k3 k4 k5;refine(LE (n:=n) (ins:=ins) ⟨_,_,_,rfl,HM.out.below HB1.out⟩ (HX.out.below HB1.out) hsm).mono ?_;rintro e w2 hR;have hX:AV w (AX (Dd n x)) e w2:=hR.dim HB1.out HGd.out;have HX2:=hid hX;clear hX;obtain⟨-,hc⟩:=hR;cases hq:Dd n x with
 | none=>
  rw[hq]at hc;obtain rfl:e=Em 4:=hc;clear hq;exact⟨rfl,HX2.out⟩
 | some zs=>
  rw[hq]at hc;obtain⟨v2,rfl,-⟩:=hc;clear hq;go_wp2
  go_ret
  exact HX2.out
theorem QS{w:World}{v vx:Value}{n:Nd}{ins:List Vl}{x:List Int}(h:BF w v n ins)(hx:Aa w vx x)(hl:∀l∈([[82,101,115,104,97,112,101],[69,120,112,97,110,100],[84,114,97,110,115,112,111,115,101],[67,111,110,99,97,116],[83,108,105,99,101],[71,97,116,104,101,114],[80,97,100],[83,113,117,101,101,122,101],[85,110,115,113,117,101,101,122,101]]:List (List UInt8)),n.op.toList≠l) :
  Calls Tryz.prog 54 #[v,vx] w fun e w'=>AV w (AX (Dm n x)) e w':=by
 obtain⟨i0,hi,hz0,hz1,hz2⟩:=info_parts AI;obtain⟨vin,vat,vv,rfl,hm⟩:=h;obtain⟨a1,c1,rfl⟩:=hm.node.is.form;obtain⟨a2,c2,rfl⟩:=hm.node.ia.form;obtain⟨a3,c3,rfl⟩:=hm.ins.form;have HM:=hid hm;clear hm;obtain⟨a4,c4,rfl⟩:=hx.shape;have hxl:=hx.wf.1;have hxc:=hx.capI.2;have HX:=hid hx;clear hx;have HY:=hid (fun(W:World)=>Ao W);have HNo:=hid (fun(W:World)=>Aw W);have HB1:=hid ((Below.refl w.heap.size w).alloc (Nat.le_refl _) (Obj.cells #[.string n.op,.string n.name,.slice a1 n.ins.length c1,.string n.out,.slice a2 n.attrs.length c2,.slice a3 ins.length c3] 55));have HA1:=hid (Ac.new w #[.string n.op,.string n.name,.slice a1 n.ins.length c1,.string n.out,.slice a2 n.attrs.length c2,.slice a3 ins.length c3] 55);have q0:(n.op.toList==([82,101,115,104,97,112,101]:List UInt8))=false:=by have:=hl [82,101,115,104,97,112,101] (by simp);simpa using this
 have q1:(n.op.toList==([69,120,112,97,110,100]:List UInt8))=false:=by have:=hl [69,120,112,97,110,100] (by simp);simpa using this
 have q2:(n.op.toList==([84,114,97,110,115,112,111,115,101]:List UInt8))=false:=by have:=hl [84,114,97,110,115,112,111,115,101] (by simp);simpa using this
 have q3:(n.op.toList==([67,111,110,99,97,116]:List UInt8))=false:=by have:=hl [67,111,110,99,97,116] (by simp);simpa using this
 have q4:(n.op.toList==([83,108,105,99,101]:List UInt8))=false:=by have:=hl [83,108,105,99,101] (by simp);simpa using this
 have q5:(n.op.toList==([71,97,116,104,101,114]:List UInt8))=false:=by have:=hl [71,97,116,104,101,114] (by simp);simpa using this
 have q6:(n.op.toList==([80,97,100]:List UInt8))=false:=by have:=hl [80,97,100] (by simp);simpa using this
 have q7:(n.op.toList==([83,113,117,101,101,122,101]:List UInt8))=false:=by have:=hl [83,113,117,101,101,122,101] (by simp);simpa using this
 have q8:(n.op.toList==([85,110,115,113,117,101,101,122,101]:List UInt8))=false:=by have:=hl [85,110,115,113,117,101,101,122,101] (by simp);simpa using this
 clear hl;obtain⟨k0,k1,k2,k3,k4,k5⟩:=HA1.out.six;go_enter Tryz.func54,Tryz.ntmps54
 go_wp2_with fail
 generalize World.alloc w (Obj.cells #[.string n.op,.string n.name,.slice a1 n.ins.length c1,.string n.out,.slice a2 n.attrs.length c2,.slice a3 ins.length c3] 55)=W1 at HB1 HA1⊢;clear k0 k1 k2 k3 k4 k5;refine(OX (n:=n) (ins:=ins) ⟨_,_,_,rfl,HM.out.below HB1.out⟩ (HX.out.below HB1.out)).mono ?_;rintro e w2 hR;have hX:AV w (AX (Dm n x)) e w2:=hR.dim HB1.out (fun zs h=>Xo h);have HX2:=hid hX;clear hX;obtain⟨-,hc⟩:=hR;cases hq:Dm n x with
 | none=>
  rw[hq]at hc;obtain rfl:e=Em 4:=hc;clear hq;exact⟨rfl,HX2.out⟩
 | some zs=>
  rw[hq]at hc;obtain⟨v2,rfl,-⟩:=hc;clear hq;go_wp2
  go_ret
  exact HX2.out
theorem Ns{w:World}{v vx:Value}{n:Nd}{ins:List Vl}{x:List Int}(h:BF w v n ins)(hx:Aa w vx x)(hsm:Sm x)(hl:n.op.toList=[69,120,112,97,110,100]) :
  Calls Tryz.prog 54 #[v,vx] w fun e w'=>AV w (LG n x) e w':=by
 obtain⟨i0,hi,hz0,hz1,hz2⟩:=info_parts AI;obtain⟨vin,vat,vv,rfl,hm⟩:=h;obtain⟨a1,c1,rfl⟩:=hm.node.is.form;obtain⟨a2,c2,rfl⟩:=hm.node.ia.form;obtain⟨a3,c3,rfl⟩:=hm.ins.form;have HM:=hid hm;clear hm;obtain⟨a4,c4,rfl⟩:=hx.shape;have hxl:=hx.wf.1;have hxc:=hx.capI.2;have HX:=hid hx;clear hx;have HY:=hid (fun(W:World)=>Ao W);have HNo:=hid (fun(W:World)=>Aw W);have HB1:=hid ((Below.refl w.heap.size w).alloc (Nat.le_refl _) (Obj.cells #[.string n.op,.string n.name,.slice a1 n.ins.length c1,.string n.out,.slice a2 n.attrs.length c2,.slice a3 ins.length c3] 55));have HA1:=hid (Ac.new w #[.string n.op,.string n.name,.slice a1 n.ins.length c1,.string n.out,.slice a2 n.attrs.length c2,.slice a3 ins.length c3] 55);have hx6:=hsm.1;have HSm:=hid hsm;clear hsm;obtain⟨k0,k1,k2,k3,k4,k5⟩:=HA1.out.six;go_enter Tryz.func54,Tryz.ntmps54
 go_wp2_with fail
 generalize World.alloc w (Obj.cells #[.string n.op,.string n.name,.slice a1 n.ins.length c1,.string n.out,.slice a2 n.attrs.length c2,.slice a3 ins.length c3] 55)=W1 at HB1 HA1⊢;clear k0 k1 k2 k3 k4 k5;refine(CR (n:=n) ⟨_,_,rfl,(HM.out.below HB1.out).node⟩ BK (.empty none 0)).mono ?_;rintro e w2⟨v2,rfl,hr,B⟩;have HW2:=hid (HB1.out.trans (B.mono HB1.out.size));have HA2:=hid (HA1.out.below' B);have hok:=BS (nm:=BK) (other:=[]) (v:=(.agg #[.string n.op,.string n.name,.slice a1 n.ins.length c1,.string n.out,.slice a2 n.attrs.length c2])) ⟨_,_,rfl,HM.out.node⟩ (by simp) (by simp);have HNu:=hid (CZ (n:=n) (v:=(.agg #[.string n.op,.string n.name,.slice a1 n.ins.length c1,.string n.out,.slice a2 n.attrs.length c2])) ⟨_,_,rfl,(HM.out.below HW2.out).node⟩ BK (.empty none 0) ((Af n.attrs BK []).length:Int) 1 9223372036854775807);have HN1:=hid (fun h=>Vm (n:=n) (x:=x) rfl h);have HN2:=hid (fun l h=>Sa (n:=n) (x:=x) (l:=l) rfl h);have hsl:=hok.1;obtain⟨as',cs',rfl⟩:=Bh hr;clear hr hok B;generalize Af n.attrs BK []=s at*;obtain⟨k0,k1,k2,k3,k4,k5⟩:=HA2.out.six;go_wp2_with fail
 clear k0 k1 k2 k3 k4 k5;refine HNu.out.mono ?_;rintro e w3⟨B3,hc⟩;have HW3:=hid (HW2.out.trans (B3.mono HW2.out.size));cases hp:AN s s.length 1 9223372036854775807 with
 | none=>
  rw[hp]at hc;obtain rfl:e=Em 4:=hc;have E:=hid (HN1.out hp);clear hp;exact⟨rfl,HW3.out,Or.inl ⟨by rw[E.out];decide,by rw[E.out]⟩⟩
 | some l=>
 rw[hp]at hc;obtain⟨v3,rfl,hr3⟩:∃v,e=.returned v∧Ag w3 _ v l:=hc;obtain⟨hpl,hpr⟩:=AT hp;have E:=hid (HN2.out l hp);have HLI:Hid (∀z∈l,Bf z):=hid (fun z hz=>by have:=hpr z hz;unfold Bf;omega);have HLL:Hid (l.length*8≤140737488351232):=hid (by omega);have HI3:Hid (Aa w3 v3 l):=hid (hr3.ints HLL.out HLI.out);clear hp hr3 hpl hpr B3 HN1 HN2 HNu;go_wp2_with fail
 refine(C0 (HX.out.below HW3.out) HI3.out).mono ?_;rintro e w4 hR;have hX:AV w (Vb.Bx x l) e w4:=hR.dim HW3.out (fun h0=>by have:=ED h0;have:=HLL.out;omega) (FP HSm.out.inI HLI.out);have HX2:=hid hX;clear hX;rcases hR with⟨_,⟨_,rfl⟩| ⟨_,v2,rfl,hr2⟩⟩
 ·exact⟨rfl,by rw[E.out];exact HX2.out⟩
 ·clear hr2;go_wp2
  go_ret
  rw[E.out];exact HX2.out
theorem Nt{w:World}{v vx:Value}{n:Nd}{ins:List Vl}{x:List Int}{y:Vl}(h:BF w v n ins)(hx:Aa w vx x)(hsm:Sm x)(hy:ins[1]?=some y)(hym:Sm y.dims)(hl:n.op.toList=[71,97,116,104,101,114]) :
  Calls Tryz.prog 54 #[v,vx] w fun e w'=>AV w (LH n x y.dims) e w':=by
 obtain⟨i0,hi,hz0,hz1,hz2⟩:=info_parts AI;obtain⟨vin,vat,vv,rfl,hm⟩:=h;obtain⟨a1,c1,rfl⟩:=hm.node.is.form;obtain⟨a2,c2,rfl⟩:=hm.node.ia.form;obtain⟨a3,c3,rfl⟩:=hm.ins.form;have HM:=hid hm;clear hm;obtain⟨a4,c4,rfl⟩:=hx.shape;have hxl:=hx.wf.1;have hxc:=hx.capI.2;have HX:=hid hx;clear hx;have HY:=hid (fun(W:World)=>Ao W);have HNo:=hid (fun(W:World)=>Aw W);have HB1:=hid ((Below.refl w.heap.size w).alloc (Nat.le_refl _) (Obj.cells #[.string n.op,.string n.name,.slice a1 n.ins.length c1,.string n.out,.slice a2 n.attrs.length c2,.slice a3 ins.length c3] 55));have HA1:=hid (Ac.new w #[.string n.op,.string n.name,.slice a1 n.ins.length c1,.string n.out,.slice a2 n.attrs.length c2,.slice a3 ins.length c3] 55);have hx6:=hsm.1;have hy6:=hym.1;have HSm:=hid hsm;have HYm:=hid hym;clear hsm hym;obtain⟨by',oy,vdy,ea,gy,uy,hdy⟩:=R4 HM.out.ins hy;have EA:=hid ea;obtain⟨ay,cy,rfl⟩:=hdy.shape;have HDy:=hid hdy;have hlen:1<ins.length:=(List.getElem?_eq_some_iff.1 hy).1;have hleni:(1:Int)<(ins.length:Int):=by omega
 clear hdy hy ea;obtain⟨k0,k1,k2,k3,k4,k5⟩:=HA1.out.six;go_enter Tryz.func54,Tryz.ntmps54
 go_wp2_with fail
 generalize World.alloc w (Obj.cells #[.string n.op,.string n.name,.slice a1 n.ins.length c1,.string n.out,.slice a2 n.attrs.length c2,.slice a3 ins.length c3] 55)=W1 at HB1 HA1⊢;clear k0 k1 k2 k3 k4 k5;refine(DC (n:=n) ⟨_,_,rfl,(HM.out.below HB1.out).node⟩ AB 0).mono ?_;rintro e w2⟨rfl,B2⟩;have HB2:=hid (HB1.out.trans (B2.mono HB1.out.size));have HA2:=hid (HA1.out.below' B2);have hz:=C7 (nm:=AB) (other:=0) (v:=(.agg #[.string n.op,.string n.name,.slice a1 n.ins.length c1,.string n.out,.slice a2 n.attrs.length c2])) ⟨_,_,rfl,HM.out.node⟩ (by unfold Bf;decide);have HS1:=hid (fun h=>Vn (n:=n) (x:=x) (y:=y.dims) h);have HS2:=hid (fun k h=>Sb (n:=n) (x:=x) (y:=y.dims) (a:=k) h);generalize AH n.attrs AB 0=z at*;have HAx:=hid (Ia z x.length hz (by omega) w2);clear B2 hz;go_wp2_with fail
 refine HAx.out.mono ?_;rintro e w3⟨hr,rfl⟩;cases ha:Bq z x.length with
 | none=>
  rw[ha]at hr;obtain rfl:e=Em 4:=hr;have E:=hid (HS1.out ha);clear ha;exact⟨rfl,HB2.out,Or.inl ⟨by rw[E.out];decide,by rw[E.out]⟩⟩
 | some kz=>
 rw[ha]at hr;obtain rfl:e=.returned (.int .i64 kz):=hr;have hkr:=FC ha;obtain⟨k,rfl⟩:∃k:Nat,kz=(k:Int):=⟨kz.toNat,by omega⟩;have E:=hid (HS2.out k ha);clear ha HS1 HS2 HAx;have hkx:k<x.length:=by omega
 have hki:(k:Int)<(x.length:Int):=by omega
 have hk0:(0:Int)≤(k:Int):=by omega
 have hkc:(k:Int)+1≤(x.length:Int):=by omega
 have hk4:k≤c4:=by omega
 have hk1:(0:Int)≤(k:Int)+1:=by omega
 have hkw:IntKind.i64.wrap ((k:Int)+1)=((k+1:Nat):Int):=by rw[IntKind.wrap_i64];omega
 go_wp2_with fail
 have c5:w3.cell? ⟨w.heap.size,5,none⟩=some (.slice (some ⟨by',oy,none⟩) ins.length c3):=by rw[←EA.out];exact HA2.out.six.2.2.2.2.2
 have uy5:w3.cell? ⟨by',oy+5,none⟩=some (.slice ay y.dims.length cy):=(HB2.out.cell (p:=⟨by',oy+5,none⟩) gy).trans uy;have hbw:w.heap.size<w3.heap.size:=HA2.out.lt;have hbl:by'<w3.heap.size:=by have:=HB2.out.size;omega
 have HSr:Hid (∀W',Below w3.heap.size w3 W'→W'.cell? ⟨w.heap.size,5,none⟩=some (.slice (some ⟨by',oy,none⟩) ins.length c3)∧W'.cell? ⟨by',oy+5,none⟩=some (.slice ay y.dims.length cy)):=hid fun W' h=>⟨(h.cell (p:=⟨w.heap.size,5,none⟩) hbw).trans c5,(h.cell (p:=⟨by',oy+5,none⟩) hbl).trans uy5⟩;clear c5 uy5;refine Ae 14 [0,1,2,3,4,5,6,7,8,9,10,11,12,13] (fun W'=>Below w3.heap.size w3 W') (by kernel_rfl) (by kernel_rfl) (fun _ d _ _ _ h=>by cases d<;>exact h) (Below.refl _ _).drew ?_;have B0:Hid (Below w3.heap.size w3 w3.drew):=hid (Below.refl _ _).drew;generalize w3.drew=wD at B0⊢
 repeat
  refine Ah (v:=?_) rfl rfl (Or.inl ⟨by rfl,?_⟩) ?_;rotate_left
  ·intro W' hSw;obtain⟨s0,s1⟩:=HSr.out W' hSw;go_simp
   try with_reducible rfl
  try simp only[Act.put,List.getElem_toArray,List.getElem_cons_zero,List.getElem_cons_succ,List.setIfInBounds_toArray,List.set_cons_zero,List.set_cons_succ]
 refine Av rfl rfl (fun K' hK=>?_);go_simp
 have HI0:=hid (((HX.out.below HB2.out).below B0.out).take (k:=k) (by omega));have HI1:=hid ((HDy.out.below HB2.out).below B0.out);have HI2:=hid (Ds (k:=k+1) ((HX.out.below HB2.out).below B0.out) (by omega));have BA:=fun o=>(Below.refl wD.heap.size wD).alloc (Nat.le_refl _) o;refine hK.out _ _ (B0.out.alloc B0.out.size _) ?_;clear hK K';refine Av rfl rfl (fun K' hK=>?_);go_simp
 refine(Pg (Ac.new _ _ _) (HI0.out.below (BA _)) (HI1.out.below (BA _)) (HI2.out.below (BA _)) (by simp;omega)).mono ?_;rintro e w4⟨v4,rfl,hr4,B4⟩;have HB34:=hid ((B0.out.alloc B0.out.size _).trans (B4.mono (B0.out.alloc B0.out.size _).size));have HB4:=hid (HB2.out.trans (HB34.out.mono HB2.out.size));have HI4:Hid (Aa w4 v4 (x.take k++y.dims++x.drop (k+1))):=hid (hr4.ints (by simp;omega) (fun z hz=>by
  rcases List.mem_append.1 hz with hz|hz
  ·rcases List.mem_append.1 hz with hz|hz
   ·exact HSm.out.inI z (List.mem_of_mem_take hz)
   ·exact HYm.out.inI z hz
  ·exact HSm.out.inI z (List.mem_of_mem_drop hz)))
 refine hK.out _ _ HB34.out ?_;clear hK K' hr4 B4;refine Aq rfl ?_;simp only[List.toList_toArray,List.drop_succ_cons,List.drop_zero];go_wp2
 all_goals
  go_ret
  rw[E.out];exact⟨HB4.out,Or.inr ⟨rfl,_,rfl,HI4.out⟩⟩
end
end Go.Proofs.YtkkeehnldcdccaaGreatDoor
