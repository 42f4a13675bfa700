import Derived.Test.YtkkeehnldcdccaaGreatDoorNe17
set_option linter.unusedVariables false
set_option linter.unusedSimpArgs false
set_option maxRecDepth 100000
set_option maxHeartbeats 4000000
namespace Go.Proofs.YtkkeehnldcdccaaGreatDoor
open Go.Lib (hid)
open Go.RowKit
section
attribute [local irreducible] Fc Dg CH DF Dh IT JK Hh Ci Fl.Eh Fl.un Fl.Cz
theorem Ti{w:World}{v:Value}{n:Nd}{x:Vl}{ins:List Vl}(h:BF w v n ins)(hi:ins[0]?=some x){y z:Vl}(hj:ins[1]?=some y)(hk:ins[2]?=some z)(hl:n.op.toList=[87,104,101,114,101]) :
  Calls Tryz.prog 19 #[v] w fun e w'=>CB (IT x.typ y.typ z.typ) e∧Below w.heap.size w w':=by
 obtain⟨vin,vat,vv,rfl,hm⟩:=h;obtain⟨a1,c1,rfl⟩:=hm.node.is.form;obtain⟨a2,c2,rfl⟩:=hm.node.ia.form;obtain⟨a3,c3,rfl⟩:=hm.ins.form;have HM:=hid hm;obtain⟨bx,ox,rfl,g0⟩:=DK hm.ins hi;have hlen:0<ins.length:=(List.getElem?_eq_some_iff.1 hi).1;obtain⟨bY,oY,ccY,vdY,hvY,-,-,uY,-⟩:=Bm hm.ins hj;obtain⟨eY,-,-⟩:=Value.slice.inj hvY;obtain⟨rfl,rfl⟩:bx=bY∧ox=oY:=by simpa using eY
 have uY:w.cell? ⟨bx,ox+4,none⟩=some (.int .i64 y.typ):=uY;have hlenY:1<ins.length:=(List.getElem?_eq_some_iff.1 hj).1;have hleniY:(1:Int)<(ins.length:Int):=by omega
 clear hvY eY;obtain⟨bZ,oZ,ccZ,vdZ,hvZ,-,-,uZ,-⟩:=Bm hm.ins hk;obtain⟨eZ,-,-⟩:=Value.slice.inj hvZ;obtain⟨rfl,rfl⟩:bx=bZ∧ox=oZ:=by simpa using eZ
 have uZ:w.cell? ⟨bx,ox+7,none⟩=some (.int .i64 z.typ):=uZ;have hlenZ:2<ins.length:=(List.getElem?_eq_some_iff.1 hk).1;have hleniZ:(2:Int)<(ins.length:Int):=by omega
 clear hvZ eZ;clear hm hi;have HY:=hid (fun(W:World)=>Ao W);have HNo:=hid (fun(W:World)=>Aw W);have g1:=Aj g0 (.cells #[.string n.op,.string n.name,.slice a1 n.ins.length c1,.string n.out,.slice a2 n.attrs.length c2,.slice (some ⟨bx,ox,none⟩) ins.length c3] 55);have HB1:=hid ((Below.refl w.heap.size w).alloc (Nat.le_refl _) (.cells #[.string n.op,.string n.name,.slice a1 n.ins.length c1,.string n.out,.slice a2 n.attrs.length c2,.slice (some ⟨bx,ox,none⟩) ins.length c3] 55));have HA1:=hid (Ac.new w #[.string n.op,.string n.name,.slice a1 n.ins.length c1,.string n.out,.slice a2 n.attrs.length c2,.slice (some ⟨bx,ox,none⟩) ins.length c3] 55);have g2:=Aj uY (.cells #[.string n.op,.string n.name,.slice a1 n.ins.length c1,.string n.out,.slice a2 n.attrs.length c2,.slice (some ⟨bx,ox,none⟩) ins.length c3] 55);have g3:=Aj uZ (.cells #[.string n.op,.string n.name,.slice a1 n.ins.length c1,.string n.out,.slice a2 n.attrs.length c2,.slice (some ⟨bx,ox,none⟩) ins.length c3] 55);have hbx:bx<w.heap.size:=Al g0;have HSr:Hid (∀W',Below (w.heap.size+1) (w.alloc (.cells #[.string n.op,.string n.name,.slice a1 n.ins.length c1,.string n.out,.slice a2 n.attrs.length c2,.slice (some ⟨bx,ox,none⟩) ins.length c3] 55)) W'→W'.cell? ⟨w.heap.size,5,none⟩=some (.slice (some ⟨bx,ox,none⟩) ins.length c3)∧W'.cell? ⟨bx,ox+4,none⟩=some (.int .i64 y.typ)∧W'.cell? ⟨bx,ox+7,none⟩=some (.int .i64 z.typ)):=hid fun W' h=>⟨(h.cell (p:=⟨w.heap.size,5,none⟩) (Nat.lt_succ_self _)).trans HA1.out.six.2.2.2.2.2,(h.cell (p:=⟨bx,ox+4,none⟩) (Nat.lt_succ_of_lt hbx)).trans g2,(h.cell (p:=⟨bx,ox+7,none⟩) (Nat.lt_succ_of_lt hbx)).trans g3⟩;clear hj hk;generalize x.typ=tt at*;by_cases h9:tt=9
 ·subst h9;by_cases hyz:y.typ=z.typ
  ·have E:=hid (UZ (t:=9) rfl hyz);have hb:(y.typ==z.typ)=true:=by simpa using hyz
   clear hyz;go_enter Tryz.func19,Tryz.ntmps19
   go_wp2_with fail
   refine DP [0,1,2,3,4,5,6,7,8,9,10,11,12,13,14,15] (fun W'=>Below (w.heap.size+1) (w.alloc (.cells #[.string n.op,.string n.name,.slice a1 n.ins.length c1,.string n.out,.slice a2 n.attrs.length c2,.slice (some ⟨bx,ox,none⟩) ins.length c3] 55)) W') (by kernel_rfl) (by kernel_rfl) (fun _ d _ _ _ h=>by cases d<;>exact h) (Below.refl _ _).drew ?_;have B0:Hid (Below (w.heap.size+1) (w.alloc (.cells #[.string n.op,.string n.name,.slice a1 n.ins.length c1,.string n.out,.slice a2 n.attrs.length c2,.slice (some ⟨bx,ox,none⟩) ins.length c3] 55)) (w.alloc (.cells #[.string n.op,.string n.name,.slice a1 n.ins.length c1,.string n.out,.slice a2 n.attrs.length c2,.slice (some ⟨bx,ox,none⟩) ins.length c3] 55)).drew):=hid (Below.refl _ _).drew;have HBD:Hid (Below w.heap.size w (w.alloc (.cells #[.string n.op,.string n.name,.slice a1 n.ins.length c1,.string n.out,.slice a2 n.attrs.length c2,.slice (some ⟨bx,ox,none⟩) ins.length c3] 55)).drew):=hid HB1.out.drew;generalize (w.alloc (.cells #[.string n.op,.string n.name,.slice a1 n.ins.length c1,.string n.out,.slice a2 n.attrs.length c2,.slice (some ⟨bx,ox,none⟩) ins.length c3] 55)).drew=wD at B0 HBD⊢
   repeat
    first
    |refine Ah (v:=?_) rfl rfl (Or.inl ⟨by rfl,?_⟩) ?_
     rotate_left
     ·intro W' hSw;obtain⟨s0,s1,s2⟩:=HSr.out W' hSw;go_simp
      try with_reducible rfl
    | refine Ah (v:=undef) rfl rfl (Or.inr ⟨by rfl,rfl⟩) ?_
    try simp only[Act.put,List.getElem_toArray,List.getElem_cons_zero,List.getElem_cons_succ,List.setIfInBounds_toArray,List.set_cons_zero,List.set_cons_succ]
   refine Av rfl rfl (fun K' hK=>?_);go_simp
   refine(HY.out _).mono ?_;rintro e w'⟨rfl,rfl⟩;refine hK.out _ _ B0.out ?_;clear hK K';refine O2 ?_;obtain⟨s0,s1,s2⟩:=HSr.out _ B0.out;go_wp2
   go_ret
   exact⟨CB.yes E.out,HBD.out⟩
  ·have E:=hid (RS (t:=9) (fun c=>hyz c.2));have hb:(y.typ==z.typ)=false:=by simpa using hyz
   clear hyz;go_enter Tryz.func19,Tryz.ntmps19
   go_wp2_with fail
   refine DP [0,1,2,3,4,5,6,7,8,9,10,11,12,13,14,15] (fun W'=>Below (w.heap.size+1) (w.alloc (.cells #[.string n.op,.string n.name,.slice a1 n.ins.length c1,.string n.out,.slice a2 n.attrs.length c2,.slice (some ⟨bx,ox,none⟩) ins.length c3] 55)) W') (by kernel_rfl) (by kernel_rfl) (fun _ d _ _ _ h=>by cases d<;>exact h) (Below.refl _ _).drew ?_;have B0:Hid (Below (w.heap.size+1) (w.alloc (.cells #[.string n.op,.string n.name,.slice a1 n.ins.length c1,.string n.out,.slice a2 n.attrs.length c2,.slice (some ⟨bx,ox,none⟩) ins.length c3] 55)) (w.alloc (.cells #[.string n.op,.string n.name,.slice a1 n.ins.length c1,.string n.out,.slice a2 n.attrs.length c2,.slice (some ⟨bx,ox,none⟩) ins.length c3] 55)).drew):=hid (Below.refl _ _).drew;have HBD:Hid (Below w.heap.size w (w.alloc (.cells #[.string n.op,.string n.name,.slice a1 n.ins.length c1,.string n.out,.slice a2 n.attrs.length c2,.slice (some ⟨bx,ox,none⟩) ins.length c3] 55)).drew):=hid HB1.out.drew;generalize (w.alloc (.cells #[.string n.op,.string n.name,.slice a1 n.ins.length c1,.string n.out,.slice a2 n.attrs.length c2,.slice (some ⟨bx,ox,none⟩) ins.length c3] 55)).drew=wD at B0 HBD⊢
   repeat
    first
    |refine Ah (v:=?_) rfl rfl (Or.inl ⟨by rfl,?_⟩) ?_
     rotate_left
     ·intro W' hSw;obtain⟨s0,s1,s2⟩:=HSr.out W' hSw;go_simp
      try with_reducible rfl
    | refine Ah (v:=undef) rfl rfl (Or.inr ⟨by rfl,rfl⟩) ?_
    try simp only[Act.put,List.getElem_toArray,List.getElem_cons_zero,List.getElem_cons_succ,List.setIfInBounds_toArray,List.set_cons_zero,List.set_cons_succ]
   refine Av rfl rfl (fun K' hK=>?_);go_simp
   refine(HNo.out _).mono ?_;rintro e w'⟨rfl,rfl⟩;exact⟨rfl,CB.no E.out,HBD.out⟩
 ·have E:=hid (RS (a:=y.typ) (b:=z.typ) (fun c=>h9 c.1));have hb9:(tt==9)=false:=by simpa using h9
  clear h9;obtain⟨b6,d6⟩:∃b,(tt==6)=b:=⟨_,rfl⟩;cases b6
  all_goals
   go_enter Tryz.func19,Tryz.ntmps19
   go_wp2_with fail
   refine DP [0,1,2,3,4,5,6,7,8,9,10,11,12,13,14,15] (fun W'=>Below (w.heap.size+1) (w.alloc (.cells #[.string n.op,.string n.name,.slice a1 n.ins.length c1,.string n.out,.slice a2 n.attrs.length c2,.slice (some ⟨bx,ox,none⟩) ins.length c3] 55)) W') (by kernel_rfl) (by kernel_rfl) (fun _ d _ _ _ h=>by cases d<;>exact h) (Below.refl _ _).drew ?_;have B0:Hid (Below (w.heap.size+1) (w.alloc (.cells #[.string n.op,.string n.name,.slice a1 n.ins.length c1,.string n.out,.slice a2 n.attrs.length c2,.slice (some ⟨bx,ox,none⟩) ins.length c3] 55)) (w.alloc (.cells #[.string n.op,.string n.name,.slice a1 n.ins.length c1,.string n.out,.slice a2 n.attrs.length c2,.slice (some ⟨bx,ox,none⟩) ins.length c3] 55)).drew):=hid (Below.refl _ _).drew;have HBD:Hid (Below w.heap.size w (w.alloc (.cells #[.string n.op,.string n.name,.slice a1 n.ins.length c1,.string n.out,.slice a2 n.attrs.length c2,.slice (some ⟨bx,ox,none⟩) ins.length c3] 55)).drew):=hid HB1.out.drew;generalize (w.alloc (.cells #[.string n.op,.string n.name,.slice a1 n.ins.length c1,.string n.out,.slice a2 n.attrs.length c2,.slice (some ⟨bx,ox,none⟩) ins.length c3] 55)).drew=wD at B0 HBD⊢
   repeat
    first
    |refine Ah (v:=?_) rfl rfl (Or.inl ⟨by rfl,?_⟩) ?_
     rotate_left
     ·intro W' hSw;obtain⟨s0,s1,s2⟩:=HSr.out W' hSw;go_simp
      try with_reducible rfl
    | refine Ah (v:=undef) rfl rfl (Or.inr ⟨by rfl,rfl⟩) ?_
    try simp only[Act.put,List.getElem_toArray,List.getElem_cons_zero,List.getElem_cons_succ,List.setIfInBounds_toArray,List.set_cons_zero,List.set_cons_succ]
   refine Av rfl rfl (fun K' hK=>?_);go_simp
   refine(HNo.out _).mono ?_;rintro e w'⟨rfl,rfl⟩;exact⟨rfl,CB.no E.out,HBD.out⟩
theorem Nn{w:World}{v:Value}{n:Nd}{a:At}{ins:List Vl}(h:BF w v n ins)(hf:n.attrs.find? DT=some a)(hl:n.op.toList=[67,111,110,115,116,97,110,116]) :
  Calls Tryz.prog 19 #[v] w fun e w'=>CB (0,a.typ) e∧Below w.heap.size w w':=by
 obtain⟨vin,vat,vv,rfl,hm⟩:=h;obtain⟨a1,c1,rfl⟩:=hm.node.is.form;obtain⟨a2,c2,rfl⟩:=hm.node.ia.form;obtain⟨a3,c3,rfl⟩:=hm.ins.form;have HM:=hid hm;have HF:=hid hf;clear hm hf;have HB1:=hid ((Below.refl w.heap.size w).alloc (Nat.le_refl _) (.cells #[.string n.op,.string n.name,.slice a1 n.ins.length c1,.string n.out,.slice a2 n.attrs.length c2,.slice a3 ins.length c3] 55));go_enter Tryz.func19,Tryz.ntmps19
 go_wp2_with fail
 generalize World.alloc w _=W1 at HB1⊢;refine(Ip (n:=n) (ins:=ins) ⟨_,_,_,rfl,HM.out.below HB1.out⟩ HF.out).mono ?_;rintro e w2⟨vd,vx,rfl,hvd,hvx,B2⟩;obtain⟨ad,cd,rfl⟩:=hvd.shape;obtain⟨ax,cx,rfl⟩:=hvx.shape;clear hvd hvx;have hfd:∀W:World,(Instr.field 41 (.agg #[.int .i64 a.typ,.slice ad a.dims.length cd,.slice ax a.data.length cx]) 0).run Tryz.prog W=.ok (.int .i64 a.typ) W:=fun _=>by kernel_rfl
 have HB2:=hid (HB1.out.trans (B2.mono HB1.out.size));clear B2;go_wp2
 go_ret
 exact⟨CB.yes rfl,HB2.out⟩
end
section
def Sm(x:List Int):Prop:=x.length≤6∧∀z∈x,1≤z∧z≤65536
theorem RU:∀(l:List Int) (n:Int),1≤n→(∀d∈l,1≤d)→(A0 n l).2=0→∀d∈l,d≤65536
 | [],n,_,_,_,d,hd=>by cases hd
 | e::l,n,h1,h,hz,d,hd=>by
  unfold A0 at hz;split at hz
  ·exact absurd hz (by decide)
  ·rename_i g
   have he:=h e (List.mem_cons_self ..);have hp:e≤n*e:=by
    have:=Int.mul_le_mul h1 (Int.le_refl e) (by omega) (by omega);omega
   rcases List.mem_cons.1 hd with rfl|hd
   ·omega
   ·exact RU l (n*e) (by omega) (fun x hx=>h x (List.mem_cons_of_mem _ hx)) hz d hd
theorem XZ{x:List Int}(h:(AK x).2=0):Sm x:=by
 unfold AK at h;split at h
 ·exact absurd h (by decide)
 ·rename_i g
  split at h
  ·exact absurd h (by decide)
  ·rename_i gl
   have h1:∀d∈x,1≤d:=fun d hd=>by
    have h2:¬(decide (d<1)=true):=fun c=>g (List.any_eq_true.2 ⟨d,hd,c⟩);simp at h2;omega
   exact⟨by omega,fun d hd=>⟨h1 d hd,RU x 1 (by decide) h1 h d hd⟩⟩
theorem Sm.at{x:List Int}(h:Sm x){k:Nat}(hk:k<x.length):1≤x.getD k 0∧x.getD k 0≤65536:=h.2 _ (Am hk)
def BG:ByteArray:=⟨#[112,97,100,115]⟩
def EG(x p:List Int)(k:Nat):List Int:=(List.range x.length).map fun i=>if i<k then x.getD i 0+(p.getD i 0+p.getD (x.length+i) 0)else x.getD i 0
theorem Fu(x p:List Int)(k:Nat):(EG x p k).length=x.length:=by simp[EG]
theorem Tj(x p:List Int):EG x p 0=x:=by
 unfold EG;apply List.ext_getElem (by simp);intro i h1 h2;simp[List.getD,List.getElem?_eq_getElem h2]
theorem U2{x p:List Int}{k:Nat}(hk:k<x.length):(EG x p k).getD k 0=x.getD k 0:=by
 unfold EG;simp[List.getD,hk]
theorem Tk{x p:List Int}{k:Nat}(hk:k<x.length):(EG x p k).set k (x.getD k 0+(p.getD k 0+p.getD (x.length+k) 0))=EG x p (k+1):=by
 unfold EG;apply List.ext_getElem (by simp);intro i h1 h2;rw[List.getElem_set];simp only[List.getElem_map,List.getElem_range];by_cases e:k=i
 ·subst e;rw[if_pos rfl,if_pos (by omega)]
 ·rw[if_neg e];by_cases h:i<k
  ·rw[if_pos h,if_pos (by omega)]
  ·rw[if_neg h,if_neg (by omega)]
def Ej(n:Nd)(x:List Int):Option (List Int):=match AN (Af n.attrs BG []) (2*x.length) 0 65536 with |none=>none|some p=>some (EG x p x.length)
theorem U3{n:Nd}{x:List Int}(h:AN (Af n.attrs BG []) (2*x.length) 0 65536=none):Ej n x=none:=by unfold Ej;rw[h]
theorem RV{n:Nd}{x p:List Int}(h:AN (Af n.attrs BG []) (2*x.length) 0 65536=some p):Ej n x=some (EG x p x.length):=by unfold Ej;rw[h]
theorem AT{l p:List Int}{count lo hi:Int}(h:AN l count lo hi=some p):(p.length:Int)=count∧∀z∈p,lo≤z∧z≤hi:=by
 unfold AN at h;split at h
 ·rename_i g
  obtain rfl:=Option.some.inj h;refine⟨g.2,fun z hz=>?_⟩;have:=List.all_eq_true.1 g.1 z hz
  simpa using this
 ·cases h
attribute [local irreducible] Af AN Ag Ej EG
theorem Xj{w:World}{v vx:Value}{n:Nd}{ins:List Vl}{x:List Int}(h:BF w v n ins)(hx:Aa w vx x)(hsm:Sm x) :
  Calls Tryz.prog 121 #[v,vx] w fun e w'=>AY w (Ej n x) e w':=by
 obtain⟨i0,hi,hz0,hz1,hz2⟩:=info_parts AI;obtain⟨vin,vat,vv,rfl,hm⟩:=h;obtain⟨a1,c1,rfl⟩:=hm.node.is.form;obtain⟨a2,c2,rfl⟩:=hm.node.ia.form;obtain⟨a3,c3,rfl⟩:=hm.ins.form;have HM:=hid hm;clear hm;obtain⟨a4,c4,rfl⟩:=hx.shape;have hxl:=hx.wf.1;have hxc:=hx.capI.2;have HX:=hid hx;clear hx;have HY:=hid (fun(W:World)=>Ao W);have HNo:=hid (fun(W:World)=>Aw W);have HB1:=hid ((Below.refl w.heap.size w).alloc (Nat.le_refl _) (Obj.cells #[.string n.op,.string n.name,.slice a1 n.ins.length c1,.string n.out,.slice a2 n.attrs.length c2,.slice a3 ins.length c3] 55));have HA1:=hid (Ac.new w #[.string n.op,.string n.name,.slice a1 n.ins.length c1,.string n.out,.slice a2 n.attrs.length c2,.slice a3 ins.length c3] 55);go_enter Tryz.func121,Tryz.ntmps121
 go_wp2_with fail
 generalize World.alloc w (Obj.cells #[.string n.op,.string n.name,.slice a1 n.ins.length c1,.string n.out,.slice a2 n.attrs.length c2,.slice a3 ins.length c3] 55)=W1 at HB1 HA1⊢;have hx6:=hsm.1;have HSm:=hid hsm;clear hsm HA1;refine(CZ (n:=n) ⟨_,_,rfl,(HM.out.below HB1.out).node⟩ BG (.empty none 0) _ 0 65536).mono ?_;rintro e w2⟨B2,hc⟩;have HB2:=hid (HB1.out.trans (B2.mono HB1.out.size));cases hp:AN (Af n.attrs BG []) (2*x.length) 0 65536 with
 | none=>
  rw[hp]at hc;obtain rfl:e=Em 4:=hc;have E:=hid (U3 hp);clear hp;exact⟨rfl,AY.no E.out HB2.out⟩
 | some p=>
  rw[hp]at hc;obtain⟨v2,rfl,hr2⟩:∃v,e=.returned v∧Ag w2 _ v p:=hc;have E:=hid (RV hp);obtain⟨hpl,hpr⟩:=AT hp;have HPr:=hid hpr;have hpl2:p.length=2*x.length:=by omega
  have HI2:Hid (Aa w2 v2 p):=hid (hr2.ints (by omega) (fun z hz=>by have:=HPr.out z hz;unfold Bf;omega));have HPL:=hid hpl2;obtain⟨a5,c5,rfl⟩:=HI2.out.shape;clear hp hr2 hpr hpl hpl2 B2;go_wp2_with fail
  refine(Vb.Cv (HX.out.below HB2.out)).mono ?_;rintro e w3⟨v3,rfl,hf3,B3⟩;have HB3:=hid (HB2.out.trans (B3.mono HB2.out.size));have HF3:=hid hf3;have HB23:=hid B3;have hsz:w.heap.size≤w2.heap.size:=HB2.out.size;obtain⟨a6,c6,rfl⟩:=hf3.form;clear B3 hf3;go_wp2_with fail
  go_loopw [18] (fun i wr=>∃(k:Nat),k≤x.length∧i=.int .i64 (k:Int)∧Hid (Vb.Bj w2.heap.size wr (.slice a6 x.length c6) (EG x p k))∧Hid (Below w2.heap.size w2 wr)) (fun i _=>x.length-(intOf i).toNat)
  case atStart=>exact⟨0,Nat.zero_le _,rfl,hid (by rw[Tj];exact HF3.out),HB23⟩
  case round=>
   obtain⟨k,hk,rfl,hO,hW⟩:=hrel;by_cases hkz:k<x.length
   ·have hki:(k:Int)<(x.length:Int):=by omega
    have HNx:=hid (Tk (p:=p) hkz);have hOD:=hO.out.below ((Below.refl wr.heap.size wr).drew);have hWD:Hid (Below w2.heap.size w2 wr.drew):=hid hW.out.drew;obtain⟨g,hg,hgB,c0,z0,hst⟩:=hOD.at (Fu x p k) hkz;subst hg;rw[U2 hkz]at c0;have hx1:=HSm.out.at hkz;obtain⟨bp,op',hbp,-,hbl,p0,-⟩:=Ai (k:=k) HI2.out (by have:=HPL.out;omega);obtain⟨bp',op'',hbp',-,-,p1,-⟩:=Ai (k:=x.length+k) HI2.out (by have:=HPL.out;omega);subst hbp;obtain⟨e1,e2⟩:bp=bp'∧op'=op'':=by simpa using hbp'
    subst e1 e2;clear hbp';have hp0:=HPr.out _ (Am (zs:=p) (k:=k) (by have:=HPL.out;omega));have hp1:=HPr.out _ (Am (zs:=p) (k:=x.length+k) (by have:=HPL.out;omega));have p0:=(hWD.out.cell (p:=⟨bp,op'+k,none⟩) hbl).trans p0;have p1:=(hWD.out.cell (p:=⟨bp,op'+(x.length+k),none⟩) hbl).trans p1;have hgl:g<wr.drew.heap.size:=Al c0;have hbl2:bp<wr.drew.heap.size:=Al p0;clear hOD;have HST:=hid (hst (x.getD k 0+(p.getD k 0+p.getD (x.length+k) 0)));clear hst;generalize x.getD k 0=q0 at*;generalize p.getD k 0=q1 at*;generalize p.getD (x.length+k) 0=q2 at*;rw[HNx.out]at HST;have hpl:p.length=2*x.length:=HPL.out;rw[hpl];clear hpl;have w1:IntKind.i64.wrap ((x.length:Int)+(k:Int))=(x.length:Int)+(k:Int):=by rw[IntKind.wrap_i64];omega
    have w2':IntKind.i64.wrap (q1+q2)=q1+q2:=by rw[IntKind.wrap_i64];omega
    have w3':IntKind.i64.wrap (q0+(q1+q2))=q0+(q1+q2):=by rw[IntKind.wrap_i64];omega
    have b1:(0:Int)≤(k:Int)∧(k:Int)<(x.length:Int):=⟨by omega,by omega⟩;have b2:(0:Int)≤(k:Int)∧(k:Int)<2*(x.length:Int):=⟨by omega,by omega⟩;have b3:(0:Int)≤(x.length:Int)+(k:Int)∧(x.length:Int)+(k:Int)<2*(x.length:Int):=⟨by omega,by omega⟩;have tn:((x.length:Int)+(k:Int)).toNat=x.length+k:=by omega
    go_wp2_with fail
    refine Ae 17 [0,1,2,3,4,5,6,7,8,9,10,11,12,13,14,15,16] (fun W'=>Below wr.drew.heap.size wr.drew W') (by kernel_rfl) (by kernel_rfl) (fun _ d _ _ _ h=>by cases d<;>exact h) (Below.refl _ _) ?_;generalize wr.drew=wD at*
    repeat
     refine Ah (v:=?_) rfl rfl (Or.inl ⟨by rfl,?_⟩) ?_;rotate_left
     ·intro W' hSw;have c0:=(hSw.cell (p:=⟨g,k,none⟩) hgl).trans c0;have p0:=(hSw.cell (p:=⟨bp,op'+k,none⟩) hbl2).trans p0;have p1:=(hSw.cell (p:=⟨bp,op'+(x.length+k),none⟩) hbl2).trans p1;go_simp
      try with_reducible rfl
     try simp only[Act.put,List.getElem_toArray,List.getElem_cons_zero,List.getElem_cons_succ,List.setIfInBounds_toArray,List.set_cons_zero,List.set_cons_succ]
    refine Aq rfl ?_;simp only[List.toList_toArray,List.drop_succ_cons,List.drop_zero];have hWS:Hid (Below w2.heap.size w2 (wD.setCell ⟨g,k,none⟩ (.int .i64 (q0+(q1+q2))))):=hid (hWD.out.setCell (p:=⟨g,k,none⟩) hgB _);go_wp2_with fail
    clear c0 p0 p1 z0;go_roundw
    case rel=>exact⟨k+1,by omega,by go_num,HST,hWS⟩
    case measure=>simp[intOf];omega
   ·have hki:¬(k:Int)<(x.length:Int):=by omega
    obtain rfl:k=x.length:=by omega
    have HBw:=hid (HB2.out.trans (hW.out.mono HB2.out.size));have HRw:Hid (Ag wr w.heap.size (.slice a6 x.length c6) (EG x p x.length)):=hid (by
     have h1:Ag wr w2.heap.size (.slice a6 x.length c6) (EG x p x.length):=by
      have:=hO.out;unfold Ag;exact this
     exact h1.base hsz)
    go_wp2
    go_ret
    exact AY.yes E.out HBw.out HRw.out
end
end Go.Proofs.YtkkeehnldcdccaaGreatDoor
