import Derived.Defers
import Derived.Recover
import Derived.Test.YtkkeehnldcdccaaGreatDoorNe14
set_option linter.unusedVariables false
set_option linter.unusedSimpArgs false
set_option maxRecDepth 100000
set_option maxHeartbeats 36000000
namespace Go.Proofs.YtkkeehnldcdccaaGreatDoor
open Go.Lib (hid)
open Go.RowKit
section
def AV(w:World)(o:Int×List Int)(e:Ending)(w':World):Prop:=Below w.heap.size w w'∧((o.1≠0∧e=Em o.1)∨(o.1=0∧∃v,e=.returned v∧Aa w' v o.2))
theorem Gg.dim{w w' w0:World}{o:Int×List Int}{e:Ending}(h:Gg w o e w')(hB:Below w0.heap.size w0 w)(hl:o.1=0→o.2.length*8≤140737488351232)(hi:∀z∈o.2,Bf z):AV w0 o e w':=by
 obtain⟨B,h| ⟨h0,v,rfl,hr⟩⟩:=h
 ·exact⟨hB.trans (B.mono hB.size),Or.inl h⟩
 ·exact⟨hB.trans (B.mono hB.size),Or.inr ⟨h0,v,rfl,hr.ints (hl h0) hi⟩⟩
def AX(x:Option (List Int)):Int×List Int:=match x with |none=>(4,[])|some zs=>(0,zs)
theorem AY.dim{w w' w0:World}{x:Option (List Int)}{e:Ending}(h:AY w x e w')(hB:Below w0.heap.size w0 w)(hl:∀zs,x=some zs→zs.length*8≤140737488351232∧∀z∈zs,Bf z):AV w0 (AX x) e w':=by
 obtain⟨B,h⟩:=h;cases x with
 | none=>exact⟨hB.trans (B.mono hB.size),Or.inl ⟨(show(4:Int)≠0 by decide),h⟩⟩
 | some zs=>
  obtain⟨v,rfl,hr⟩:=h;exact⟨hB.trans (B.mono hB.size),Or.inr ⟨rfl,v,rfl,hr.ints (hl _ rfl).1 (hl _ rfl).2⟩⟩
theorem FP{a b:List Int}(ha:∀z∈a,Bf z)(hb:∀z∈b,Bf z):∀z∈(Vb.Bx a b).2,Bf z:=by
 unfold Vb.Bx;split
 ·simp
 ·split
  ·simp
  ·split
   ·split
    ·simp
    ·exact Vb.If ha hb
   ·simp
theorem Jl{a b:List Int}(ha:∀z∈a,Bf z)(hb:∀z∈b,Bf z):∀z∈(Au a b).2,Bf z:=by
 unfold Au;split
 ·simp
 ·rename_i hl
  split
  ·simp
  ·split
   ·simp
   ·intro z hz;rcases List.mem_append.1 hz with hz|hz
    ·exact FP (fun z hz=>ha z (List.mem_of_mem_take hz)) (fun z hz=>hb z (List.mem_of_mem_take hz)) z hz
    ·simp only[List.mem_cons,List.not_mem_nil,or_false]at hz;rcases hz with rfl|rfl
     ·exact ha _ (Am (by omega))
     ·exact hb _ (Am (by omega))
theorem Jm{a b:List Int}(h:(Au a b).1=0)(ha:a.length*8≤140737488351232)(hb:b.length*8≤140737488351232):(Au a b).2.length *8≤140737488351232:=by
 unfold Au at h⊢;split
 ·simp
 ·split
  ·simp
  ·split
   ·simp
   ·rename_i h1 h2 h3
    have:=ED (a:=a.take (a.length-2)) (b:=b.take (b.length-2)) (by simpa using h3);rw[List.length_take,List.length_take]at this;simp only[List.length_append,List.length_cons,List.length_nil];omega
theorem Nb{x gone:List Int}{keep:Bool}(hx:∀z∈x,Bf z):∀k,k≤x.length→∀z∈Bg x gone keep k,Bf z:=by
 intro k
 induction k with
 | zero=>intro _ z hz;simp[Bg]at hz
 | succ k ih=>
  intro hk z hz;rw[Cx]at hz;rcases List.mem_append.1 hz with hz|hz
  ·exact ih (by omega) z hz
  ·unfold Ih at hz;split at hz
   ·split at hz
    ·obtain rfl:z=1:=by simpa using hz
     exact FK
    ·cases hz
   ·obtain rfl:z=x.getD k 0:=by simpa using hz
    exact hx _ (Am (by omega))
theorem ON{n:Nd}{x zs:List Int}(hx:∀z∈x,Bf z)(hl:x.length*8≤140737488351232)(h:A7 n x=some zs):zs.length*8≤140737488351232∧∀z∈zs,Bf z:=by
 unfold A7 at h;split at h
 ·cases h
 ·split at h
  ·obtain rfl:=Option.some.inj h;exact⟨by have:=ER x (by assumption) (decide (AH n.attrs CT 1=1)) x.length;omega,Nb hx _ (Nat.le_refl _)⟩
  ·cases h
theorem CW{w:World}{a:Option Addr}{c:Nat}{x:Vl}{ins:List Vl}(h:BJ 3 AM w (.slice a ins.length c) ins)(hi:ins[0]?=some x):∃b off vd,a=some ⟨b,off,none⟩∧w.cell? ⟨b,off+2,none⟩=some vd∧Aa w vd x.dims∧∀y,ins[1]?=some y→∃ve,w.cell? ⟨b,off+5,none⟩=some ve∧Aa w ve y.dims:=by
 obtain⟨b,off,cap,vd,hv,hb,_,_,c2,_,_,hd⟩:=Bm h (j:=0) (x:=x) hi;obtain⟨rfl,-,-⟩:=Value.slice.inj hv;refine⟨b,off,vd,rfl,by simpa using c2,hd,fun y hj=>?_⟩;obtain⟨b',off',cap',ve,hv',hb',_,_,c2',_,_,hd'⟩:=Bm h (j:=1) (x:=y) hj;obtain⟨e,-,-⟩:=Value.slice.inj hv';obtain⟨rfl,rfl⟩:b=b'∧off=off':=by simpa using e
 exact⟨ve,by simpa using c2',hd'⟩
def Hf(n:Nd)(x:List Int):Int×List Int:=AX (A7 n x)
def FY(n:Nd)(x:List Int):Int×List Int:=match Bq (AH n.attrs AB (-1)) x.length with |none=>(4,[])|some _=>(0,x)
theorem WV{n:Nd}{x:List Int}(h:Bq (AH n.attrs AB (-1)) x.length=none):FY n x=(4,[]):=by unfold FY;rw[h]
theorem UM{n:Nd}{x:List Int}{k:Int}(h:Bq (AH n.attrs AB (-1)) x.length=some k):FY n x=(0,x):=by unfold FY;rw[h]
attribute [local irreducible] Vb.Bx Au A7 Bq AH Ag
theorem FQ{w:World}{v:Value}{n:Nd}{x:Vl}{y:Vl}{ins:List Vl}(h:BF w v n ins)(hi:ins[0]?=some x)(hj:ins[1]?=some y)(hl:n.op.toList=[69,113,117,97,108]∨n.op.toList=[76,101,115,115]∨n.op.toList=[71,114,101,97,116,101,114]) :
  Calls Tryz.prog 20 #[v] w fun e w'=>AV w (Vb.Bx x.dims y.dims) e w':=by
 rcases hl with hl|hl|hl
 all_goals
  obtain⟨vin,vat,vv,rfl,hm⟩:=h;obtain⟨a1,c1,rfl⟩:=hm.node.is.form;obtain⟨a2,c2,rfl⟩:=hm.node.ia.form;obtain⟨a3,c3,rfl⟩:=hm.ins.form;have HM:=hid hm;obtain⟨bx,ox,vd,rfl,g0,hd,hy⟩:=CW hm.ins hi;clear hm;obtain⟨ve,g2,he⟩:=hy _ hj;have HE:=hid he;clear he;have hlen:1<ins.length:=(List.getElem?_eq_some_iff.1 hj).1;clear hi hj;clear hy;have HD:=hid hd;clear hd;have HY:=hid (fun(W:World)=>Ao W);have HNo:=hid (fun(W:World)=>Aw W);have g1:=Aj g0 (.cells #[.string n.op,.string n.name,.slice a1 n.ins.length c1,.string n.out,.slice a2 n.attrs.length c2,.slice (some ⟨bx,ox,none⟩) ins.length c3] 55);have g3:=Aj g2 (.cells #[.string n.op,.string n.name,.slice a1 n.ins.length c1,.string n.out,.slice a2 n.attrs.length c2,.slice (some ⟨bx,ox,none⟩) ins.length c3] 55);have HB1:=hid ((Below.refl w.heap.size w).alloc (Nat.le_refl _) (.cells #[.string n.op,.string n.name,.slice a1 n.ins.length c1,.string n.out,.slice a2 n.attrs.length c2,.slice (some ⟨bx,ox,none⟩) ins.length c3] 55));have HA1:=hid (Ac.new w #[.string n.op,.string n.name,.slice a1 n.ins.length c1,.string n.out,.slice a2 n.attrs.length c2,.slice (some ⟨bx,ox,none⟩) ins.length c3] 55);obtain⟨ad,cd,rfl⟩:=HD.out.shape;obtain⟨ae,ce,rfl⟩:=HE.out.shape;go_enter Tryz.func20,Tryz.ntmps20
  go_wp2_with fail
  generalize World.alloc w _=W1 at g1 g3 HB1 HA1⊢;refine(C0 (HD.out.below HB1.out) (HE.out.below HB1.out)).mono ?_;rintro e w2 hR;have hX:AV w (Vb.Bx x.dims y.dims) e w2:=hR.dim HB1.out (fun h0=>by have:=ED h0;have:=HD.out.wf.1;have:=HE.out.wf.1;omega) (FP HD.out.wf.2 HE.out.wf.2);have HX:=hid hX;clear hX;rcases hR with⟨_,⟨_,rfl⟩| ⟨_,v2,rfl,hr2⟩⟩
  ·exact⟨rfl,HX.out⟩
  ·clear hr2;go_wp2
   go_ret
   exact HX.out
theorem QC{w:World}{v:Value}{n:Nd}{x:Vl}{y:Vl}{ins:List Vl}(h:BF w v n ins)(hi:ins[0]?=some x)(hj:ins[1]?=some y)(hl:n.op.toList=[69,113,117,97,108]) :
  Calls Tryz.prog 20 #[v] w fun e w'=>AV w (Vb.Bx x.dims y.dims) e w':=
 FQ h hi hj (Or.inl hl)
theorem Td{w:World}{v:Value}{n:Nd}{x:Vl}{y:Vl}{ins:List Vl}(h:BF w v n ins)(hi:ins[0]?=some x)(hj:ins[1]?=some y)(hl:n.op.toList=[76,101,115,115]) :
  Calls Tryz.prog 20 #[v] w fun e w'=>AV w (Vb.Bx x.dims y.dims) e w':=
 FQ h hi hj (Or.inr (Or.inl hl))
theorem Nc{w:World}{v:Value}{n:Nd}{x:Vl}{y:Vl}{ins:List Vl}(h:BF w v n ins)(hi:ins[0]?=some x)(hj:ins[1]?=some y)(hl:n.op.toList=[71,114,101,97,116,101,114]) :
  Calls Tryz.prog 20 #[v] w fun e w'=>AV w (Vb.Bx x.dims y.dims) e w':=
 FQ h hi hj (Or.inr (Or.inr hl))
theorem UN{w:World}{v:Value}{n:Nd}{x:Vl}{ins:List Vl}(h:BF w v n ins)(hi:ins[0]?=some x)(hl:n.op.toList=[78,111,116]) :
  Calls Tryz.prog 20 #[v] w fun e w'=>AV w ((0,x.dims)) e w':=by
 obtain⟨vin,vat,vv,rfl,hm⟩:=h;obtain⟨a1,c1,rfl⟩:=hm.node.is.form;obtain⟨a2,c2,rfl⟩:=hm.node.ia.form;obtain⟨a3,c3,rfl⟩:=hm.ins.form;have HM:=hid hm;obtain⟨bx,ox,vd,rfl,g0,hd,hy⟩:=CW hm.ins hi;clear hm;have hlen:0<ins.length:=(List.getElem?_eq_some_iff.1 hi).1;clear hi;clear hy;have HD:=hid hd;clear hd;have HY:=hid (fun(W:World)=>Ao W);have HNo:=hid (fun(W:World)=>Aw W);have g1:=Aj g0 (.cells #[.string n.op,.string n.name,.slice a1 n.ins.length c1,.string n.out,.slice a2 n.attrs.length c2,.slice (some ⟨bx,ox,none⟩) ins.length c3] 55);have HB1:=hid ((Below.refl w.heap.size w).alloc (Nat.le_refl _) (.cells #[.string n.op,.string n.name,.slice a1 n.ins.length c1,.string n.out,.slice a2 n.attrs.length c2,.slice (some ⟨bx,ox,none⟩) ins.length c3] 55));have HA1:=hid (Ac.new w #[.string n.op,.string n.name,.slice a1 n.ins.length c1,.string n.out,.slice a2 n.attrs.length c2,.slice (some ⟨bx,ox,none⟩) ins.length c3] 55);obtain⟨ad,cd,rfl⟩:=HD.out.shape;go_enter Tryz.func20,Tryz.ntmps20
 go_wp2
 go_ret
 exact⟨HB1.out,Or.inr ⟨rfl,_,rfl,HD.out.below HB1.out⟩⟩
theorem Nf{w:World}{v:Value}{n:Nd}{x:Vl}{ins:List Vl}(h:BF w v n ins)(hi:ins[0]?=some x)(hl:n.op.toList=[83,111,102,116,109,97,120]) :
  Calls Tryz.prog 20 #[v] w fun e w'=>AV w (FY n x.dims) e w':=by
 obtain⟨vin,vat,vv,rfl,hm⟩:=h;obtain⟨a1,c1,rfl⟩:=hm.node.is.form;obtain⟨a2,c2,rfl⟩:=hm.node.ia.form;obtain⟨a3,c3,rfl⟩:=hm.ins.form;have HM:=hid hm;obtain⟨bx,ox,vd,rfl,g0,hd,hy⟩:=CW hm.ins hi;clear hm;have hlen:0<ins.length:=(List.getElem?_eq_some_iff.1 hi).1;clear hi;clear hy;have HD:=hid hd;clear hd;have HY:=hid (fun(W:World)=>Ao W);have HNo:=hid (fun(W:World)=>Aw W);have g1:=Aj g0 (.cells #[.string n.op,.string n.name,.slice a1 n.ins.length c1,.string n.out,.slice a2 n.attrs.length c2,.slice (some ⟨bx,ox,none⟩) ins.length c3] 55);have HB1:=hid ((Below.refl w.heap.size w).alloc (Nat.le_refl _) (.cells #[.string n.op,.string n.name,.slice a1 n.ins.length c1,.string n.out,.slice a2 n.attrs.length c2,.slice (some ⟨bx,ox,none⟩) ins.length c3] 55));have HA1:=hid (Ac.new w #[.string n.op,.string n.name,.slice a1 n.ins.length c1,.string n.out,.slice a2 n.attrs.length c2,.slice (some ⟨bx,ox,none⟩) ins.length c3] 55);obtain⟨ad,cd,rfl⟩:=HD.out.shape;go_enter Tryz.func20,Tryz.ntmps20
 go_wp2_with fail
 generalize hW1:World.alloc w _=W1 at g1 HB1 HA1⊢;clear hW1;have hxl:=HD.out.wf.1;refine(DC (n:=n) ⟨_,_,rfl,(HM.out.below HB1.out).node⟩ AB (-1)).mono ?_;rintro e w2⟨rfl,B2⟩;have HB2:=hid (HB1.out.trans (B2.mono HB1.out.size));have hz:=C7 (nm:=AB) (other:=-1) ⟨_,_,rfl,HM.out.node⟩ (by unfold Bf;decide);have HS1:=hid (fun h=>WV (n:=n) (x:=x.dims) h);have HS2:=hid (fun k h=>UM (n:=n) (x:=x.dims) (k:=k) h);generalize AH n.attrs AB (-1)=z at*;have HAx:=hid (Ia z x.dims.length hz (by omega) w2);clear B2 hz;go_wp2_with fail
 refine HAx.out.mono ?_;rintro e w3⟨hr,rfl⟩;cases ha:Bq z x.dims.length with
 | none=>
  rw[ha]at hr;obtain rfl:e=Em 4:=hr;have E:=hid (HS1.out ha);clear ha;exact⟨rfl,HB2.out,Or.inl ⟨by rw[E.out];decide,by rw[E.out]⟩⟩
 | some k=>
  rw[ha]at hr;obtain rfl:e=.returned (.int .i64 k):=hr;have E:=hid (HS2.out k ha);clear ha;go_wp2
  go_ret
  exact⟨HB2.out,Or.inr ⟨by rw[E.out],_,rfl,by rw[E.out];exact HD.out.below HB2.out⟩⟩
end
structure Ng(w:World)(B:Nat)(nm:ByteArray)(t:Int)(vd:Value)(e:Int):Prop where
 c0:w.cell? ⟨B,0,none⟩=some (.string nm)
 c1:w.cell? ⟨B,1,none⟩=some (.int .i64 t)
 c2:w.cell? ⟨B,2,none⟩=some vd
 c3:w.cell? ⟨B+1,0,none⟩=some (.int .i64 e)
 z0:w.frozen? ⟨B,0,none⟩=false
 z1:w.frozen? ⟨B,1,none⟩=false
 z2:w.frozen? ⟨B,2,none⟩=false
 z3:w.frozen? ⟨B+1,0,none⟩=false
theorem Ng.put{w:World}{B:Nat}{nm:ByteArray}{t:Int}{vd:Value}{e:Int}(h:Ng w B nm t vd e)(nm':ByteArray)(t':Int)(vd':Value)(e':Int) :
  Ng ((((w.setCell ⟨B,0,none⟩ (.string nm')).setCell ⟨B,1,none⟩ (.int .i64 t')).setCell ⟨B,2,none⟩ vd').setCell ⟨B+1,0,none⟩ (.int .i64 e')) B nm' t' vd' e':=by
 obtain⟨c0,c1,c2,c3,z0,z1,z2,z3⟩:=h;refine⟨?_,?_,?_,?_,?_,?_,?_,?_⟩<;>simp[go_sem,c0,c1,c2,c3,z0,z1,z2,z3]
theorem Ng.below{w w':World}{B:Nat}{nm:ByteArray}{t:Int}{vd:Value}{e:Int}(h:Ng w B nm t vd e)(hB:Below w.heap.size w w'):Ng w' B nm t vd e:=by
 obtain⟨c0,c1,c2,c3,z0,z1,z2,z3⟩:=h;have hb:B<w.heap.size:=Al c0;have hb1:B+1<w.heap.size:=Al c3;exact⟨(hB.cell (p:=⟨B,0,none⟩) hb).trans c0,(hB.cell (p:=⟨B,1,none⟩) hb).trans c1,(hB.cell (p:=⟨B,2,none⟩) hb).trans c2,(hB.cell (p:=⟨B+1,0,none⟩) hb1).trans c3,
  (hB.frozen (p:=⟨B,0,none⟩) hb).trans z0,(hB.frozen (p:=⟨B,1,none⟩) hb).trans z1,(hB.frozen (p:=⟨B,2,none⟩) hb).trans z2,(hB.frozen (p:=⟨B+1,0,none⟩) hb1).trans z3⟩
theorem Hg{w:World}{B:Nat}(a b c d:Value):Below B w ((((w.setCell ⟨B,0,none⟩ a).setCell ⟨B,1,none⟩ b).setCell ⟨B,2,none⟩ c).setCell ⟨B+1,0,none⟩ d):=
 ((((Below.refl B w).setCell (p:=⟨B,0,none⟩) (Nat.le_refl B) a).setCell (p:=⟨B,1,none⟩) (Nat.le_refl B) b).setCell (p:=⟨B,2,none⟩) (Nat.le_refl B) c).setCell (p:=⟨B+1,0,none⟩) (Nat.le_succ B) d
theorem Te(v:Value)(w:World):(Instr.typeAssert (.iface 46 v) 20 46 true).run Tryz.prog w=.ok (.tuple #[v,.bool true]) w:=by kernel_rfl
theorem KQ(p q:Addr)(w:World) :
  CallsD Tryz.prog 13 #[.pointer (some p),.pointer (some q)] .returning w fun e u' w'=>e=.returned (.tuple #[])∧u'=.returning∧w'=w:=by
 refine callsD_of_wpS Tryz.func13 rfl fun c₀ cs hu=>?_;apply wpS_seq;apply wpS_region;simp[wpOpsS,go_sem,recoverD,hu,Tryz.ntmps13,Exit.thenS];apply wpS_seq;apply wpS_region;simp[wpOpsS,go_sem,Exit.thenS,Array.replicate];refine wpS_cond (t:=false) (by simp[Act.eval,Array.replicate]) ?_;simp only[Bool.false_eq_true,if_false];refine wpS_of_wp (wp_skip ?_);cases c₀
 simp_all [bodyPostS,results,Tryz.results13]
theorem CI(B:Nat)(c:Int)(w:World){nm:ByteArray}{t x:Int}{vd:Value}(h:Ng w B nm t vd x) :
  CallsD Tryz.prog 13 #[.pointer (some ⟨B,0,none⟩),.pointer (some ⟨B+1,0,none⟩)] (.panicking [{ v:=.iface 46 (.int .i64 c),recovered:=false }]) w fun e u' w'=>
   e=.returned (.tuple #[])∧u'=.panicking [{ v:=.iface 46 (.int .i64 c),recovered:=true }]∧Ng w' B ⟨#[]⟩ 0 (.slice none 0 0) c∧Below B w w':=by
 have hP:=hid (h.put ⟨#[]⟩ 0 (.slice none 0 0) c);obtain⟨c0,c1,c2,c3,z0,z1,z2,z3⟩:=h;have hta:=Te;refine callsD_of_wpS Tryz.func13 rfl fun c₀ cs hu=>?_;apply wpS_seq;apply wpS_region;simp[wpOpsS,go_sem,recoverD,hu,Tryz.ntmps13,Exit.thenS];apply wpS_seq;apply wpS_region;simp[wpOpsS,go_sem,Exit.thenS,Array.replicate];refine wpS_cond (t:=true) (by simp[Act.eval,Array.replicate]) ?_;simp only[if_true];refine wpS_of_wp ?_;go_wp2
 exact⟨rfl,_,rfl,_,by simp[results,Tryz.results13],rfl,rfl,hP.out,Hg _ _ _ _⟩
section
open Go
section
variable {P:Program} {ops:Array Oper} {Q:Exit→Act→World→Prop} {md:Region.Mode} {S:World→Prop} {n:Nat}
theorem D9(hsel:Region.noSelect ops=true)(hs:Region.sinkB md ops n=true)(hc:Region.chainB md ops n=true)(hn:n<ops.size)
  (hQ:∀c (i:Nat) (o:Oper) (v:Value) a w,ops[i]?=some o→Q (.panic c) (a.put o.dst v) w→Q (.panic c) a w) :
  ∀(pl:List Nat) (listed:Array Bool) (a:Act) (w:World),HeadInv md ops n listed→FX md ops n pl listed=true→S w→CG P md ops Q S n pl a w→
   Ex P md ops Q S n (pl.length+(ops.size-n)) listed a w
 | [],listed,a,w,inv,hB,hS,h=>by
  have h1:=Dl (S:=S) (n:=n) (ops.toList.drop n) n listed a w (Nat.le_refl _) (fun j=>by simp[List.getElem?_drop]) (by simpa[FX]using hB) h
  simpa using h1
 | i::rest,listed,a,w,inv,hB,hS,h=>by
  unfold FX at hB;unfold CG at h;cases ho:ops[i]? with
  | none=>rw[ho]at hB;cases hB
  | some o=>
   rw[ho]at hB h;simp only[Bool.and_eq_true,decide_eq_true_eq]at hB;obtain⟨⟨hin,hr⟩,hB'⟩:=hB;rw[show(i::rest).length+(ops.size-n)=(rest.length+(ops.size-n))+1 by rw[List.length_cons];omega];cases hq:FF o with
   | true=>
    simp only[hq,if_true,Bool.and_eq_true]at hr h;obtain⟨v,hy,h⟩:=h;have hr':i∈Region.ready md ops listed:=by simpa using hr.1
    exact FE ho (Region.noSelect_spec hsel) hs hc hn hin (fun c a w h=>hQ c i o _ a w ho h) _ listed a w inv (Region.free_spec ho hr.2) hr' hy hS
     (D9 hsel hs hc hn hQ rest _ _ w (inv.set hr' hin) hB' hS h)
   | false=>
    simp only[hq,Bool.false_eq_true,if_false,decide_eq_true_eq]at hr h;refine⟨fun h1=>(by rw[hr]at h1;cases h1),fun j hj=>?_⟩;have hj':=hj;rw[hr]at hj;obtain rfl:j=i:=by simpa using hj
    exact wpOp_mono (fun a' w' h'=>⟨fun _=>h'.1,D9 hsel hs hc hn hQ rest _ a' w' (inv.set hj' hin) hB' h'.1 h'.2⟩) h
theorem JI{id:Nat}{a:Act}{w:World}(n:Nat)(pl:List Nat)(S:World→Prop)(hm:P.follows .mixedOrders=true)(hB:WK .any ops n pl=true)
  (hQ:∀c (i:Nat) (o:Oper) (v:Value) a w,ops[i]?=some o→Q (.panic c) (a.put o.dst v) w→Q (.panic c) a w) (hS:S w.drew) (h:CG P .any ops Q S n pl a w.drew):(Code.region id ops true).wp P Q a w:=by
 simp only[WK,Bool.and_eq_true,decide_eq_true_eq]at hB;obtain⟨⟨⟨⟨⟨hsel,hn⟩,hs⟩,hc⟩,hp⟩,hl⟩:=hB;have inv0:HeadInv .any ops n (Array.replicate ops.size false):=
  ⟨by simp,fun j oj _ hl=>(by rw[getD_replicate_false]at hl;cases hl),fun t _ ht=>getD_in (by simpa using ht) (getD_replicate_false _ _)⟩
 have H:=D9 hsel hs hc hn hQ pl _ a w.drew inv0 hp hS h;rw[hl,show n+(ops.size-n)=ops.size by omega]at H;exact wp_region_any hm (Ey _ _ _ _ H)
end
theorem FR{P:Program}{fn:Func}{t t':Array Value}{R:Ending→World→Prop}(h:∀w,(results fn t).run P w=(results fn t').run P w) :
  ∀(ds:List Deferred) (u:FrameMode) (w:World),Leaves P fn t R ds u w→Leaves P fn t' R ds u w
 | [],.returning,w,⟨v,hr,hR⟩=>⟨v,(h w).symm.trans hr,hR⟩
 | [],.panicking c,w,hl=>hl
 | [],.run,w,hl=>hl
 | d::ds,u,w,⟨hu,fv,cap,f,args,ht,hi,hc⟩=>⟨hu,fv,cap,f,args,ht,hi,hc.mono (fun e u' w' hx=>match e,hx with
   | .returned _,hx=>FR h ds _ _ hx
   | .panicked _,hx=>FR h ds _ _ hx
   | .outgrown,hx=>hx)⟩
end
section
def Dx(w:World)(n:Nd)(o:Int×Int×List Int)(e:Ending)(w':World):Prop:=
 Below w.heap.size w w'∧((o.1≠0∧e=.returned (.tuple #[.agg #[.string ⟨#[]⟩,.int .i64 0,.slice none 0 0],.int .i64 o.1]))∨
  (o.1=0∧∃v,e=.returned (.tuple #[.agg #[.string n.out,.int .i64 o.2.1,v],.int .i64 0])∧Ag w' w.heap.size v o.2.2))
theorem Dx.no{w w':World}{n:Nd}{o:Int×Int×List Int}{c:Int}(h:o=(c,0,[]))(hc:c≠0)(hB:Below w.heap.size w w'):Dx w n o (.returned (.tuple #[.agg #[.string ⟨#[]⟩,.int .i64 0,.slice none 0 0],.int .i64 c])) w':=by
 subst h;exact⟨hB,Or.inl ⟨hc,rfl⟩⟩
theorem Dx.yes{w w':World}{n:Nd}{o:Int×Int×List Int}{t:Int}{ds:List Int}{v:Value}(h:o=(0,t,ds))(hB:Below w.heap.size w w')(hr:Ag w' w.heap.size v ds):Dx w n o (.returned (.tuple #[.agg #[.string n.out,.int .i64 t,v],.int .i64 0])) w':=by
 subst h;exact⟨hB,Or.inr ⟨rfl,v,rfl,hr⟩⟩
theorem RR{l:List Vl}{k:Nat}(h:¬k<l.length):CP (l.drop k)=0:=by
 rw[List.drop_eq_nil_of_le (by omega)];rfl
theorem OO{l:List Vl}{k:Nat}{x:Vl}(hx:l[k]?=some x)(h:Cz x.typ 0=false):CP (l.drop k)=5:=by
 obtain⟨hk,rfl⟩:=List.getElem?_eq_some_iff.1 hx;rw[List.drop_eq_getElem_cons hk,CP];exact if_pos h
theorem OP{l:List Vl}{k:Nat}{x:Vl}(hx:l[k]?=some x)(h:Cz x.typ 0=true)(g:(AK x.dims).2≠0):CP (l.drop k)=(AK x.dims).2:=by
 obtain⟨hk,rfl⟩:=List.getElem?_eq_some_iff.1 hx;rw[List.drop_eq_getElem_cons hk,CP,if_neg (by rw[h];decide)];exact if_pos g
theorem OQ{l:List Vl}{k:Nat}{x:Vl}(hx:l[k]?=some x)(h:Cz x.typ 0=true)(g:(AK x.dims).2=0):CP (l.drop k)=CP (l.drop (k+1)):=by
 obtain⟨hk,rfl⟩:=List.getElem?_eq_some_iff.1 hx;rw[List.drop_eq_getElem_cons hk,CP,if_neg (by rw[h];decide),if_neg (fun c=>c g)]
theorem UO{w:World}{D B0 B:Nat}{v a b c d:Value}{zs:List Int}(h:Ag w D v zs)(hl:B+1<D)(hb:B0≤D) :
  Ag ((((w.setCell ⟨B,0,none⟩ a).setCell ⟨B,1,none⟩ b).setCell ⟨B,2,none⟩ c).setCell ⟨B+1,0,none⟩ d) B0 v zs:=by
 refine Ag.base (B:=D) ?_ hb;unfold Ag at*;exact ownsRow_setCell_below (ownsRow_setCell_below (ownsRow_setCell_below (ownsRow_setCell_below h (a:=⟨B,0,none⟩) (show B<D by omega) _) (a:=⟨B,1,none⟩) (show B<D by omega) _) (a:=⟨B,2,none⟩) (show B<D by omega) _) (a:=⟨B+1,0,none⟩) hl _
def QD(d:Option Tmp):Bool:=match d with |some k=>decide (k≠4∧k≠5)|none=>true
theorem QE{R:Ending→World→Prop}{u:FrameMode}{w:World}{a:Act}{dst:Option Tmp}(hd:QD dst=true)(v:Value)
  (h:Leaves Tryz.prog Tryz.f6 (a.put dst v).tmps R (a.put dst v).defers u w):Leaves Tryz.prog Tryz.f6 a.tmps R a.defers u w:=by
 cases dst with
 | none=>exact h
 | some k=>
  have hk:k≠4∧k≠5:=by simpa[QD]using hd
  refine FR (fun W=>?_) _ _ _ h;have e4:(a.tmps.setIfInBounds k v).getD 4 undef=a.tmps.getD 4 undef:=by
   simp[Array.getD_eq_getD_getElem?,Array.getElem?_setIfInBounds,hk.1]
  have e5:(a.tmps.setIfInBounds k v).getD 5 undef=a.tmps.getD 5 undef:=by
   simp[Array.getD_eq_getD_getElem?,Array.getElem?_setIfInBounds,hk.2]
  show(results Tryz.f6 (a.tmps.setIfInBounds k v)).run Tryz.prog W=_;unfold results;rw[Tryz.results6];simp only[e4,e5,List.mapM_toArray,List.mapM_cons,List.mapM_nil]
attribute [local irreducible] AK Cz AA CP EM FO AU Ag
theorem Nh{w:World}{vn vv:Value}{n:Nd}{ins:List Vl}(hn:Ba w vn n)(hs:BJ 3 AM w vv ins)(hG:Eu w){ty:Int×Int}{ds:Int×List Int}
  (hT:AA n=0→ins.length=n.ins.length→CP ins=0→∀(W:World) (v:Value),Below w.heap.size w W→BF W v n ins→Calls Tryz.prog 19 #[v] W fun e w'=>CB ty e∧Below W.heap.size W w')
  (hD:AA n=0→ins.length=n.ins.length→CP ins=0→ty.1=0→∀(W:World) (v:Value),Below w.heap.size w W→BF W v n ins→Calls Tryz.prog 20 #[v] W fun e w'=>AV W ds e w') :
  Calls Tryz.prog 6 #[vn,vv] w fun e w'=>Dx w n (EM n ins ty ds) e w':=by
 have hmf:∀(fn:Fn) (first cap:Array Value) (w:World),(Instr.makeFunc fn first cap).run Tryz.prog w=.ok (.func fn first cap) w:=fun _ _ _ _=>rfl;obtain⟨vin,vat,rfl,hm⟩:=hn;obtain⟨a1,c1,rfl⟩:=hm.is.form;obtain⟨a2,c2,rfl⟩:=hm.ia.form;obtain⟨a3,c3,rfl⟩:=hs.form;have hil:=hs.len;have hnl:=hm.is.len;have HN:=hid hm;have HS:=hid hs;have HG:=hid hG;have HT:=hid hT;have HD:=hid hD;clear hm hs hG hT hD;have HY:=hid (fun(W:World)=>Ao W);have HNo:=hid (fun(W:World)=>Aw W);have HGY:=hid (fun(W:World)=>Of W);have HGN:=hid (fun(W:World) (c:Int) (h:c≠0)=>RH c h W);unfold Nd.val;go_enter_defers Tryz.func6,Tryz.ntmps6
 go_wp2_with fail
 have HB1:Hid (Below w.heap.size w (((w.alloc (Obj.cells #[.string n.op,.string n.name,.slice a1 n.ins.length c1,.string n.out,.slice a2 n.attrs.length c2] 25)).alloc (Obj.cells #[.string ⟨#[]⟩,.int .i64 0,.slice none 0 0] 31)).alloc (Obj.cells #[.int .i64 0] 32))):=hid ((((Below.refl _ w).alloc (Nat.le_refl _) _).alloc (by simp) _).alloc (by simp;omega) _);have HND:Hid (Ac (((w.alloc (Obj.cells #[.string n.op,.string n.name,.slice a1 n.ins.length c1,.string n.out,.slice a2 n.attrs.length c2] 25)).alloc (Obj.cells #[.string ⟨#[]⟩,.int .i64 0,.slice none 0 0] 31)).alloc (Obj.cells #[.int .i64 0] 32)) w.heap.size #[.string n.op,.string n.name,.slice a1 n.ins.length c1,.string n.out,.slice a2 n.attrs.length c2] 25):=hid ((Ac.new w #[.string n.op,.string n.name,.slice a1 n.ins.length c1,.string n.out,.slice a2 n.attrs.length c2] 25).below' (((Below.refl _ _).alloc (Nat.le_refl _) _).alloc (by simp) _));have HOC:Hid (Ng (((w.alloc (Obj.cells #[.string n.op,.string n.name,.slice a1 n.ins.length c1,.string n.out,.slice a2 n.attrs.length c2] 25)).alloc (Obj.cells #[.string ⟨#[]⟩,.int .i64 0,.slice none 0 0] 31)).alloc (Obj.cells #[.int .i64 0] 32)) (w.heap.size+1) ⟨#[]⟩ 0 (.slice none 0 0) 0):=hid ⟨by simp[go_sem],by simp[go_sem],by simp[go_sem],by simp[go_sem],by simp[go_sem],by simp[go_sem],by simp[go_sem],by simp[go_sem]⟩;generalize World.alloc (World.alloc (World.alloc w _) _) _=W1 at HB1 HND HOC⊢;refine(Qn (n:=n) ⟨_,_,rfl,HN.out.below HB1.out⟩ (HG.out.below HB1.out)).mono ?_;rintro e w2⟨rfl,B2⟩;have HB2:Hid (Below W1.heap.size W1 w2):=hid B2;clear B2;have HO1:=hid (fun h=>He (n:=n) (ins:=ins) (ty:=ty) (ds:=ds) h);obtain⟨r,hr⟩:∃r,AA n=r:=⟨_,rfl⟩;by_cases hz:r=0
 case neg=>
  have HR:Hid (EM n ins ty ds=(r,0,[])):=hid (by rw[HO1.out (by rw[hr];exact hz),hr]);have HZ:=hid hz;rw[hr];clear hr hz;go_wp2_with fail
  refine(HGN.out _ _ HZ.out).mono ?_;rintro e w'⟨rfl,rfl⟩;refine leaves_cons (f:=13) (args:=#[.pointer (some ⟨w.heap.size+1,0,none⟩),.pointer (some ⟨w.heap.size+1+1,0,none⟩)]) (by simp) (by simp[go_sem]) ?_;refine(CI (w.heap.size+1) r _ (HOC.out.below HB2.out)).mono ?_;rintro e u' w''⟨rfl,rfl,hC',hB'⟩;obtain⟨k0,k1,k2,k3,-,-,-,-⟩:=hC';simp[Leaves,settle,results,Tryz.results6,go_sem,k0,k1,k2,k3];exact Dx.no HR.out HZ.out ((HB1.out.trans (HB2.out.mono HB1.out.size)).trans (hB'.mono (Nat.le_succ _)))
 subst hz;have HCk:=hid hr;rw[hr];clear hr HO1;go_wp2_with fail
 refine(HGY.out _).mono ?_;rintro e w'⟨rfl,rfl⟩;obtain⟨k0,k1,k2,k3,k4⟩:=(HND.out.below' HB2.out).five;by_cases hl:ins.length=n.ins.length
 case neg=>
  have HR:Hid (EM n ins ty ds=(4,0,[])):=hid (KM HCk.out hl);have hb:((ins.length:Int)==(n.ins.length:Int))=false:=by simp;omega
  clear hl;go_wp2_with fail
  refine(HNo.out _).mono ?_;rintro e w'⟨rfl,rfl⟩;refine leaves_cons (f:=13) (args:=#[.pointer (some ⟨w.heap.size+1,0,none⟩),.pointer (some ⟨w.heap.size+1+1,0,none⟩)]) (by simp) (by simp[go_sem]) ?_;refine(CI (w.heap.size+1) 4 _ (HOC.out.below HB2.out)).mono ?_;rintro e u' w''⟨rfl,rfl,hC',hB'⟩;obtain⟨k0,k1,k2,k3,-,-,-,-⟩:=hC';simp[Leaves,settle,results,Tryz.results6,go_sem,k0,k1,k2,k3];exact Dx.no HR.out (by decide) ((HB1.out.trans (HB2.out.mono HB1.out.size)).trans (hB'.mono (Nat.le_succ _)))
 have HLn:=hid hl;have hb:((ins.length:Int)==(n.ins.length:Int))=true:=by simp;omega
 clear hl;go_wp2_with fail
 refine(HY.out _).mono ?_;rintro e w'⟨rfl,rfl⟩;go_wp2_with fail
 clear hb k0 k1 k2 k3 k4;generalize hWq:w'=W2 at*;clear hWq;go_loopw [28] (fun i wr=>∃k:Nat,k≤ins.length∧i=.int .i64 (k:Int)∧Hid (CP ins=CP (ins.drop k))∧Hid (Below W1.heap.size W1 wr)) (fun i _=>ins.length-(intOf i).toNat)
 case atStart=>exact⟨0,Nat.zero_le _,rfl,hid rfl,HB2⟩
 case round=>
  obtain⟨k,hk,rfl,hE,hW⟩:=hrel;have hBw:=hid (HB1.out.trans (hW.out.mono HB1.out.size));by_cases hkl:k<ins.length
  ·have hki:(k:Int)<(ins.length:Int):=by omega
   obtain⟨x,hx⟩:∃x,ins[k]?=some x:=⟨_,List.getElem?_eq_getElem hkl⟩;obtain⟨b,off,cap,vd,hv,hb,c0,c1',c2',h1,h2,h3⟩:=Bm HS.out hx;obtain⟨rfl,hle,rfl⟩:=Value.slice.inj hv;clear hle hv h1;have c0:=(hBw.out.cell (p:=⟨b,off+k*3,none⟩) hb).trans c0;have c1':=(hBw.out.cell (p:=⟨b,off+k*3+1,none⟩) hb).trans c1';have c2':=(hBw.out.cell (p:=⟨b,off+k*3+2,none⟩) hb).trans c2';have HX:=hid hx;have HDm:=hid (h3.below hBw.out);obtain⟨t0,t1⟩:=h2;clear hx h3;obtain⟨ad,cd,rfl⟩:=HDm.out.shape;go_wp2_with fail
   have HW3:Hid (Below W1.heap.size W1 (wr.alloc (Obj.cells #[.string x.name,.int .i64 x.typ,.slice ad x.dims.length cd] 31))):=hid (hW.out.alloc hW.out.size _);have HP3:=hid (Ac.new wr #[.string x.name,.int .i64 x.typ,.slice ad x.dims.length cd] 31);have HDm3:=hid (HDm.out.below ((Below.refl _ wr).alloc (Nat.le_refl _) (Obj.cells #[.string x.name,.int .i64 x.typ,.slice ad x.dims.length cd] 31)));generalize wr.alloc _=w3 at HW3 HP3 HDm3⊢;clear c0 c1' c2' HDm t0 t1
   with_reducible refine(Gx x.typ 0 (by decide) (by decide) w3).mono ?_
   rintro e w'⟨rfl,rfl⟩;cases hc:Cz x.typ 0 with
   | false=>
    have HI:=hid (hE.out.trans (OO HX.out hc));have HR:Hid (EM n ins ty ds=(5,0,[])):=hid (by rw[Il HCk.out HLn.out (by rw[HI.out];decide),HI.out]);clear hc HI;obtain⟨k0,k1,k2,k3,z0,z1,z2,z3⟩:=HOC.out.below HW3.out;go_wp2
    have hput:=(HOC.out.below HW3.out).put ⟨#[]⟩ 0 (.slice none 0 0) 5;clear k0 k1 k2 k3 z0 z1 z2 z3;refine leaves_cons (f:=13) (args:=#[.pointer (some ⟨w.heap.size+1,0,none⟩),.pointer (some ⟨w.heap.size+1+1,0,none⟩)]) (by simp) (by simp[go_sem]) ?_;refine(KQ _ _ _).mono ?_;rintro e u' w''⟨rfl,rfl,rfl⟩;obtain⟨k0,k1,k2,k3,-,-,-,-⟩:=hput;simp[Leaves,settle,results,Tryz.results6,go_sem,k0,k1,k2,k3];exact Dx.no HR.out (by decide) ((HB1.out.trans (HW3.out.mono HB1.out.size)).trans ((Hg _ _ _ _).mono (Nat.le_succ _)))
   | true=>
    have HC:=hid hc;clear hc;have p2:=HP3.out.cell 2 rfl;go_wp2_with fail
    refine(C6 HDm3.out).mono ?_;rintro e w4⟨rfl,B4⟩;have HW4:=hid (HW3.out.trans (B4.mono HW3.out.size));clear B4 p2;obtain⟨ce,hce⟩:∃ce,(AK x.dims).2=ce:=⟨_,rfl⟩;generalize (AK x.dims).1=cf;by_cases hz:ce=0
    ·subst hz;have HN2:=hid (hE.out.trans (OQ HX.out HC.out hce));rw[hce];clear hce;go_wp2_with fail
     refine(HGY.out _).mono ?_;rintro e w'⟨rfl,rfl⟩;go_wp2
     go_roundw
     case rel=>exact⟨k+1,by omega,by go_num,HN2,HW4⟩
     case measure=>simp[intOf];omega
    ·have HI:=hid (hE.out.trans (OP HX.out HC.out (by rw[hce];exact hz)));have HR:Hid (EM n ins ty ds=(ce,0,[])):=hid (by rw[Il HCk.out HLn.out (by rw[HI.out,hce];exact hz),HI.out,hce]);have HZ:=hid hz;rw[hce];clear hce hz HI;go_wp2_with fail
     refine(HGN.out _ _ HZ.out).mono ?_;rintro e w'⟨rfl,rfl⟩;refine leaves_cons (f:=13) (args:=#[.pointer (some ⟨w.heap.size+1,0,none⟩),.pointer (some ⟨w.heap.size+1+1,0,none⟩)]) (by simp) (by simp[go_sem]) ?_;refine(CI (w.heap.size+1) ce _ (HOC.out.below HW4.out)).mono ?_;rintro e u' w''⟨rfl,rfl,hC',hB'⟩;obtain⟨k0,k1,k2,k3,-,-,-,-⟩:=hC';simp[Leaves,settle,results,Tryz.results6,go_sem,k0,k1,k2,k3];exact Dx.no HR.out HZ.out ((HB1.out.trans (HW4.out.mono HB1.out.size)).trans (hB'.mono (Nat.le_succ _)))
  ·have hki:¬(k:Int)<(ins.length:Int):=by omega
   obtain rfl:k=ins.length:=by omega
   have HI0:Hid (CP ins=0):=hid (hE.out.trans (RR (Nat.lt_irrefl _)));clear hE HB2;obtain⟨k0,k1,k2,k3,k4⟩:=(HND.out.below' hW.out).five;go_wp2_with fail
   clear k0 k1 k2 k3 k4;have HW5:Hid (Below W1.heap.size W1 (wr.alloc (Obj.cells #[.string n.op,.string n.name,.slice a1 n.ins.length c1,.string n.out,.slice a2 n.attrs.length c2,.slice a3 ins.length c3] 55))):=hid (hW.out.alloc hW.out.size _);have HP5:=hid (Ac.new wr #[.string n.op,.string n.name,.slice a1 n.ins.length c1,.string n.out,.slice a2 n.attrs.length c2,.slice a3 ins.length c3] 55);generalize wr.alloc _=w5 at HW5 HP5⊢;generalize wr.heap.size=bM at HP5⊢;have HMk:Hid (∀W,Below W1.heap.size W1 W→BF W (.agg #[.string n.op,.string n.name,.slice a1 n.ins.length c1,.string n.out,.slice a2 n.attrs.length c2,.slice a3 ins.length c3]) n ins):=hid fun W hB=>⟨_,_,_,rfl,HN.out.below (HB1.out.trans (hB.mono HB1.out.size)),HS.out.below (AZ (HB1.out.trans (hB.mono HB1.out.size))) (HB1.out.trans (hB.mono HB1.out.size))⟩;clear hW hBw HS;refine(HT.out HCk.out HLn.out HI0.out _ _ (HB1.out.trans (HW5.out.mono HB1.out.size)) (HMk.out _ HW5.out)).mono ?_;rintro e w6⟨hty,B6⟩;have HW6:=hid (HW5.out.trans (B6.mono HW5.out.size));have HP6:=hid (HP5.out.below' B6);clear B6 HW5 HP5 HT;rcases hty with⟨hz,rfl⟩| ⟨hz,rfl⟩
   ·have HR:=hid (Im (ds:=ds) HCk.out HLn.out HI0.out hz);have HZ:=hid hz;clear hz;refine leaves_cons (f:=13) (args:=#[.pointer (some ⟨w.heap.size+1,0,none⟩),.pointer (some ⟨w.heap.size+1+1,0,none⟩)]) (by simp) (by simp[go_sem]) ?_;refine(CI (w.heap.size+1) ty.1 _ (HOC.out.below HW6.out)).mono ?_;rintro e u' w''⟨rfl,rfl,hC',hB'⟩;obtain⟨k0,k1,k2,k3,-,-,-,-⟩:=hC';simp[Leaves,settle,results,Tryz.results6,go_sem,k0,k1,k2,k3];exact Dx.no HR.out HZ.out ((HB1.out.trans (HW6.out.mono HB1.out.size)).trans (hB'.mono (Nat.le_succ _)))
   have HTy:=hid hz;clear hz;obtain⟨k0,k1,k2,k3,k4,k5⟩:=HP6.out.six;go_wp2_with fail
   clear k0 k1 k2 k3 k4 k5;refine(HD.out HCk.out HLn.out HI0.out HTy.out _ _ (HB1.out.trans (HW6.out.mono HB1.out.size)) (HMk.out _ HW6.out)).mono ?_;rintro e w7⟨B7,hc⟩;have HW7:=hid (HW6.out.trans (B7.mono HW6.out.size));have HP7:=hid (HP6.out.below' B7);clear B7 HW6 HP6 HD;rcases hc with⟨hz,rfl⟩| ⟨hz,v7,rfl,hi7⟩
   ·have HR:=hid (IS HCk.out HLn.out HI0.out HTy.out hz);have HZ:=hid hz;clear hz;refine leaves_cons (f:=13) (args:=#[.pointer (some ⟨w.heap.size+1,0,none⟩),.pointer (some ⟨w.heap.size+1+1,0,none⟩)]) (by simp) (by simp[go_sem]) ?_;refine(CI (w.heap.size+1) ds.1 _ (HOC.out.below HW7.out)).mono ?_;rintro e u' w''⟨rfl,rfl,hC',hB'⟩;obtain⟨k0,k1,k2,k3,-,-,-,-⟩:=hC';simp[Leaves,settle,results,Tryz.results6,go_sem,k0,k1,k2,k3];exact Dx.no HR.out HZ.out ((HB1.out.trans (HW7.out.mono HB1.out.size)).trans (hB'.mono (Nat.le_succ _)))
   have HDz:=hid hz;have HI7:=hid hi7;clear hz;obtain⟨ad,cd,rfl⟩:=hi7.shape;have hdl:=hi7.wf.1;clear hi7;go_wp2_with fail
   refine(C6 HI7.out).mono ?_;rintro e w8⟨rfl,B8⟩;have HW8:=hid (HW7.out.trans (B8.mono HW7.out.size));have HP8:=hid (HP7.out.below' B8);have HI8:=hid (HI7.out.below B8);clear B8 HW7 HP7 HI7;obtain⟨ce,hce⟩:∃ce,(AK ds.2).2=ce:=⟨_,rfl⟩;generalize (AK ds.2).1=cf;by_cases hz:ce=0
   case neg=>
    have HR:Hid (EM n ins ty ds=(ce,0,[])):=hid (by rw[KN HCk.out HLn.out HI0.out HTy.out HDz.out (by rw[hce];exact hz),hce]);have HZ:=hid hz;rw[hce];clear hce hz;go_wp2_with fail
    refine(HGN.out _ _ HZ.out).mono ?_;rintro e w'⟨rfl,rfl⟩;refine leaves_cons (f:=13) (args:=#[.pointer (some ⟨w.heap.size+1,0,none⟩),.pointer (some ⟨w.heap.size+1+1,0,none⟩)]) (by simp) (by simp[go_sem]) ?_;refine(CI (w.heap.size+1) ce _ (HOC.out.below HW8.out)).mono ?_;rintro e u' w''⟨rfl,rfl,hC',hB'⟩;obtain⟨k0,k1,k2,k3,-,-,-,-⟩:=hC';simp[Leaves,settle,results,Tryz.results6,go_sem,k0,k1,k2,k3];exact Dx.no HR.out HZ.out ((HB1.out.trans (HW8.out.mono HB1.out.size)).trans (hB'.mono (Nat.le_succ _)))
   subst hz;have HCe:=hid hce;rw[hce];clear hce;go_wp2_with fail
   refine(HGY.out _).mono ?_;rintro e w'⟨rfl,rfl⟩;obtain⟨k0,k1,k2,k3,k4,k5⟩:=HP8.out.six;go_wp2_with fail
   clear k0 k1 k2 k3 k4 k5 HP8;refine(Tc ty.2 (HMk.out _ HW8.out) (HG.out.below (HB1.out.trans (HW8.out.mono HB1.out.size)))).mono ?_;rintro e w9⟨hf,B9⟩;have HW9:=hid (HW8.out.trans (B9.mono HW8.out.size));have HI9:=hid (HI8.out.below B9);clear B9 HW8 HI8;rcases hf with⟨hf,rfl⟩| ⟨hf,rfl⟩
   case inr=>
    have HR:=hid (KO HCk.out HLn.out HI0.out HTy.out HDz.out HCe.out hf);clear hf;refine leaves_cons (f:=13) (args:=#[.pointer (some ⟨w.heap.size+1,0,none⟩),.pointer (some ⟨w.heap.size+1+1,0,none⟩)]) (by simp) (by simp[go_sem]) ?_;refine(CI (w.heap.size+1) 4 _ (HOC.out.below HW9.out)).mono ?_;rintro e u' w''⟨rfl,rfl,hC',hB'⟩;obtain⟨k0,k1,k2,k3,-,-,-,-⟩:=hC';simp[Leaves,settle,results,Tryz.results6,go_sem,k0,k1,k2,k3];exact Dx.no HR.out (by decide) ((HB1.out.trans (HW9.out.mono HB1.out.size)).trans (hB'.mono (Nat.le_succ _)))
   have HR:=hid (M9 HCk.out HLn.out HI0.out HTy.out HDz.out HCe.out hf);clear hf;go_wp2_with fail
   refine JI 5 [0,1,2,3,4] (fun W'=>Below w9.heap.size w9 W') (by kernel_rfl) (by kernel_rfl) (fun c i o v a W ho hL=>?hQ) (Below.refl _ _).drew ?_
   case hQ=>
    have hd:QD o.dst=true:=by
     rcases i with _|_|_|_|_|_|_|_|i
     all_goals first|(simp at ho;subst ho;rfl)|(simp at ho)
    exact QE hd v hL
   have B0:Hid (Below w9.heap.size w9 w9.drew):=hid (Below.refl _ _).drew;generalize w9.drew=wD at B0⊢
   repeat
    refine Ah (v:=?_) rfl rfl (Or.inl ⟨by rfl,?_⟩) ?_;rotate_left
    ·intro W' hSw;obtain⟨k0,k1,k2,k3,k4⟩:=(HND.out.below' (HW9.out.trans (hSw.mono HW9.out.size))).five;go_simp
     try with_reducible rfl
    try simp only[Act.put,List.getElem_toArray,List.getElem_cons_zero,List.getElem_cons_succ,List.setIfInBounds_toArray,List.set_cons_zero,List.set_cons_succ]
   refine Av rfl rfl (fun K' hK=>?_);go_simp
   refine(Vb.Cv (HI9.out.below B0.out)).mono ?_;rintro e w10⟨v10,rfl,hr10,B10⟩;have HB10:=hid (B0.out.trans (B10.mono B0.out.size));have HW10:=hid (HW9.out.trans (HB10.out.mono HW9.out.size));have HRow:Hid (Ag w10 w.heap.size v10 ds.2):=hid (by
    have h1:Ag w10 wD.heap.size v10 ds.2:=by unfold Ag;exact hr10
    exact h1.base (Nat.le_trans HB1.out.size (Nat.le_trans HW9.out.size B0.out.size)))
   have HRD:Hid (Ag w10 wD.heap.size v10 ds.2):=hid (by unfold Ag;exact hr10);have HLt:Hid (w.heap.size+1+1<wD.heap.size):=hid (Nat.lt_of_lt_of_le (Al HOC.out.c3) (Nat.le_trans HW9.out.size B0.out.size));obtain⟨a10,c10,rfl⟩:=HRow.out.form;clear hr10 B10;refine hK.out _ _ HB10.out ?_;clear hK K';refine Aq rfl ?_;simp only[List.toList_toArray,List.drop_succ_cons,List.drop_zero];obtain⟨k0,k1,k2,k3,z0,z1,z2,z3⟩:=HOC.out.below HW10.out;go_wp2
   clear k0 k1 k2 k3 z0 z1 z2 z3;have hput:=(HOC.out.below HW10.out).put n.out ty.2 (.slice a10 ds.2.length c10) 0;refine leaves_cons (f:=13) (args:=#[.pointer (some ⟨w.heap.size+1,0,none⟩),.pointer (some ⟨w.heap.size+1+1,0,none⟩)]) (by simp) (by simp[go_sem]) ?_;refine(KQ _ _ _).mono ?_;rintro e u' w''⟨rfl,rfl,rfl⟩;obtain⟨k0,k1,k2,k3,-,-,-,-⟩:=hput;simp[Leaves,settle,results,Tryz.results6,go_sem,k0,k1,k2,k3];have HBp:Hid (Below w.heap.size w10 ((((w10.setCell ⟨w.heap.size+1,0,none⟩ (.string n.out)).setCell ⟨w.heap.size+1,1,none⟩ (.int .i64 ty.2)).setCell ⟨w.heap.size+1,2,none⟩ (.slice a10 ds.2.length c10)).setCell ⟨w.heap.size+1+1,0,none⟩ (.int .i64 0))):=hid ((Hg _ _ _ _).mono (Nat.le_succ _));exact Dx.yes HR.out ((HB1.out.trans (HW10.out.mono HB1.out.size)).trans HBp.out) (UO HRD.out HLt.out (Nat.le_trans HB1.out.size (Nat.le_trans HW9.out.size B0.out.size)))
end
section
attribute [local irreducible] Fc Dg CH DF Dh Ci Fl.Eh Fl.un
theorem C9{w:World}{v:Value}{n:Nd}{x:Vl}{ins:List Vl}(h:BF w v n ins)(hi:ins[0]?=some x)(hl:n.op.toList=[65,100,100]∨n.op.toList=[83,117,98]∨n.op.toList=[77,117,108]∨n.op.toList=[68,105,118]∨n.op.toList=[77,97,120]∨n.op.toList=[77,105,110]∨n.op.toList=[65,110,100]∨n.op.toList=[79,114]∨n.op.toList=[88,111,114]) :
  Calls Tryz.prog 19 #[v] w fun e w'=>CB (Dg (Fl.Eh n.op.toList x.typ 0 0).2 (Ci ins x.typ) x.typ) e∧Below w.heap.size w w':=by
 rcases hl with hl|hl|hl|hl|hl|hl|hl|hl|hl
 all_goals
  obtain⟨vin,vat,vv,rfl,hm⟩:=h;obtain⟨a1,c1,rfl⟩:=hm.node.is.form;obtain⟨a2,c2,rfl⟩:=hm.node.ia.form;obtain⟨a3,c3,rfl⟩:=hm.ins.form;have HM:=hid hm;obtain⟨bx,ox,rfl,g0⟩:=DK hm.ins hi;have hlen:0<ins.length:=(List.getElem?_eq_some_iff.1 hi).1;clear hm hi;have HY:=hid (fun(W:World)=>Ao W);have HNo:=hid (fun(W:World)=>Aw W);have g1:=Aj g0 (.cells #[.string n.op,.string n.name,.slice a1 n.ins.length c1,.string n.out,.slice a2 n.attrs.length c2,.slice (some ⟨bx,ox,none⟩) ins.length c3] 55);have HB1:=hid ((Below.refl w.heap.size w).alloc (Nat.le_refl _) (.cells #[.string n.op,.string n.name,.slice a1 n.ins.length c1,.string n.out,.slice a2 n.attrs.length c2,.slice (some ⟨bx,ox,none⟩) ins.length c3] 55));have HA1:=hid (Ac.new w #[.string n.op,.string n.name,.slice a1 n.ins.length c1,.string n.out,.slice a2 n.attrs.length c2,.slice (some ⟨bx,ox,none⟩) ins.length c3] 55);obtain⟨b6,d6⟩:∃b,(x.typ==6)=b:=⟨_,rfl⟩;cases b6
  all_goals
   go_enter Tryz.func19,Tryz.ntmps19
   go_wp2_with fail
   have HBi:=hid (fun(W:World)=>Nm.Ji n.op x.typ W);have HAl:=hid (fun(W:World) (hW:Below w.heap.size w W)=>Fs (w:=W) (v:=.agg #[.string n.op,.string n.name,.slice a1 n.ins.length c1,.string n.out,.slice a2 n.attrs.length c2,.slice (some ⟨bx,ox,none⟩) ins.length c3]) x.typ ⟨_,_,_,rfl,HM.out.below hW⟩);generalize World.alloc w _=W1 at g1 HB1 HA1⊢
   with_reducible refine(HBi.out _).mono ?_
   rintro e w2⟨r1,rfl,B2⟩;have B2:Below W1.heap.size W1 w2:=B2;have HB2:=hid (HB1.out.trans (B2.mono HB1.out.size));obtain⟨k0,k1,k2,k3,k4,k5⟩:=(HA1.out.below' B2).six;clear B2 HBi HA1 HB1 g1 g0;obtain⟨r2,hr2⟩:∃r2,(Fl.Eh n.op.toList x.typ 0 0).2=r2:=⟨_,rfl⟩;have HR2:=hid hr2;rw[hr2];clear hr2;by_cases hr:r2=1
   ·skip
    have HR:=hid hr;have hb:(r2 != 1)=false:=by simp[hr]
    clear hr;go_wp2_with fail
    refine(HNo.out _).mono ?_;rintro e w'⟨rfl,rfl⟩;exact⟨rfl,CB.no (UJ (by rw[HR2.out];exact HR.out)),HB2.out⟩
   ·skip
    have HR:=hid hr;have hb:(r2 != 1)=true:=by simpa using hr
    clear hr;go_wp2_with fail
    refine(HAl.out _ HB2.out).mono ?_;rintro e w3⟨rfl,B3⟩;have HB3:=hid (HB2.out.trans (B3.mono HB2.out.size));clear B3 k0 k1 k2 k3 k4 k5;rw[show(!(ins.any fun y=>y.typ != x.typ))=Ci ins x.typ by unfold Ci;rfl];cases hal:Ci ins x.typ with
    | false=>
     have HL:=hid hal;clear hal;go_wp2_with fail
     refine(HNo.out _).mono ?_;rintro e w'⟨rfl,rfl⟩;exact⟨rfl,CB.no (WU HL.out),HB3.out⟩
    | true=>
     have HL:=hid hal;clear hal;go_wp2_with fail
     refine(HY.out _).mono ?_;rintro e w'⟨rfl,rfl⟩;go_wp2
     go_ret
     exact⟨CB.yes (UK (by rw[HR2.out];exact HR.out) HL.out),HB3.out⟩
theorem WW{w:World}{v:Value}{n:Nd}{x:Vl}{ins:List Vl}(h:BF w v n ins)(hi:ins[0]?=some x)(hl:n.op.toList=[65,100,100]) :
  Calls Tryz.prog 19 #[v] w fun e w'=>CB (Dg (Fl.Eh n.op.toList x.typ 0 0).2 (Ci ins x.typ) x.typ) e∧Below w.heap.size w w':=
 C9 h hi (Or.inl hl)
theorem WX{w:World}{v:Value}{n:Nd}{x:Vl}{ins:List Vl}(h:BF w v n ins)(hi:ins[0]?=some x)(hl:n.op.toList=[83,117,98]) :
  Calls Tryz.prog 19 #[v] w fun e w'=>CB (Dg (Fl.Eh n.op.toList x.typ 0 0).2 (Ci ins x.typ) x.typ) e∧Below w.heap.size w w':=
 C9 h hi (Or.inr (Or.inl hl))
theorem WY{w:World}{v:Value}{n:Nd}{x:Vl}{ins:List Vl}(h:BF w v n ins)(hi:ins[0]?=some x)(hl:n.op.toList=[77,117,108]) :
  Calls Tryz.prog 19 #[v] w fun e w'=>CB (Dg (Fl.Eh n.op.toList x.typ 0 0).2 (Ci ins x.typ) x.typ) e∧Below w.heap.size w w':=
 C9 h hi (Or.inr (Or.inr (Or.inl hl)))
theorem WZ{w:World}{v:Value}{n:Nd}{x:Vl}{ins:List Vl}(h:BF w v n ins)(hi:ins[0]?=some x)(hl:n.op.toList=[68,105,118]) :
  Calls Tryz.prog 19 #[v] w fun e w'=>CB (Dg (Fl.Eh n.op.toList x.typ 0 0).2 (Ci ins x.typ) x.typ) e∧Below w.heap.size w w':=
 C9 h hi (Or.inr (Or.inr (Or.inr (Or.inl hl))))
theorem W9{w:World}{v:Value}{n:Nd}{x:Vl}{ins:List Vl}(h:BF w v n ins)(hi:ins[0]?=some x)(hl:n.op.toList=[77,97,120]) :
  Calls Tryz.prog 19 #[v] w fun e w'=>CB (Dg (Fl.Eh n.op.toList x.typ 0 0).2 (Ci ins x.typ) x.typ) e∧Below w.heap.size w w':=
 C9 h hi (Or.inr (Or.inr (Or.inr (Or.inr (Or.inl hl)))))
theorem Xa{w:World}{v:Value}{n:Nd}{x:Vl}{ins:List Vl}(h:BF w v n ins)(hi:ins[0]?=some x)(hl:n.op.toList=[77,105,110]) :
  Calls Tryz.prog 19 #[v] w fun e w'=>CB (Dg (Fl.Eh n.op.toList x.typ 0 0).2 (Ci ins x.typ) x.typ) e∧Below w.heap.size w w':=
 C9 h hi (Or.inr (Or.inr (Or.inr (Or.inr (Or.inr (Or.inl hl))))))
theorem Xb{w:World}{v:Value}{n:Nd}{x:Vl}{ins:List Vl}(h:BF w v n ins)(hi:ins[0]?=some x)(hl:n.op.toList=[65,110,100]) :
  Calls Tryz.prog 19 #[v] w fun e w'=>CB (Dg (Fl.Eh n.op.toList x.typ 0 0).2 (Ci ins x.typ) x.typ) e∧Below w.heap.size w w':=
 C9 h hi (Or.inr (Or.inr (Or.inr (Or.inr (Or.inr (Or.inr (Or.inl hl)))))))
theorem Yn{w:World}{v:Value}{n:Nd}{x:Vl}{ins:List Vl}(h:BF w v n ins)(hi:ins[0]?=some x)(hl:n.op.toList=[79,114]) :
  Calls Tryz.prog 19 #[v] w fun e w'=>CB (Dg (Fl.Eh n.op.toList x.typ 0 0).2 (Ci ins x.typ) x.typ) e∧Below w.heap.size w w':=
 C9 h hi (Or.inr (Or.inr (Or.inr (Or.inr (Or.inr (Or.inr (Or.inr (Or.inl hl))))))))
theorem Xc{w:World}{v:Value}{n:Nd}{x:Vl}{ins:List Vl}(h:BF w v n ins)(hi:ins[0]?=some x)(hl:n.op.toList=[88,111,114]) :
  Calls Tryz.prog 19 #[v] w fun e w'=>CB (Dg (Fl.Eh n.op.toList x.typ 0 0).2 (Ci ins x.typ) x.typ) e∧Below w.heap.size w w':=
 C9 h hi (Or.inr (Or.inr (Or.inr (Or.inr (Or.inr (Or.inr (Or.inr (Or.inr hl))))))))
end
end Go.Proofs.YtkkeehnldcdccaaGreatDoor
