import Derived.Test.YtijhdmidffenbaaGreatDoorRdM2rm
import Derived.Test.YtijhdmidffenbaaGreatDoorRdM1rm
import Derived.Test.YtijhdmidffenbaaGreatDoorJaM1rm
import Derived.Test.YtijhdmidffenbaaGreatDoorElM3rm
import Derived.Test.YtijhdmidffenbaaGreatDoorJaM5rm
import Derived.Test.YtijhdmidffenbaaGreatDoorElM2rm
import Derived.Test.YtijhdmidffenbaaGreatDoorFlM2rm
import Derived.Test.YtijhdmidffenbaaGreatDoorSrMrm
open Go.Lib (hid)
set_option linter.unusedVariables false
set_option linter.unusedSimpArgs false
namespace Go.Proofs.YtijhdmidffenbaaGreatDoor
section
open Go.RowKit
set_option maxRecDepth 100000
theorem op_rsum:nS1.op.toList ∈ redOps:=by unfold nS1 oRSum;rw [ByteArray.toList_eq];decide
theorem op_soft:nS2.op.toList=lSoft:=by unfold nS2 oSoftm;rw [ByteArray.toList_eq];rfl
theorem attrB_lit {a:At} (h1:a.dims=[]) (h2:a.data=[]) (h3:a.ints.length≤1000∧∀ z ∈ a.ints,InI z) (h4:InI a.kind∧InI a.f∧InI a.i∧InI a.typ) (h5:a.name.size≤1000) (h6:a.s.size≤1000):AttrB a :=
 ⟨by rw [h1];simp,by rw [h2];simp,⟨by omega,h3.2⟩,h4.1,h4.2.1,h4.2.2.1,h4.2.2.2,by omega,by omega⟩
attribute [local irreducible] redD sofD
set_option maxHeartbeats 8000000 in
theorem live11_any {w:World} (hG:Glob w):Calls Tryz.prog 24 #[] w fun e w'=>e=.returned (.bool true)∧Below w.heap.size w w':=by
 have HG:=hid hG;clear hG;go_enter Tryz.func24,Tryz.ntmps24
 go_wp2_with fail
 generalize hW:World.alloc (World.alloc (World.alloc (World.alloc (World.alloc (World.alloc (World.alloc w _) _) _) _) _) _) _=W1;obtain ⟨hB,hS,b1,b2,b3,b4,b5,b6,b7⟩:=allocs7 hW;clear hW;have HB1:=hid hB;have hN:NodeV W1 (nS1.val (.slice (some ⟨w.heap.size,0,none⟩) 1 1) (.slice (some ⟨w.heap.size+1+1,0,none⟩) 2 2)) nS1:=by
  refine ⟨_,_,rfl,strs_boxE (ss:=[⟨#[120]⟩]) b1 rfl (by simp) (by simp),?_⟩;refine AttrsO.reads (B:=w.heap.size) (ts:=[(.slice none 0 0,.slice none 0 0,.slice (some ⟨w.heap.size+1,0,none⟩) 1 1),(.slice none 0 0,.slice none 0 0,.slice none 0 0)]) ⟨rfl,owns_lit b3 (by omega) (n:=2) (by simp) (by omega) rfl,fun j a t h1 h2=>?_⟩ (by decide) (fun a ha=>?_)
  ·match j,h1,h2 with
   | 0,h1,h2 =>
    obtain rfl:=Option.some.inj h1;obtain rfl:=Option.some.inj h2;exact ⟨World.ownsRow_nil _ _ _ _,World.ownsRow_nil _ _ _ _,owns_lit b2 (by omega) (n:=1) (by simp) (by omega) rfl⟩
   | 1,h1,h2 =>
    obtain rfl:=Option.some.inj h1;obtain rfl:=Option.some.inj h2;exact attr_nils rfl rfl rfl
   | j+2,h1,h2=>simp [nS1] at h1
  ·simp only [nS1,List.mem_cons,List.not_mem_nil,or_false] at ha;rcases ha with rfl | rfl
   ·exact attrB_lit rfl rfl ⟨by decide,by intro z hz;simp [axesA] at hz;unfold InI;omega⟩ ⟨by unfold InI;decide,by unfold InI;decide,by unfold InI;decide,by unfold InI;decide⟩ (by decide) (by decide)
   ·exact attrB_lit rfl rfl ⟨by decide,by intro z hz;simp [keepA] at hz⟩ ⟨by unfold InI;decide,by unfold InI;decide,by unfold InI;decide,by unfold InI;decide⟩ (by decide) (by decide)
 have hT:SlIn 3 rdTensor W1 (.slice (some ⟨w.heap.size+1+1+1+1+1+1,0,none⟩) 1 1) [tS1]:=tens_one (x:=tS1) b7 ⟨by unfold InI tS1;decide,ints_boxE (zs:=[2,2]) b5 rfl (by simp) (by simp) (by intro z hz;simp at hz;unfold InI;omega),ints_boxE (zs:=[1,2,3,4]) b6 rfl (by simp) (by simp) (by intro z hz;simp at hz;unfold InI;omega)⟩;have hdo:=rdo_U hN hT (HG.out.below HB1.out) op_rsum;rw [live11_sum] at hdo;clear b1 b2 b3 b4 b5 b6 b7 hN hT hB hS;refine hdo.mono ?_;clear hdo;intro e w2 hu;obtain ⟨vd,vx,rfl,hd,hx,-,B2⟩:=hu.out;clear hu;have ID:=hid hd;have IX:=hid hx;obtain ⟨ad,cd,rfl⟩:∃ a c,vd=Value.slice a 1 c:=hd.shape;obtain ⟨ax,cx,rfl⟩:∃ a c,vx=Value.slice a 2 c:=hx.shape;have HB2:=hid (HB1.out.trans (B2.mono HB1.out.size));clear hd hx B2 HB1;go_wp2_with fail
 generalize hW:World.alloc (World.alloc (World.alloc (World.alloc (World.alloc w2 _) _) _) _) _=W3;obtain ⟨hB,hS,b1,b2,b3,b4,b5⟩:=allocs5 hW;clear hW;have HB3:=hid (HB2.out.trans (hB.mono HB2.out.size));have HR:=hid (box_of b1);have ID:=hid (ID.out.below hB);have IX:=hid (IX.out.below hB);have hdo:=rdo_softU (w:=W3) (n:=nS2) (x:=tS2) ⟨_,_,rfl,strs_boxE (ss:=[⟨#[120]⟩]) b2 rfl (by simp) (by simp),.empty none 0⟩ (tens_one (x:=tS2) b5 ⟨by unfold InI tS2;decide,ints_boxE (zs:=[2]) b3 rfl (by simp) (by simp) (by intro z hz;simp at hz;unfold InI;omega),ints_boxE (zs:=[0,0]) b4 rfl (by simp) (by simp) (by intro z hz;simp at hz;unfold InI;omega)⟩) (HG.out.below HB3.out) op_soft;rw [live11_soft] at hdo;clear b1 b2 b3 b4 b5 hB hS HB2;refine hdo.mono ?_;clear hdo;intro e w4 hu;obtain ⟨vd,vx,rfl,hd,hx,-,B4⟩:=hu.out;clear hu;have ID4:=hid hd;have IX4:=hid hx;obtain ⟨ad4,cd4,rfl⟩:∃ a c,vd=Value.slice a 1 c:=hd.shape;obtain ⟨ax4,cx4,rfl⟩:∃ a c,vx=Value.slice a 2 c:=hx.shape;have HB4:=hid (HB3.out.trans (B4.mono HB3.out.size));have ID:=hid (ID.out.below B4);have IX:=hid (IX.out.below B4);have HR:=hid (HR.out.below' B4);clear hd hx B4 HB3;obtain ⟨r0,r1,r2⟩:=BoxN.three (x0:=.int .i64 6) (x1:=.slice ad 1 cd) (x2:=.slice ax 2 cx) (blk_keep HR.out (Obj.cells #[.int .i64 1,.slice ad4 1 cd4,.slice ax4 2 cx4] 46));go_wp2_with fail
 clear r0 r1 r2;generalize hW:World.alloc (World.alloc (World.alloc w4 _) _) _=W5;obtain ⟨hB,hS,b1,b2,b3⟩:=allocs3 hW;clear hW;have HB5:=hid (HB4.out.trans (hB.mono HB4.out.size));have HR4:=hid (box_of b1);have ID4:=hid (ID4.out.below hB);have IX4:=hid (IX4.out.below hB);refine (stensor_any 6 [2] [4,6] (ID.out.below hB) (IX.out.below hB) (ints_boxE (zs:=[2]) b2 rfl (by simp) (by simp) (by intro z hz;simp at hz;unfold InI;omega)) (ints_boxE (zs:=[4,6]) b3 rfl (by simp) (by simp) (by intro z hz;simp at hz;unfold InI;omega))).mono ?_;rintro e w6 ⟨rfl,B6⟩;have HB6:=hid (HB5.out.trans (B6.mono HB5.out.size));have HR6:=hid (HR4.out.below' B6);have ID6:=hid (ID4.out.below B6);have IX6:=hid (IX4.out.below B6);clear b1 b2 b3 hB hS B6 HB4 HB5 ID IX ID4 IX4 HR HR4;obtain ⟨r0,r1,r2⟩:=BoxN.three (x0:=.int .i64 1) (x1:=.slice ad4 1 cd4) (x2:=.slice ax4 2 cx4) HR6.out;go_wp2_with fail
 clear r0 r1 r2;generalize hW:World.alloc (World.alloc w6 _) _=W7;obtain ⟨hB,hS,b1,b2⟩:=allocs2 hW;clear hW;have HB7:=hid (HB6.out.trans (hB.mono HB6.out.size));refine (stensor_any 1 [2] [1056964608,1056964608] (ID6.out.below hB) (IX6.out.below hB) (ints_boxE (zs:=[2]) b1 rfl (by simp) (by simp) (by intro z hz;simp at hz;unfold InI;omega)) (ints_boxE (zs:=[1056964608,1056964608]) b2 rfl (by simp) (by simp) (by intro z hz;simp at hz;unfold InI;omega))).mono ?_;rintro e w8 ⟨rfl,B8⟩;have HB8:=hid (HB7.out.trans (B8.mono HB7.out.size));clear b1 b2 hB hS B8;go_wp2
 go_ret
 exact ⟨rfl,HB8.out⟩
end
section
open Go.RowKit
set_option maxRecDepth 100000
def lMul:List UInt8:=[77,117,108]
def lSqrt:List UInt8:=[83,113,114,116]
def nrmE (eps e s b m u:Int):Int:=twoP lAdd 1 (twoP lMul 1 (twoP lDiv 1 (twoP lSub 1 e m) (oneP lSqrt (twoP lAdd 1 u eps))) s) b
def nrmP (eps:Int) (I C:Nat) (xs s b m u:List Int) (k:Nat):Int:=nrmE eps (xs.getD k 0) (s.getD (k / I % C) 0) (b.getD (k / I % C) 0) (m.getD (k / I % C) 0) (u.getD (k / I % C) 0)
def nrmK (eps:Int) (I C:Nat) (xs s b m u:List Int) (N j:Nat):List Int:=(List.range N).map fun q=>if q < j then nrmP eps I C xs s b m u q else 0
theorem nrmK_zero {eps:Int} {I C:Nat} {xs s b m u:List Int} {N:Nat}:nrmK eps I C xs s b m u N 0=List.replicate N 0:=by
 unfold nrmK;exact List.ext_getElem (by simp) fun i h1 h2=>by simp
theorem nrmK_len {eps:Int} {I C:Nat} {xs s b m u:List Int} {N j:Nat}:(nrmK eps I C xs s b m u N j).length=N:=by simp [nrmK]
theorem nrmK_set {eps:Int} {I C:Nat} {xs s b m u:List Int} {N j:Nat} (h:j < N):(nrmK eps I C xs s b m u N j).set j (nrmP eps I C xs s b m u j)=nrmK eps I C xs s b m u N (j+1):=by
 unfold nrmK;refine List.ext_getElem (by simp) fun i h1 h2=>?_;rw [List.getElem_set];simp only [List.getElem_map,List.getElem_range];by_cases e:j=i
 ·subst e;rw [if_pos rfl,if_pos (by omega)]
 ·rw [if_neg e];by_cases g:i < j
  ·rw [if_pos g,if_pos (by omega)]
  ·rw [if_neg g,if_neg (by omega)]
def nrmL (eps:Int) (I C:Nat) (xs s b m u:List Int):List Int:=nrmK eps I C xs s b m u xs.length xs.length
theorem nrmP_in {eps:Int} {I C:Nat} {xs s b m u:List Int} {k:Nat} (he:InI eps) (hx:∀ z ∈ xs,InI z) (hs:∀ z ∈ s,InI z) (hb:∀ z ∈ b,InI z) (hm:∀ z ∈ m,InI z) (hu:∀ z ∈ u,InI z):InI (nrmP eps I C xs s b m u k):=by
 have g:∀ {l:List Int},(∀ z ∈ l,InI z)→∀ j,InI (l.getD j 0):=fun {l} h j=>by
  by_cases hj:j < l.length
  ·exact h _ (getD_mem hj)
  ·rw [List.getD,List.getElem?_eq_none (by omega)];unfold InI;decide
 exact twoP_in (twoP_in (twoP_in (twoP_in (g hx _) (g hm _)) (oneP_in (twoP_in (g hu _) he))) (g hs _)) (g hb _)
theorem nrmL_in {eps:Int} {I C:Nat} {xs s b m u:List Int} (he:InI eps) (hx:∀ z ∈ xs,InI z) (hs:∀ z ∈ s,InI z) (hb:∀ z ∈ b,InI z) (hm:∀ z ∈ m,InI z) (hu:∀ z ∈ u,InI z):∀ z ∈ nrmL eps I C xs s b m u,InI z:=fun z hz=>by
 obtain ⟨k,hk,rfl⟩:=List.mem_map.1 hz;split
 ·exact nrmP_in he hx hs hb hm hu
 ·unfold InI;decide
theorem cnt_drop2 {ds:List Int} (h:(cnt ds).2=0) (h2:2≤ds.length):∃ I C:Nat,cnt (ds.drop 2)=((I:Int),0)∧ds.getD 1 0=(C:Int)∧1≤I∧I≤65536∧1≤C∧C≤65536:=by
 match ds,h2 with
 | a :: c :: l,_ =>
  have hp:=Vx.cnt_pos h;obtain ⟨h65,hl6,-,hp65⟩:=Vx.cnt_good h;have ha:=hp a (by simp);have hcc:=hp c (by simp);have hc65:=(h65 c (by simp)).2;have hpl:Vx.Vw.Pos l:=fun z hz=>hp z (by simp [hz]);have hl1:=Vx.Vw.pr_pos hpl;have e:Vx.Vw.pr (a :: c :: l)=a * (c * Vx.Vw.pr l):=rfl;have hle:Vx.Vw.pr l≤65536:=by
   have h1:Vx.Vw.pr l≤c * Vx.Vw.pr l:=by
    have:=Int.mul_le_mul_of_nonneg_right (show (1:Int)≤c by omega) (show 0≤Vx.Vw.pr l by omega);omega
   have h2:c * Vx.Vw.pr l≤a * (c * Vx.Vw.pr l):=by
    have:=Int.mul_le_mul_of_nonneg_right (show (1:Int)≤a by omega) (show 0≤c * Vx.Vw.pr l by omega);omega
   omega
  have hc:=Vx.cnt_of' hpl (by simp at hl6;omega) hle;refine ⟨(Vx.Vw.pr l).toNat,c.toNat,?_,?_,by omega,by omega,by omega,by omega⟩
  ·show cnt l=_;rw [hc,Int.toNat_of_nonneg (by omega)]
  ·show c=_;omega
attribute [local irreducible] cnt Vx.Vw.pr twoP oneP nrmK bitsP
set_option maxHeartbeats 16000000 in
theorem norm_any {w:World} {vn v:Value} {n:Nd} {x s b m u:Tn} {I C:Nat} (hn:NodeV w vn n) (hs:SlIn 3 rdTensor w v [x,s,b,m,u]) (h2:2≤x.2.1.length) (hI:cnt (x.2.1.drop 2)=((I:Int),0)) (hC:x.2.1.getD 1 0=(C:Int)) (hI1:1≤I) (hI6:I≤65536) (hC1:1≤C) (hC6:C≤65536) (hx6:x.2.2.length≤65536) (hl:s.2.2.length=C∧b.2.2.length=C∧m.2.2.length=C∧u.2.2.length=C) :
  Calls Tryz.prog 47 #[vn,v] w fun e w'=>∃ v',e=.returned v'∧w'.ownsRow w.heap.size 2 1 v' x.2.2.length ((nrmL (bitsP n.attrs ⟨#[101,112,115,105,108,111,110]⟩ 925353388) I C x.2.2 s.2.2 b.2.2 m.2.2 u.2.2).map (Value.int .i64))∧Below w.heap.size w w':=by
 have heI:InI (bitsP n.attrs ⟨#[101,112,115,105,108,111,110]⟩ 925353388):=bits_okP hn (by unfold InI;decide);obtain ⟨bo,off,cap,vd,vx,rfl,hbo,x0,x1,x2,-,hxd,hxx⟩:=tensor_at hs (j:=0) rfl;obtain ⟨bo1,off1,cap1,sd,sx,e1,-,-,-,s2,-,-,hsx⟩:=tensor_at hs (j:=1) rfl;obtain ⟨ea,-,ec⟩:=Value.slice.inj e1;obtain ⟨rfl,rfl⟩:bo=bo1∧off=off1:=by simpa using ea
 obtain ⟨bo1,off1,cap1,bd,bx,e1,-,-,-,b2,-,-,hbx⟩:=tensor_at hs (j:=2) rfl;obtain ⟨ea,-,ec⟩:=Value.slice.inj e1;obtain ⟨rfl,rfl⟩:bo=bo1∧off=off1:=by simpa using ea
 obtain ⟨bo1,off1,cap1,md,mx,e1,-,-,-,m2,-,-,hmx⟩:=tensor_at hs (j:=3) rfl;obtain ⟨ea,-,ec⟩:=Value.slice.inj e1;obtain ⟨rfl,rfl⟩:bo=bo1∧off=off1:=by simpa using ea
 obtain ⟨bo1,off1,cap1,ud,ux,e1,-,-,-,u2,-,-,hux⟩:=tensor_at hs (j:=4) rfl;obtain ⟨ea,-,ec⟩:=Value.slice.inj e1;obtain ⟨rfl,rfl⟩:bo=bo1∧off=off1:=by simpa using ea
 clear e1 ea ec;rw [Nat.zero_mul,Nat.add_zero] at x0 x1 x2;obtain ⟨hl1,hl2,hl3,hl4⟩:=hl;have hxI:=hxx.wf.2;have hsI:=hsx.wf.2;have hbI:=hbx.wf.2;have hmI:=hmx.wf.2;have huI:=hux.wf.2;have HNI:=hid (fun k=>nrmP_in (I:=I) (C:=C) (k:=k) heI hxI hsI hbI hmI huI);have HXK:=hid (fun (k:Nat) (hk:k < x.2.2.length)=>hxI _ (getD_mem hk));have HSK:=hid (fun (k:Nat) (hk:k < C)=>hsI _ (getD_mem (by omega:k < s.2.2.length)));have HBK:=hid (fun (k:Nat) (hk:k < C)=>hbI _ (getD_mem (by omega:k < b.2.2.length)));have HMK:=hid (fun (k:Nat) (hk:k < C)=>hmI _ (getD_mem (by omega:k < m.2.2.length)));have HUK:=hid (fun (k:Nat) (hk:k < C)=>huI _ (getD_mem (by omega:k < u.2.2.length)));have HE:=hid heI;have HNV:=hid hn;obtain ⟨vin,vat,rfl,hm⟩:=hn;obtain ⟨a1,c1,rfl⟩:=hm.is.form;obtain ⟨a2,c2,rfl⟩:=hm.ia.form;obtain ⟨a3,c3,rfl⟩:=hxd.shape;obtain ⟨a4,c4,rfl⟩:=hxx.shape;obtain ⟨bd',od',rfl,hbd0,gd0,-⟩:=reads_ints hxd (k:=1) (by omega) rfl;rw [hC] at gd0;have HD:=hid hxd;have HGD:=hid (And.intro hbd0 gd0);clear hbd0 gd0;have HX:=hid hxx;have rd:∀ {v:Value} {l:List Int},IntsIn w v l→l.length=C→∃ g o c,v=.slice (some ⟨g,o,none⟩) C c∧∀ (W:World),Below w.heap.size w W→∀ k,k < C→W.cell? ⟨g,o+k,none⟩=some (.int .i64 (l.getD k 0)):=fun {v l} h e=>by
  obtain ⟨a,c,rfl⟩:=h.shape;obtain ⟨g,o,rfl,hg,hc,-⟩:=reads_ints h (k:=0) (by omega) rfl;refine ⟨g,o,c,by rw [e],fun W hB k hk=>?_⟩;obtain ⟨g',o',e',hg',hc',-⟩:=reads_ints h (k:=k) (by omega) rfl;obtain ⟨rfl,rfl⟩:g=g'∧o=o':=by simpa using e'
  exact (hB.cell (p:=⟨g,o+k,none⟩) hg').trans hc'
 obtain ⟨sg,so,sc,rfl,hsc⟩:=rd hsx hl1;obtain ⟨bg,bq,bc,rfl,hbc⟩:=rd hbx hl2;obtain ⟨mg,mo,mc,rfl,hmc⟩:=rd hmx hl3;obtain ⟨ug,uo,uc,rfl,huc⟩:=rd hux hl4;have HSC:=hid hsc;have HBC:=hid hbc;have HMC:=hid hmc;have HUC:=hid huc;unfold Nd.val at HNV ⊢;have HTC:Hid (∀ W,Below w.heap.size w W→W.cell? ⟨bo,off,none⟩=some (.int .i64 x.1)∧W.cell? ⟨bo,off+1,none⟩=some (.slice (some ⟨bd',od',none⟩) x.2.1.length c3)∧W.cell? ⟨bo,off+2,none⟩=some (.slice a4 x.2.2.length c4)∧W.cell? ⟨bo,off+5,none⟩=some (.slice (some ⟨sg,so,none⟩) C sc)∧W.cell? ⟨bo,off+8,none⟩=some (.slice (some ⟨bg,bq,none⟩) C bc)∧W.cell? ⟨bo,off+11,none⟩=some (.slice (some ⟨mg,mo,none⟩) C mc)∧W.cell? ⟨bo,off+14,none⟩=some (.slice (some ⟨ug,uo,none⟩) C uc)):=hid fun W hB=>⟨(hB.cell (p:=⟨bo,off,none⟩) hbo).trans x0,(hB.cell (p:=⟨bo,off+1,none⟩) hbo).trans x1,(hB.cell (p:=⟨bo,off+2,none⟩) hbo).trans x2,(hB.cell (p:=⟨bo,off+5,none⟩) hbo).trans s2,(hB.cell (p:=⟨bo,off+8,none⟩) hbo).trans b2,(hB.cell (p:=⟨bo,off+11,none⟩) hbo).trans m2,(hB.cell (p:=⟨bo,off+14,none⟩) hbo).trans u2⟩;have HCO:=hid (fun (W:World) (v:Value) (h:IntsIn W v (x.2.1.drop 2))=>count_any h);rw [hI] at HCO;have HTW:=hid (fun (op:ByteArray) (x y:Int) (hx:InI x) (hy:InI y) (W:World)=>two_any op 1 x y hx hy W);have HON:=hid (fun (op:ByteArray) (x:Int) (hx:InI x) (W:World)=>one_any op x hx W);have HLS:=hid (show (⟨#[83,117,98]⟩:ByteArray).toList=lSub by rw [ByteArray.toList_eq];rfl);have HLA:=hid (show (⟨#[65,100,100]⟩:ByteArray).toList=lAdd by rw [ByteArray.toList_eq];rfl);have HLD:=hid (show (⟨#[68,105,118]⟩:ByteArray).toList=lDiv by rw [ByteArray.toList_eq];rfl);have HLM:=hid (show (⟨#[77,117,108]⟩:ByteArray).toList=lMul by rw [ByteArray.toList_eq];rfl);have HLQ:=hid (show (⟨#[83,113,114,116]⟩:ByteArray).toList=lSqrt by rw [ByteArray.toList_eq];rfl);have HSI:=hid (fun (W:World) (h:Below w.heap.size w W)=>sbits_any (n:=n) (HNV.out.below h) ⟨#[101,112,115,105,108,111,110]⟩ 925353388);generalize bitsP n.attrs ⟨#[101,112,115,105,108,111,110]⟩ 925353388=eps at *;have HNP:Hid (∀ k,nrmE eps (x.2.2.getD k 0) (s.2.2.getD (k / I % C) 0) (b.2.2.getD (k / I % C) 0) (m.2.2.getD (k / I % C) 0) (u.2.2.getD (k / I % C) 0)=nrmP eps I C x.2.2 s.2.2 b.2.2 m.2.2 u.2.2 k):=hid fun k=>rfl;have h2i:(2:Int)≤(x.2.1.length:Int):=by omega
 have h1i:(1:Int) < (x.2.1.length:Int):=by omega
 have hcap:=hxd.capI;have HCP:=hid hC;clear hC hs hm hxI hsI hbI hmI huI hxd hxx hsx hbx hmx hux x0 x1 x2 s2 b2 m2 u2 rd hsc hbc hmc huc hl1 hl2 hl3 hl4 hI heI;go_enter Tryz.func47,Tryz.ntmps47
 have tc:=HTC.out _ ((Below.refl w.heap.size w).alloc (Nat.le_refl _) (Obj.cells #[.string n.op,.string n.name,.slice a1 n.ins.length c1,.string n.out,.slice a2 n.attrs.length c2] 25));obtain ⟨tc0,tc1,tc2,-⟩:=tc;go_wp2_with fail
 clear tc0 tc1 tc2;generalize hW:World.alloc (World.alloc w _) _=W1;obtain ⟨hB,hS,b1,b2⟩:=allocs2 hW;clear hW;have HB1:=hid hB;have HTB:=hid (box_of b2);clear b1 b2 hB hS;refine (HSI.out _ HB1.out).mono ?_;rintro e w2 ⟨rfl,B2⟩;have HB2:=hid (HB1.out.trans (B2.mono HB1.out.size));have HTB2:=hid (HTB.out.below' B2);have t1:=HTB2.out.cell 1 rfl;clear B2 HSI HB1 HTB;by_cases hc2:c3=2
 all_goals
  try (obtain rfl:=hc2)
  go_wp2_with fail
  refine (HCO.out _ _ ?hI).mono ?_
  case hI =>
   have h:=ints_dropI (k:=2) (HD.out.below HB2.out) (by omega)
   first
    | exact h
    | (rw [if_neg hc2] at h;exact h)
    | (rw [show x.2.1.drop 2=[] from List.drop_eq_nil_of_le (by omega)];exact .empty _ _)
  rintro e w3 ⟨rfl,B3⟩;have HB3:=hid (HB2.out.trans (B3.mono HB2.out.size));have HTB3:=hid (HTB2.out.below' B3);have t2:=HTB3.out.cell 2 rfl;have hmk1:=run_make_i64s w3 x.2.2.length (by omega);have t3:=(HTB3.out.below' ((Below.refl w3.heap.size w3).alloc (Nat.le_refl _) (.cells (i64s (List.replicate x.2.2.length 0)) 2))).cell 2 rfl;clear B3 t1
  try clear hc2
  go_wp2_with fail
  clear hmk1 t2 t3;generalize hW:World.alloc w3 _=W4;obtain ⟨hB,hS,b1⟩:=allocs1 hW;clear hW;have HO:Hid (BoxN W4 w3.heap.size (i64s (nrmK eps I C x.2.2 s.2.2 b.2.2 m.2.2 u.2.2 x.2.2.length 0)) 2):=hid (by rw [nrmK_zero];exact b1);have HV:=hid hB;have hwb:=HB3.out.size;generalize hOB:w3.heap.size=OB at HO HV hwb ⊢;have HOBE:=hid hOB;have hwbB:w.heap.size+1 < OB:=by rw [←HOBE.out];exact HTB3.out.lt
  clear hOB b1 hB hS hcap h2i;go_loopw [34] (fun i wr=>∃ (k:Nat),k≤x.2.2.length∧i=.int .i64 (k:Int)∧Hid (BoxN wr OB (i64s (nrmK eps I C x.2.2 s.2.2 b.2.2 m.2.2 u.2.2 x.2.2.length k)) 2)∧Hid (Below OB w3 wr)) (fun i _=>x.2.2.length - (intOf i).toNat)
  case atStart=>exact ⟨0,Nat.zero_le _,rfl,HO,HV⟩
  case round =>
   clear HO HV;obtain ⟨k,hk,rfl,hO,hV⟩:=hrel;by_cases hkl:k < x.2.2.length
   ·have hki:(k:Int) < (x.2.2.length:Int):=by omega
    have HBw:=hid (HB3.out.trans (hV.out.mono hwb));obtain ⟨bx',ox',rfl,hbx',gx,-⟩:=reads_ints (HX.out.below HBw.out) hkl rfl;obtain ⟨hbd',gd⟩:=HGD.out;have gd:=(HBw.out.cell (p:=⟨bd',od'+1,none⟩) hbd').trans gd;have HKX:=hid (HXK.out k hkl);have HNX:=hid (HNP.out k);have HNS:=hid (nrmK_set (eps:=eps) (I:=I) (C:=C) (xs:=x.2.2) (s:=s.2.2) (b:=b.2.2) (m:=m.2.2) (u:=u.2.2) hkl);have HNL:=hid (nrmK_len (eps:=eps) (I:=I) (C:=C) (xs:=x.2.2) (s:=s.2.2) (b:=b.2.2) (m:=m.2.2) (u:=u.2.2) (N:=x.2.2.length) (j:=k));obtain ⟨q,hq⟩:∃ q:Nat,k / I=q:=⟨_,rfl⟩;obtain ⟨r,hr⟩:∃ r:Nat,q % C=r:=⟨_,rfl⟩;have hrC:r < C:=by rw [←hr];exact Nat.mod_lt _ hC1
    rw [hq,hr] at HNX;have hq6:q≤k:=by rw [←hq];exact Nat.div_le_self _ _
    have hdI:Int.tdiv (k:Int) (I:Int)=(q:Int):=by rw [Int.tdiv_eq_ediv_of_nonneg (by omega),←hq];rfl
    have hmC:Int.tmod (q:Int) (C:Int)=(r:Int):=by rw [Int.tmod_eq_emod_of_nonneg (by omega),←hr];rfl
    have hdi:(k:Int) / (I:Int)=(q:Int):=by rw [←hq];rfl
    have hmi:(q:Int) % (C:Int)=(r:Int):=by rw [←hr];rfl
    have hwq:IntKind.i64.wrap (q:Int)=(q:Int):=by rw [IntKind.wrap_i64];omega
    have hwr:IntKind.i64.wrap (r:Int)=(r:Int):=by rw [IntKind.wrap_i64];omega
    have hIz:((I:Int)==0)=false:=by rw [beq_eq_false_iff_ne];omega
    have hIn:¬ (I:Int)=0:=by omega
    have hCz:((C:Int)==0)=false:=by rw [beq_eq_false_iff_ne];omega
    have hCn:¬ (C:Int)=0:=by omega
    have hri:(r:Int) < (C:Int):=by omega
    have hI0:¬ I=0:=by omega
    have hC0:¬ C=0:=by omega
    have HU:=hid (fun (W:World) (h:Below w.heap.size w W)=>HUC.out W h r hrC);have HM:=hid (fun (W:World) (h:Below w.heap.size w W)=>HMC.out W h r hrC);have HS2:=hid (fun (W:World) (h:Below w.heap.size w W)=>HSC.out W h r hrC);have HB4:=hid (fun (W:World) (h:Below w.heap.size w W)=>HBC.out W h r hrC);have HUI:=hid (HUK.out r hrC);have HMI:=hid (HMK.out r hrC);have HSI2:=hid (HSK.out r hrC);have HBI:=hid (HBK.out r hrC);generalize u.2.2.getD r 0=ur at HU HUI HNX;generalize m.2.2.getD r 0=mr at HM HMI HNX;generalize s.2.2.getD r 0=sr at HS2 HSI2 HNX;generalize b.2.2.getD r 0=br at HB4 HBI HNX;generalize x.2.2.getD k 0=ex at gx HKX HNX;have HNE:=hid (show nrmE eps ex sr br mr ur=twoP lAdd 1 (twoP lMul 1 (twoP lDiv 1 (twoP lSub 1 ex mr) (oneP lSqrt (twoP lAdd 1 ur eps))) sr) br from rfl);have hsw:=hV.out.size;have HSr:=hid (fun (W':World) (h:Below wr.heap.size wr W')=>And.intro (((HTB3.out.below hwbB hV.out).below' h).cell 1 rfl) ((h.cell (p:=⟨bd',od'+1,none⟩) (by have:=HBw.out.size;show bd' < _;omega)).trans gd));go_wp2_with fail
    clear gx gd;refine wp_region_plan 8 [0,1,2,3,4,5,6,7] (fun W'=>Below wr.heap.size wr W') (by kernel_rfl) (by kernel_rfl) (fun _ d _ _ _ h=>by cases d<;>exact h) (Below.refl _ _).drew ?_;have B0:Hid (Below wr.heap.size wr wr.drew):=hid (Below.refl _ _).drew;generalize wr.drew=wD at B0 ⊢
    repeat
     refine plan_read (v:=?_) rfl rfl (Or.inl ⟨by rfl,?_⟩) ?_;rotate_left
     ·intro W' hSw;obtain ⟨s0,s1⟩:=HSr.out W' hSw;go_simp
      try with_reducible rfl
     try simp only [Act.put,List.getElem_toArray,List.getElem_cons_zero,List.getElem_cons_succ,List.setIfInBounds_toArray,List.set_cons_zero,List.set_cons_succ]
    refine plan_tail rfl ?_;simp only [List.toList_toArray,List.drop_succ_cons,List.drop_zero];have HBD:=hid (HBw.out.trans (B0.out.mono HBw.out.size));have hOD:=hid (hO.out.below' B0.out);have hVD:=hid (hV.out.trans (B0.out.mono (by rw [←HOBE.out];exact hsw)));obtain ⟨-,-,-,-,-,-,c14⟩:=HTC.out wD HBD.out;have d1:=HU.out wD HBD.out;clear B0 HSr hO hV;go_wp2_with fail
    clear c14 d1;refine (HTW.out _ ur eps HUI.out HE.out _).mono ?_;rintro e w8 ⟨rfl,B⟩;rw [HLA.out];have HA1:Hid (InI (twoP lAdd 1 ur eps)):=hid (twoP_in HUI.out HE.out);generalize twoP lAdd 1 ur eps=v1 at *;have HBD:=hid (HBD.out.trans (B.mono HBD.out.size));have hOD:=hid (hOD.out.below' B);have hVD:=hid (hVD.out.trans (B.mono (by rw [←HOBE.out];exact hVD.out.size)));clear B;go_wp2_with fail
    refine (HON.out _ v1 HA1.out _).mono ?_;rintro e w9 ⟨rfl,B⟩;rw [HLQ.out];have HA2:Hid (InI (oneP lSqrt v1)):=hid (oneP_in HA1.out);generalize oneP lSqrt v1=v2 at *;have HBD:=hid (HBD.out.trans (B.mono HBD.out.size));have hOD:=hid (hOD.out.below' B);have hVD:=hid (hVD.out.trans (B.mono (by rw [←HOBE.out];exact hVD.out.size)));clear B;obtain ⟨-,-,-,-,-,c11,-⟩:=HTC.out w9 HBD.out;have d1:=HM.out w9 HBD.out;go_wp2_with fail
    clear c11 d1;refine (HTW.out _ ex mr HKX.out HMI.out _).mono ?_;rintro e w10 ⟨rfl,B⟩;rw [HLS.out];have HA3:Hid (InI (twoP lSub 1 ex mr)):=hid (twoP_in HKX.out HMI.out);generalize twoP lSub 1 ex mr=v3 at *;have HBD:=hid (HBD.out.trans (B.mono HBD.out.size));have hOD:=hid (hOD.out.below' B);have hVD:=hid (hVD.out.trans (B.mono (by rw [←HOBE.out];exact hVD.out.size)));clear B;go_wp2_with fail
    refine (HTW.out _ v3 v2 HA3.out HA2.out _).mono ?_;rintro e w11 ⟨rfl,B⟩;rw [HLD.out];have HA4:Hid (InI (twoP lDiv 1 v3 v2)):=hid (twoP_in HA3.out HA2.out);generalize twoP lDiv 1 v3 v2=v4 at *;have HBD:=hid (HBD.out.trans (B.mono HBD.out.size));have hOD:=hid (hOD.out.below' B);have hVD:=hid (hVD.out.trans (B.mono (by rw [←HOBE.out];exact hVD.out.size)));clear B;have HSr:=hid (fun (W':World) (h:Below w11.heap.size w11 W')=>And.intro (HTC.out W' (HBD.out.trans (h.mono HBD.out.size))) (And.intro (HS2.out W' (HBD.out.trans (h.mono HBD.out.size))) (HB4.out W' (HBD.out.trans (h.mono HBD.out.size)))));go_wp2_with fail
    refine wp_region_plan 19 [0,1,2,3,4,5,6,7,8,9,11,12,13,14,15,16,17,10,18] (fun W'=>Below w11.heap.size w11 W') (by kernel_rfl) (by kernel_rfl) (fun _ d _ _ _ h=>by cases d<;>exact h) (Below.refl _ _).drew ?_;have B0:Hid (Below w11.heap.size w11 w11.drew):=hid (Below.refl _ _).drew;generalize w11.drew=wD at B0 ⊢
    repeat
     refine plan_read (v:=?_) rfl rfl (Or.inl ⟨by rfl,?_⟩) ?_;rotate_left
     ·intro W' hSw;obtain ⟨⟨-,-,-,c5,c8,-,-⟩,s1,s2⟩:=HSr.out W' hSw;go_simp
      try with_reducible rfl
     try simp only [Act.put,List.getElem_toArray,List.getElem_cons_zero,List.getElem_cons_succ,List.setIfInBounds_toArray,List.set_cons_zero,List.set_cons_succ]
    refine plan_act rfl rfl (fun K' hK=>?_);go_simp
    refine (HTW.out _ v4 sr HA4.out HSI2.out _).mono ?_;rintro e w12 ⟨rfl,B⟩;rw [HLM.out];have HA5:Hid (InI (twoP lMul 1 v4 sr)):=hid (twoP_in HA4.out HSI2.out);generalize twoP lMul 1 v4 sr=v5 at *;have B1:=hid (B0.out.trans (B.mono B0.out.size));refine hK.out _ _ B1.out ?_;clear hK K' B B0
    try simp only [Act.put,List.getElem_toArray,List.getElem_cons_zero,List.getElem_cons_succ,List.setIfInBounds_toArray,List.set_cons_zero,List.set_cons_succ]
    refine plan_act rfl rfl (fun K' hK=>?_);go_simp
    refine (HTW.out _ v5 br HA5.out HBI.out _).mono ?_;rintro e w13 ⟨rfl,B⟩;rw [HLA.out];have hB:=B1.out.trans (B.mono B1.out.size);refine hK.out _ _ hB ?_;clear hK K' B B1
    try simp only [Act.put,List.getElem_toArray,List.getElem_cons_zero,List.getElem_cons_succ,List.setIfInBounds_toArray,List.set_cons_zero,List.set_cons_succ]
    refine plan_tail rfl ?_;simp only [List.toList_toArray,List.drop_succ_cons,List.drop_zero];have hOD:=hOD.out.below' hB;have hVD:=hVD.out.trans (hB.mono (by rw [←HOBE.out];exact hVD.out.size));generalize twoP lAdd 1 v5 br=v6 at *;have of:=hOD.frozen k;have oc:=hOD.cell k (i64s_at (by rw [HNL.out];exact hkl));have hOE:=hOD.set k (.int .i64 v6);have e6:(nrmK eps I C x.2.2 s.2.2 b.2.2 m.2.2 u.2.2 x.2.2.length k).set k v6=nrmK eps I C x.2.2 s.2.2 b.2.2 m.2.2 u.2.2 x.2.2.length (k+1):=by rw [←HNE.out,HNX.out];exact HNS.out
    rw [i64s_set,e6] at hOE;have hVE:Below OB w3 (w13.setCell ⟨OB,k,none⟩ (.int .i64 v6)):=hVD.setCell (p:=⟨OB,k,none⟩) (Nat.le_refl _) _;have HOE:=hid hOE;have HVE:=hid hVE;clear hOD hVD hOE hVE hB HSr HNE HNX;go_wp2_with fail
    go_roundw
    case rel=>exact ⟨k+1,by omega,by go_num,HOE,HVE⟩
    case measure=>simp [intOf];omega
   ·have hki:¬ (k:Int) < (x.2.2.length:Int):=by omega
    obtain rfl:k=x.2.2.length:=by omega
    have hO1:=hO.out;have HOW:=hid (owns_i64s (B:=w.heap.size) hO1 (by omega) (show x.2.2.length=_ from nrmK_len.symm) (by omega));have HEB:=hid (HB3.out.trans (hV.out.mono hwb));clear hO1 hO hV;go_wp2_with fail
    go_ret
    exact ⟨.slice (some ⟨OB,0,none⟩) x.2.2.length x.2.2.length,rfl,HOW.out,HEB.out⟩
end
section
open Go.RowKit
set_option maxRecDepth 100000
def lBN:List UInt8:=[66,97,116,99,104,78,111,114,109,97,108,105,122,97,116,105,111,110]
def tnZ:Tn:=(0,[],[])
theorem tvgR {ts:List Tn} {j:Nat}:(ts.map tvV).getD j vlZ=tvV (ts.getD j tnZ):=by
 by_cases h:j < ts.length
 ·simp [List.getD,h]
 ·simp only [List.getD];rw [List.getElem?_eq_none (by simpa using h),List.getElem?_eq_none (by omega)]
  rfl
theorem bn_opT:∀ r ∈ opT,r.1=lBN→r.2.2.1=5∧r.2.2.2=5:=by decide +kernel
theorem so_opT:∀ r ∈ opT,r.1=lSoft∨r.1 ∈ redOps→r.2.2.1=1∧r.2.2.2=1:=by decide +kernel
def rbA (n:Nd) (ts:List Tn):Int × Int × List Int:=begO n ts (tyO n (ts.map tvV)) (dsO n (ts.map tvV))
def bnL (n:Nd) (ts:List Tn):List Int :=
 nrmL (bitsP n.attrs ⟨#[101,112,115,105,108,111,110]⟩ 925353388) (cnt ((ts.getD 0 tnZ).2.1.drop 2)).1.toNat ((ts.getD 0 tnZ).2.1.getD 1 0).toNat (ts.getD 0 tnZ).2.2 (ts.getD 1 tnZ).2.2 (ts.getD 2 tnZ).2.2 (ts.getD 3 tnZ).2.2 (ts.getD 4 tnZ).2.2
def restA (n:Nd) (ts:List Tn):Int × Int × List Int × List Int :=
 if (rbA n ts).1≠0 then ((rbA n ts).1,0,[],[]) else if n.op.toList=lBN then (0,(rbA n ts).2.1,(rbA n ts).2.2,bnL n ts) else (5,0,[],[])
theorem restA_no {n:Nd} {ts:List Tn} (h:(rbA n ts).1≠0):restA n ts=((rbA n ts).1,0,[],[]):=if_pos h
theorem restA_bn {n:Nd} {ts:List Tn} (h:(rbA n ts).1=0) (ho:n.op.toList=lBN):restA n ts=(0,(rbA n ts).2.1,(rbA n ts).2.2,bnL n ts):=by
 unfold restA;rw [if_neg (fun c=>c h),if_pos ho]
theorem restA_un {n:Nd} {ts:List Tn} (h:(rbA n ts).1=0) (ho:n.op.toList≠lBN):restA n ts=(5,0,[],[]):=by
 unfold restA;rw [if_neg (fun c=>c h),if_neg ho]
theorem bn_yes {n:Nd} {ts:List Tn} (ho:n.op.toList=lBN) (h:(rbA n ts).1=0):∃ x s b m u,ts=[x,s,b,m,u]∧(∀ t ∈ ts,pbE t.1 t.2.1 t.2.2=0∧t.1=1)∧2≤x.2.1.length ∧
  (∀ t ∈ [s,b,m,u],t.2.1=(x.2.1.drop 1).take 1)∧rbA n ts=(0,1,x.2.1):=by
 obtain ⟨h1,h2,h3⟩:=begO_yes h;obtain ⟨g1,g2,g3,g4,g5,g6,g7⟩:=outP_yes h2;obtain ⟨r,hr,e0,e1,e2⟩:=ops_of g1;obtain ⟨c1,c2⟩:=bn_opT r hr (by rw [←e0];exact ho)
 have hl0:ts.length=n.ins.length:=by simpa using g2
 have hl:ts.length=5:=by omega
 have hcl:clsP n.op.toList=26:=by rw [ho];decide +kernel
 have ety:tyO n (ts.map tvV)=typD (alB (ts.map tvV) 1) (ts.getD 0 tnZ).1:=by unfold tyO;rw [hcl];simp only [tvgR];rfl
 have eds:dsO n (ts.map tvV)=optO (bnP (ts.getD 0 tnZ).2.1 ((ts.map tvV).drop 1)):=by unfold dsO;rw [hcl];simp only [tvgR];rfl
 match ts,hl with
 | [x,s,b,m,u],_ =>
  have hal:alB ([x,s,b,m,u].map tvV) 1=true:=by
   cases e:alB ([x,s,b,m,u].map tvV) 1 with
   | true=>rfl
   | false=>rw [ety,e] at g4;exact absurd (show (4:Int)=0 from g4) (by decide)
  have h5:x.1=1∧s.1=1∧b.1=1∧m.1=1∧u.1=1:=by
   unfold alB at hal
   simpa [tvV] using hal
  have h1':∀ t ∈ [x,s,b,m,u],t.1=1:=fun t ht=>by
   simp only [List.mem_cons,List.not_mem_nil,or_false] at ht;rcases ht with rfl | rfl | rfl | rfl | rfl
   ·exact h5.1
   ·exact h5.2.1
   ·exact h5.2.2.1
   ·exact h5.2.2.2.1
   ·exact h5.2.2.2.2
  have hx1:x.1=1:=h1' x (by simp);have hb:2≤x.2.1.length∧∀ v ∈ ([x,s,b,m,u].map tvV).drop 1,v.dims=(x.2.1.drop 1).take 1:=by
   by_cases c:2≤x.2.1.length∧∀ v ∈ ([x,s,b,m,u].map tvV).drop 1,v.dims=(x.2.1.drop 1).take 1
   ·exact c
   ·exfalso;rw [eds] at g5;have:bnP ([x,s,b,m,u].getD 0 tnZ).2.1 (([x,s,b,m,u].map tvV).drop 1)=none:=if_neg c;rw [this] at g5;exact absurd g5 (by decide)
  have eb:bnP ([x,s,b,m,u].getD 0 tnZ).2.1 (([x,s,b,m,u].map tvV).drop 1)=some x.2.1:=if_pos hb;refine ⟨x,s,b,m,u,rfl,fun t ht=>⟨pbAll_mem h1 ht,h1' t ht⟩,hb.1,fun t ht=>?_,?_⟩
  ·exact hb.2 (tvV t) (by simpa using (by simpa using ht:t=s∨t=b∨t=m∨t=u).imp (congrArg tvV) (Or.imp (congrArg tvV) (Or.imp (congrArg tvV) (congrArg tvV))))
  ·have:rbA n [x,s,b,m,u]=outP n ([x,s,b,m,u].map tvV) (tyO n ([x,s,b,m,u].map tvV)) (dsO n ([x,s,b,m,u].map tvV)):=h3;rw [this,g7,ety,hal,eds,eb];show ((0:Int),x.1,x.2.1)=_;rw [hx1]
theorem bn_parts {n:Nd} {x s b m u:Tn} (ho:n.op.toList=lBN) (h:(rbA n [x,s,b,m,u]).1=0):∃ I C:Nat,cnt (x.2.1.drop 2)=((I:Int),0)∧x.2.1.getD 1 0=(C:Int)∧1≤I∧I≤65536∧1≤C∧C≤65536∧2≤x.2.1.length∧x.2.2.length≤65536∧(s.2.2.length=C∧b.2.2.length=C∧m.2.2.length=C∧u.2.2.length=C) ∧
  bnL n [x,s,b,m,u]=nrmL (bitsP n.attrs ⟨#[101,112,115,105,108,111,110]⟩ 925353388) I C x.2.2 s.2.2 b.2.2 m.2.2 u.2.2∧(cnt x.2.1).2=0∧(x.2.2.length:Int)=Vx.Vw.pr x.2.1:=by
 obtain ⟨x',s',b',m',u',e,hp,h2,hd,hr⟩:=bn_yes ho h;simp only [List.cons.injEq,and_true] at e;obtain ⟨rfl,rfl,rfl,rfl,rfl⟩:=e;obtain ⟨-,p2,p3,-⟩:=pbE_zero (hp x (by simp)).1;obtain ⟨I,C,e1,e2,i1,i2,i3,i4⟩:=cnt_drop2 p2 h2;have hp65:=(Vx.cnt_good p2).2.2.2;have one:∀ t ∈ [s,b,m,u],t.2.2.length=C:=fun t ht=>by
  obtain ⟨-,-,q3,-⟩:=pbE_zero (hp t (List.mem_cons_of_mem _ ht)).1;have ed:=hd t ht;have:(x.2.1.drop 1).take 1=[(C:Int)]:=by
   match hx:x.2.1,h2 with
   | a :: c :: l,_ =>
    rw [hx] at e2;have:c=(C:Int):=e2;simp [this]
  rw [ed,this] at q3;have:Vx.Vw.pr [(C:Int)]=C:=by show (C:Int) * 1=C;omega
  omega
 refine ⟨I,C,e1,e2,i1,i2,i3,i4,h2,by omega,⟨one s (by simp),one b (by simp),one m (by simp),one u (by simp)⟩,?_,p2,p3⟩;unfold bnL;show nrmL _ (cnt (x.2.1.drop 2)).1.toNat (x.2.1.getD 1 0).toNat _ _ _ _ _=_;rw [e1,e2]
 rfl
attribute [local irreducible] cnt chk checkP inpE outP folB thenE RowI pbE begO pbAll Vx.Vw.pr intP intsP bitsP nrmL tyO dsO rbA bnL restA
set_option maxHeartbeats 32000000 in
theorem rdo_rest {w:World} {vn vv:Value} {n:Nd} {ts:List Tn} (hn:NodeV w vn n) (hs:SlIn 3 rdTensor w vv ts) (hG:Glob w) (hax:(intsP n.attrs nmAxes []).length * 8+48≤140737488351232) (ho:(rbA n ts).1=0→n.op.toList≠lSoft∧n.op.toList ∉ redOps) :
  Calls Tryz.prog 25 #[vn,vv] w (DoR w (restA n ts)):=by
 obtain ⟨i0,hi,hz0,hz1,hz2⟩:=info_parts info_i64;obtain ⟨j0,hj,hy0,hy1,hy2⟩:=info_parts info_int;have HBG:Hid (∀ W,Below w.heap.size w W→Calls Tryz.prog 45 #[vn,vv] W fun e w'=>OutR W n (rbA n ts) e w'):=hid fun W hB=>by
  unfold rbA;exact rbegin_any (w:=W) (ts:=ts) (ty:=tyO n (ts.map tvV)) (ds:=dsO n (ts.map tvV)) (node_belowV hn hB) (tensors_below hs hB) (hG.below hB) (fun h1 h2 h3 W' v _ hm=>typ_any hm h1 (by simpa using h2)) (fun h1 h2 h3 h4 W' v _ hm=>dims_any hm h1 (by simpa using h2) (pbAll_inp h3) hax)
 obtain ⟨a3,c3,rfl⟩:=hs.form;have HS:=hid hs;have HNV:=hid hn;obtain ⟨vin,vat,rfl,hm⟩:=hn;obtain ⟨a1,c1,rfl⟩:=hm.is.form;obtain ⟨a2,c2,rfl⟩:=hm.ia.form;unfold Nd.val at HNV HBG ⊢;have HRY:=hid ho;have HNO:=hid (fun (h:(rbA n ts).1≠0)=>restA_no h);have HYE:=hid (fun (h:(rbA n ts).1=0) (g:n.op.toList=lBN)=>restA_bn h g);have HUN:=hid (fun (h:(rbA n ts).1=0) (g:n.op.toList≠lBN)=>restA_un h g);have HBY:=hid (fun (h:(rbA n ts).1=0) (g:n.op.toList=lBN)=>bn_yes g h);have HG:=hid hG;clear hm hs hG ho;go_enter Tryz.func25,Tryz.ntmps25
 go_wp2_with fail
 generalize hW:World.alloc (World.alloc w _) _=W1;obtain ⟨hB,hS,b1,b2⟩:=allocs2 hW;clear hW;have HB1:=hid hB;have HND:=hid (box_of b1);have HRB:=hid (box_of b2);clear b1 b2;refine (HBG.out W1 hB).mono ?_;rintro e w2 ⟨B2,hr⟩;have HB2:=hid (HB1.out.trans (B2.mono HB1.out.size));have HND:=hid (HND.out.below' B2);have HRB:=hid (HRB.out.below' B2);have hs2:w.heap.size+2≤w2.heap.size:=by have:=B2.size;omega
 have hW1s:w.heap.size≤W1.heap.size:=hB.size;clear B2 hB hS HBG;obtain ⟨O,hO⟩:∃ O,rbA n ts=O:=⟨_,rfl⟩;rw [hO] at hr HNO HRY HUN HYE;have HOE:=hid hO;clear hO;rcases hr with ⟨hne,rfl⟩ | ⟨h0,v,rfl,hr⟩
 ·have HR:=hid (HNO.out hne);have HNE:=hid hne;have hb':(O.1 != 0)=true:=by simpa using hne
  generalize O.1=q at *;clear hne;have hB3:Below w2.heap.size w2 (w2.alloc (Obj.cells #[.string ⟨#[]⟩,.int .i64 0,.slice none 0 0] 29)):=(Below.refl _ _).alloc (Nat.le_refl _) _;have HBE:=hid (HB2.out.trans (hB3.mono HB2.out.size));have HRE1:=hid (HRB.out.below' hB3);clear hB3;have HRE:=HRE1.out;have f0:=HRE.frozen 0;have f1:=HRE.frozen 1;have f2:=HRE.frozen 2;have g0:=HRE.cell 0 rfl;have g1:=HRE.cell 1 rfl;have g2:=HRE.cell 2 rfl;have hend:Hid (BoxN (put3 (w2.alloc (Obj.cells #[.string ⟨#[]⟩,.int .i64 0,.slice none 0 0] 29)) (w.heap.size+1) (.int .i64 0) (.slice none 0 0) (.slice none 0 0)) (w.heap.size+1) #[.int .i64 0,.slice none 0 0,.slice none 0 0] 46 ∧ Below w.heap.size w (put3 (w2.alloc (Obj.cells #[.string ⟨#[]⟩,.int .i64 0,.slice none 0 0] 29)) (w.heap.size+1) (.int .i64 0) (.slice none 0 0) (.slice none 0 0))):=hid ⟨HRE.put3 _ _ _,below_put3 HBE.out (by omega)⟩;clear HRE;go_wp2_with fail
  obtain ⟨hx1,hx2⟩:=hend.out;obtain ⟨x0,x1',x2'⟩:=hx1.three;unfold put3 at x0 x1' x2' hx2;exact bodyPost_ret (v:=.tuple #[.agg #[.int .i64 0,.slice none 0 0,.slice none 0 0],.int .i64 q]) (by simp [results,Tryz.f25,go_sem,x0,x1',x2']) rfl (DoR.no HR.out HNE.out hx2)
 obtain ⟨hq1,hq2⟩:=HRY.out h0;have q0:(n.op.toList==([83,111,102,116,109,97,120]:List UInt8))=false:=by rw [beq_eq_false_iff_ne];exact hq1
 by_cases hbn:n.op.toList=lBN
 case neg =>
  have HR:=hid (HUN.out h0 hbn);have q1:(n.op.toList==([66,97,116,99,104,78,111,114,109,97,108,105,122,97,116,105,111,110]:List UInt8))=false:=by rw [beq_eq_false_iff_ne];exact hbn
  have q2:(n.op.toList==([82,101,100,117,99,101,83,117,109]:List UInt8))=false:=by rw [beq_eq_false_iff_ne];exact fun e=>hq2 (by rw [e];decide)
  have q3:(n.op.toList==([82,101,100,117,99,101,77,97,120]:List UInt8))=false:=by rw [beq_eq_false_iff_ne];exact fun e=>hq2 (by rw [e];decide)
  have q4:(n.op.toList==([82,101,100,117,99,101,77,101,97,110]:List UInt8))=false:=by rw [beq_eq_false_iff_ne];exact fun e=>hq2 (by rw [e];decide)
  have q5:(n.op.toList==([65,114,103,77,97,120]:List UInt8))=false:=by rw [beq_eq_false_iff_ne];exact fun e=>hq2 (by rw [e];decide)
  obtain ⟨av,cv,rfl⟩:=hr.form;clear HRY HYE HNO HUN HBY hr h0 hq1 hq2 hbn;have hB4:Below w2.heap.size w2 ((w2.alloc (Obj.cells #[.string n.out,.int .i64 O.2.1,.slice av O.2.2.length cv] 29)).alloc (Obj.cells #[.int .i64 O.2.1,.slice av O.2.2.length cv,.slice none 0 0] 46)):=((Below.refl _ _).alloc (Nat.le_refl _) _).alloc (by simp) _;have k0:=(HND.out.below' hB4).cell 0 rfl;have HBE:=hid (HB2.out.trans (hB4.mono HB2.out.size));have HRE1:=hid (HRB.out.below' hB4);clear hB4;have HRE:=HRE1.out;have f0:=HRE.frozen 0;have f1:=HRE.frozen 1;have f2:=HRE.frozen 2;have g0:=HRE.cell 0 rfl;have g1:=HRE.cell 1 rfl;have g2:=HRE.cell 2 rfl;have hend:Hid (BoxN (put3 ((w2.alloc (Obj.cells #[.string n.out,.int .i64 O.2.1,.slice av O.2.2.length cv] 29)).alloc (Obj.cells #[.int .i64 O.2.1,.slice av O.2.2.length cv,.slice none 0 0] 46)) (w.heap.size+1) (.int .i64 0) (.slice none 0 0) (.slice none 0 0)) (w.heap.size+1) #[.int .i64 0,.slice none 0 0,.slice none 0 0] 46 ∧ Below w.heap.size w (put3 ((w2.alloc (Obj.cells #[.string n.out,.int .i64 O.2.1,.slice av O.2.2.length cv] 29)).alloc (Obj.cells #[.int .i64 O.2.1,.slice av O.2.2.length cv,.slice none 0 0] 46)) (w.heap.size+1) (.int .i64 0) (.slice none 0 0) (.slice none 0 0))):=hid ⟨HRE.put3 _ _ _,below_put3 HBE.out (by omega)⟩;clear HRE;go_wp2_with fail
  obtain ⟨hx1,hx2⟩:=hend.out;obtain ⟨x0,x1',x2'⟩:=hx1.three;unfold put3 at x0 x1' x2' hx2;exact bodyPost_ret (v:=.tuple #[.agg #[.int .i64 0,.slice none 0 0,.slice none 0 0],.int .i64 5]) (by simp [results,Tryz.f25,go_sem,x0,x1',x2']) rfl (DoR.no HR.out (by decide) hx2)
 have q1:(n.op.toList==([66,97,116,99,104,78,111,114,109,97,108,105,122,97,116,105,111,110]:List UInt8))=true:=by rw [hbn];decide
 have HDX:=hid (HYE.out h0 hbn);obtain ⟨x,s,b,m,u,rfl,hp,-,-,hrr⟩:=HBY.out (by rw [HOE.out];exact h0) hbn;obtain ⟨I,C,e1,e2,i1,i2,i3,i4,h2d,hx65,hll,ebn,hcn,hpr⟩:=bn_parts hbn (x:=x) (s:=s) (b:=b) (m:=m) (u:=u) (by rw [HOE.out];exact h0);rw [HOE.out] at hrr;have hO2:O.2.2=x.2.1:=by rw [hrr]
 have hdi:∀ z ∈ O.2.2,InI z:=by rw [hO2];exact cnt_inI_all hcn
 have hdl:O.2.2.length≤6:=by rw [hO2];exact (Vx.cnt_good hcn).2.1
 have HSO:Hid (∀ W,Below w.heap.size w W→Calls Tryz.prog 47 #[.agg #[.string n.op,.string n.name,.slice a1 n.ins.length c1,.string n.out,.slice a2 n.attrs.length c2],.slice a3 [x,s,b,m,u].length c3] W fun e w'=>∃ v',e=.returned v'∧w'.ownsRow W.heap.size 2 1 v' x.2.2.length ((bnL n [x,s,b,m,u]).map (Value.int .i64))∧Below W.heap.size W w'):=hid fun W hB=>by
  rw [ebn];exact norm_any (n:=n) (HNV.out.below hB) (tensors_below HS.out hB) h2d e1 e2 i1 i2 i3 i4 hx65 hll
 have HSL:Hid ((bnL n [x,s,b,m,u]).length=x.2.2.length):=hid (by rw [ebn];unfold nrmL;exact nrmK_len);generalize bnL n [x,s,b,m,u]=sl at *;have HID:Hid (IntsIn w2 v O.2.2):=hid (hr.ints (by omega) hdi);have HRI:Hid (∀ W',Below w2.heap.size w2 W'→RowI W' w.heap.size v O.2.2):=hid fun W' h=>(hr.base (B':=w.heap.size) hW1s).below h;obtain ⟨av,cv,rfl⟩:=hr.form;clear HRY HYE HNO HUN HBY hr h0 hq1 hq2 hbn hp hrr hO2 hdi hcn hpr ebn e1 e2 i1 i2 i3 i4 h2d hll;have hB4:Below w2.heap.size w2 ((w2.alloc (Obj.cells #[.string n.out,.int .i64 O.2.1,.slice av O.2.2.length cv] 29)).alloc (Obj.cells #[.int .i64 O.2.1,.slice av O.2.2.length cv,.slice none 0 0] 46)):=((Below.refl _ _).alloc (Nat.le_refl _) _).alloc (by simp) _;obtain ⟨k0,k1,k2,k3,k4⟩:=(HND.out.below' hB4).five;clear hB4;go_wp2_with fail
 clear k0 k1 k2 k3 k4;generalize hW:World.alloc (World.alloc w2 _) _=W4;obtain ⟨hB,hS,b1,b2⟩:=allocs2 hW;clear hW;have HB4:=hid (HB2.out.trans (hB.mono HB2.out.size));have HND4:=hid (HND.out.below' hB);have HRB4:=hid (HRB.out.below' hB);have HID4:=hid (HID.out.below hB);have HRI4:Hid (∀ W',Below w2.heap.size W4 W'→RowI W' w.heap.size (.slice av O.2.2.length cv) O.2.2):=hid fun W' h=>HRI.out W' (hB.trans h);have HVB4:=hid (box_of b1);have HOB4:Hid (BoxN W4 (w2.heap.size+1) #[.int .i64 O.2.1,.slice av O.2.2.length cv,.slice none 0 0] 46):=hid b2;have hz4:W4.heap.size=w2.heap.size+1+1:=hS;have HZ4:=hid hz4;clear b1 b2 hB hS HND HRB HID HRI HB2 hz4;generalize hVB:w2.heap.size=VB at HVB4 HOB4 HZ4 HRI4 hs2 ⊢;clear hVB;refine (HSO.out W4 HB4.out).mono ?_;rintro e w6 ⟨v6,rfl,ho6,B6⟩;obtain ⟨a6,c6,rfl⟩:=owns_form ho6;have hz4':=HZ4.out;have hB6:=B6;have hO6:=HOB4.out.below' hB6;have hR6:=HRB4.out.below' hB6;have hbw6:=HB4.out.trans (hB6.mono HB4.out.size);have hri6:=hB6.mono (show VB≤W4.heap.size by omega);have of:=hO6.frozen 2;have oc:=hO6.cell 2 rfl;have hO7:BoxN (w6.setCell ⟨VB+1,2,none⟩ (.slice a6 x.2.2.length c6)) (VB+1) #[.int .i64 O.2.1,.slice av O.2.2.length cv,.slice a6 x.2.2.length c6] 46:=hO6.set 2 _;have HRE:BoxN (w6.setCell ⟨VB+1,2,none⟩ (.slice a6 x.2.2.length c6)) (w.heap.size+1) #[.int .i64 0,.slice none 0 0,.slice none 0 0] 46:=(Below.heap_setCell _ _ _ _ (by show w.heap.size+1≠VB+1;omega)).trans hR6;have hbw7:Below w.heap.size w (w6.setCell ⟨VB+1,2,none⟩ (.slice a6 x.2.2.length c6)):=hbw6.setCell (p:=⟨VB+1,2,none⟩) (by show w.heap.size≤VB+1;omega) _;have hri:=HRI4.out (w6.setCell ⟨VB+1,2,none⟩ (.slice a6 x.2.2.length c6)) (hri6.setCell (p:=⟨VB+1,2,none⟩) (by show VB≤VB+1;omega) _);have how:((w6.setCell ⟨VB+1,2,none⟩ (.slice a6 x.2.2.length c6))).ownsRow W4.heap.size 2 1 (.slice a6 x.2.2.length c6) x.2.2.length (sl.map (Value.int .i64)):=ownsRow_setCell_below ho6 (a:=⟨VB+1,2,none⟩) (show VB+1 < W4.heap.size by omega) _;obtain ⟨o0,o1,o2⟩:=hO7.three;have f0:=HRE.frozen 0;have f1:=HRE.frozen 1;have f2:=HRE.frozen 2;have g0:=HRE.cell 0 rfl;have g1:=HRE.cell 1 rfl;have g2:=HRE.cell 2 rfl;have hend:Hid (BoxN (put3 (w6.setCell ⟨VB+1,2,none⟩ (.slice a6 x.2.2.length c6)) (w.heap.size+1) (.int .i64 O.2.1) (.slice av O.2.2.length cv) (.slice a6 x.2.2.length c6)) (w.heap.size+1) #[.int .i64 O.2.1,.slice av O.2.2.length cv,.slice a6 x.2.2.length c6] 46 ∧ Below w.heap.size w (put3 (w6.setCell ⟨VB+1,2,none⟩ (.slice a6 x.2.2.length c6)) (w.heap.size+1) (.int .i64 O.2.1) (.slice av O.2.2.length cv) (.slice a6 x.2.2.length c6))∧RowI (put3 (w6.setCell ⟨VB+1,2,none⟩ (.slice a6 x.2.2.length c6)) (w.heap.size+1) (.int .i64 O.2.1) (.slice av O.2.2.length cv) (.slice a6 x.2.2.length c6)) w.heap.size (.slice av O.2.2.length cv) O.2.2∧((put3 (w6.setCell ⟨VB+1,2,none⟩ (.slice a6 x.2.2.length c6)) (w.heap.size+1) (.int .i64 O.2.1) (.slice av O.2.2.length cv) (.slice a6 x.2.2.length c6))).ownsRow w.heap.size 2 1 (.slice a6 x.2.2.length c6) sl.length (sl.map (Value.int .i64))):=hid ⟨HRE.put3 _ _ _,below_put3 hbw7 (by omega),rowI_put3 hri HRE,by rw [HSL.out];exact owns_put3 (owns_base how (by omega)) HRE (by decide)⟩;clear HRE hri how hO7 hbw7 hri6 hbw6 hR6 hO6 hB6 ho6;go_wp2_with fail
 obtain ⟨hx1,hx2,hx3,hx4⟩:=hend.out;obtain ⟨x0,x1',x2'⟩:=hx1.three;unfold put3 at x0 x1' x2' hx2 hx3 hx4;exact bodyPost_ret (v:=.tuple #[.agg #[.int .i64 O.2.1,.slice av O.2.2.length cv,.slice a6 x.2.2.length c6],.int .i64 0]) (by simp [results,Tryz.f25,go_sem,x0,x1',x2']) rfl ⟨hx2,Or.inr ⟨by rw [HDX.out],_,_,by rw [HDX.out],by rw [HDX.out];exact hx3,by rw [HDX.out];exact hx4⟩⟩
end
section
namespace Fl
open Ieee Go.RowKit
theorem binI_no {op:List UInt8} {t x y:Int} (h:(binI op t x y).2≠0):(binI op t x y).1=0:=by
 revert h
 unfold binI
 repeat' split
 all_goals first | exact fun _=>rfl | exact fun h=>absurd rfl h
theorem binR_no {c d wh:Bool} {o:Option Int} {i:Int × Int} {op:List UInt8} {t x y:Int} (hi:i.2≠0→i.1=0) (h:(binR c d wh o i op t x y).2≠0):(binR c d wh o i op t x y).1=0:=by
 revert h
 unfold binR
 repeat' split
 all_goals first | exact fun _=>rfl | exact hi | exact fun h=>absurd rfl h
theorem bin_chk {op:List UInt8} {t x y:Int} (ht:chk t 0=true) (ho:outT op t=t):chk t (bin op t x y).1=true:=by
 by_cases h:(bin op t x y).2=0
 ·have:=bin_stays op t x y h
  rwa [ho] at this
 ·have e:(bin op t x y).1=0:=by
   unfold bin at h ⊢;exact binR_no binI_no h
  rw [e];exact ht
end Fl
open Go.RowKit
set_option maxRecDepth 100000
theorem chk_one0:chk 1 0=true:=by rw [chk_fl];decide +kernel
theorem two_chk {op:List UInt8} {t x y:Int} (h:chk t 0=true) (ho:Fl.outT op t=t):chk t (twoP op t x y)=true:=by
 rw [chk_fl] at *;exact Fl.bin_chk h ho
theorem fold_chk {op:List UInt8} {t:Int} (h:chk t 0=true) (ho:Fl.outT op t=t):∀ {l:List Int} {x:Int},chk t x=true→chk t (l.foldl (twoP op t) x)=true
 | [],x,hx=>hx
 | y :: l,x,hx=>fold_chk h ho (l:=l) (two_chk h ho)
theorem chk_seven (z:Int):chk 7 z=true:=by rw [chk_fl];rfl
theorem tog_chk {op:List UInt8} {t:Int} {l:List Int} (ho:op ∈ redOps) (h0:chk t 0=true) (hz:∀ z ∈ l,chk t z=true) (hm:op=lRMean→t=1):chk (if op=lArg then 7 else t) (togP op t l)=true:=by
 simp only [redOps,List.mem_cons,List.not_mem_nil,or_false] at ho;rcases ho with rfl | rfl | rfl | rfl
 ·rw [togP_sum,if_neg (by decide)];exact fold_chk h0 rfl h0
 ·rw [togP_max,if_neg (by decide)];refine fold_chk h0 rfl ?_;cases l with
  | nil=>exact h0
  | cons a l=>exact hz _ (by simp)
 ·rw [togP_mean,if_neg (by decide)];obtain rfl:=hm rfl;exact two_chk h0 rfl
 ·rw [togP_arg,if_pos rfl];exact chk_seven _
theorem rTy_out {op:List UInt8} {t:Int} (ho:op ∈ redOps) (h:(rTy op t).1=0):(rTy op t).2=(if op=lArg then 7 else t)∧(op=lRMean→t=1):=by
 simp only [redOps,List.mem_cons,List.not_mem_nil,or_false] at ho;unfold rTy typS typD at *;rcases ho with rfl | rfl | rfl | rfl
 ·rw [if_neg (by decide),if_neg (by decide)] at *;split at h
  ·rename_i c;rw [if_pos c,if_neg (by decide)];exact ⟨rfl,fun e=>absurd e (by decide)⟩
  ·exact absurd h (by decide)
 ·rw [if_neg (by decide),if_neg (by decide)] at *;split at h
  ·rename_i c;rw [if_pos c,if_neg (by decide)];exact ⟨rfl,fun e=>absurd e (by decide)⟩
  ·exact absurd h (by decide)
 ·rw [if_neg (by decide),if_pos rfl] at *;split at h
  ·rename_i c;rw [if_pos c,if_neg (by decide)];exact ⟨rfl,fun _=>by simpa using c⟩
  ·exact absurd h (by decide)
 ·rw [if_pos rfl] at *;split at h
  ·rename_i c;rw [if_pos c,if_pos rfl];exact ⟨rfl,fun e=>absurd e (by decide)⟩
  ·exact absurd h (by decide)
theorem redD_may {n:Nd} {x:Tn} (ho:n.op.toList ∈ redOps) (h:(redD n x).1=0):pbE (redD n x).2.1 (redD n x).2.2.1 (redD n x).2.2.2=0:=by
 have h0:=redD_zero h;obtain ⟨r1,r2,r3,r4,r5,r6,r7,r8,r9⟩:=rB_yes h0;obtain ⟨p1,p2,p3,p4⟩:=pbE_zero r3;obtain ⟨t1,t2⟩:=rTy_out ho r4;have hx0:chk x.1 0=true:=pbE_zeroJ r3;rw [redD_yes h0];have e1:(rB n x).2.1=(rTy n.op.toList x.1).2:=by rw [r8]
 have hc:(cnt (rB n x).2.2).2=0:=by rw [r9]
 refine pbE_of ?_ hc ?_ ?_
 ·show chk (rB n x).2.1 0=true;rw [e1,t1];split
  ·exact chk_seven 0
  ·exact hx0
 ·show ((redR _ _ _ _ _ _).length:Int)=_;have:=(Vx.cnt_good hc).2.2.1;rw [r9] at this;simp only [redR,List.length_map,List.length_range];omega
 ·intro z hz;obtain ⟨j,hj,rfl⟩:=List.mem_map.1 hz;show chk (rB n x).2.1 _=true;rw [e1,t1];exact tog_chk ho hx0 (fun z hz=>p4 z (Vx.rowOf_mem (Nat.le_refl _) hz)) t2
theorem sofD_may {n:Nd} {x:Tn} (h:(sofD n x).1=0):pbE (sofD n x).2.1 (sofD n x).2.2.1 (sofD n x).2.2.2=0:=by
 have h0:=sofD_zero h;obtain ⟨r3,r4,⟨ax,r5⟩,r8,r9⟩:=sB_yes h0;obtain ⟨p1,p2,p3,p4⟩:=pbE_zero r3;have hx0:chk 1 0=true:=chk_one0;rw [sofD_yes h0 ax r5,r8];refine pbE_of (by show chk x.1 0=true;rw [r4];exact hx0) p2 ?_ ?_
 ·show ((softL _ _ _).length:Int)=_;rw [←p3];simp [softL]
 ·intro z hz;obtain ⟨j,hj,rfl⟩:=List.mem_map.1 hz;show chk x.1 _=true;rw [r4];exact two_chk hx0 rfl
theorem nrm_chk {eps:Int} {I C:Nat} {xs s b m u:List Int}:∀ z ∈ nrmL eps I C xs s b m u,chk 1 z=true:=fun z hz=>by
 obtain ⟨k,hk,rfl⟩:=List.mem_map.1 hz;split
 ·exact two_chk chk_one0 rfl
 ·exact chk_one0
theorem restA_zero {n:Nd} {ts:List Tn} (h:(restA n ts).1=0):(rbA n ts).1=0∧n.op.toList=lBN:=by
 unfold restA at h;split at h
 ·rename_i c;exact absurd h c
 ·rename_i c
  split at h
  ·rename_i d;exact ⟨by simpa using c,d⟩
  ·exact absurd h (by decide)
theorem restA_form {n:Nd} {ts:List Tn} (h:(restA n ts).1≠0):(restA n ts).2=(0,[],[]):=by
 unfold restA at *;split at h
 ·rename_i c;rw [if_pos c]
 ·rename_i c
  rw [if_neg c];split at h
  ·exact absurd rfl h
  ·rename_i d;rw [if_neg d]
theorem restA_may {n:Nd} {ts:List Tn} (h:(restA n ts).1=0):pbE (restA n ts).2.1 (restA n ts).2.2.1 (restA n ts).2.2.2=0:=by
 obtain ⟨h0,ho⟩:=restA_zero h;rw [restA_bn h0 ho];obtain ⟨x,s,b,m,u,rfl,hp,h2,hd,hr⟩:=bn_yes ho h0;obtain ⟨I,C,e1,e2,i1,i2,i3,i4,-,-,-,ebn,hc,hpr⟩:=bn_parts ho h0;rw [hr];refine pbE_of chk_one0 hc ?_ ?_
 ·show ((bnL n [x,s,b,m,u]).length:Int)=_;rw [ebn];unfold nrmL;rw [nrmK_len];exact hpr
 ·intro z hz;have hz:z ∈ bnL n [x,s,b,m,u]:=hz;rw [ebn] at hz;exact nrm_chk z hz
def rdA (n:Nd) (ts:List Tn):Int × Int × List Int × List Int :=
 if n.op.toList ∈ redOps∧ts.length=1 then redD n (ts.getD 0 tnZ) else if n.op.toList=lSoft∧ts.length=1 then sofD n (ts.getD 0 tnZ) else restA n ts
theorem rdA_no {n:Nd} {ts:List Tn} (h:(rdA n ts).1≠0):(rdA n ts).2=(0,[],[]):=by
 unfold rdA at *;split at h
 ·rename_i c;rw [if_pos c];exact redD_form h
 ·rename_i c
  rw [if_neg c];split at h
  ·rename_i d;rw [if_pos d];exact sofD_form h
  ·rename_i d;rw [if_neg d];exact restA_form h
theorem rdA_may {n:Nd} {ts:List Tn} (h:(rdA n ts).1=0):pbE (rdA n ts).2.1 (rdA n ts).2.2.1 (rdA n ts).2.2.2=0:=by
 unfold rdA at *;split at h
 ·rename_i c;rw [if_pos c];exact redD_may c.1 h
 ·rename_i c
  rw [if_neg c];split at h
  ·rename_i d;rw [if_pos d];exact sofD_may h
  ·rename_i d;rw [if_neg d];exact restA_may h
theorem rdo_allU {w:World} {vn vv:Value} {n:Nd} {ts:List Tn} (hn:NodeV w vn n) (hs:SlIn 3 rdTensor w vv ts) (hG:Glob w) (hax:(intsP n.attrs nmAxes []).length * 8+48≤140737488351232) :
  Calls Tryz.prog 25 #[vn,vv] w (UniR w (rdA n ts)):=by
 have one:ts.length=1→ts=[ts.getD 0 tnZ]:=fun h=>by
  match ts,h with
  | [a],_=>rfl
 unfold rdA;split
 ·rename_i c
  have hs1:=hs;rw [one c.2] at hs1;exact rdo_U hn hs1 hG c.1
 ·rename_i c
  split
  ·rename_i d
   have hs1:=hs;rw [one d.2] at hs1;exact rdo_softU hn hs1 hG d.1
  ·rename_i d
   refine (rdo_rest hn hs hG hax fun h=>?_).mono fun e w' h=>?_
   ·have h1:¬ (n.op.toList=lSoft∨n.op.toList ∈ redOps):=fun ho=>by
     obtain ⟨-,h2,-⟩:=begO_yes h;obtain ⟨g1,g2,-⟩:=outP_yes h2;obtain ⟨r,hr,e0,e1,e2⟩:=ops_of g1;obtain ⟨c1,c2⟩:=so_opT r hr (by rw [←e0];exact ho);have hl:ts.length=n.ins.length:=by simpa using g2
     rcases ho with ho | ho
     ·exact d ⟨ho,by omega⟩
     ·exact c ⟨ho,by omega⟩
    exact ⟨fun e=>h1 (Or.inl e),fun e=>h1 (Or.inr e)⟩
   ·refine h.uni (fun h=>restA_form h) (fun h=>?_);obtain ⟨h0,ho⟩:=restA_zero h;rw [restA_bn h0 ho];obtain ⟨x,s,b,m,u,rfl,hp,h2,hd,hr⟩:=bn_yes ho h0;obtain ⟨I,C,e1,e2,i1,i2,i3,i4,-,h65,-,ebn,hc,hpr⟩:=bn_parts ho h0;have hin:∀ t ∈ [x,s,b,m,u],∀ z ∈ t.2.2,InI z:=fun t ht=>(tens_mem hs ht).2;rw [hr];refine ⟨⟨by have:=(Vx.cnt_good hc).2.1;show x.2.1.length≤1000;omega,cnt_inI_all hc⟩,?_,?_⟩
    ·show (bnL n [x,s,b,m,u]).length≤_;rw [ebn];unfold nrmL;rw [nrmK_len];omega
    ·show ∀ z ∈ bnL n [x,s,b,m,u],InI z;rw [ebn];exact nrmL_in (bits_okP hn (by unfold InI;decide)) (hin x (by simp)) (hin s (by simp)) (hin b (by simp)) (hin m (by simp)) (hin u (by simp))
end
section
open Go.RowKit
set_option maxRecDepth 100000
attribute [local irreducible] rdA pbE
set_option maxHeartbeats 8000000 in
theorem may11_any {w:World} {vn vv:Value} {n:Nd} {ts:List Tn} (hn:NodeV w vn n) (hs:SlIn 3 rdTensor w vv ts) (hG:Glob w) (hax:(intsP n.attrs nmAxes []).length * 8+48≤140737488351232) :
  Calls Tryz.prog 8 #[vn,vv] w fun e w'=>e=.returned (.bool true)∧Below w.heap.size w w':=by
 have HNV:=hid hn;obtain ⟨vin,vat,rfl,hm⟩:=hn;obtain ⟨a1,c1,rfl⟩:=hm.is.form;obtain ⟨a2,c2,rfl⟩:=hm.ia.form;obtain ⟨a3,c3,rfl⟩:=hs.form;have HS:=hid hs;have HG:=hid hG;have HAX:=hid hax;clear hm hs hG hax;have HLv:=hid (fun (W:World) (hB:Below w.heap.size w W)=>live11_any (HG.out.below hB));have HNo:=hid (fun h=>rdA_no (n:=n) (ts:=ts) h);have HYe:=hid (fun h=>rdA_may (n:=n) (ts:=ts) h);unfold Nd.val at HNV ⊢;have HB1:=hid ((Below.refl w.heap.size w).alloc (Nat.le_refl _) (Obj.cells #[.string n.op,.string n.name,.slice a1 n.ins.length c1,.string n.out,.slice a2 n.attrs.length c2] 25));have HA1:=hid (BoxN.new w #[.string n.op,.string n.name,.slice a1 n.ins.length c1,.string n.out,.slice a2 n.attrs.length c2] 25);go_enter Tryz.func8,Tryz.ntmps8
 go_wp2_with fail
 generalize World.alloc w _=W1 at HB1 HA1 ⊢;refine (small11_any (tensors_below HS.out HB1.out)).mono ?_;rintro e w2 ⟨⟨b,rfl⟩,B2⟩;have HB2:=hid (HB1.out.trans (B2.mono HB1.out.size));have HA2:=hid (HA1.out.below' B2);clear B2 HA1 HB1;cases b
 case false =>
  go_wp2_with fail
  refine (HLv.out _ HB2.out).mono ?_;rintro e w3 ⟨rfl,B3⟩;have HB3:=hid (HB2.out.trans (B3.mono HB2.out.size));clear B3;go_wp2
  go_ret
  exact ⟨rfl,HB3.out⟩
 obtain ⟨k0,k1,k2,k3,k4⟩:=HA2.out.five;go_wp2_with fail
 clear k0 k1 k2 k3 k4;refine (rdo_allU (n:=n) (ts:=ts) (HNV.out.below HB2.out) (tensors_below HS.out HB2.out) (HG.out.below HB2.out) HAX.out).mono ?_;intro e w3 hu;obtain ⟨p1,hp1⟩:∃ o,rdA n ts=o:=⟨_,rfl⟩;rw [hp1] at hu;rw [hp1] at HNo HYe;clear hp1;obtain ⟨c,t,d,x⟩:=p1;obtain ⟨vd3,vx3,rfl,hd3,hx3,-,B3⟩:=hu.out;clear hu;have HB3:=hid (HB2.out.trans (B3.mono HB2.out.size));have HD3:=hid hd3;have HX3:=hid hx3;obtain ⟨a4,c4,rfl⟩:=hd3.shape;obtain ⟨a5,c5,rfl⟩:=hx3.shape;clear hd3 hx3 B3 HA2;have HB34:Hid (Below w3.heap.size w3 (w3.alloc (Obj.cells #[.int .i64 t,.slice a4 d.length c4,.slice a5 x.length c5] 46))):=hid ((Below.refl _ w3).alloc (Nat.le_refl _) _);have HB4:Hid (Below w.heap.size w (w3.alloc (Obj.cells #[.int .i64 t,.slice a4 d.length c4,.slice a5 x.length c5] 46))):=hid (HB3.out.trans (HB34.out.mono HB3.out.size));have HU:=hid (BoxN.new w3 #[.int .i64 t,.slice a4 d.length c4,.slice a5 x.length c5] 46);have HD4:=hid (HD3.out.below HB34.out);have HX4:=hid (HX3.out.below HB34.out);clear HD3 HX3 HB34;by_cases hc:c=0
 ·have HPB:=hid (HYe.out hc);subst hc;clear HNo HYe;go_wp2_with fail
  generalize w3.alloc (Obj.cells #[.int .i64 t,.slice a4 d.length c4,.slice a5 x.length c5] 46)=w4 at HB4 HU HD4 HX4 ⊢;generalize w3.heap.size=U2 at HU ⊢;obtain ⟨u0,u1,u2⟩:=HU.out.three;go_wp2_with fail
  refine (rpb_any t d x HD4.out HX4.out).mono ?_;rintro e w5 ⟨rfl,B5⟩;rw [show pbE t d x=0 from HPB.out];have HB5:=hid (HB4.out.trans (B5.mono HB4.out.size));clear B5 u0 u1 u2;go_wp2_with fail
  refine (HLv.out _ HB5.out).mono ?_;rintro e w6 ⟨rfl,B6⟩;have HB6:=hid (HB5.out.trans (B6.mono HB5.out.size));clear B6;go_wp2
  go_ret
  exact ⟨rfl,HB6.out⟩
 ·have hz:=HNo.out hc;dsimp only at hz;simp only [Prod.mk.injEq] at hz;obtain ⟨rfl,rfl,rfl⟩:=hz;have hb:(c != 0)=true:=by simpa using hc
  clear HNo HYe hc;go_wp2_with fail
  generalize w3.alloc (Obj.cells #[.int .i64 0,.slice a4 ([]:List Int).length c4,.slice a5 ([]:List Int).length c5] 46)=w4 at HB4 HU HD4 HX4 ⊢;generalize w3.heap.size=U2 at HU ⊢;obtain ⟨u0,u1,u2⟩:=HU.out.three;go_wp2_with fail
  refine (stensor_any 0 [] [] HD4.out HX4.out (.empty none 0) (.empty none 0)).mono ?_;rintro e w5 ⟨rfl,B5⟩;have HB5:=hid (HB4.out.trans (B5.mono HB4.out.size));clear B5 u0 u1 u2;go_wp2_with fail
  refine (HLv.out _ HB5.out).mono ?_;rintro e w6 ⟨rfl,B6⟩;have HB6:=hid (HB5.out.trans (B6.mono HB5.out.size));clear B6;go_wp2
  go_ret
  exact ⟨rfl,HB6.out⟩
theorem may11_walk {w:World} {vn vv:Value} {n:Nd} {ts:List Tn} (hn:NodeV w vn n) (hb:n.attrs.length≤1048575) (hbi:∀ a ∈ n.attrs,a.ints.length≤1048575) (hs:SlIn 3 rdTensor w vv ts) (hG:Glob w) :
  Calls Tryz.prog 8 #[vn,vv] w fun e w'=>e=.returned (.bool true)∧Below w.heap.size w w':=may11_any hn hs hG (hax_of hbi)
end
end Go.Proofs.YtijhdmidffenbaaGreatDoor
