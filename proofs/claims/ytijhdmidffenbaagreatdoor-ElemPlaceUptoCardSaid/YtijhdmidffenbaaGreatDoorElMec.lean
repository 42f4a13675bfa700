import Derived.Test.YtijhdmidffenbaaGreatDoorElMrm
import Derived.Test.YtijhdmidffenbaaGreatDoorEpCec
import Derived.Test.YtijhdmidffenbaaGreatDoorInM2rm
import Derived.Test.YtijhdmidffenbaaGreatDoorGrCrm
import Derived.Test.YtijhdmidffenbaaGreatDoorSchBrm
import Derived.Test.YtijhdmidffenbaaGreatDoorNmMrm
import Derived.Test.YtijhdmidffenbaaGreatDoorRegrm
import Derived.Test.YtijhdmidffenbaaGreatDoorVxM2rm
import Derived.Test.YtijhdmidffenbaaGreatDoorSchNdrm
import Derived.Test.YtijhdmidffenbaaGreatDoorInM3rm
import Derived.Test.YtijhdmidffenbaaGreatDoorFlM2rm
import Derived.Test.YtijhdmidffenbaaGreatDoorSrMrm
open Go.Lib (hid)
set_option linter.unusedVariables false
set_option linter.unusedSimpArgs false
namespace Go.Proofs.YtijhdmidffenbaaGreatDoor
section
open Go.RowKit
set_option maxRecDepth 100000
attribute [local irreducible] cnt chk checkP inpE outP folB thenE RowI pbE begO pbAll
set_option maxHeartbeats 16000000 in
theorem begin_any {w:World} {vn vv:Value} {n:Nd} {ts:List Tn} (hn:NodeV w vn n) (hs:SlIn 3 rdTensor w vv ts) (hG:Glob w) {ty:Int × Int} {ds:Int × List Int}
  (hT:checkP n=0→ts.length=n.ins.length→pbAll ts=true→∀ (W:World) (v:Value),Below w.heap.size w W→MkV W v n (ts.map tvV)→Calls Tryz.prog 32 #[v] W fun e w'=>TyR ty e∧Below W.heap.size W w')
  (hD:checkP n=0→ts.length=n.ins.length→pbAll ts=true→ty.1=0→∀ (W:World) (v:Value),Below w.heap.size w W→MkV W v n (ts.map tvV)→Calls Tryz.prog 33 #[v] W fun e w'=>DimR W ds e w') :
  Calls Tryz.prog 39 #[vn,vv] w fun e w'=>OutR w n (begO n ts ty ds) e w':=by
 obtain ⟨i0,hi,hz0,hz1,hz2⟩:=info_parts info_val;have hll:=hs.len;obtain ⟨a3,c3,rfl⟩:=hs.form;have HN:=hid hn;obtain ⟨vin,vat,rfl,hm⟩:=hn;obtain ⟨a1,c1,rfl⟩:=hm.is.form;obtain ⟨a2,c2,rfl⟩:=hm.ia.form;have HS:=hid hs;have HG:=hid hG;have HT:=hid hT;have HD:=hid hD;clear hm hs hG hT hD;unfold Nd.val at HN ⊢;have HB1:Hid (Below w.heap.size w ((w.alloc (Obj.cells #[.string n.op,.string n.name,.slice a1 n.ins.length c1,.string n.out,.slice a2 n.attrs.length c2] 25)).alloc (Obj.cells #[.string ⟨#[]⟩,.int .i64 0,.slice none 0 0] 29))):=hid (((Below.refl _ w).alloc (Nat.le_refl _) _).alloc (by simp) _);have HND:Hid (BoxN ((w.alloc (Obj.cells #[.string n.op,.string n.name,.slice a1 n.ins.length c1,.string n.out,.slice a2 n.attrs.length c2] 25)).alloc (Obj.cells #[.string ⟨#[]⟩,.int .i64 0,.slice none 0 0] 29)) w.heap.size #[.string n.op,.string n.name,.slice a1 n.ins.length c1,.string n.out,.slice a2 n.attrs.length c2] 25):=hid ((BoxN.new w #[.string n.op,.string n.name,.slice a1 n.ins.length c1,.string n.out,.slice a2 n.attrs.length c2] 25).below' ((Below.refl _ _).alloc (Nat.le_refl _) _));have HOC:Hid (BoxN ((w.alloc (Obj.cells #[.string n.op,.string n.name,.slice a1 n.ins.length c1,.string n.out,.slice a2 n.attrs.length c2] 25)).alloc (Obj.cells #[.string ⟨#[]⟩,.int .i64 0,.slice none 0 0] 29)) (w.heap.size+1) #[.string ⟨#[]⟩,.int .i64 0,.slice none 0 0] 29):=hid (boxn_newE (by simp));go_enter Tryz.func39,Tryz.ntmps39
 go_wp2_with fail
 generalize World.alloc (World.alloc w _) _=W1 at HB1 HND HOC ⊢;go_loopw [6,11] (fun ov i wr=>∃ (k:Nat) (dv:List Value),k≤ts.length∧i=.int .i64 (k:Int)∧Hid (ValsB w wr W1.heap.size ((ts.map tvV).take k) ov dv)∧Hid (((ts.map tvV).take k).length=k)∧Hid (pbAll (ts.take k)=true)∧Hid (Below W1.heap.size W1 wr)) (fun _ i _=>ts.length - (intOf i).toNat)
 case atStart=>exact ⟨0,[],Nat.zero_le _,rfl,hid ⟨rfl,World.ownsRow_nil _ _ _ _,by simp⟩,hid rfl,hid (by simp [pbAll]),hid (Below.refl _ _)⟩
 case round =>
  obtain ⟨k,dv,hk,rfl,hV,hL,hP,hW⟩:=hrel;have HBw:=hid (HB1.out.trans (hW.out.mono HB1.out.size));by_cases hkl:k < ts.length
  ·have hki:(k:Int) < (ts.length:Int):=by omega
   obtain ⟨x,hx⟩:∃ x,ts[k]?=some x:=⟨_,List.getElem?_eq_getElem hkl⟩;obtain ⟨b,off,cap,vd,vx,hv,hb,c0,c1',c2',h1,h2,h3⟩:=tensor_at HS.out hx;obtain ⟨rfl,-,rfl⟩:=Value.slice.inj hv;have u0:=(HBw.out.cell (p:=⟨b,off+k * 3,none⟩) hb).trans c0;have u1:=(HBw.out.cell (p:=⟨b,off+k * 3+1,none⟩) hb).trans c1';have u2:=(HBw.out.cell (p:=⟨b,off+k * 3+2,none⟩) hb).trans c2';have HX:=hid hx;have HTy:=hid h1;have HI0:=hid h2;have H2:=hid (h2.below HBw.out);have H3:=hid (h3.below HBw.out);obtain ⟨ad,cd,rfl⟩:=h2.shape;obtain ⟨ax,cx,rfl⟩:=h3.shape;clear c0 c1' c2' h1 h2 h3 hv hx;go_wp2_with fail
   have hB2:Below wr.heap.size wr (wr.alloc (Obj.cells #[.int .i64 x.1,.slice ad x.2.1.length cd,.slice ax x.2.2.length cx] 46)):=(Below.refl _ _).alloc (Nat.le_refl _) _;have HTB:=hid (BoxN.new wr #[.int .i64 x.1,.slice ad x.2.1.length cd,.slice ax x.2.2.length cx] 46);have H2:=hid (H2.out.below hB2);have H3:=hid (H3.out.below hB2);have hV:=hid (hV.out.below hB2);have hW:=hid (hW.out.trans (hB2.mono hW.out.size));clear u0 u1 u2 hB2;generalize World.alloc wr _=W2 at HTB H2 H3 hV hW ⊢;generalize wr.heap.size=P2 at HTB ⊢;refine (pb_any x.1 x.2.1 x.2.2 H2.out H3.out).mono ?_;rintro e w3 ⟨rfl,B3⟩;have HTB3:=hid (HTB.out.below' B3);have HV3:=hid (hV.out.below B3);have HW3:=hid (hW.out.trans (B3.mono hW.out.size));have HI3:=hid (H2.out.below B3);clear B3 HTB hV hW H3 H2;by_cases hz:pbE x.1 x.2.1 x.2.2=0
   ·have HP':=hid (pbAll_next HX.out hP.out hz);rw [hz];clear hz;have k0:w3.cell? ⟨P2,0,none⟩=some (.int .i64 x.1):=HTB3.out.cell 0 rfl;have k1:w3.cell? ⟨P2,1,none⟩=some (.slice ad x.2.1.length cd):=HTB3.out.cell 1 rfl;have hsw:=HW3.out.size;have hlk:=hL.out;go_wp2_with (at_builtin;refine wpList_append_own _ rfl _ _ 26 rfl W1.heap.size 29 i0 (.agg #[.string ⟨#[]⟩,.int .i64 0,.slice none 0 0]) 3 48 Tryz.underlying26 hi hz0 hz1 hz2 rfl (by decide) _ _ _ rfl (HV3.out.row.alloc _) ⟨w3.heap.size,0,none⟩ 1 1 (#[.string ⟨#[]⟩,.int .i64 x.1,.slice ad x.2.1.length cd]:Array Value).toList rfl rfl (World.news_of_block (heap_alloc_new w3 _)) (by simp [Value.oneCell']) (by unfold maxLen;omega) (by omega) (by simp;omega) ?_)
    intro v' w6 hown' hgrow _;obtain ⟨a6,c6,rfl⟩:=owns_form hown';have hx':=HX.out;have hrE:Hid ((w3.alloc (.cells #[.string ⟨#[]⟩,.int .i64 x.1,.slice ad x.2.1.length cd] 29)).ownsRow W1.heap.size 29 3 _ _ (rowV ((ts.map tvV).take k) dv)):=hid (HV3.out.row.alloc _);have hW6:Below W1.heap.size W1 w6:=(HW3.out.alloc (by omega) _).grown hgrow (by simp;omega) (fun g hg=>by have:=(hrE.out.lt g hg).1;omega);have hT:(ts.map tvV).take (k+1)=(ts.map tvV).take k++[tvV x]:=by rw [List.take_add_one,List.getElem?_map,hx'];rfl
    have HV6:Hid (ValsB w w6 W1.heap.size ((ts.map tvV).take (k+1)) (.slice a6 (k+1) c6) (dv++[.slice ad x.2.1.length cd])):=hid {
     len:=by rw [hT,List.length_append,List.length_append,HV3.out.len];rfl
     row:=by
      rw [hT,rowV_snoc _ _ HV3.out.len.symm,List.length_append,hlk];exact hown'
     att:=fun j y d h1 h2=>by
      rw [hT] at h1;by_cases hj:j < ((ts.map tvV).take k).length
      ·rw [List.getElem?_append_left hj] at h1;rw [List.getElem?_append_left (by rw [HV3.out.len];exact hj)] at h2;exact HV3.out.att j y d h1 h2
      ·rw [List.getElem?_append_right (by omega)] at h1;rw [List.getElem?_append_right (by rw [HV3.out.len];omega),HV3.out.len] at h2;have hj0:j - ((ts.map tvV).take k).length=0:=by
        rcases Nat.eq_zero_or_pos (j - ((ts.map tvV).take k).length) with h | h
        ·exact h
        ·rw [List.getElem?_eq_none (by simp;omega)] at h1;cases h1
       rw [hj0] at h1 h2;have e1:=Option.some.inj h1;obtain rfl:=Option.some.inj h2;rw [←e1];exact ⟨(by show ByteArray.size ⟨#[]⟩≤_;decide),HTy.out,HI0.out⟩ }
    have HW6:=hid hW6;clear hown' hgrow hrE hT;go_wp2
    go_roundw
    case rel=>exact ⟨k+1,_,by omega,by go_num,HV6,hid (by rw [List.length_take,List.length_map];omega),HP',HW6⟩
    case measure=>simp [intOf];omega
   ·have HR:Hid (begO n ts ty ds=(1,0,[])):=hid (begO_bad HX.out hz);have hb':(pbE x.1 x.2.1 x.2.2 != 0)=true:=by simpa using hz
    generalize pbE x.1 x.2.1 x.2.2=q at *;clear hz;have HOC3:=HOC.out.below' HW3.out;have f0:=HOC3.frozen 0;have f1:=HOC3.frozen 1;have f2:=HOC3.frozen 2;have g0:=HOC3.cell 0 rfl;have g1:=HOC3.cell 1 rfl;have g2:=HOC3.cell 2 rfl;have HBE:=hid (HB1.out.trans (HW3.out.mono HB1.out.size));have hend:Hid (BoxN (put3 w3 (w.heap.size+1) (.string ⟨#[]⟩) (.int .i64 0) (.slice none 0 0)) (w.heap.size+1) #[(.string ⟨#[]⟩),(.int .i64 0),(.slice none 0 0)] 29 ∧ Below w.heap.size w (put3 w3 (w.heap.size+1) (.string ⟨#[]⟩) (.int .i64 0) (.slice none 0 0))):=hid ⟨HOC3.put3 _ _ _,below_put3 HBE.out (by omega)⟩;clear HOC3;go_wp2_with fail
    obtain ⟨hx1,hx2⟩:=hend.out;obtain ⟨x0,x1',x2'⟩:=hx1.three;unfold put3 at x0 x1' x2' hx2;exact bodyPost_ret (v:=.tuple #[.agg #[.string ⟨#[]⟩,.int .i64 0,.slice none 0 0],.int .i64 1]) (by simp [results,Tryz.f39,go_sem,x0,x1',x2']) rfl (OutR.no HR.out (by decide) hx2)
  ·have hki:¬ (k:Int) < (ts.length:Int):=by omega
   obtain rfl:k=ts.length:=by omega
   have hP:=hid (by have:=hP.out;rwa [List.take_length] at this);have hV:=hid (by have:=hV.out;rwa [List.take_of_length_le (by simp)] at this);obtain ⟨k0,k1,k2,k3,k4⟩:=(HND.out.below' hW.out).five;have hsl:=hid (hV.out.sl (by simpa using hll) HBw.out);have hpl:=hP.out;have HOU:=hid (out_any (w:=wr) (n:=n) (ins:=ts.map tvV) (ty:=ty) (ds:=ds) (HN.out.below HBw.out) hsl.out (HG.out.below HBw.out) (fun h1 h2 h3 W v hB=>HT.out h1 (by simpa using h2) hpl W v (HBw.out.trans (hB.mono HBw.out.size))) (fun h1 h2 h3 h4 W v hB=>HD.out h1 (by simpa using h2) hpl h4 W v (HBw.out.trans (hB.mono HBw.out.size))));have HE:Hid (begO n ts ty ds=outP n (ts.map tvV) ty ds):=hid (begO_good hpl);clear hpl;go_wp2_with fail
   refine HOU.out.mono ?_;rintro e w5 ⟨B5,hr⟩;have HW5:=hid (hW.out.trans (B5.mono hW.out.size));have HBE:=hid (HBw.out.trans (B5.mono HBw.out.size));have HOC3:=HOC.out.below' HW5.out;have f0:=HOC3.frozen 0;have f1:=HOC3.frozen 1;have f2:=HOC3.frozen 2;have g0:=HOC3.cell 0 rfl;have g1:=HOC3.cell 1 rfl;have g2:=HOC3.cell 2 rfl;have hlt:=HOC.out.lt;have hws:=hW.out.size;clear B5 k0 k1 k2 k3 k4;generalize outP n (ts.map tvV) ty ds=O at *;rcases hr with ⟨hne,rfl⟩ | ⟨h0,v,rfl,hr⟩
   ·have HNE:=hid hne;have hend:Hid (BoxN (put3 w5 (w.heap.size+1) (.string ⟨#[]⟩) (.int .i64 0) (.slice none 0 0)) (w.heap.size+1) #[(.string ⟨#[]⟩),(.int .i64 0),(.slice none 0 0)] 29 ∧ Below w.heap.size w (put3 w5 (w.heap.size+1) (.string ⟨#[]⟩) (.int .i64 0) (.slice none 0 0))):=hid ⟨HOC3.put3 _ _ _,below_put3 HBE.out (by omega)⟩;clear HOC3 hne;go_wp2_with fail
    obtain ⟨hx1,hx2⟩:=hend.out;obtain ⟨x0,x1',x2'⟩:=hx1.three;unfold put3 at x0 x1' x2' hx2;exact bodyPost_ret (v:=.tuple #[.agg #[.string ⟨#[]⟩,.int .i64 0,.slice none 0 0],.int .i64 O.1]) (by simp [results,Tryz.f39,go_sem,x0,x1',x2']) rfl ⟨hx2,Or.inl ⟨by rw [HE.out];exact HNE.out,by rw [HE.out]⟩⟩
   ·have H0:=hid h0;have hrp:RowI (put3 w5 (w.heap.size+1) (.string n.out) (.int .i64 O.2.1) v) w.heap.size v O.2.2:=put3_row hr (by omega) (by omega);have HRP:=hid hrp;obtain ⟨av,cv,rfl⟩:=hr.form;have hend:Hid (BoxN (put3 w5 (w.heap.size+1) (.string n.out) (.int .i64 O.2.1) (.slice av O.2.2.length cv)) (w.heap.size+1) #[(.string n.out),(.int .i64 O.2.1),(.slice av O.2.2.length cv)] 29 ∧ Below w.heap.size w (put3 w5 (w.heap.size+1) (.string n.out) (.int .i64 O.2.1) (.slice av O.2.2.length cv))):=hid ⟨HOC3.put3 _ _ _,below_put3 HBE.out (by omega)⟩;clear HOC3 h0 hr hrp;go_wp2_with fail
    obtain ⟨hx1,hx2⟩:=hend.out;obtain ⟨x0,x1',x2'⟩:=hx1.three;have hrp:=HRP.out;unfold put3 at x0 x1' x2' hx2 hrp;exact bodyPost_ret (v:=.tuple #[.agg #[.string n.out,.int .i64 O.2.1,.slice av O.2.2.length cv],.int .i64 0]) (by simp [results,Tryz.f39,go_sem,x0,x1',x2']) rfl ⟨hx2,Or.inr ⟨by rw [HE.out];exact H0.out,_,by rw [HE.out],by rw [HE.out];exact hrp⟩⟩
end
section
open Go.RowKit
set_option maxRecDepth 100000
def PlaceC (fn:Value) (w0:World) (f:List Int→Int × Int) (m:Nat):Prop :=
 ∃ (g:Nat) (lb:Array Value),fn=.func (.func g) #[] lb∧(∀ args w,(callFunc g args).run Tryz.prog w=.ok (.enter g args) w) ∧
  ∀ (W:World) (v:Value) (xs:List Int),Below w0.heap.size w0 W→IntsIn W v xs→xs.length=m→Calls Tryz.prog g (#[v]++lb) W fun e w'=>e=.returned (.tuple #[.int .i64 (f xs).1,.int .i64 (f xs).2])∧Below W.heap.size W w'
theorem PlaceR.below {fn:Value} {w w':World} {f:List Int→Int × Int} {m:Nat} {R:List Int→Prop} (h:PlaceR fn w f m R) (hB:Below w.heap.size w w'):PlaceR fn w' f m R:=by
 obtain ⟨g,lb,rfl,eg,H⟩:=h;exact ⟨g,lb,rfl,eg,fun W v xs hW=>H W v xs (hB.trans (hW.mono hB.size))⟩
theorem PlaceC.toR {fn:Value} {w:World} {f:List Int→Int × Int} {m:Nat} (h:PlaceC fn w f m) (R:List Int→Prop):PlaceR fn w f m R:=by
 obtain ⟨g,lb,rfl,eg,H⟩:=h;exact ⟨g,lb,rfl,eg,fun W v xs hW hx hl _=>H W v xs hW hx hl⟩
attribute [local irreducible] Fl.un Fl.bin
theorem eg_pl4:∀ args w,(callFunc 81 args).run Tryz.prog w=.ok (.enter 81 args) w:=enters_of Tryz.func81 (by kernel_rfl) rfl
set_option maxHeartbeats 4000000 in
theorem pl4_any (op:ByteArray) (t:Int) {bn bt:Nat} {W:World} {v:Value} {xs:List Int} (h0:W.cell? ⟨bn,0,none⟩=some (.string op)) (h1:W.cell? ⟨bt,0,none⟩=some (.int .i64 t)) (hn:bn < W.heap.size) (ht:bt < W.heap.size) (hv:IntsIn W v xs) (hl:1≤xs.length) :
  Calls Tryz.prog 81 #[v,.pointer (some ⟨bn,0,none⟩),.pointer (some ⟨bt,0,none⟩)] W fun e w'=>e=.returned (.tuple #[.int .i64 (Fl.un op.toList t (xs.getD 0 0)).1,.int .i64 (Fl.un op.toList t (xs.getD 0 0)).2])∧Below W.heap.size W w':=by
 obtain ⟨b,off,cap,rfl,hb,g0,x0⟩:=ints_cell hv (k:=0) (by omega);generalize xs.getD 0 0=z0 at *;rw [Nat.add_zero] at g0;have HU:=hid (fun (W:World)=>Nm.unary_any op t z0 x0.1 x0.2 W);have HS:Hid (∀ W',Below W.heap.size W W'→W'.cell? ⟨bn,0,none⟩=some (.string op)∧W'.cell? ⟨bt,0,none⟩=some (.int .i64 t)∧W'.cell? ⟨b,off,none⟩=some (.int .i64 z0)):=hid fun W' h=>⟨(h.cell (p:=⟨bn,0,none⟩) hn).trans h0,(h.cell (p:=⟨bt,0,none⟩) ht).trans h1,(h.cell (p:=⟨b,off,none⟩) hb).trans g0⟩;have hl0:0 < xs.length:=by omega
 have hli:(0:Int) < (xs.length:Int):=by omega
 clear x0 h0 h1 hv g0;go_enter Tryz.func81,Tryz.ntmps81
 go_wp2_with fail
 refine wp_region_plan 9 [0,1,2,3,4,5,6,7,8] (fun W'=>Below W.heap.size W W') (by kernel_rfl) (by kernel_rfl) (fun _ d _ _ _ h=>by cases d<;>exact h) (Below.refl _ _).drew ?_;have B0:Hid (Below W.heap.size W W.drew):=hid (Below.refl _ _).drew;generalize W.drew=wD at B0 ⊢
 repeat
  refine plan_read (v:=?_) rfl rfl (Or.inl ⟨by rfl,?_⟩) ?_;rotate_left
  ·intro W' hSw;obtain ⟨s0,s1,s2⟩:=HS.out W' hSw;go_simp
   try with_reducible rfl
  try simp only [Act.put,List.getElem_toArray,List.getElem_cons_zero,List.getElem_cons_succ,List.setIfInBounds_toArray,List.set_cons_zero,List.set_cons_succ]
 refine plan_act rfl rfl (fun K' hK=>?_);go_simp
 refine (HU.out _).mono ?_;rintro e w2 ⟨rfl,B⟩;have B1:=hid (B0.out.trans (B.mono B0.out.size));refine hK.out _ _ B1.out ?_;clear hK K' B;generalize hr:Fl.un op.toList t z0=r;have HR:=hid hr;clear hr HU
 repeat
  refine plan_read (v:=?_) rfl rfl (Or.inl ⟨by rfl,?_⟩) ?_;rotate_left
  ·intro W' hSw;go_simp
   try with_reducible rfl
  try simp only [Act.put,List.getElem_toArray,List.getElem_cons_zero,List.getElem_cons_succ,List.setIfInBounds_toArray,List.set_cons_zero,List.set_cons_succ]
 refine plan_tail rfl ?_;simp only [List.toList_toArray,List.drop_succ_cons,List.drop_zero];go_wp2
 go_ret2
 rw [HR.out];exact ⟨rfl,B1.out⟩
theorem eg_pl5:∀ args w,(callFunc 82 args).run Tryz.prog w=.ok (.enter 82 args) w:=enters_of Tryz.func82 (by kernel_rfl) rfl
set_option maxHeartbeats 4000000 in
theorem pl5_any (op:ByteArray) (t:Int) {bn bt:Nat} {W:World} {v:Value} {xs:List Int} (h0:W.cell? ⟨bn,0,none⟩=some (.string op)) (h1:W.cell? ⟨bt,0,none⟩=some (.int .i64 t)) (hn:bn < W.heap.size) (ht:bt < W.heap.size) (hv:IntsIn W v xs) (hl:2≤xs.length) :
  Calls Tryz.prog 82 #[v,.pointer (some ⟨bn,0,none⟩),.pointer (some ⟨bt,0,none⟩)] W fun e w'=>e=.returned (.tuple #[.int .i64 (Fl.bin op.toList t (xs.getD 0 0) (xs.getD 1 0)).1,.int .i64 (Fl.bin op.toList t (xs.getD 0 0) (xs.getD 1 0)).2])∧Below W.heap.size W w':=by
 obtain ⟨b,off,cap,rfl,hb,g0,x0⟩:=ints_cell hv (k:=0) (by omega);obtain ⟨b',off',cap',hv',hb',g1,x1⟩:=ints_cell hv (k:=1) (by omega);obtain ⟨e1,-,-⟩:=Value.slice.inj hv';obtain ⟨e1,e2⟩:b=b'∧off=off':=by simpa using e1
 subst e1 e2;clear hv' hb';generalize xs.getD 1 0=z1 at *;generalize xs.getD 0 0=z0 at *;rw [Nat.add_zero] at g0;have HU:=hid (fun (W:World)=>Nm.binary_any op t z0 z1 x0.1 x0.2 x1.1 x1.2 W);have HS:Hid (∀ W',Below W.heap.size W W'→W'.cell? ⟨bn,0,none⟩=some (.string op)∧W'.cell? ⟨bt,0,none⟩=some (.int .i64 t)∧W'.cell? ⟨b,off,none⟩=some (.int .i64 z0)∧W'.cell? ⟨b,off+1,none⟩=some (.int .i64 z1)):=hid fun W' h=>⟨(h.cell (p:=⟨bn,0,none⟩) hn).trans h0,(h.cell (p:=⟨bt,0,none⟩) ht).trans h1,(h.cell (p:=⟨b,off,none⟩) hb).trans g0,(h.cell (p:=⟨b,off+1,none⟩) hb).trans g1⟩;have hl0:0 < xs.length:=by omega
 have hli:(0:Int) < (xs.length:Int):=by omega
 have hl1:1 < xs.length:=by omega
 have hli1:(1:Int) < (xs.length:Int):=by omega
 clear x0 h0 h1 hv g0 x1 g1;go_enter Tryz.func82,Tryz.ntmps82
 go_wp2_with fail
 refine wp_region_plan 12 [0,1,2,3,4,5,6,7,8,9,10,11] (fun W'=>Below W.heap.size W W') (by kernel_rfl) (by kernel_rfl) (fun _ d _ _ _ h=>by cases d<;>exact h) (Below.refl _ _).drew ?_;have B0:Hid (Below W.heap.size W W.drew):=hid (Below.refl _ _).drew;generalize W.drew=wD at B0 ⊢
 repeat
  refine plan_read (v:=?_) rfl rfl (Or.inl ⟨by rfl,?_⟩) ?_;rotate_left
  ·intro W' hSw;obtain ⟨s0,s1,s2,s3⟩:=HS.out W' hSw;go_simp
   try with_reducible rfl
  try simp only [Act.put,List.getElem_toArray,List.getElem_cons_zero,List.getElem_cons_succ,List.setIfInBounds_toArray,List.set_cons_zero,List.set_cons_succ]
 refine plan_act rfl rfl (fun K' hK=>?_);go_simp
 refine (HU.out _).mono ?_;rintro e w2 ⟨rfl,B⟩;have B1:=hid (B0.out.trans (B.mono B0.out.size));refine hK.out _ _ B1.out ?_;clear hK K' B;generalize hr:Fl.bin op.toList t z0 z1=r;have HR:=hid hr;clear hr HU
 repeat
  refine plan_read (v:=?_) rfl rfl (Or.inl ⟨by rfl,?_⟩) ?_;rotate_left
  ·intro W' hSw;go_simp
   try with_reducible rfl
  try simp only [Act.put,List.getElem_toArray,List.getElem_cons_zero,List.getElem_cons_succ,List.setIfInBounds_toArray,List.set_cons_zero,List.set_cons_succ]
 refine plan_tail rfl ?_;simp only [List.toList_toArray,List.drop_succ_cons,List.drop_zero];go_wp2
 go_ret2
 rw [HR.out];exact ⟨rfl,B1.out⟩
set_option maxHeartbeats 4000000 in
theorem placed_Not {w:World} {vn vv:Value} {n:Nd} {ts:List Tn} {x:Tn} (hn:NodeV w vn n) (hs:SlIn 3 rdTensor w vv ts) (hi:ts[0]?=some x) (hl:n.op.toList=[78,111,116]) :
  Calls Tryz.prog 40 #[vn,vv] w fun e w'=>∃ fn,e=.returned (.tuple #[fn,.bool true])∧PlaceC fn w' (fun xs=>Fl.un n.op.toList x.1 (xs.getD 0 0)) 1∧Below w.heap.size w w':=by
 obtain ⟨vin,vat,rfl,hm⟩:=hn;obtain ⟨a1,c1,rfl⟩:=hm.is.form;obtain ⟨a2,c2,rfl⟩:=hm.ia.form;obtain ⟨b,off,cap,vd,vx,rfl,hb,u0,-,-,-,-,-⟩:=tensor_at hs hi;have hts:(0:Int) < (ts.length:Int):=by have:=(List.getElem?_eq_some_iff.1 hi).1;omega
 rw [Nat.zero_mul,Nat.add_zero] at u0;clear hm hs hi;unfold Nd.val;have u0':=cell_alloc u0 (Obj.cells #[.string n.op,.string n.name,.slice a1 n.ins.length c1,.string n.out,.slice a2 n.attrs.length c2] 25);clear u0;have HB1:=hid ((Below.refl w.heap.size w).alloc (Nat.le_refl _) (Obj.cells #[.string n.op,.string n.name,.slice a1 n.ins.length c1,.string n.out,.slice a2 n.attrs.length c2] 25));have HN1:=hid (BoxN.new w #[.string n.op,.string n.name,.slice a1 n.ins.length c1,.string n.out,.slice a2 n.attrs.length c2] 25);have k0:=HN1.out.cell 0 rfl;go_enter Tryz.func40,Tryz.ntmps40
 go_wp2_with fail
 go_ret2
 have hBB:Below (w.alloc (Obj.cells #[.string n.op,.string n.name,.slice a1 n.ins.length c1,.string n.out,.slice a2 n.attrs.length c2] 25)).heap.size (w.alloc (Obj.cells #[.string n.op,.string n.name,.slice a1 n.ins.length c1,.string n.out,.slice a2 n.attrs.length c2] 25)) ((w.alloc (Obj.cells #[.string n.op,.string n.name,.slice a1 n.ins.length c1,.string n.out,.slice a2 n.attrs.length c2] 25)).alloc (Obj.cells #[.int .i64 x.1] 3)):=(Below.refl _ _).alloc (Nat.le_refl _) _;have HT2:BoxN ((w.alloc (Obj.cells #[.string n.op,.string n.name,.slice a1 n.ins.length c1,.string n.out,.slice a2 n.attrs.length c2] 25)).alloc (Obj.cells #[.int .i64 x.1] 3)) (w.heap.size+1) #[.int .i64 x.1] 3:=boxn_newE (by simp);refine ⟨_,rfl,⟨81,_,rfl,eg_pl4,fun W v xs hW hx hlx=>?_⟩,HB1.out.trans (hBB.mono HB1.out.size)⟩;exact pl4_any n.op x.1 (((HN1.out.below' hBB).below' hW).cell 0 rfl) ((HT2.below' hW).cell 0 rfl) ((HN1.out.below' hBB).below' hW).lt (HT2.below' hW).lt hx (by omega)
set_option maxHeartbeats 20000000 in
theorem g_placed_And {w:World} {vn vv:Value} {n:Nd} {ts:List Tn} {x:Tn} (hn:NodeV w vn n) (hs:SlIn 3 rdTensor w vv ts) (hi:ts[0]?=some x) (hl:n.op.toList=[65,110,100]∨n.op.toList=[79,114]∨n.op.toList=[65,100,100]∨n.op.toList=[77,117,108]∨n.op.toList=[68,105,118]) :
  Calls Tryz.prog 40 #[vn,vv] w fun e w'=>∃ fn,e=.returned (.tuple #[fn,.bool true])∧PlaceC fn w' (fun xs=>Fl.bin n.op.toList x.1 (xs.getD 0 0) (xs.getD 1 0)) 2∧Below w.heap.size w w':=by
 rcases hl with hl | hl | hl | hl | hl
 all_goals
  obtain ⟨vin,vat,rfl,hm⟩:=hn;obtain ⟨a1,c1,rfl⟩:=hm.is.form;obtain ⟨a2,c2,rfl⟩:=hm.ia.form;obtain ⟨b,off,cap,vd,vx,rfl,hb,u0,-,-,-,-,-⟩:=tensor_at hs hi;have hts:(0:Int) < (ts.length:Int):=by have:=(List.getElem?_eq_some_iff.1 hi).1;omega
  rw [Nat.zero_mul,Nat.add_zero] at u0;clear hm hs hi;unfold Nd.val;have u0':=cell_alloc u0 (Obj.cells #[.string n.op,.string n.name,.slice a1 n.ins.length c1,.string n.out,.slice a2 n.attrs.length c2] 25);clear u0;have HB1:=hid ((Below.refl w.heap.size w).alloc (Nat.le_refl _) (Obj.cells #[.string n.op,.string n.name,.slice a1 n.ins.length c1,.string n.out,.slice a2 n.attrs.length c2] 25));have HN1:=hid (BoxN.new w #[.string n.op,.string n.name,.slice a1 n.ins.length c1,.string n.out,.slice a2 n.attrs.length c2] 25);have k0:=HN1.out.cell 0 rfl;go_enter Tryz.func40,Tryz.ntmps40
  go_wp2_with fail
  go_ret2
  have hBB:Below (w.alloc (Obj.cells #[.string n.op,.string n.name,.slice a1 n.ins.length c1,.string n.out,.slice a2 n.attrs.length c2] 25)).heap.size (w.alloc (Obj.cells #[.string n.op,.string n.name,.slice a1 n.ins.length c1,.string n.out,.slice a2 n.attrs.length c2] 25)) ((w.alloc (Obj.cells #[.string n.op,.string n.name,.slice a1 n.ins.length c1,.string n.out,.slice a2 n.attrs.length c2] 25)).alloc (Obj.cells #[.int .i64 x.1] 3)):=(Below.refl _ _).alloc (Nat.le_refl _) _;have HT2:BoxN ((w.alloc (Obj.cells #[.string n.op,.string n.name,.slice a1 n.ins.length c1,.string n.out,.slice a2 n.attrs.length c2] 25)).alloc (Obj.cells #[.int .i64 x.1] 3)) (w.heap.size+1) #[.int .i64 x.1] 3:=boxn_newE (by simp);refine ⟨_,rfl,⟨82,_,rfl,eg_pl5,fun W v xs hW hx hlx=>?_⟩,HB1.out.trans (hBB.mono HB1.out.size)⟩;exact pl5_any n.op x.1 (((HN1.out.below' hBB).below' hW).cell 0 rfl) ((HT2.below' hW).cell 0 rfl) ((HN1.out.below' hBB).below' hW).lt (HT2.below' hW).lt hx (by omega)
theorem placed_And {w:World} {vn vv:Value} {n:Nd} {ts:List Tn} {x:Tn} (hn:NodeV w vn n) (hs:SlIn 3 rdTensor w vv ts) (hi:ts[0]?=some x) (hl:n.op.toList=[65,110,100]) :
  Calls Tryz.prog 40 #[vn,vv] w fun e w'=>∃ fn,e=.returned (.tuple #[fn,.bool true])∧PlaceC fn w' (fun xs=>Fl.bin n.op.toList x.1 (xs.getD 0 0) (xs.getD 1 0)) 2∧Below w.heap.size w w' :=
 g_placed_And hn hs hi (Or.inl hl)
theorem placed_Or {w:World} {vn vv:Value} {n:Nd} {ts:List Tn} {x:Tn} (hn:NodeV w vn n) (hs:SlIn 3 rdTensor w vv ts) (hi:ts[0]?=some x) (hl:n.op.toList=[79,114]) :
  Calls Tryz.prog 40 #[vn,vv] w fun e w'=>∃ fn,e=.returned (.tuple #[fn,.bool true])∧PlaceC fn w' (fun xs=>Fl.bin n.op.toList x.1 (xs.getD 0 0) (xs.getD 1 0)) 2∧Below w.heap.size w w' :=
 g_placed_And hn hs hi (Or.inr (Or.inl hl))
theorem placed_Add {w:World} {vn vv:Value} {n:Nd} {ts:List Tn} {x:Tn} (hn:NodeV w vn n) (hs:SlIn 3 rdTensor w vv ts) (hi:ts[0]?=some x) (hl:n.op.toList=[65,100,100]) :
  Calls Tryz.prog 40 #[vn,vv] w fun e w'=>∃ fn,e=.returned (.tuple #[fn,.bool true])∧PlaceC fn w' (fun xs=>Fl.bin n.op.toList x.1 (xs.getD 0 0) (xs.getD 1 0)) 2∧Below w.heap.size w w' :=
 g_placed_And hn hs hi (Or.inr (Or.inr (Or.inl hl)))
theorem placed_Mul {w:World} {vn vv:Value} {n:Nd} {ts:List Tn} {x:Tn} (hn:NodeV w vn n) (hs:SlIn 3 rdTensor w vv ts) (hi:ts[0]?=some x) (hl:n.op.toList=[77,117,108]) :
  Calls Tryz.prog 40 #[vn,vv] w fun e w'=>∃ fn,e=.returned (.tuple #[fn,.bool true])∧PlaceC fn w' (fun xs=>Fl.bin n.op.toList x.1 (xs.getD 0 0) (xs.getD 1 0)) 2∧Below w.heap.size w w' :=
 g_placed_And hn hs hi (Or.inr (Or.inr (Or.inr (Or.inl hl))))
theorem placed_Div {w:World} {vn vv:Value} {n:Nd} {ts:List Tn} {x:Tn} (hn:NodeV w vn n) (hs:SlIn 3 rdTensor w vv ts) (hi:ts[0]?=some x) (hl:n.op.toList=[68,105,118]) :
  Calls Tryz.prog 40 #[vn,vv] w fun e w'=>∃ fn,e=.returned (.tuple #[fn,.bool true])∧PlaceC fn w' (fun xs=>Fl.bin n.op.toList x.1 (xs.getD 0 0) (xs.getD 1 0)) 2∧Below w.heap.size w w' :=
 g_placed_And hn hs hi (Or.inr (Or.inr (Or.inr (Or.inr hl))))
end
section
open Go.RowKit
set_option maxRecDepth 100000
theorem spO_ok {off:Int} {ds ss W:List Int} (h:(Vx.spO off ds ss W).1=0):Vx.spO off ds ss W=(0,off,W,Vx.spS ds ss W):=by
 unfold Vx.spO at *;split at h
 ·exact absurd h (by decide)
 rename_i h1
 split at h
 ·rename_i h2;exact absurd h h2
 rename_i h2
 split at h
 ·exact absurd h (by decide)
 rename_i h3
 rw [if_neg h1,if_neg h2,if_neg h3]
def errAt (g:Nat→Int × Int):Nat→Int
 | 0=>0
 | k+1=>if errAt g k≠0 then errAt g k else (g k).2
theorem errAt_next {g:Nat→Int × Int} {k:Nat} (h:errAt g k=0):errAt g (k+1)=(g k).2:=by rw [errAt,if_neg (fun c=>c h)]
theorem errAt_stay {g:Nat→Int × Int} {k:Nat} (h:errAt g k≠0):∀ m,errAt g (k+m)=errAt g k
 | 0=>rfl
 | m+1=>by rw [←Nat.add_assoc,errAt,errAt_stay h m,if_pos h]
theorem errAt_end {g:Nat→Int × Int} {k N:Nat} (h:errAt g k=0) (hk:k < N) (hg:(g k).2≠0):errAt g N=(g k).2:=by
 have h1:=errAt_next h;have:=errAt_stay (g:=g) (k:=k+1) (by rw [h1];exact hg) (N - (k+1));rw [show k+1+(N - (k+1))=N by omega] at this;rw [this,h1]
def datAt (g:Nat→Int × Int) (N:Nat):List Int:=(List.range N).map fun k=>(g k).1
theorem datAt_next (g:Nat→Int × Int) (k:Nat):datAt g (k+1)=datAt g k++[(g k).1]:=by unfold datAt;rw [List.range_succ,List.map_append];rfl
theorem datAt_len (g:Nat→Int × Int) (N:Nat):(datAt g N).length=N:=by simp [datAt]
def rowAt (rows:List (List Int)) (k:Nat):List Int:=rows.map fun r=>r.getD k 0
def doO (o:Int × Int × List Int) (g:Nat→Int × Int) (N:Nat):Int × Int × List Int × List Int :=
 if o.1≠0 then (o.1,0,[],[]) else if errAt g N≠0 then (errAt g N,0,[],[]) else (0,o.2.1,o.2.2,datAt g N)
theorem doO_no {o:Int × Int × List Int} {g:Nat→Int × Int} {N:Nat} (h:o.1≠0):doO o g N=(o.1,0,[],[]):=if_pos h
theorem doO_err {o:Int × Int × List Int} {g:Nat→Int × Int} {k N:Nat} (h0:o.1=0) (h:errAt g k=0) (hk:k < N) (hg:(g k).2≠0):doO o g N=((g k).2,0,[],[]):=by
 unfold doO;rw [if_neg (fun c=>c h0),errAt_end h hk hg,if_pos hg]
theorem doO_yes {o:Int × Int × List Int} {g:Nat→Int × Int} {N:Nat} (h0:o.1=0) (h:errAt g N=0):doO o g N=(0,o.2.1,o.2.2,datAt g N):=by
 unfold doO;rw [if_neg (fun c=>c h0),if_neg (fun c=>c h)]
def rowsK (svs:List Value) (m:Nat):Array Value:=(svs++nilsS (m - svs.length)).toArray
theorem rowsK_set {svs:List Value} {m:Nat} (v:Value) (h:svs.length < m):(rowsK svs m).setIfInBounds svs.length v=rowsK (svs++[v]) m:=by
 unfold rowsK nilsS;refine Array.toList_inj.1 ?_;rw [show m - svs.length=(m - (svs++[v]).length)+1 by simp;omega,List.replicate_succ];simp
theorem rowsK_at {svs:List Value} {m:Nat} (h:svs.length < m):(rowsK svs m)[svs.length]?=some (.slice none 0 0):=by
 unfold rowsK nilsS;rw [show m - svs.length=(m - svs.length - 1)+1 by omega,List.replicate_succ];simp
theorem rowsK_get {svs:List Value} {m j:Nat} {v:Value} (h:svs[j]?=some v):(rowsK svs m)[j]?=some v:=by
 unfold rowsK;have:=(List.getElem?_eq_some_iff.1 h).1;rw [List.getElem?_toArray,List.getElem?_append_left this];exact h
def RowsD (w:World) (D:Nat) (sp:Tn→List Int) (ts:List Tn) (svs:List Value):Prop :=
 ∀ (j:Nat) v t,svs[j]?=some v→ts[j]?=some t→w.ownsRow D 2 1 v (sp t).length ((sp t).map (Value.int .i64))
theorem RowsD.below {w w':World} {D:Nat} {sp:Tn→List Int} {ts:List Tn} {svs:List Value} (h:RowsD w D sp ts svs) (hB:Below w.heap.size w w'):RowsD w' D sp ts svs:=fun j v t h1 h2=>owns_below (h j v t h1 h2) hB
theorem RowsD.next {w:World} {D:Nat} {sp:Tn→List Int} {ts:List Tn} {svs:List Value} {v:Value} {t:Tn} (h:RowsD w D sp ts svs) (ht:ts[svs.length]?=some t) (hv:w.ownsRow D 2 1 v (sp t).length ((sp t).map (Value.int .i64))):RowsD w D sp ts (svs++[v]):=fun j u s h1 h2=>by
 by_cases hj:j < svs.length
 ·rw [List.getElem?_append_left hj] at h1;exact h j u s h1 h2
 ·rw [List.getElem?_append_right (by omega)] at h1;have:j - svs.length=0:=by
   rcases Nat.eq_zero_or_pos (j - svs.length) with h | h
   ·exact h
   ·rw [List.getElem?_eq_none (by simp;omega)] at h1;cases h1
  rw [this] at h1;have e:j=svs.length:=by omega
  subst e;rw [ht] at h2;obtain rfl:=Option.some.inj h1;obtain rfl:=Option.some.inj h2;exact hv
theorem RowsD.put3 {w:World} {D b:Nat} {x0 x1 x2 u0 u1 u2:Value} {t:TypeId} {sp:Tn→List Int} {ts:List Tn} {svs:List Value} (h:RowsD w D sp ts svs) (hb:BoxN w b #[x0,x1,x2] t) (hne:2 ≠ t):RowsD (put3 w b u0 u1 u2) D sp ts svs:=fun j v s h1 h2=>by
 have ho:=h j v s h1 h2;exact owns_heap ho (fun g hg=>put3_other (owns_box ho hb hne g hg))
theorem RowsD.set {w:World} {D b k:Nat} {u:Value} {sp:Tn→List Int} {ts:List Tn} {svs:List Value} (h:RowsD w D sp ts svs) (hb:b < D):RowsD (w.setCell ⟨b,k,none⟩ u) D sp ts svs:=fun j v s h1 h2 =>
 ownsRow_setCell_below (h j v s h1 h2) (a:=⟨b,k,none⟩) hb _
theorem readL_in {off:Int} {ds ss data l:List Int} (h:Vx.readL off ds ss data=some l) (hd:∀ z ∈ data,InI z):∀ z ∈ l,InI z:=by
 unfold Vx.readL at h;split at h
 ·rename_i g
  obtain rfl:=Option.some.inj h;intro z hz;obtain ⟨p,hp,rfl⟩:=List.mem_map.1 hz;by_cases hl:p.toNat < data.length
  ·exact hd _ (getD_mem hl)
  ·have e:data[p.toNat]?=none:=List.getElem?_eq_none (by omega);rw [List.getD_eq_getElem?_getD,e];unfold InI;decide
 ·cases h
theorem rowAt_len (rows:List (List Int)) (k:Nat):(rowAt rows k).length=rows.length:=by simp [rowAt]
theorem rowAt_get {rows:List (List Int)} {j k:Nat} (h:j < rows.length):(rows.getD j []).getD k 0=(rowAt rows k).getD j 0:=by
 unfold rowAt;simp [List.getD,List.getElem?_eq_getElem h]
theorem set_upto {ys zs:List Int} {j:Nat} (h:∀ q,q < j→ys.getD q 0=zs.getD q 0) (hj:j < ys.length):∀ q,q < j+1→(ys.set j (zs.getD j 0)).getD q 0=zs.getD q 0:=fun q hq=>by
 by_cases e:q=j
 ·subst e;simp [List.getD,hj]
 ·rw [show (ys.set j (zs.getD j 0)).getD q 0=ys.getD q 0 by simp [List.getD,List.getElem?_set_ne (Ne.symm e)]];exact h q (by omega)
theorem upto_all {ys zs:List Int} (hl:ys.length=zs.length) (h:∀ q,q < ys.length→ys.getD q 0=zs.getD q 0):ys=zs:=by
 refine List.ext_getElem hl fun q h1 h2=>?_;have:=h q h1
 simpa [List.getD,List.getElem?_eq_getElem h1,List.getElem?_eq_getElem h2] using this
theorem ints_i64s {W:World} {b:Nat} {xs:List Int} (h:BoxN W b (i64s xs) 2) (h0:xs≠[]) (hl:xs.length≤1000) (hi:∀ z ∈ xs,InI z):IntsIn W (.slice (some ⟨b,0,none⟩) xs.length xs.length) xs:=by
 refine .row b 0 xs.length xs h0 (Nat.le_refl _) h.lt (fun j hj=>?_) (by omega) hi;have:=h.cell j (i64s_at hj)
 simpa using this
theorem spS_inI {ds ss W:List Int} (h:∀ z ∈ ss,InI z):∀ z ∈ Vx.spS ds ss W,InI z:=fun z hz=>by
 unfold Vx.spS at hz;obtain ⟨j,-,rfl⟩:=List.mem_map.1 hz;unfold Vx.spA;split
 ·by_cases hl:j - (W.length - ds.length) < ss.length
  ·exact h _ (getD_mem hl)
  ·have e:ss[j - (W.length - ds.length)]?=none:=List.getElem?_eq_none (by omega);rw [List.getD_eq_getElem?_getD,e];unfold InI;decide
 ·unfold InI;decide
attribute [local irreducible] cnt chk checkP inpE outP folB thenE RowI pbE begO pbAll rowV errAt datAt doO rowAt rowsK nilsS i64s Vx.spO Vx.spS Vx.strd Vx.readL SpOK PlaceC PlaceR
set_option maxHeartbeats 32000000 in
theorem do_anyR {w:World} {vn vv:Value} {n:Nd} {ts:List Tn} (hn:NodeV w vn n) (hs:SlIn 3 rdTensor w vv ts) (hG:Glob w) {ty:Int × Int} {ds:Int × List Int}
  (hT:checkP n=0→ts.length=n.ins.length→pbAll ts=true→∀ (W:World) (v:Value),Below w.heap.size w W→MkV W v n (ts.map tvV)→Calls Tryz.prog 32 #[v] W fun e w'=>TyR ty e∧Below W.heap.size W w')
  (hD:checkP n=0→ts.length=n.ins.length→pbAll ts=true→ty.1=0→∀ (W:World) (v:Value),Below w.heap.size w W→MkV W v n (ts.map tvV)→Calls Tryz.prog 33 #[v] W fun e w'=>DimR W ds e w')
  (hm0:0 < ts.length) (hm6:ts.length≤6) {sp:Tn→List Int} {f:List Int→Int × Int} {N:Nat} {R:List Int→Prop} (hN:N≤65536) (hRR:(begO n ts ty ds).1=0→∀ k,k < N→R (rowAt (ts.map sp) k))
  (hP:(begO n ts ty ds).1=0→∀ W,Below w.heap.size w W→Calls Tryz.prog 40 #[vn,vv] W fun e w'=>∃ fn,e=.returned (.tuple #[fn,.bool true])∧PlaceR fn w' f ts.length R∧Below W.heap.size W w')
  (hO:(begO n ts ty ds).1=0→(∀ t ∈ ts,SpOK (begO n ts ty ds).2.2 N t (sp t))∧(begO n ts ty ds).2.2.length≤1000∧∀ z ∈ (begO n ts ty ds).2.2,InI z) :
  Calls Tryz.prog 18 #[vn,vv] w (DoR w (doO (begO n ts ty ds) (fun k=>f (rowAt (ts.map sp) k)) N)):=by
 obtain ⟨i0,hi,hz0,hz1,hz2⟩:=info_parts info_i64;have hbeg:=hid (begin_any (ty:=ty) (ds:=ds) hn hs hG hT hD);obtain ⟨a3,c3,rfl⟩:=hs.form;have HN:=hid hn;obtain ⟨vin,vat,rfl,hm⟩:=hn;obtain ⟨a1,c1,rfl⟩:=hm.is.form;obtain ⟨a2,c2,rfl⟩:=hm.ia.form;have HS:=hid hs;have HG:=hid hG;have HT:=hid hT;have HD:=hid hD;have HP:=hid hP;have HO:=hid hO;have HRR:=hid hRR;clear hm hs hG hT hD hbeg hP hO hRR;unfold Nd.val at HN HP ⊢;have HB1:Hid (Below w.heap.size w ((w.alloc (Obj.cells #[.string n.op,.string n.name,.slice a1 n.ins.length c1,.string n.out,.slice a2 n.attrs.length c2] 25)).alloc (Obj.cells #[.int .i64 0,.slice none 0 0,.slice none 0 0] 46))):=hid (((Below.refl _ w).alloc (Nat.le_refl _) _).alloc (by simp) _);have HND:Hid (BoxN ((w.alloc (Obj.cells #[.string n.op,.string n.name,.slice a1 n.ins.length c1,.string n.out,.slice a2 n.attrs.length c2] 25)).alloc (Obj.cells #[.int .i64 0,.slice none 0 0,.slice none 0 0] 46)) w.heap.size #[.string n.op,.string n.name,.slice a1 n.ins.length c1,.string n.out,.slice a2 n.attrs.length c2] 25):=hid ((BoxN.new w #[.string n.op,.string n.name,.slice a1 n.ins.length c1,.string n.out,.slice a2 n.attrs.length c2] 25).below' ((Below.refl _ _).alloc (Nat.le_refl _) _));have HRB:Hid (BoxN ((w.alloc (Obj.cells #[.string n.op,.string n.name,.slice a1 n.ins.length c1,.string n.out,.slice a2 n.attrs.length c2] 25)).alloc (Obj.cells #[.int .i64 0,.slice none 0 0,.slice none 0 0] 46)) (w.heap.size+1) #[.int .i64 0,.slice none 0 0,.slice none 0 0] 46):=hid (boxn_newE (by simp));go_enter Tryz.func18,Tryz.ntmps18
 go_wp2_with fail
 generalize hW1:World.alloc (World.alloc w _) _=W1 at HB1 HND HRB ⊢;have hz1':Hid (W1.heap.size=w.heap.size+2):=hid (by rw [←hW1];simp);clear hW1;obtain ⟨k0,k1,k2,k3,k4⟩:=HND.out.five;go_wp2_with fail
 refine (begin_any (w:=W1) (n:=n) (ts:=ts) (ty:=ty) (ds:=ds) (HN.out.below HB1.out) (tensors_below HS.out HB1.out) (HG.out.below HB1.out) (fun h1 h2 h3 W v hB=>HT.out h1 h2 h3 W v (HB1.out.trans (hB.mono HB1.out.size))) (fun h1 h2 h3 h4 W v hB=>HD.out h1 h2 h3 h4 W v (HB1.out.trans (hB.mono HB1.out.size)))).mono ?_;rintro e w2 ⟨B2,hr⟩;have HB2:=hid (HB1.out.trans (B2.mono HB1.out.size));have HND:=hid (HND.out.below' B2);have HRB:=hid (HRB.out.below' B2);have hs2:w.heap.size+2≤w2.heap.size:=by have:=B2.size;have:=hz1'.out;omega
 clear B2 k0 k1 k2 k3 k4 HT HD;generalize hE:begO n ts ty ds=O at *;have HE:=hid hE;clear hE;rcases hr with ⟨hne,rfl⟩ | ⟨h0,v,rfl,hr⟩
 ·have HR:Hid (doO (begO n ts ty ds) (fun k=>f (rowAt (ts.map sp) k)) N=(O.1,0,[],[])):=hid (by rw [HE.out];exact doO_no hne);clear HE;have HNE:=hid hne;have hb':(O.1 != 0)=true:=by simpa using hne
  generalize O.1=q at *;clear hne;have hB3:Below w2.heap.size w2 (w2.alloc (Obj.cells #[.string ⟨#[]⟩,.int .i64 0,.slice none 0 0] 29)):=(Below.refl _ _).alloc (Nat.le_refl _) _;have HBE:=hid (HB2.out.trans (hB3.mono HB2.out.size));have HRE1:=hid (HRB.out.below' hB3);clear hB3;have HRE:=HRE1.out;have f0:=HRE.frozen 0;have f1:=HRE.frozen 1;have f2:=HRE.frozen 2;have g0:=HRE.cell 0 rfl;have g1:=HRE.cell 1 rfl;have g2:=HRE.cell 2 rfl;have hend:Hid (BoxN (put3 (w2.alloc (Obj.cells #[.string ⟨#[]⟩,.int .i64 0,.slice none 0 0] 29)) (w.heap.size+1) (.int .i64 0) (.slice none 0 0) (.slice none 0 0)) (w.heap.size+1) #[.int .i64 0,.slice none 0 0,.slice none 0 0] 46 ∧ Below w.heap.size w (put3 (w2.alloc (Obj.cells #[.string ⟨#[]⟩,.int .i64 0,.slice none 0 0] 29)) (w.heap.size+1) (.int .i64 0) (.slice none 0 0) (.slice none 0 0))):=hid ⟨HRE.put3 _ _ _,below_put3 HBE.out (by omega)⟩;clear HRE;go_wp2_with fail
  obtain ⟨hx1,hx2⟩:=hend.out;obtain ⟨x0,x1',x2'⟩:=hx1.three;unfold put3 at x0 x1' x2' hx2;exact bodyPost_ret (v:=.tuple #[.agg #[.int .i64 0,.slice none 0 0,.slice none 0 0],.int .i64 q]) (by simp [results,Tryz.f18,go_sem,x0,x1',x2']) rfl (DoR.no HR.out HNE.out hx2)
 have H0:=hid h0;obtain ⟨hsp,hdl,hdi⟩:=HO.out h0;have HRR:=hid (HRR.out h0);have HSP:=hid hsp;have HID:Hid (IntsIn w2 v O.2.2):=hid (hr.ints (by omega) hdi);have HRI:=hid (hr.base (B':=w.heap.size) (by have:=HB1.out.size;omega));have HPL:=hid (HP.out h0);have HYE:=hid (fun (h:errAt (fun k=>f (rowAt (ts.map sp) k)) N=0)=>(show doO (begO n ts ty ds) (fun k=>f (rowAt (ts.map sp) k)) N=(0,O.2.1,O.2.2,datAt (fun k=>f (rowAt (ts.map sp) k)) N) by rw [HE.out];exact doO_yes h0 h));have HNO:=hid (fun (k:Nat) (h:errAt (fun k=>f (rowAt (ts.map sp) k)) k=0) (hk:k < N) (hg:(f (rowAt (ts.map sp) k)).2≠0)=>(show doO (begO n ts ty ds) (fun k=>f (rowAt (ts.map sp) k)) N=((f (rowAt (ts.map sp) k)).2,0,[],[]) by rw [HE.out];exact doO_err (o:=O) (g:=fun k=>f (rowAt (ts.map sp) k)) h0 h hk hg));obtain ⟨av,cv,rfl⟩:=hr.form;clear hr h0 hsp hdi HO HP;have hB3:Below w2.heap.size w2 (w2.alloc (Obj.cells #[.string n.out,.int .i64 O.2.1,.slice av O.2.2.length cv] 29)):=(Below.refl _ _).alloc (Nat.le_refl _) _;have HB3:Hid (Below w.heap.size w (w2.alloc (Obj.cells #[.string n.out,.int .i64 O.2.1,.slice av O.2.2.length cv] 29))):=hid (HB2.out.trans (hB3.mono HB2.out.size));have HND3:=hid (HND.out.below' hB3);have HRB3:=hid (HRB.out.below' hB3);have HID3:=hid (HID.out.below hB3);have HRI3:=hid (HRI.out.below hB3);have HVB3:=hid (BoxN.new w2 #[.string n.out,.int .i64 O.2.1,.slice av O.2.2.length cv] 29);have hs3:Hid (((w2.alloc (Obj.cells #[.string n.out,.int .i64 O.2.1,.slice av O.2.2.length cv] 29))).heap.size=w2.heap.size+1):=hid (by simp);obtain ⟨k0,k1,k2,k3,k4⟩:=HND3.out.five;clear HND HRB HID HRI hB3;go_wp2_with fail
 clear k0 k1 k2 k3 k4;generalize World.alloc w2 _=W3 at HB3 HND3 HRB3 HID3 HRI3 HVB3 hs3 ⊢;generalize hVB:w2.heap.size=VB at HVB3 hs3 ⊢;have hvb:w.heap.size+2≤VB:=by omega
 refine (HPL.out _ HB3.out).mono ?_;rintro e w4 ⟨fn,rfl,hfn,B4⟩;have HFN:=hid hfn;have HB4:=hid (HB3.out.trans (B4.mono HB3.out.size));have HRB4:=hid (HRB3.out.below' B4);have HID4:=hid (HID3.out.below B4);have HRI4:=hid (HRI3.out.below B4);have HVB4:=hid (HVB3.out.below' B4);have hs4:VB+1≤w4.heap.size:=by have:=B4.size;have:=hs3.out;omega
 clear B4 hfn HND3 HRB3 HID3 HRI3 HVB3 HPL;have hmk:=run_make_datas w4 ts.length (by omega);have hW5:Below w4.heap.size w4 (w4.alloc (.cells (nilsS ts.length).toArray 44)):=(Below.refl _ _).alloc (Nat.le_refl _) _;have HS5:Hid (BoxN (w4.alloc (.cells (nilsS ts.length).toArray 44)) w4.heap.size (rowsK [] ts.length) 44):=hid (by
  have:=BoxN.new w4 (nilsS ts.length).toArray 44;have e:rowsK [] ts.length=(nilsS ts.length).toArray:=by unfold rowsK;simp
  rw [e];exact this)
 have HW5:=hid hW5;have hz5:Hid ((w4.alloc (.cells (nilsS ts.length).toArray 44)).heap.size=w4.heap.size+1):=hid (by simp);clear hW5;go_wp2_with fail
 clear hmk;generalize World.alloc w4 _=W5 at HS5 HW5 hz5 ⊢;generalize hSS:w4.heap.size=S at HS5 HW5 hz5 ⊢;go_loopw [45] (fun i wr=>∃ (svs:List Value),svs.length≤ts.length∧i=.int .i64 (svs.length:Int)∧Hid (BoxN wr S (rowsK svs ts.length) 44)∧Hid (RowsD wr (S+1) sp ts svs)∧Hid (S+1≤wr.heap.size)∧Hid (Below w4.heap.size w4 wr)) (fun i _=>ts.length - (intOf i).toNat)
 case atStart=>exact ⟨[],Nat.zero_le _,rfl,HS5,hid (fun j v t h=>by simp at h),hid (by rw [hz5.out];omega),hid (by rw [hSS];exact HW5.out)⟩
 case round =>
  obtain ⟨svs,hk,rfl,hS,hR,hZ,hW⟩:=hrel;have HBw:=hid (HB4.out.trans (hW.out.mono HB4.out.size));by_cases hkl:svs.length < ts.length
  ·have hki:(svs.length:Int) < (ts.length:Int):=by omega
   obtain ⟨x,hx⟩:∃ x,ts[svs.length]?=some x:=⟨_,List.getElem?_eq_getElem hkl⟩;obtain ⟨b,off,cap,vd,vx,hv,hb,c0,c1',c2',h1,h2,h3⟩:=tensor_at HS.out hx;obtain ⟨rfl,-,rfl⟩:=Value.slice.inj hv;have u0:=(HBw.out.cell (p:=⟨b,off+svs.length * 3,none⟩) hb).trans c0;have u1:=(HBw.out.cell (p:=⟨b,off+svs.length * 3+1,none⟩) hb).trans c1';have u2:=(HBw.out.cell (p:=⟨b,off+svs.length * 3+2,none⟩) hb).trans c2';have HX:=hid hx;have H2:=hid (h2.below HBw.out);have H3:=hid (h3.below HBw.out);have HX3:=hid h3;obtain ⟨ad,cd,rfl⟩:=h2.shape;obtain ⟨ax,cx,rfl⟩:=h3.shape;obtain ⟨g1,g2,g3,g4⟩:=(HSP.out x (List.mem_of_getElem? hx)).parts;have HG1:=hid g1;have HG3:=hid g3;have HG4:=hid g4;have HWo:Hid (Vx.wholeO x.2.1=(0,0,x.2.1,Vx.strd x.2.1)):=hid (by unfold Vx.wholeO;rw [if_pos g1]);have HSo:=hid (spO_ok g2);clear c0 c1' c2' h1 h2 h3 hv hx g1 g2 g3 g4;go_wp2_with fail
   have hB6:Below wr.heap.size wr (wr.alloc (Obj.cells #[.int .i64 x.1,.slice ad x.2.1.length cd,.slice ax x.2.2.length cx] 46)):=(Below.refl _ _).alloc (Nat.le_refl _) _;have HTB:=hid (BoxN.new wr #[.int .i64 x.1,.slice ad x.2.1.length cd,.slice ax x.2.2.length cx] 46);have H2:=hid (H2.out.below hB6);have H3:=hid (H3.out.below hB6);have hS:=hid (hS.out.below' hB6);have hR:=hid (hR.out.below hB6);have hW:=hid (hW.out.trans (hB6.mono hW.out.size));have hZ:Hid (S+1≤wr.heap.size∧wr.heap.size < ((wr.alloc (Obj.cells #[.int .i64 x.1,.slice ad x.2.1.length cd,.slice ax x.2.2.length cx] 46))).heap.size):=hid ⟨hZ.out,by simp⟩;clear u0 u1 u2 hB6;generalize World.alloc wr _=W6 at HTB H2 H3 hS hR hW hZ ⊢;generalize wr.heap.size=TB at HTB hZ ⊢;have t1:=HTB.out.cell 1 rfl;go_wp2_with fail
   refine (Vx.whole_any H2.out).mono ?_;rw [HWo.out];rintro e w7 ⟨B7,⟨h0,-⟩ | ⟨-,dv,sv,rfl,hfd,hfs⟩⟩
   ·exact absurd rfl h0
   have HF1:=hid hfd;have HF2:=hid hfs;obtain ⟨ad7,cd7,rfl⟩:=hfd.form;obtain ⟨as7,cs7,rfl⟩:=hfs.form;have HTB7:=hid (HTB.out.below' B7);have H37:=hid (H3.out.below B7);have hS7:=hid (hS.out.below' B7);have hR7:=hid (hR.out.below B7);have hW7:=hid (hW.out.trans (B7.mono hW.out.size));have hZ7:Hid (S+1≤TB∧TB < w7.heap.size):=hid (by have:=B7.size;have:=hZ.out;omega);clear B7 hfd hfs t1 HTB H3 hS hR hW hZ;have hB8:Below w7.heap.size w7 (w7.alloc (Obj.cells #[.int .i64 0,.slice ad7 x.2.1.length cd7,.slice as7 (Vx.strd x.2.1).length cs7] 78)):=(Below.refl _ _).alloc (Nat.le_refl _) _;have HTB8:=hid (HTB7.out.below' hB8);have H38:=hid (H37.out.below hB8);have hS8:=hid (hS7.out.below' hB8);have hR8:=hid (hR7.out.below hB8);have hW8:=hid (hW7.out.trans (hB8.mono hW7.out.size));have HVX8:=hid (BoxN.new w7 #[.int .i64 0,.slice ad7 x.2.1.length cd7,.slice as7 (Vx.strd x.2.1).length cs7] 78);have HD8:Hid (IntsIn (w7.alloc (Obj.cells #[.int .i64 0,.slice ad7 x.2.1.length cd7,.slice as7 (Vx.strd x.2.1).length cs7] 78)) (.slice ad7 x.2.1.length cd7) x.2.1):=hid ((HF1.out.below hB8).ints H2.out.wf.1 H2.out.wf.2);have HS8:Hid (IntsIn (w7.alloc (Obj.cells #[.int .i64 0,.slice ad7 x.2.1.length cd7,.slice as7 (Vx.strd x.2.1).length cs7] 78)) (.slice as7 (Vx.strd x.2.1).length cs7) (Vx.strd x.2.1)):=hid ((HF2.out.below hB8).ints (by rw [Vx.strd_length];exact H2.out.wf.1) (strd_inI HG1.out));have HI8:=hid (HID4.out.below hW8.out);have HV8:=HVB4.out.below' hW8.out;have v2:=HV8.cell 2 rfl;have hZ8:Hid (S+1≤TB∧TB < w7.heap.size∧((w7.alloc (Obj.cells #[.int .i64 0,.slice ad7 x.2.1.length cd7,.slice as7 (Vx.strd x.2.1).length cs7] 78))).heap.size=w7.heap.size+1):=hid ⟨hZ7.out.1,hZ7.out.2,by simp⟩;clear hB8 HV8 HTB7 H37 hS7 hR7 hW7 hZ7 HF1 HF2;go_wp2_with fail
   clear v2;generalize World.alloc w7 _=W8 at HTB8 H38 hS8 hR8 hW8 HVX8 HD8 HS8 HI8 hZ8 ⊢;generalize w7.heap.size=VX at HVX8 hZ8 ⊢;refine (Vx.spread_any (off:=0) HD8.out HS8.out HI8.out).mono ?_;rw [HSo.out];rintro e w9 ⟨B9,⟨h0,-⟩ | ⟨-,dv,sv,rfl,hfd,hfs⟩⟩
   ·exact absurd rfl h0
   have HF1:=hid hfd;have HF2:=hid hfs;obtain ⟨ad9,cd9,rfl⟩:=hfd.form;obtain ⟨as9,cs9,rfl⟩:=hfs.form;have HTB9:=hid (HTB8.out.below' B9);have H39:=hid (H38.out.below B9);have hS9:=hid (hS8.out.below' B9);have hR9:=hid (hR8.out.below B9);have hW9:=hid (hW8.out.trans (B9.mono hW8.out.size));have HVX9:=HVX8.out.below' B9;have HB10:Below VX w9 (put3 w9 VX (.int .i64 0) (.slice ad9 O.2.2.length cd9) (.slice as9 (Vx.spS x.2.1 (Vx.strd x.2.1) O.2.2).length cs9)):=below_put3 (Below.refl _ _) (Nat.le_refl _);have HTB10:=hid (HTB9.out.below hZ8.out.2.1 HB10);have hS10:=hid (hS9.out.below (by have:=hZ8.out;omega) HB10);have hR10:Hid (RowsD (put3 w9 VX (.int .i64 0) (.slice ad9 O.2.2.length cd9) (.slice as9 (Vx.spS x.2.1 (Vx.strd x.2.1) O.2.2).length cs9)) (S+1) sp ts svs):=hid (hR9.out.put3 HVX9 (by decide));have hW10:=hid (hW9.out.trans (HB10.mono (by have:=hZ8.out;omega)));have HVX10:=hid (HVX9.put3 (.int .i64 0) (.slice ad9 O.2.2.length cd9) (.slice as9 (Vx.spS x.2.1 (Vx.strd x.2.1) O.2.2).length cs9));have HD10:Hid (IntsIn (put3 w9 VX (.int .i64 0) (.slice ad9 O.2.2.length cd9) (.slice as9 (Vx.spS x.2.1 (Vx.strd x.2.1) O.2.2).length cs9)) (.slice ad9 O.2.2.length cd9) O.2.2):=hid ((Vx.Fresh.put hfd (by have:=hZ8.out;omega) (Nat.le_refl _)).ints HID4.out.wf.1 HID4.out.wf.2);have HS10:Hid (IntsIn (put3 w9 VX (.int .i64 0) (.slice ad9 O.2.2.length cd9) (.slice as9 (Vx.spS x.2.1 (Vx.strd x.2.1) O.2.2).length cs9)) (.slice as9 (Vx.spS x.2.1 (Vx.strd x.2.1) O.2.2).length cs9) (Vx.spS x.2.1 (Vx.strd x.2.1) O.2.2)):=hid ((Vx.Fresh.put hfs (by have:=hZ8.out;omega) (Nat.le_refl _)).ints (by rw [Vx.spS_length];exact HID4.out.wf.1) (spS_inI (strd_inI HG1.out)));have f0:=HVX9.frozen 0;have f1:=HVX9.frozen 1;have f2:=HVX9.frozen 2;have g0:=HVX9.cell 0 rfl;have g1:=HVX9.cell 1 rfl;have g2:=HVX9.cell 2 rfl;obtain ⟨y0,y1,y2⟩:=HVX10.out.three;have z2:=HTB10.out.cell 2 rfl;unfold put3 at y0 y1 y2 z2;have HX10:=hid (HX3.out.below (HB4.out.trans (hW10.out.mono HB4.out.size)));have hsz10:Hid (S+1≤(put3 w9 VX (.int .i64 0) (.slice ad9 O.2.2.length cd9) (.slice as9 (Vx.spS x.2.1 (Vx.strd x.2.1) O.2.2).length cs9)).heap.size):=hid (by have:=hZ8.out;have:=hS10.out.lt;omega);clear B9 HB10 hfd hfs HVX9 HTB8 H38 hS8 hR8 hW8 HVX8 HD8 HS8 HI8 HF1 HF2 HTB9 hS9 hR9 H39;go_wp2_with fail
   clear f0 f1 f2 g0 g1 g2 y0 y1 y2 z2;unfold put3 at HD10 HS10 HX10 hS10 hR10 hW10 hsz10;generalize World.setCell (World.setCell (World.setCell w9 _ _) _ _) _ _=W10 at HD10 HS10 HX10 hS10 hR10 hW10 hsz10 ⊢;refine (Vx.read_any (off:=0) HD10.out HS10.out HX10.out).mono ?_;rw [HG3.out];rintro e w11 ⟨B11,⟨l,v,hl,rfl,ho⟩ | ⟨h0,-⟩⟩
   case inr=>cases h0
   obtain rfl:=Option.some.inj hl;have HO:=hid (owns_base ho hsz10.out);obtain ⟨av11,cv11,rfl⟩:=owns_form ho;have hS11:=hS10.out.below' B11;have hR11:=hid (hR10.out.below B11);have hW11:=hid (hW10.out.trans (B11.mono hW10.out.size));have sc:=hS11.cell svs.length (rowsK_at hkl);have sf:=hS11.frozen svs.length;have HS12:=hid (hS11.set svs.length (.slice av11 (sp x).length cv11));rw [rowsK_set _ hkl] at HS12;have HR12:Hid (RowsD (w11.setCell ⟨S,svs.length,none⟩ (.slice av11 (sp x).length cv11)) (S+1) sp ts (svs++[.slice av11 (sp x).length cv11])):=hid (RowsD.set (RowsD.next hR11.out HX.out HO.out) (by omega));have HW12:Hid (Below w4.heap.size w4 (w11.setCell ⟨S,svs.length,none⟩ (.slice av11 (sp x).length cv11))):=hid (hW11.out.setCell (p:=⟨S,svs.length,none⟩) (by show w4.heap.size≤S;omega) _);have hsz12:Hid (S+1≤(w11.setCell ⟨S,svs.length,none⟩ (.slice av11 (sp x).length cv11)).heap.size):=hid (by have:=HS12.out.lt;omega);clear B11 ho hl hS11 hS10 hR10 hW10 HD10 HS10 HX10 hR11 hW11;go_wp2_with fail
   go_roundw
   case rel=>exact ⟨_,by simp;omega,by simp,HS12,HR12,hsz12,HW12⟩
   case measure=>simp [intOf];omega
  ·have hki:¬ (svs.length:Int) < (ts.length:Int):=by omega
   have hml:svs.length=ts.length:=by omega
   have HROW:Hid (∀ (j:Nat),j < ts.length→∃ a c,svs[j]?=some (.slice a N c)∧IntsIn wr (.slice a N c) ((ts.map sp).getD j [])∧((ts.map sp).getD j []).length=N):=hid fun j hj=>by
    obtain ⟨v,hv⟩:=gAt svs j (by omega);obtain ⟨t,ht⟩:∃ t,ts[j]?=some t:=⟨_,List.getElem?_eq_getElem hj⟩;have ho:=hR.out j v t hv ht;obtain ⟨b,off,cap,vd,vx,-,-,-,-,-,-,-,h3⟩:=tensor_at HS.out ht;obtain ⟨-,-,g3,g4⟩:=(HSP.out t (List.mem_of_getElem? ht)).parts;have he:(ts.map sp).getD j []=sp t:=by rw [List.getD_eq_getElem?_getD,List.getElem?_map,ht];rfl
    obtain ⟨a,c,rfl⟩:=owns_form ho;rw [he];have hI:IntsIn wr (.slice a (sp t).length c) (sp t):=IntsIn.of_owns ho (by omega) (readL_in g3 h3.wf.2);rw [g4] at hI hv;exact ⟨a,c,hv,hI,g4⟩
   have HVBr:=HVB4.out.below' hW.out;have q1:=HVBr.cell 1 rfl;have q2:=HVBr.cell 2 rfl;have HSr:Hid (∀ (j:Nat) v,svs[j]?=some v→wr.cell? ⟨S,j,none⟩=some v):=hid fun j v hv=>hS.out.cell j (rowsK_get hv);have hSlt:S < wr.heap.size:=hS.out.lt;have HRBr:=hid (HRB4.out.below' hW.out);have HFNr:=HFN.out.below hW.out;have HRIr:=hid (HRI4.out.below hW.out);have hBw0:w.heap.size+2≤wr.heap.size:=by have:=hW.out.size;omega
   have hWs:=hid hW.out;clear hS hR hZ hW HVBr HS HFN hkl;obtain ⟨G,lb,rfl,eg,hcl⟩:=HFNr.parts;have HCL:=hid hcl;clear hcl HFNr;have hB13:Below wr.heap.size wr (wr.alloc (Obj.cells #[.int .i64 O.2.1,.slice av O.2.2.length cv,.slice none 0 0] 46)):=(Below.refl _ _).alloc (Nat.le_refl _) _;have HOB13:BoxN (wr.alloc (Obj.cells #[.int .i64 O.2.1,.slice av O.2.2.length cv,.slice none 0 0] 46)) wr.heap.size #[.int .i64 O.2.1,.slice av O.2.2.length cv,.slice none 0 0] 46:=BoxN.new _ _ _;have hmk:=run_make_i64s (wr.alloc (Obj.cells #[.int .i64 O.2.1,.slice av O.2.2.length cv,.slice none 0 0] 46)) ts.length (by omega);have hB14:Below ((wr.alloc (Obj.cells #[.int .i64 O.2.1,.slice av O.2.2.length cv,.slice none 0 0] 46))).heap.size (wr.alloc (Obj.cells #[.int .i64 O.2.1,.slice av O.2.2.length cv,.slice none 0 0] 46)) ((wr.alloc (Obj.cells #[.int .i64 O.2.1,.slice av O.2.2.length cv,.slice none 0 0] 46)).alloc (.cells (i64s (List.replicate ts.length 0)) 2)):=(Below.refl _ _).alloc (Nat.le_refl _) _;have HOB14:=hid (HOB13.below' hB14);have HX14:Hid (BoxN ((wr.alloc (Obj.cells #[.int .i64 O.2.1,.slice av O.2.2.length cv,.slice none 0 0] 46)).alloc (.cells (i64s (List.replicate ts.length 0)) 2)) (wr.heap.size+1) (i64s (List.replicate ts.length 0)) 2):=hid (boxn_newE (by simp));have HW14:=hid (hB13.trans (hB14.mono hB13.size));have hz14:Hid ((((wr.alloc (Obj.cells #[.int .i64 O.2.1,.slice av O.2.2.length cv,.slice none 0 0] 46)).alloc (.cells (i64s (List.replicate ts.length 0)) 2))).heap.size=wr.heap.size+2):=hid (by simp);obtain ⟨a0,c0,hs0,hi0,-⟩:=HROW.out 0 hm0;have hc0:=(HW14.out.cell (p:=⟨S,0,none⟩) hSlt).trans (HSr.out 0 _ hs0);have hm0i:(0:Int) < (ts.length:Int):=by omega
   clear hB13 HOB13 hB14 hs0 hi0;go_wp2_with fail
   clear hmk hc0 q1 q2;generalize World.alloc (World.alloc wr _) _=W14 at HOB14 HX14 HW14 hz14 ⊢;generalize hOB:wr.heap.size=OB at HOB14 HX14 hz14 ⊢;have HGN:Hid (∀ k,errAt (fun k=>f (rowAt (ts.map sp) k)) k=0→errAt (fun k=>f (rowAt (ts.map sp) k)) (k+1)=(f (rowAt (ts.map sp) k)).2):=hid fun k h=>errAt_next h;have hWD:Hid (wr.heap.size=OB):=hid hOB;clear hOB;have HBA:=hid (HB4.out.trans (hWs.out.mono HB4.out.size));generalize wr=wA at *;go_loopw [86] (fun i wq=>∃ (k:Nat) (xs:List Int) (xv:Value),k≤N∧i=.int .i64 (k:Int)∧Hid (xs.length=ts.length)∧Hid (BoxN wq OB #[.int .i64 O.2.1,.slice av O.2.2.length cv,xv] 46)∧Hid (wq.ownsRow (OB+2) 2 1 xv k ((datAt (fun k=>f (rowAt (ts.map sp) k)) k).map (Value.int .i64)))∧Hid (BoxN wq (OB+1) (i64s xs) 2)∧Hid (errAt (fun k=>f (rowAt (ts.map sp) k)) k=0)∧Hid (Below wA.heap.size wA wq)∧Hid (OB+2≤wq.heap.size)) (fun i _=>N - (intOf i).toNat)
   case atStart=>exact ⟨0,List.replicate ts.length 0,_,Nat.zero_le _,rfl,hid (by simp),HOB14,hid (by unfold datAt;exact World.ownsRow_nil _ _ _ _),HX14,hid (by unfold errAt;rfl),HW14,hid (by rw [hz14.out];exact Nat.le_refl _)⟩
   case round =>
    obtain ⟨k,xs,xv,hk,rfl,hXL,hOB,hXV,hX,hEr,hV,hZq⟩:=hrel;obtain ⟨ax',cx',rfl⟩:=owns_form hXV.out;by_cases hkN:k < N
    ·have hkNi:(k:Int) < (N:Int):=by omega
     go_wp2_with fail
     go_loopw [91] (fun i wp=>∃ (j:Nat) (ys:List Int),j≤ts.length∧i=.int .i64 (j:Int)∧Hid (ys.length=ts.length)∧Hid (∀ q,q < j→ys.getD q 0=(rowAt (ts.map sp) k).getD q 0)∧Hid (BoxN wp OB #[.int .i64 O.2.1,.slice av O.2.2.length cv,.slice ax' k cx'] 46)∧Hid (wp.ownsRow (OB+2) 2 1 (.slice ax' k cx') k ((datAt (fun k=>f (rowAt (ts.map sp) k)) k).map (Value.int .i64)))∧Hid (BoxN wp (OB+1) (i64s ys) 2)∧Hid (Below wA.heap.size wA wp)∧Hid (OB+2≤wp.heap.size)) (fun i _=>ts.length - (intOf i).toNat)
     case atStart=>exact ⟨0,xs,Nat.zero_le _,rfl,hXL,hid (fun q hq=>by omega),hOB,hXV,hX,hV,hZq⟩
     case round =>
      clear hXL hOB hXV hX hV hZq;obtain ⟨j,ys,hj,rfl,hYL,hYV,hOB,hXV,hX,hV,hZq⟩:=hrel;by_cases hjl:j < ts.length
      ·have hji:(j:Int) < (ts.length:Int):=by omega
       obtain ⟨aj,cj,hsj,hij,hlj⟩:=HROW.out j hjl;have hcj:=(hV.out.cell (p:=⟨S,j,none⟩) hSlt).trans (HSr.out j _ hsj);obtain ⟨b',o',c',hv',hb',hg',-⟩:=ints_cell hij (k:=k) (by omega);obtain ⟨rfl,-,-⟩:=Value.slice.inj hv';have hgj:=(hV.out.cell (p:=⟨b',o'+k,none⟩) hb').trans hg';have hyv:((ts.map sp).getD j []).getD k 0=(rowAt (ts.map sp) k).getD j 0:=rowAt_get (by simpa using hjl);rw [hyv] at hgj;have hxc:=hX.out.cell j (i64s_at (xs:=ys) (j:=j) (by have:=hYL.out;omega));have hxf:=hX.out.frozen j;have HX':=hid (hX.out.set j (.int .i64 ((rowAt (ts.map sp) k).getD j 0)));rw [i64s_set] at HX';have HY':Hid (∀ q,q < j+1→(ys.set j ((rowAt (ts.map sp) k).getD j 0)).getD q 0=(rowAt (ts.map sp) k).getD q 0):=hid (set_upto hYV.out (by have:=hYL.out;omega));generalize hzz:(rowAt (ts.map sp) k).getD j 0=z at hgj HX' HY';clear hzz;have hYL':Hid ((ys.set j z).length=ts.length):=hid (by rw [List.length_set];exact hYL.out);have hOB':Hid (BoxN (wr.setCell ⟨OB+1,j,none⟩ (.int .i64 z)) OB #[.int .i64 O.2.1,.slice av O.2.2.length cv,.slice ax' k cx'] 46):=hid ((Below.heap_setCell _ _ _ _ (by show OB≠OB+1;omega)).trans hOB.out);have hXV':Hid ((wr.setCell ⟨OB+1,j,none⟩ (.int .i64 z)).ownsRow (OB+2) 2 1 (.slice ax' k cx') k ((datAt (fun k=>f (rowAt (ts.map sp) k)) k).map (Value.int .i64))):=hid (ownsRow_setCell_below hXV.out (a:=⟨OB+1,j,none⟩) (show OB+1 < OB+2 by omega) _);have hV':Hid (Below wA.heap.size wA (wr.setCell ⟨OB+1,j,none⟩ (.int .i64 z))):=hid (hV.out.setCell (p:=⟨OB+1,j,none⟩) (by show wA.heap.size≤OB+1;have:=hWD.out;omega) _);have hZ':Hid (OB+2≤(wr.setCell ⟨OB+1,j,none⟩ (.int .i64 z)).heap.size):=hid (by have:=HX'.out.lt;omega);clear hX hXV hOB hV hZq hYL hYV hij hsj hv' hb' hg' hyv hlj;go_wp2_with fail
       go_roundw
       case rel=>exact ⟨j+1,_,by omega,by go_num,hYL',HY',hOB',hXV',HX',hV',hZ'⟩
       case measure=>simp [intOf];omega
      ·have hji:¬ (j:Int) < (ts.length:Int):=by omega
       have hje:j=ts.length:=by omega
       have hyr:ys=rowAt (ts.map sp) k:=upto_all (by rw [hYL.out,rowAt_len,List.length_map]) (fun q hq=>hYV.out q (by have:=hYL.out;omega));subst hyr;have HIX:Hid (IntsIn wr (.slice (some ⟨OB+1,0,none⟩) ts.length ts.length) (rowAt (ts.map sp) k)):=hid (by
        have h0:=ints_i64s hX.out (by intro e;have:=hYL.out;rw [e] at this;simp at this;omega) (by rw [hYL.out];omega) (fun z hz=>by
         obtain ⟨q,hq⟩:=List.getElem?_of_mem hz;have hql:=(List.getElem?_eq_some_iff.1 hq).1;rw [rowAt_len,List.length_map] at hql;obtain ⟨aq,cq,-,hiq,hlq⟩:=HROW.out q hql;have e:z=(rowAt (ts.map sp) k).getD q 0:=by rw [List.getD_eq_getElem?_getD,hq];rfl
         rw [e,←rowAt_get (by simpa using hql)];exact hiq.wf.2 _ (getD_mem (by omega)))
        rwa [hYL.out] at h0)
       have hYL2:=hYL.out;clear hYV hji hj;subst hje;go_wp2_with (go_at_fn G;refine (HCL.out wr _ _ hV.out HIX.out hYL.out (HRR.out _ (by omega))).mono ?_)
       rintro e w8 ⟨rfl,B8⟩;have HV8:=hid (hV.out.trans (B8.mono hV.out.size));have HB8:=hid (HBA.out.trans (HV8.out.mono HBA.out.size));have HOB8:=hid (hOB.out.below' B8);have HX8:=hid (hX.out.below' B8);have HXV8:=hid (owns_below hXV.out B8);have HRB8:=hid (HRBr.out.below' HV8.out);have hz8:OB+2≤w8.heap.size:=by have:=hZq.out;have:=B8.size;omega
       have HEn:=hid (HGN.out k hEr.out);clear B8 hV hOB hX hXV hZq HIX hYL2;by_cases hez:(f (rowAt (ts.map sp) k)).2=0
       ·rw [hez] at HEn ⊢;clear hez;have hdn:=datAt_next (fun k=>f (rowAt (ts.map sp) k)) k;have HDn:=hid hdn;clear hdn;generalize hyy:(f (rowAt (ts.map sp) k)).1=y at HDn ⊢;clear hyy;have x2:=HOB8.out.cell 2 rfl;have hdl':=hid (datAt_len (fun k=>f (rowAt (ts.map sp) k)) k);go_wp2_with (at_builtin;refine wpList_append_own _ rfl _ _ 44 rfl (OB+2) 2 i0 (.int .i64 0) 1 8 Tryz.underlying44 hi hz0 hz1 hz2 rfl (by decide) _ _ _ rfl (HXV8.out.alloc _) ⟨w8.heap.size,0,none⟩ 1 1 (#[.int .i64 y]:Array Value).toList rfl rfl (World.news_of_block (heap_alloc_new w8 _)) (by simp [Value.oneCell']) (by unfold maxLen;omega) (by omega) (by simp;omega) ?_)
        intro v' w6 hown' hgrow _;obtain ⟨a6,c6,rfl⟩:=owns_form hown';have hrE:(w8.alloc (.cells #[.int .i64 y] 2)).ownsRow (OB+2) 2 1 _ _ _:=HXV8.out.alloc _;have hBE:Below w8.heap.size w8 (w8.alloc (.cells #[.int .i64 y] 2)):=(Below.refl _ _).alloc (Nat.le_refl _) _;have HOB6:=hid (box_grown (HOB8.out.below' hBE) hgrow (fun e=>by have:=(hrE.lt _ e).1;omega));have HX6:=box_grown (HX8.out.below' hBE) hgrow (fun e=>by have:=(hrE.lt _ e).1;omega);have hV6:Below wA.heap.size wA w6:=(HV8.out.trans (hBE.mono HV8.out.size)).grown hgrow (by have:=HV8.out.size;simp;omega) (fun g hg=>by have:=(hrE.lt g hg).1;have:=hWD.out;omega);have hz6:OB+2≤w6.heap.size:=by have:=hgrow.size;simp at this;omega
        have HXV7:Hid ((w6.setCell ⟨OB,2,none⟩ (.slice a6 (k+1) c6)).ownsRow (OB+2) 2 1 (.slice a6 (k+1) c6) (k+1) ((datAt (fun k=>f (rowAt (ts.map sp) k)) (k+1)).map (Value.int .i64))):=hid (by
         rw [HDn.out,List.map_append];exact ownsRow_setCell_below hown' (a:=⟨OB,2,none⟩) (show OB < OB+2 by omega) _)
        have HOB7:Hid (BoxN (w6.setCell ⟨OB,2,none⟩ (.slice a6 (k+1) c6)) OB #[.int .i64 O.2.1,.slice av O.2.2.length cv,.slice a6 (k+1) c6] 46):=hid (HOB6.out.set 2 _);have HX7:Hid (BoxN (w6.setCell ⟨OB,2,none⟩ (.slice a6 (k+1) c6)) (OB+1) (i64s (rowAt (ts.map sp) k)) 2):=hid ((Below.heap_setCell _ _ _ _ (by show OB+1≠OB;omega)).trans HX6);have HV7:Hid (Below wA.heap.size wA (w6.setCell ⟨OB,2,none⟩ (.slice a6 (k+1) c6))):=hid (hV6.setCell (p:=⟨OB,2,none⟩) (by show wA.heap.size≤OB;have:=hWD.out;omega) _);have hz7:Hid (OB+2≤(w6.setCell ⟨OB,2,none⟩ (.slice a6 (k+1) c6)).heap.size):=hid (by have:=HV7.out.size;have:=HX7.out.lt;omega);have z2:=HOB6.out.cell 2 rfl;have zf:=HOB6.out.frozen 2;clear hown' hgrow hrE hBE HX6 hV6 hz6 x2;go_wp2_with fail
        go_roundw
        case rel=>exact ⟨k+1,_,_,by omega,by go_num,hYL,HOB7,HXV7,HX7,HEn,HV7,hz7⟩
        case measure=>simp [intOf];omega
       ·have HRZ:=hid (HNO.out k hEr.out hkN hez);have HNE:=hid hez;have hb':((f (rowAt (ts.map sp) k)).2 != 0)=true:=by simpa using hez
        clear hez HEn;have HRE:=HRB8.out;have f0:=HRE.frozen 0;have f1:=HRE.frozen 1;have f2:=HRE.frozen 2;have g0:=HRE.cell 0 rfl;have g1:=HRE.cell 1 rfl;have g2:=HRE.cell 2 rfl;have hend:Hid (BoxN (put3 w8 (w.heap.size+1) (.int .i64 0) (.slice none 0 0) (.slice none 0 0)) (w.heap.size+1) #[.int .i64 0,.slice none 0 0,.slice none 0 0] 46 ∧ Below w.heap.size w (put3 w8 (w.heap.size+1) (.int .i64 0) (.slice none 0 0) (.slice none 0 0))):=hid ⟨HRE.put3 _ _ _,below_put3 HB8.out (by omega)⟩;clear HRE;go_wp2_with fail
        obtain ⟨hx1,hx2⟩:=hend.out;obtain ⟨x0,x1',x2'⟩:=hx1.three;unfold put3 at x0 x1' x2' hx2;exact bodyPost_ret (v:=.tuple #[.agg #[.int .i64 0,.slice none 0 0,.slice none 0 0],.int .i64 (f (rowAt (ts.map sp) k)).2]) (by simp [results,Tryz.f18,go_sem,x0,x1',x2']) rfl (DoR.no HRZ.out HNE.out hx2)
    ·have hkNi:¬ (k:Int) < (N:Int):=by omega
     obtain rfl:k=N:=by omega
     have HFIN:=hid (HYE.out hEr.out);have HBE:=hid (HBA.out.trans (hV.out.mono HBA.out.size));have HRE:=HRBr.out.below' hV.out;obtain ⟨o0,o1,o2⟩:=hOB.out.three;have f0:=HRE.frozen 0;have f1:=HRE.frozen 1;have f2:=HRE.frozen 2;have g0:=HRE.cell 0 rfl;have g1:=HRE.cell 1 rfl;have g2:=HRE.cell 2 rfl;have hend:Hid (BoxN (put3 wr (w.heap.size+1) (.int .i64 O.2.1) (.slice av O.2.2.length cv) (.slice ax' k cx')) (w.heap.size+1) #[.int .i64 O.2.1,.slice av O.2.2.length cv,.slice ax' k cx'] 46 ∧ Below w.heap.size w (put3 wr (w.heap.size+1) (.int .i64 O.2.1) (.slice av O.2.2.length cv) (.slice ax' k cx'))∧RowI (put3 wr (w.heap.size+1) (.int .i64 O.2.1) (.slice av O.2.2.length cv) (.slice ax' k cx')) w.heap.size (.slice av O.2.2.length cv) O.2.2∧(put3 wr (w.heap.size+1) (.int .i64 O.2.1) (.slice av O.2.2.length cv) (.slice ax' k cx')).ownsRow w.heap.size 2 1 (.slice ax' k cx') k ((datAt (fun k=>f (rowAt (ts.map sp) k)) k).map (Value.int .i64))):=hid ⟨HRE.put3 _ _ _,below_put3 HBE.out (by omega),rowI_put3 (HRIr.out.below hV.out) HRE,owns_put3 (owns_base hXV.out (by have:=hWD.out;omega)) HRE (by decide)⟩;clear HRE;go_wp2_with fail
     obtain ⟨hx1,hx2,hx3,hx4⟩:=hend.out;obtain ⟨x0,x1',x2'⟩:=hx1.three;unfold put3 at x0 x1' x2' hx2 hx3 hx4;exact bodyPost_ret (v:=.tuple #[.agg #[.int .i64 O.2.1,.slice av O.2.2.length cv,.slice ax' k cx'],.int .i64 0]) (by simp [results,Tryz.f18,go_sem,x0,x1',x2']) rfl ⟨hx2,Or.inr ⟨by rw [HFIN.out],_,_,by rw [HFIN.out],by rw [HFIN.out];exact hx3,by rw [HFIN.out,datAt_len];exact hx4⟩⟩
theorem do_any {w:World} {vn vv:Value} {n:Nd} {ts:List Tn} (hn:NodeV w vn n) (hs:SlIn 3 rdTensor w vv ts) (hG:Glob w) {ty:Int × Int} {ds:Int × List Int}
  (hT:checkP n=0→ts.length=n.ins.length→pbAll ts=true→∀ (W:World) (v:Value),Below w.heap.size w W→MkV W v n (ts.map tvV)→Calls Tryz.prog 32 #[v] W fun e w'=>TyR ty e∧Below W.heap.size W w')
  (hD:checkP n=0→ts.length=n.ins.length→pbAll ts=true→ty.1=0→∀ (W:World) (v:Value),Below w.heap.size w W→MkV W v n (ts.map tvV)→Calls Tryz.prog 33 #[v] W fun e w'=>DimR W ds e w')
  (hm0:0 < ts.length) (hm6:ts.length≤6) {sp:Tn→List Int} {f:List Int→Int × Int} {N:Nat} (hN:N≤65536)
  (hP:(begO n ts ty ds).1=0→∀ W,Below w.heap.size w W→Calls Tryz.prog 40 #[vn,vv] W fun e w'=>∃ fn,e=.returned (.tuple #[fn,.bool true])∧PlaceC fn w' f ts.length∧Below W.heap.size W w')
  (hO:(begO n ts ty ds).1=0→(∀ t ∈ ts,SpOK (begO n ts ty ds).2.2 N t (sp t))∧(begO n ts ty ds).2.2.length≤1000∧∀ z ∈ (begO n ts ty ds).2.2,InI z) :
  Calls Tryz.prog 18 #[vn,vv] w (DoR w (doO (begO n ts ty ds) (fun k=>f (rowAt (ts.map sp) k)) N)) :=
 do_anyR (R:=fun _=>True) hn hs hG hT hD hm0 hm6 hN (fun _ _ _=>trivial) (fun h W hB=>(hP h W hB).mono (by rintro e w' ⟨fn,rfl,h1,h2⟩;exact ⟨fn,rfl,h1.toR _,h2⟩)) hO
end
section
open Go.RowKit
set_option maxRecDepth 100000
theorem cnt_six {W:List Int} (h:(cnt W).2=0):W.length≤1000∧(∀ z ∈ W,InI z)∧(Vx.Vw.pr W).toNat≤65536:=by
 obtain ⟨h1,h2,-,h4⟩:=Vx.cnt_good h;exact ⟨by omega,fun z hz=>by have:=h1 z hz;unfold InI;omega,by omega⟩
def spT (W:List Int) (t:Tn):List Int:=Vx.spL t.2.1 W t.2.2
def nW (W:List Int):Nat:=(Vx.Vw.pr W).toNat
theorem spT_ok {W:List Int} {t:Tn} (h:pbE t.1 t.2.1 t.2.2=0) (hW:(cnt W).2=0) (h1:(Vb.bcO t.2.1 W).1=0) (h2:(Vb.bcO t.2.1 W).2=W):SpOK W (nW W) t (spT W t):=by
 obtain ⟨-,g2,g3,-⟩:=pbE_zero h;obtain ⟨e1,e2⟩:=Vx.spread_read g2 g3 hW h1 h2;exact ⟨g2,e1,e2,Vx.spL_length _ _ _⟩
def twoB (n:Nd) (x y:Tn):Int × Int × List Int:=begO n [x,y] (typ2 n.op.toList x.1 y.1) (Vb.bcO x.2.1 y.2.1)
def twoO (n:Nd) (x y:Tn):Int × Int × List Int × List Int :=
 doO (twoB n x y) (fun k=>Fl.bin n.op.toList x.1 ((rowAt ([x,y].map (spT (twoB n x y).2.2)) k).getD 0 0) ((rowAt ([x,y].map (spT (twoB n x y).2.2)) k).getD 1 0)) (nW (twoB n x y).2.2)
theorem twoB_yes {n:Nd} {x y:Tn} (h:(twoB n x y).1=0):checkP n=0∧n.ins.length=2∧pbE x.1 x.2.1 x.2.2=0∧pbE y.1 y.2.1 y.2.2=0∧(typ2 n.op.toList x.1 y.1).1=0∧(Vb.bcO x.2.1 y.2.1).1=0∧(cnt (Vb.bcO x.2.1 y.2.1).2).2=0∧twoB n x y=(0,(typ2 n.op.toList x.1 y.1).2,(Vb.bcO x.2.1 y.2.1).2):=by
 obtain ⟨h1,h2,h3⟩:=begO_yes h;obtain ⟨g1,g2,g3,g4,g5,g6,g7⟩:=outP_yes h2;exact ⟨g1,by simpa using g2.symm,pbAll_mem h1 (by simp),pbAll_mem h1 (by simp),g4,g5,g6,by unfold twoB;rw [h3,g7]⟩
attribute [local irreducible] cnt chk checkP inpE outP folB thenE RowI pbE begO pbAll doO rowAt SpOK PlaceC spT nW Fl.bin Fl.un typ2 typU Vb.bcO
def twoL:List (List UInt8):=[[65,100,100],[77,117,108],[68,105,118],[65,110,100],[79,114]]
theorem twoL_in:∀ p ∈ twoL,p ∈ cmpL++ariL:=by decide
theorem placed_two {w:World} {vn vv:Value} {n:Nd} {ts:List Tn} {x:Tn} (hn:NodeV w vn n) (hs:SlIn 3 rdTensor w vv ts) (hi:ts[0]?=some x) (ho:n.op.toList ∈ twoL) :
  Calls Tryz.prog 40 #[vn,vv] w fun e w'=>∃ fn,e=.returned (.tuple #[fn,.bool true])∧PlaceC fn w' (fun xs=>Fl.bin n.op.toList x.1 (xs.getD 0 0) (xs.getD 1 0)) 2∧Below w.heap.size w w':=by
 simp only [twoL,List.mem_cons,List.not_mem_nil,or_false] at ho;rcases ho with ho | ho | ho | ho | ho
 ·exact placed_Add hn hs hi ho
 ·exact placed_Mul hn hs hi ho
 ·exact placed_Div hn hs hi ho
 ·exact placed_And hn hs hi ho
 ·exact placed_Or hn hs hi ho
theorem do_two {w:World} {vn vv:Value} {n:Nd} {x y:Tn} (hn:NodeV w vn n) (hs:SlIn 3 rdTensor w vv [x,y]) (hG:Glob w) (ho:n.op.toList ∈ twoL) :
  Calls Tryz.prog 18 #[vn,vv] w (DoR w (twoO n x y)):=by
 have hT:checkP n=0→[x,y].length=n.ins.length→pbAll [x,y]=true→∀ (W:World) (v:Value),Below w.heap.size w W→MkV W v n ([x,y].map tvV)→Calls Tryz.prog 32 #[v] W fun e w'=>TyR (typ2 n.op.toList x.1 y.1) e∧Below W.heap.size W w' :=
  fun _ _ _ W v _ hm=>typ_two (x:=tvV x) (y:=tvV y) hm (twoL_in _ ho)
 have hD:checkP n=0→[x,y].length=n.ins.length→pbAll [x,y]=true→(typ2 n.op.toList x.1 y.1).1=0→∀ (W:World) (v:Value),Below w.heap.size w W→MkV W v n ([x,y].map tvV)→Calls Tryz.prog 33 #[v] W fun e w'=>DimR W (Vb.bcO x.2.1 y.2.1) e w' :=
  fun _ _ _ _ W v _ hm=>dims_two (x:=tvV x) (y:=tvV y) hm (twoL_in _ ho)
 have hP:∀ W,Below w.heap.size w W→Calls Tryz.prog 40 #[vn,vv] W fun e w'=>∃ fn,e=.returned (.tuple #[fn,.bool true])∧PlaceC fn w' (fun xs=>Fl.bin n.op.toList x.1 (xs.getD 0 0) (xs.getD 1 0)) [x,y].length∧Below W.heap.size W w' :=
  fun W hB=>placed_two (x:=x) (node_belowV hn hB) (tensors_below hs hB) rfl ho
 by_cases h:(twoB n x y).1=0
 ·obtain ⟨g1,g2,g3,g4,g5,g6,g7,g8⟩:=twoB_yes h;have hW:(twoB n x y).2.2=(Vb.bcO x.2.1 y.2.1).2:=by rw [g8]
  obtain ⟨e1,e2,e3,e4⟩:=Vx.bc_left g6;obtain ⟨f1,f2⟩:=Vx.bc_right g6;have c6:=cnt_six g7;exact do_any hn hs hG hT hD (by simp) (by simp) (sp:=spT (twoB n x y).2.2) (f:=fun xs=>Fl.bin n.op.toList x.1 (xs.getD 0 0) (xs.getD 1 0)) (N:=nW (twoB n x y).2.2) (by rw [hW];unfold nW;exact c6.2.2) (fun _=>hP)
   (fun _=>by
    show (∀ t ∈ [x,y],SpOK (twoB n x y).2.2 (nW (twoB n x y).2.2) t (spT (twoB n x y).2.2 t))∧(twoB n x y).2.2.length≤1000∧∀ z ∈ (twoB n x y).2.2,InI z;rw [hW];refine ⟨fun t ht=>?_,c6.1,c6.2.1⟩;simp only [List.mem_cons,List.not_mem_nil,or_false] at ht;rcases ht with rfl | rfl
    ·exact spT_ok g3 g7 e1 e2
    ·exact spT_ok g4 g7 f1 f2)
 ·have:=do_any hn hs hG hT hD (by simp) (by simp) (sp:=spT []) (f:=fun xs=>Fl.bin n.op.toList x.1 (xs.getD 0 0) (xs.getD 1 0)) (N:=0) (by omega) (fun _=>hP) (fun c=>absurd c h);rw [doO_no (o:=begO n [x,y] (typ2 n.op.toList x.1 y.1) (Vb.bcO x.2.1 y.2.1)) h] at this;unfold twoO;rw [doO_no h];exact this
end
section
open Go.RowKit
theorem pbAll_of {ts:List Tn} (h:∀ t ∈ ts,pbE t.1 t.2.1 t.2.2=0):pbAll ts=true:=List.all_eq_true.2 fun t ht=>decide_eq_true (h t ht)
def oAdd:ByteArray:=⟨#[65,100,100]⟩
end
section
open Go.RowKit
set_option maxRecDepth 100000
set_option maxHeartbeats 4000000 in
theorem small09_any {w:World} {vv:Value} {ts:List Tn} (hs:SlIn 3 rdTensor w vv ts) :
  Calls Tryz.prog 16 #[vv] w (SomeB w):=by
 have hll:=hs.len;obtain ⟨a3,c3,rfl⟩:=hs.form;have HS:=hid hs;clear hs;go_enter Tryz.func16,Tryz.ntmps16
 go_wp2_with fail
 go_loopw [3,4] (fun n i wr=>∃ (k:Nat) (m:Int),k≤ts.length∧i=.int .i64 (k:Int)∧n=.int .i64 m∧1≤m∧m≤65536∧Hid (Below w.heap.size w wr)) (fun _ i _=>ts.length - (intOf i).toNat)
 case atStart=>exact ⟨0,1,Nat.zero_le _,rfl,rfl,by decide,by decide,hid (Below.refl _ _)⟩
 case round =>
  obtain ⟨k,m,hk,rfl,rfl,hm0,hm1,hW⟩:=hrel;by_cases hkl:k < ts.length
  ·have hki:(k:Int) < (ts.length:Int):=by omega
   obtain ⟨x,hx⟩:∃ x,ts[k]?=some x:=⟨_,List.getElem?_eq_getElem hkl⟩;obtain ⟨b,off,cap,vd,vx,hv,hb,c0,c1',c2',h1,h2,h3⟩:=tensor_at HS.out hx;obtain ⟨rfl,-,rfl⟩:=Value.slice.inj hv;have u2:=(hW.out.cell (p:=⟨b,off+k * 3+2,none⟩) hb).trans c2';obtain ⟨ax,cx,rfl⟩:=h3.shape;clear c0 c1' c2' h1 h2 hv hx;generalize x.2.2.length=q at *;clear h3;by_cases hq:4096 < (q:Int)
   ·go_wp2_with fail
    go_ret
    exact ⟨⟨_,rfl⟩,hW.out⟩
   ·obtain ⟨z,hz⟩:∃ z:Int,max 1 (q:Int)=z:=⟨_,rfl⟩;have hz1:1≤z∧z≤4096:=by omega
    obtain ⟨y,hy⟩:∃ y:Int,m * z=y:=⟨_,rfl⟩;have hy1:1≤y∧y≤268435456:=by
     have h1:=Int.mul_le_mul hm1 hz1.2 (by omega) (by omega);have h2:=Int.mul_le_mul hm0 hz1.1 (by omega) (by omega);omega
    have hwr:IntKind.i64.wrap (m * z)=y:=by rw [hy,IntKind.wrap_i64];omega
    by_cases hy2:65536 < y
    ·go_wp2_with fail
     go_ret
     exact ⟨⟨_,rfl⟩,hW.out⟩
    ·go_wp2_with fail
     go_roundw
     case rel=>exact ⟨k+1,y,by omega,by go_num,rfl,by omega,by omega,hW⟩
     case measure=>simp [intOf];omega
  ·have hki:¬ (k:Int) < (ts.length:Int):=by omega
   go_wp2_with fail
   go_ret
   exact ⟨⟨_,rfl⟩,hW.out⟩
def sLa:ByteArray:=⟨#[97]⟩
def sLb:ByteArray:=⟨#[98]⟩
def sLc:ByteArray:=⟨#[99]⟩
def nL (op:ByteArray):Nd:=⟨op,⟨#[]⟩,[sLa,sLb],sLc,[]⟩
def oDivE:ByteArray:=⟨#[68,105,118]⟩
def tLa:Tn:=(6,[1,3],[1,2,3])
def tLb:Tn:=(6,[2,1],[10,0])
theorem live_add:twoO (nL oAdd) tLa tLb=(0,6,[2,3],[11,12,13,1,2,3]):=by decide +kernel
theorem live_div:twoO (nL oDivE) tLa tLb=(7,0,[],[]):=by decide +kernel
end
section
open Go.RowKit
set_option maxRecDepth 100000
theorem allocs8 {w W:World} {o1 o2 o3 o4 o5 o6 o7 o8:Obj} (h:World.alloc (World.alloc (World.alloc (World.alloc (World.alloc (World.alloc (World.alloc (World.alloc w o1) o2) o3) o4) o5) o6) o7) o8=W):Below w.heap.size w W∧W.heap.size=w.heap.size+1+1+1+1+1+1+1+1∧W.heap[w.heap.size]?=some o1∧W.heap[w.heap.size+1]?=some o2∧W.heap[w.heap.size+1+1]?=some o3∧W.heap[w.heap.size+1+1+1]?=some o4∧W.heap[w.heap.size+1+1+1+1]?=some o5∧W.heap[w.heap.size+1+1+1+1+1]?=some o6∧W.heap[w.heap.size+1+1+1+1+1+1]?=some o7∧W.heap[w.heap.size+1+1+1+1+1+1+1]?=some o8:=by
 subst h;obtain ⟨hB,hS,h1,h2,h3,h4,h5,h6,h7⟩:=allocs7 (w:=w) (o1:=o1) (o2:=o2) (o3:=o3) (o4:=o4) (o5:=o5) (o6:=o6) (o7:=o7) rfl;have hn:=World.alloc_heap_new (World.alloc (World.alloc (World.alloc (World.alloc (World.alloc (World.alloc (World.alloc w o1) o2) o3) o4) o5) o6) o7) o8;rw [hS] at hn;exact ⟨hB.alloc (by rw [hS];omega) _,by simp,blk_keep h1 _,blk_keep h2 _,blk_keep h3 _,blk_keep h4 _,blk_keep h5 _,blk_keep h6 _,blk_keep h7 _,hn⟩
theorem allocs9 {w W:World} {o1 o2 o3 o4 o5 o6 o7 o8 o9:Obj} (h:World.alloc (World.alloc (World.alloc (World.alloc (World.alloc (World.alloc (World.alloc (World.alloc (World.alloc w o1) o2) o3) o4) o5) o6) o7) o8) o9=W):Below w.heap.size w W∧W.heap.size=w.heap.size+1+1+1+1+1+1+1+1+1∧W.heap[w.heap.size]?=some o1∧W.heap[w.heap.size+1]?=some o2∧W.heap[w.heap.size+1+1]?=some o3∧W.heap[w.heap.size+1+1+1]?=some o4∧W.heap[w.heap.size+1+1+1+1]?=some o5∧W.heap[w.heap.size+1+1+1+1+1]?=some o6∧W.heap[w.heap.size+1+1+1+1+1+1]?=some o7∧W.heap[w.heap.size+1+1+1+1+1+1+1]?=some o8∧W.heap[w.heap.size+1+1+1+1+1+1+1+1]?=some o9:=by
 subst h;obtain ⟨hB,hS,h1,h2,h3,h4,h5,h6,h7,h8⟩:=allocs8 (w:=w) (o1:=o1) (o2:=o2) (o3:=o3) (o4:=o4) (o5:=o5) (o6:=o6) (o7:=o7) (o8:=o8) rfl;have hn:=World.alloc_heap_new (World.alloc (World.alloc (World.alloc (World.alloc (World.alloc (World.alloc (World.alloc (World.alloc w o1) o2) o3) o4) o5) o6) o7) o8) o9;rw [hS] at hn;exact ⟨hB.alloc (by rw [hS];omega) _,by simp,blk_keep h1 _,blk_keep h2 _,blk_keep h3 _,blk_keep h4 _,blk_keep h5 _,blk_keep h6 _,blk_keep h7 _,blk_keep h8 _,hn⟩
theorem cell_other {w:World} {p:Addr} {x:Value} {b k:Nat} (h:b≠p.block):(w.setCell p x).cell? ⟨b,k,none⟩=w.cell? ⟨b,k,none⟩:=by
 have e:=Below.heap_setCell (w:=w) p x b h;unfold World.cell?;rw [show (⟨b,k,none⟩:Addr).block=b from rfl,e]
theorem ints_set {w:World} {v:Value} {zs:List Int} (h:IntsIn w v zs) {p:Addr} (x:Value) (hb:∀ b o n c,v=.slice (some ⟨b,o,none⟩) n c→b≠p.block):IntsIn (w.setCell p x) v zs:=by
 cases h with
 | empty a c=>exact .empty a c
 | row b off cap _ h0 hc hlt hr hlen hw =>
  have hne:=hb _ _ _ _ rfl;refine .row b off cap zs h0 hc (by simpa [World.setCell] using hlt) (fun j hj=>?_) hlen hw;rw [cell_other hne];exact hr j hj
theorem strs_set {w:World} {v:Value} {zs:List ByteArray} (h:StrsIn w v zs) {p:Addr} (x:Value) (hb:∀ b o n c,v=.slice (some ⟨b,o,none⟩) n c→b≠p.block):StrsIn (w.setCell p x) v zs:=by
 cases h with
 | empty a c=>exact .empty a c
 | row b off cap _ h0 hc hlt hr hlen =>
  have hne:=hb _ _ _ _ rfl;refine .row b off cap zs h0 hc (by simpa [World.setCell] using hlt) (fun j s hj=>?_) hlen;rw [cell_other hne];exact hr j s hj
theorem doO_form {o:Int × Int × List Int} {g:Nat→Int × Int} {N:Nat}:(doO o g N).1≠0→(doO o g N).2=(0,[],[]):=by
 unfold doO;split
 ·exact fun _=>rfl
 split
 ·exact fun _=>rfl
 ·exact fun h=>absurd rfl h
theorem doO_zero {o:Int × Int × List Int} {g:Nat→Int × Int} {N:Nat} (h:(doO o g N).1=0):o.1=0∧doO o g N=(0,o.2.1,o.2.2,datAt g N):=by
 unfold doO at *;split at h
 ·rename_i c;exact absurd h c
 rename_i c
 rw [if_neg c];split at h
 ·rename_i d;exact absurd h d
 rename_i d
 rw [if_neg d];exact ⟨by simpa using c,rfl⟩
theorem spT_in {W:List Int} {t:Tn} (h:∀ z ∈ t.2.2,InI z) (k:Nat):InI ((spT W t).getD k 0):=by
 have h0:InI 0:=by unfold InI;decide
 unfold spT Vx.spL;by_cases hk:k < (Vx.Vw.pr W).toNat
 ·rw [List.getD_eq_getElem?_getD,List.getElem?_map,List.getElem?_range hk];simp only [Option.map_some,Option.getD_some];by_cases hj:Vx.spP t.2.1 W k < t.2.2.length
  ·exact h _ (getD_mem hj)
  ·rw [List.getD,List.getElem?_eq_none (by omega)];exact h0
 ·rw [List.getD,List.getElem?_eq_none (by simpa using hk)];exact h0
theorem datAt_in {g:Nat→Int × Int} {N:Nat} (h:∀ k,InI (g k).1):∀ z ∈ datAt g N,InI z:=fun z hz=>by
 obtain ⟨k,-,rfl⟩:=List.mem_map.1 hz;exact h k
theorem do_twoU {w:World} {vn vv:Value} {n:Nd} {x y:Tn} (hn:NodeV w vn n) (hs:SlIn 3 rdTensor w vv [x,y]) (hG:Glob w) (ho:n.op.toList ∈ twoL) :
  Calls Tryz.prog 18 #[vn,vv] w (UniR w (twoO n x y)):=by
 refine (do_two hn hs hG ho).mono fun e w' h=>?_;refine h.uni (fun h=>doO_form h) (fun h=>?_);obtain ⟨h0,e0⟩:=doO_zero h;have e1:twoO n x y=_:=e0;rw [e1];obtain ⟨-,-,-,-,-,-,hc,hB⟩:=twoB_yes h0;have c6:=cnt_six hc;rw [show (twoB n x y).2.2=(Vb.bcO x.2.1 y.2.1).2 by rw [hB]];refine ⟨⟨c6.1,c6.2.1⟩,?_,?_⟩
 ·rw [datAt_len];unfold nW;have:=c6.2.2;omega
 ·refine datAt_in fun k=>?_;have hx:=spT_in (W:=(Vb.bcO x.2.1 y.2.1).2) (tens_mem hs (x:=x) (by simp)).2 k;have hy:=spT_in (W:=(Vb.bcO x.2.1 y.2.1).2) (tens_mem hs (x:=y) (by simp)).2 k;exact Fl.bin_rangeA hx.1 hx.2 hy.1 hy.2
set_option maxHeartbeats 8000000 in
theorem live09_any {w:World} (hG:Glob w):Calls Tryz.prog 17 #[] w fun e w'=>e=.returned (.bool true)∧Below w.heap.size w w':=by
 have HG:=hid hG;clear hG;go_enter Tryz.func17,Tryz.ntmps17
 go_wp2_with fail
 generalize hW:World.alloc (World.alloc (World.alloc (World.alloc (World.alloc (World.alloc (World.alloc (World.alloc (World.alloc w _) _) _) _) _) _) _) _) _=W1;obtain ⟨hB,hS,b1,b2,b3,b4,b5,b6,b7,b8,b9⟩:=allocs9 hW;clear hW;have HB1:=hid hB;have I1:Hid (IntsIn W1 (.slice (some ⟨w.heap.size,0,none⟩) 2 2) [1,3]):=hid (ints_boxE (zs:=[1,3]) b1 rfl (by simp) (by simp) (by intro z hz;simp at hz;unfold InI;omega));have I2:Hid (IntsIn W1 (.slice (some ⟨w.heap.size+1,0,none⟩) 3 3) [1,2,3]):=hid (ints_boxE (zs:=[1,2,3]) b2 rfl (by simp) (by simp) (by intro z hz;simp at hz;unfold InI;omega));have I3:Hid (IntsIn W1 (.slice (some ⟨w.heap.size+1+1+1,0,none⟩) 2 2) [2,1]):=hid (ints_boxE (zs:=[2,1]) b4 rfl (by simp) (by simp) (by intro z hz;simp at hz;unfold InI;omega));have I4:Hid (IntsIn W1 (.slice (some ⟨w.heap.size+1+1+1+1,0,none⟩) 2 2) [10,0]):=hid (ints_boxE (zs:=[10,0]) b5 rfl (by simp) (by simp) (by intro z hz;simp at hz;unfold InI;omega));have IS:Hid (StrsIn W1 (.slice (some ⟨w.heap.size+1+1+1+1+1+1,0,none⟩) 2 2) [sLa,sLb]):=hid (strs_boxE (ss:=[sLa,sLb]) b7 rfl (by simp) (by simp));have HA:=hid (box_of b3);have HBt:=hid (box_of b6);have HN:=hid (box_of b8);have hT:SlIn 3 rdTensor W1 (.slice (some ⟨w.heap.size+1+1+1+1+1+1+1+1,0,none⟩) 2 2) [tLa,tLb]:=tens_two (x:=tLa) (y:=tLb) b9 ⟨by unfold InI tLa;decide,I1.out,I2.out⟩ ⟨by unfold InI tLb;decide,I3.out,I4.out⟩;have hN:NodeV W1 (.agg #[.string ⟨#[65,100,100]⟩,.string ⟨#[]⟩,.slice (some ⟨w.heap.size+1+1+1+1+1+1,0,none⟩) 2 2,.string ⟨#[99]⟩,.slice none 0 0]) (nL oAdd):=⟨_,_,rfl,⟨IS.out,.empty none 0⟩⟩;have hopA:(nL oAdd).op.toList ∈ twoL:=by unfold nL oAdd;rw [ByteArray.toList_eq];decide
 have hopD:(nL oDivE).op.toList ∈ twoL:=by unfold nL oDivE;rw [ByteArray.toList_eq];decide
 have HOD:=hid hopD;have hdo:=do_twoU hN hT (HG.out.below HB1.out) hopA;rw [live_add] at hdo;clear b1 b2 b3 b4 b5 b6 b7 b8 b9 hT hN hopA hopD hB;refine hdo.mono ?_;clear hdo;intro e w2 hu;obtain ⟨vd,vx,rfl,hd,hx,⟨hi1,hi2⟩,B2⟩:=hu.out;clear hu;have ID:=hid hd;have IX:=hid hx;obtain ⟨ad,cd,rfl⟩:∃ a c,vd=Value.slice a 2 c:=hd.shape;obtain ⟨ax,cx,rfl⟩:∃ a c,vx=Value.slice a 6 c:=hx.shape;have hz2:w.heap.size+9≤w2.heap.size:=by have:=B2.size;omega
 have HB2:=hid (HB1.out.trans (B2.mono HB1.out.size));have hA:=HA.out.below' B2;have hBt:=HBt.out.below' B2;have hN:=HN.out.below' B2;have J1:=hid (I1.out.below B2);have J2:=hid (I2.out.below B2);have J3:=hid (I3.out.below B2);have J4:=hid (I4.out.below B2);have JS:=hid (IS.out.below B2);clear hd hx B2 I1 I2 I3 I4 IS HA HBt HN;have hA3:=blk_keep hA (Obj.cells #[.int .i64 6,.slice ad 2 cd,.slice ax 6 cx] 46);have hBt3:=blk_keep hBt (Obj.cells #[.int .i64 6,.slice ad 2 cd,.slice ax 6 cx] 46);have hN3:=blk_keep hN (Obj.cells #[.int .i64 6,.slice ad 2 cd,.slice ax 6 cx] 46);have hR3:=World.alloc_heap_new w2 (Obj.cells #[.int .i64 6,.slice ad 2 cd,.slice ax 6 cx] 46);have hB3:Below w2.heap.size w2 (w2.alloc (Obj.cells #[.int .i64 6,.slice ad 2 cd,.slice ax 6 cx] 46)):=(Below.refl _ _).alloc (Nat.le_refl _) _;have zf:=(box_of hN3).frozen 0;have zc:=(box_of hN3).cell 0 rfl;have hN4:=(box_of hN3).set 0 (.string ⟨#[68,105,118]⟩);have hA4:BoxN (World.setCell (World.alloc w2 (Obj.cells #[.int .i64 6,.slice ad 2 cd,.slice ax 6 cx] 46)) ⟨w.heap.size+1+1+1+1+1+1+1,0,none⟩ (.string ⟨#[68,105,118]⟩)) (w.heap.size+1+1) #[.int .i64 6,.slice (some ⟨w.heap.size,0,none⟩) 2 2,.slice (some ⟨w.heap.size+1,0,none⟩) 3 3] 46:=(Below.heap_setCell _ _ _ _ (by show w.heap.size+1+1≠w.heap.size+1+1+1+1+1+1+1;omega)).trans hA3;have hBt4:BoxN (World.setCell (World.alloc w2 (Obj.cells #[.int .i64 6,.slice ad 2 cd,.slice ax 6 cx] 46)) ⟨w.heap.size+1+1+1+1+1+1+1,0,none⟩ (.string ⟨#[68,105,118]⟩)) (w.heap.size+1+1+1+1+1) #[.int .i64 6,.slice (some ⟨w.heap.size+1+1+1,0,none⟩) 2 2,.slice (some ⟨w.heap.size+1+1+1+1,0,none⟩) 2 2] 46:=(Below.heap_setCell _ _ _ _ (by show w.heap.size+1+1+1+1+1≠w.heap.size+1+1+1+1+1+1+1;omega)).trans hBt3;have hR4:BoxN (World.setCell (World.alloc w2 (Obj.cells #[.int .i64 6,.slice ad 2 cd,.slice ax 6 cx] 46)) ⟨w.heap.size+1+1+1+1+1+1+1,0,none⟩ (.string ⟨#[68,105,118]⟩)) w2.heap.size #[.int .i64 6,.slice ad 2 cd,.slice ax 6 cx] 46:=(Below.heap_setCell _ _ _ _ (by show w2.heap.size≠w.heap.size+1+1+1+1+1+1+1;omega)).trans hR3;have hB4:Below w.heap.size w (World.setCell (World.alloc w2 (Obj.cells #[.int .i64 6,.slice ad 2 cd,.slice ax 6 cx] 46)) ⟨w.heap.size+1+1+1+1+1+1+1,0,none⟩ (.string ⟨#[68,105,118]⟩)):=(HB2.out.trans (hB3.mono HB2.out.size)).setCell (p:=⟨w.heap.size+1+1+1+1+1+1+1,0,none⟩) (by show w.heap.size≤w.heap.size+1+1+1+1+1+1+1;omega) _;obtain ⟨n0,n1,n2,n3,n4⟩:=BoxN.five (x0:=.string ⟨#[68,105,118]⟩) (x1:=.string ⟨#[]⟩) (x2:=.slice (some ⟨w.heap.size+1+1+1+1+1+1,0,none⟩) 2 2) (x3:=.string ⟨#[99]⟩) (x4:=.slice none 0 0) hN4;obtain ⟨a0,a1,a2⟩:=hA4.three;obtain ⟨t0,t1,t2⟩:=hBt4.three;have K1:Hid (IntsIn (World.setCell (World.alloc w2 (Obj.cells #[.int .i64 6,.slice ad 2 cd,.slice ax 6 cx] 46)) ⟨w.heap.size+1+1+1+1+1+1+1,0,none⟩ (.string ⟨#[68,105,118]⟩)) (.slice (some ⟨w.heap.size,0,none⟩) 2 2) [1,3]):=hid (ints_set (J1.out.below hB3) _ (fun b o n c e=>by obtain ⟨e1,-,-⟩:=Value.slice.inj e;have:=congrArg (Option.map Addr.block) e1;simp at this;show b≠w.heap.size+1+1+1+1+1+1+1;omega));have K2:Hid (IntsIn (World.setCell (World.alloc w2 (Obj.cells #[.int .i64 6,.slice ad 2 cd,.slice ax 6 cx] 46)) ⟨w.heap.size+1+1+1+1+1+1+1,0,none⟩ (.string ⟨#[68,105,118]⟩)) (.slice (some ⟨w.heap.size+1,0,none⟩) 3 3) [1,2,3]):=hid (ints_set (J2.out.below hB3) _ (fun b o n c e=>by obtain ⟨e1,-,-⟩:=Value.slice.inj e;have:=congrArg (Option.map Addr.block) e1;simp at this;show b≠w.heap.size+1+1+1+1+1+1+1;omega));have K3:Hid (IntsIn (World.setCell (World.alloc w2 (Obj.cells #[.int .i64 6,.slice ad 2 cd,.slice ax 6 cx] 46)) ⟨w.heap.size+1+1+1+1+1+1+1,0,none⟩ (.string ⟨#[68,105,118]⟩)) (.slice (some ⟨w.heap.size+1+1+1,0,none⟩) 2 2) [2,1]):=hid (ints_set (J3.out.below hB3) _ (fun b o n c e=>by obtain ⟨e1,-,-⟩:=Value.slice.inj e;have:=congrArg (Option.map Addr.block) e1;simp at this;show b≠w.heap.size+1+1+1+1+1+1+1;omega));have K4:Hid (IntsIn (World.setCell (World.alloc w2 (Obj.cells #[.int .i64 6,.slice ad 2 cd,.slice ax 6 cx] 46)) ⟨w.heap.size+1+1+1+1+1+1+1,0,none⟩ (.string ⟨#[68,105,118]⟩)) (.slice (some ⟨w.heap.size+1+1+1+1,0,none⟩) 2 2) [10,0]):=hid (ints_set (J4.out.below hB3) _ (fun b o n c e=>by obtain ⟨e1,-,-⟩:=Value.slice.inj e;have:=congrArg (Option.map Addr.block) e1;simp at this;show b≠w.heap.size+1+1+1+1+1+1+1;omega));have KS:Hid (StrsIn (World.setCell (World.alloc w2 (Obj.cells #[.int .i64 6,.slice ad 2 cd,.slice ax 6 cx] 46)) ⟨w.heap.size+1+1+1+1+1+1+1,0,none⟩ (.string ⟨#[68,105,118]⟩)) (.slice (some ⟨w.heap.size+1+1+1+1+1+1,0,none⟩) 2 2) [sLa,sLb]):=hid (strs_set (JS.out.below hB3) _ (fun b o n c e=>by obtain ⟨e1,-,-⟩:=Value.slice.inj e;have:=congrArg (Option.map Addr.block) e1;simp at this;show b≠w.heap.size+1+1+1+1+1+1+1;omega));have KD:Hid (IntsIn (World.setCell (World.alloc w2 (Obj.cells #[.int .i64 6,.slice ad 2 cd,.slice ax 6 cx] 46)) ⟨w.heap.size+1+1+1+1+1+1+1,0,none⟩ (.string ⟨#[68,105,118]⟩)) (.slice ad 2 cd) [2,3]):=hid (ints_set (ID.out.below hB3) _ (fun b o n c e=>by have:=hi1 b o n c e;show b≠w.heap.size+1+1+1+1+1+1+1;omega));have KX:Hid (IntsIn (World.setCell (World.alloc w2 (Obj.cells #[.int .i64 6,.slice ad 2 cd,.slice ax 6 cx] 46)) ⟨w.heap.size+1+1+1+1+1+1+1,0,none⟩ (.string ⟨#[68,105,118]⟩)) (.slice ax 6 cx) [11,12,13,1,2,3]):=hid (ints_set (IX.out.below hB3) _ (fun b o n c e=>by have:=hi2 b o n c e;show b≠w.heap.size+1+1+1+1+1+1+1;omega));have HR4:=hid hR4;have HB4:=hid hB4;have HZ4:Hid ((World.setCell (World.alloc w2 (Obj.cells #[.int .i64 6,.slice ad 2 cd,.slice ax 6 cx] 46)) ⟨w.heap.size+1+1+1+1+1+1+1,0,none⟩ (.string ⟨#[68,105,118]⟩)).heap.size=w2.heap.size+1):=hid (by simp [World.setCell]);clear hR4 hB4 hN4 hA4 hBt4 hA hBt hN hA3 hBt3 hN3 hR3 hB3 J1 J2 J3 J4 JS ID IX hi1 hi2 hS;go_wp2_with fail
 clear n0 n1 n2 n3 n4 a0 a1 a2 t0 t1 t2 zf zc;generalize (World.setCell (World.alloc w2 (Obj.cells #[.int .i64 6,.slice ad 2 cd,.slice ax 6 cx] 46)) ⟨w.heap.size+1+1+1+1+1+1+1,0,none⟩ (.string ⟨#[68,105,118]⟩))=W4 at K1 K2 K3 K4 KS KD KX HR4 HB4 HZ4 ⊢;generalize hW5:World.alloc W4 _=W5;obtain ⟨hB5,hS5,b1⟩:=allocs1 hW5;clear hW5;rw [HZ4.out] at b1;have hT:SlIn 3 rdTensor W5 (.slice (some ⟨w2.heap.size+1,0,none⟩) 2 2) [tLa,tLb]:=tens_two (x:=tLa) (y:=tLb) b1 ⟨by unfold InI tLa;decide,K1.out.below hB5,K2.out.below hB5⟩ ⟨by unfold InI tLb;decide,K3.out.below hB5,K4.out.below hB5⟩;have hN:NodeV W5 (.agg #[.string ⟨#[68,105,118]⟩,.string ⟨#[]⟩,.slice (some ⟨w.heap.size+1+1+1+1+1+1,0,none⟩) 2 2,.string ⟨#[99]⟩,.slice none 0 0]) (nL oDivE):=⟨_,_,rfl,⟨KS.out.below hB5,.empty none 0⟩⟩;have hdo:=do_twoU hN hT (HG.out.below (HB4.out.trans (hB5.mono HB4.out.size))) HOD.out;rw [live_div] at hdo;have HB5:=hid (HB4.out.trans (hB5.mono HB4.out.size));have KD5:=hid (KD.out.below hB5);have KX5:=hid (KX.out.below hB5);have HR5:=hid (HR4.out.below' hB5);clear hT hN b1 hB5 hS5 K1 K2 K3 K4 KS KD KX HR4 HB4;refine hdo.mono ?_;clear hdo;intro e w6 hu;obtain ⟨vd,vx,rfl,hd,hx,-,B6⟩:=hu.out;clear hu;obtain ⟨ad6,cd6,rfl⟩:∃ a c,vd=Value.slice a 0 c:=hd.shape;obtain ⟨ax6,cx6,rfl⟩:∃ a c,vx=Value.slice a 0 c:=hx.shape;have HB6:=hid (HB5.out.trans (B6.mono HB5.out.size));have KD6:=hid (KD5.out.below B6);have KX6:=hid (KX5.out.below B6);have hR6:=blk_keep (HR5.out.below' B6) (Obj.cells #[.int .i64 0,.slice ad6 0 cd6,.slice ax6 0 cx6] 46);obtain ⟨r0,r1,r2⟩:=BoxN.three (x0:=.int .i64 6) (x1:=.slice ad 2 cd) (x2:=.slice ax 6 cx) hR6;clear hR6 hd hx B6 KD5 KX5 HR5 HB5;go_wp2_with fail
 clear r0 r1 r2;generalize hW7:World.alloc (World.alloc (World.alloc w6 _) _) _=W7;obtain ⟨hB7,hS7,c1,c2,c3⟩:=allocs3 hW7;clear hW7;refine (stensor_any 6 [2,3] [11,12,13,1,2,3] (KD6.out.below hB7) (KX6.out.below hB7) (ints_boxE (zs:=[2,3]) c2 rfl (by simp) (by simp) (by intro z hz;simp at hz;unfold InI;omega)) (ints_boxE (zs:=[11,12,13,1,2,3]) c3 rfl (by simp) (by simp) (by intro z hz;simp at hz;unfold InI;omega))).mono ?_;rintro e w8 ⟨rfl,B8⟩;have HB8:=hid ((HB6.out.trans (hB7.mono HB6.out.size)).trans (B8.mono (HB6.out.trans (hB7.mono HB6.out.size)).size));clear B8 hB7 hS7 c1 c2 c3;go_wp2
 go_ret
 exact ⟨rfl,HB8.out⟩
end
section
open Go.RowKit
set_option maxRecDepth 100000
attribute [local irreducible] twoO
end
end Go.Proofs.YtijhdmidffenbaaGreatDoor
