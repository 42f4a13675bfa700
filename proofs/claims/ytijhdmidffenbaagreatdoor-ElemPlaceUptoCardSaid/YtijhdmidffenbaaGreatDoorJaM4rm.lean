import Derived.Test.YtijhdmidffenbaaGreatDoorInM2rm
import Derived.Test.YtijhdmidffenbaaGreatDoorJaM1rm
import Derived.Test.YtijhdmidffenbaaGreatDoorJaM2rm
import Derived.Test.YtijhdmidffenbaaGreatDoorJaM3rm
import Derived.Test.YtijhdmidffenbaaGreatDoorRegArm
open Go.Lib (hid)
set_option linter.unusedVariables false
set_option linter.unusedSimpArgs false
namespace Go.Proofs.YtijhdmidffenbaaGreatDoor
section
open Go.RowKit
set_option maxRecDepth 100000
theorem nums_get {l q:List Int} {c lo hi:Int} (h:numsP l c lo hi=some q) (h0:0≤lo) (h1:0≤hi) (i:Nat):0≤q.getD i 0∧q.getD i 0≤hi:=by
 by_cases k:i < q.length
 ·have:=(nums_props h).2 _ (getD_mem k);omega
 ·rw [List.getD,List.getElem?_eq_none (by omega)];exact ⟨by decide,h1⟩
theorem size_gd {x k s q d:List Int} {i:Nat} {z:Int} (h:sizeP x k s q d i=some z) (hx:∀ i,0≤x.getD i 0∧x.getD i 0≤65536) (hk:∀ i,0≤k.getD i 0∧k.getD i 0≤65536) (hq:∀ i,0≤q.getD i 0∧q.getD i 0≤100) (hd:∀ i,0≤d.getD i 0∧d.getD i 0≤100):0≤z∧z≤10000000∨s.getD i 0 < 0:=by
 by_cases hs:s.getD i 0 < 0
 ·exact Or.inr hs
 left;unfold sizeP at h;split at h
 ·rename_i g
  obtain rfl:=Option.some.inj h;have h1:=hx (2+i);have h2:=hk i;have h3:=hq i;have h4:=hq (2+i);have h5:=hd i;have hm:-100≤d.getD i 0 * (k.getD i 0 - 1):=by
   have:=Int.mul_le_mul_of_nonneg_left (show -1≤k.getD i 0 - 1 by omega) h5.1;omega
  have h6:=Int.ediv_le_self (s.getD i 0) g;have h7:=Int.ediv_nonneg g (show 0≤s.getD i 0 by omega);omega
 ·cases h
theorem window_gd {n:Nd} {x k:List Int} {a b:Int} (h:windowP n x k=some (a,b)) (hx:Sm x) (hk:∀ i,0≤k.getD i 0∧k.getD i 0≤65536):(0≤a∧a≤10000000)∧0≤b∧b≤10000000:=by
 unfold windowP at h;split at h
 ·cases h
 ·rename_i s hs
  split at h
  ·cases h
  ·rename_i q hq
   split at h
   ·cases h
   ·rename_i d hd
    have gs:=nums_get hs (by decide) (by decide);have gq:=nums_get hq (by decide) (by decide);have gd:=nums_get hd (by decide) (by decide);have gx:=getD_rng hx;unfold sizesP at h;split at h
    ·cases h
    ·rename_i a' ha
     split at h
     ·cases h
     ·rename_i b' hb
      obtain ⟨rfl,rfl⟩:=Prod.mk.inj (Option.some.inj h);have r1:=size_gd ha gx hk gq gd;have r2:=size_gd hb gx hk gq gd;have:=gs 0;have:=gs 1;omega
theorem four_gd {a b c d:Int} (ha:0≤a∧a≤10000000) (hb:0≤b∧b≤10000000) (hc:0≤c∧c≤10000000) (hd:0≤d∧d≤10000000):Gd [a,b,c,d]:=by
 refine ⟨by simp,fun z hz=>inI_mid ?_⟩;simp only [List.mem_cons,List.not_mem_nil,or_false] at hz;omega
theorem getD_up {x:List Int} (h:Sm x) (i:Nat):0≤x.getD i 0∧x.getD i 0≤10000000:=by have:=getD_rng h i;omega
theorem sm_drop {x:List Int} (h:Sm x) (k:Nat):Sm (x.drop k):=⟨by rw [List.length_drop];have:=h.1;omega,fun z hz=>h.2 z (List.mem_of_mem_drop hz)⟩
theorem conv_gd {n:Nd} {x k zs:List Int} {z:Option (List Int)} (hx:Sm x) (hk:Sm k) (h:convP n x k z=some zs):Gd zs:=by
 unfold convP at h;split at h
 ·split at h
  ·split at h
   ·unfold convW at h;split at h
    ·cases h
    ·rename_i a b hw
     obtain rfl:=Option.some.inj h;have:=window_gd hw hx (getD_rng (sm_drop hk 2));exact four_gd (getD_up hx 0) (getD_up hk 0) this.1 this.2
   ·cases h
  ·cases h
 ·cases h
theorem pool_gd {n:Nd} {x zs:List Int} (hx:Sm x) (h:poolP n x=some zs):Gd zs:=by
 unfold poolP at h;split at h
 ·cases h
 ·rename_i k hk
  split at h
  ·split at h
   ·cases h
   ·rename_i a b hw
    split at h
    ·obtain rfl:=Option.some.inj h;have:=window_gd hw hx (fun i=>by have:=nums_get hk (by decide) (by decide) i;omega);exact four_gd (getD_up hx 0) (getD_up hx 1) this.1 this.2
    ·cases h
  ·cases h
attribute [local irreducible] Vb.bcO productP reducedP axisP intP RowI convP poolP gemmO
set_option maxHeartbeats 44000000 in
theorem g_dims_Identity {w:World} {v:Value} {n:Nd} {x:Vl} {ins:List Vl} (h:MkV w v n ins) (hi:ins[0]?=some x) (hl:n.op.toList=[73,100,101,110,116,105,116,121]∨n.op.toList=[78,101,103]∨n.op.toList=[65,98,115]∨n.op.toList=[82,101,108,117]∨n.op.toList=[83,113,114,116]∨n.op.toList=[70,108,111,111,114]∨n.op.toList=[69,120,112]∨n.op.toList=[83,105,103,109,111,105,100]∨n.op.toList=[84,97,110,104]∨n.op.toList=[67,108,105,112]∨n.op.toList=[67,97,115,116]) :
  Calls Tryz.prog 33 #[v] w fun e w'=>DimR w ((0,x.dims)) e w':=by
 rcases hl with hl | hl | hl | hl | hl | hl | hl | hl | hl | hl | hl
 all_goals
  obtain ⟨vin,vat,vv,rfl,hm⟩:=h;obtain ⟨a1,c1,rfl⟩:=hm.node.is.form;obtain ⟨a2,c2,rfl⟩:=hm.node.ia.form;obtain ⟨a3,c3,rfl⟩:=hm.ins.form;have HM:=hid hm;obtain ⟨bx,ox,vd,rfl,g0,hd,hy⟩:=dims_at hm.ins hi;clear hm;have hlen:0 < ins.length:=(List.getElem?_eq_some_iff.1 hi).1;clear hi;clear hy;have HD:=hid hd;clear hd;have HY:=hid (fun (W:World)=>rule_yes W);have HNo:=hid (fun (W:World)=>rule_no W);have g1:=cell_alloc g0 (.cells #[.string n.op,.string n.name,.slice a1 n.ins.length c1,.string n.out,.slice a2 n.attrs.length c2,.slice (some ⟨bx,ox,none⟩) ins.length c3] 63);have HB1:=hid ((Below.refl w.heap.size w).alloc (Nat.le_refl _) (.cells #[.string n.op,.string n.name,.slice a1 n.ins.length c1,.string n.out,.slice a2 n.attrs.length c2,.slice (some ⟨bx,ox,none⟩) ins.length c3] 63));have HA1:=hid (BoxN.new w #[.string n.op,.string n.name,.slice a1 n.ins.length c1,.string n.out,.slice a2 n.attrs.length c2,.slice (some ⟨bx,ox,none⟩) ins.length c3] 63);obtain ⟨ad,cd,rfl⟩:=HD.out.shape;go_enter Tryz.func33,Tryz.ntmps33
  go_wp2
  go_ret
  exact ⟨HB1.out,Or.inr ⟨rfl,_,rfl,HD.out.below HB1.out⟩⟩
theorem dims_Identity {w:World} {v:Value} {n:Nd} {x:Vl} {ins:List Vl} (h:MkV w v n ins) (hi:ins[0]?=some x) (hl:n.op.toList=[73,100,101,110,116,105,116,121]) :
  Calls Tryz.prog 33 #[v] w fun e w'=>DimR w ((0,x.dims)) e w' :=
 g_dims_Identity h hi (Or.inl hl)
theorem dims_Neg {w:World} {v:Value} {n:Nd} {x:Vl} {ins:List Vl} (h:MkV w v n ins) (hi:ins[0]?=some x) (hl:n.op.toList=[78,101,103]) :
  Calls Tryz.prog 33 #[v] w fun e w'=>DimR w ((0,x.dims)) e w' :=
 g_dims_Identity h hi (Or.inr (Or.inl hl))
theorem dims_Abs {w:World} {v:Value} {n:Nd} {x:Vl} {ins:List Vl} (h:MkV w v n ins) (hi:ins[0]?=some x) (hl:n.op.toList=[65,98,115]) :
  Calls Tryz.prog 33 #[v] w fun e w'=>DimR w ((0,x.dims)) e w' :=
 g_dims_Identity h hi (Or.inr (Or.inr (Or.inl hl)))
theorem dims_Relu {w:World} {v:Value} {n:Nd} {x:Vl} {ins:List Vl} (h:MkV w v n ins) (hi:ins[0]?=some x) (hl:n.op.toList=[82,101,108,117]) :
  Calls Tryz.prog 33 #[v] w fun e w'=>DimR w ((0,x.dims)) e w' :=
 g_dims_Identity h hi (Or.inr (Or.inr (Or.inr (Or.inl hl))))
theorem dims_Sqrt {w:World} {v:Value} {n:Nd} {x:Vl} {ins:List Vl} (h:MkV w v n ins) (hi:ins[0]?=some x) (hl:n.op.toList=[83,113,114,116]) :
  Calls Tryz.prog 33 #[v] w fun e w'=>DimR w ((0,x.dims)) e w' :=
 g_dims_Identity h hi (Or.inr (Or.inr (Or.inr (Or.inr (Or.inl hl)))))
theorem dims_Floor {w:World} {v:Value} {n:Nd} {x:Vl} {ins:List Vl} (h:MkV w v n ins) (hi:ins[0]?=some x) (hl:n.op.toList=[70,108,111,111,114]) :
  Calls Tryz.prog 33 #[v] w fun e w'=>DimR w ((0,x.dims)) e w' :=
 g_dims_Identity h hi (Or.inr (Or.inr (Or.inr (Or.inr (Or.inr (Or.inl hl))))))
theorem dims_Exp {w:World} {v:Value} {n:Nd} {x:Vl} {ins:List Vl} (h:MkV w v n ins) (hi:ins[0]?=some x) (hl:n.op.toList=[69,120,112]) :
  Calls Tryz.prog 33 #[v] w fun e w'=>DimR w ((0,x.dims)) e w' :=
 g_dims_Identity h hi (Or.inr (Or.inr (Or.inr (Or.inr (Or.inr (Or.inr (Or.inl hl)))))))
theorem dims_Sigmoid {w:World} {v:Value} {n:Nd} {x:Vl} {ins:List Vl} (h:MkV w v n ins) (hi:ins[0]?=some x) (hl:n.op.toList=[83,105,103,109,111,105,100]) :
  Calls Tryz.prog 33 #[v] w fun e w'=>DimR w ((0,x.dims)) e w' :=
 g_dims_Identity h hi (Or.inr (Or.inr (Or.inr (Or.inr (Or.inr (Or.inr (Or.inr (Or.inl hl))))))))
theorem dims_Tanh {w:World} {v:Value} {n:Nd} {x:Vl} {ins:List Vl} (h:MkV w v n ins) (hi:ins[0]?=some x) (hl:n.op.toList=[84,97,110,104]) :
  Calls Tryz.prog 33 #[v] w fun e w'=>DimR w ((0,x.dims)) e w' :=
 g_dims_Identity h hi (Or.inr (Or.inr (Or.inr (Or.inr (Or.inr (Or.inr (Or.inr (Or.inr (Or.inl hl)))))))))
theorem dims_Clip {w:World} {v:Value} {n:Nd} {x:Vl} {ins:List Vl} (h:MkV w v n ins) (hi:ins[0]?=some x) (hl:n.op.toList=[67,108,105,112]) :
  Calls Tryz.prog 33 #[v] w fun e w'=>DimR w ((0,x.dims)) e w' :=
 g_dims_Identity h hi (Or.inr (Or.inr (Or.inr (Or.inr (Or.inr (Or.inr (Or.inr (Or.inr (Or.inr (Or.inl hl))))))))))
theorem dims_Cast {w:World} {v:Value} {n:Nd} {x:Vl} {ins:List Vl} (h:MkV w v n ins) (hi:ins[0]?=some x) (hl:n.op.toList=[67,97,115,116]) :
  Calls Tryz.prog 33 #[v] w fun e w'=>DimR w ((0,x.dims)) e w' :=
 g_dims_Identity h hi (Or.inr (Or.inr (Or.inr (Or.inr (Or.inr (Or.inr (Or.inr (Or.inr (Or.inr (Or.inr hl))))))))))
set_option maxHeartbeats 4000000 in
theorem dims_Gemm {w:World} {v:Value} {n:Nd} {x:Vl} {ins:List Vl} (h:MkV w v n ins) (hi:ins[0]?=some x) {y:Vl} {z:Option Vl} (hj:ins[1]?=some y) (hz:ins[2]?=z) (hn:ins.length≤3) (hl:n.op.toList=[71,101,109,109]) :
  Calls Tryz.prog 33 #[v] w fun e w'=>DimR w (gemmO n x.dims y.dims (z.map Vl.dims)) e w':=by
 obtain ⟨vin,vat,vv,rfl,hm⟩:=h;obtain ⟨a1,c1,rfl⟩:=hm.node.is.form;obtain ⟨a2,c2,rfl⟩:=hm.node.ia.form;obtain ⟨a3,c3,rfl⟩:=hm.ins.form;have HM:=hid hm;obtain ⟨bx,ox,vd,rfl,g0,hd,hy⟩:=dims_at hm.ins hi;clear hm;have hlen:0 < ins.length:=(List.getElem?_eq_some_iff.1 hi).1;have HI:=hid hi;have HJ:=hid hj;have HZ:=hid hz;have HN3:=hid hn;clear hi hj hz hn;clear hy;have HD:=hid hd;clear hd;have HY:=hid (fun (W:World)=>rule_yes W);have HNo:=hid (fun (W:World)=>rule_no W);have g1:=cell_alloc g0 (.cells #[.string n.op,.string n.name,.slice a1 n.ins.length c1,.string n.out,.slice a2 n.attrs.length c2,.slice (some ⟨bx,ox,none⟩) ins.length c3] 63);have HB1:=hid ((Below.refl w.heap.size w).alloc (Nat.le_refl _) (.cells #[.string n.op,.string n.name,.slice a1 n.ins.length c1,.string n.out,.slice a2 n.attrs.length c2,.slice (some ⟨bx,ox,none⟩) ins.length c3] 63));have HA1:=hid (BoxN.new w #[.string n.op,.string n.name,.slice a1 n.ins.length c1,.string n.out,.slice a2 n.attrs.length c2,.slice (some ⟨bx,ox,none⟩) ins.length c3] 63);obtain ⟨ad,cd,rfl⟩:=HD.out.shape;go_enter Tryz.func33,Tryz.ntmps33
 go_wp2_with fail
 generalize hW1:World.alloc w _=W1 at g1 HB1 HA1 ⊢;clear hW1;refine (gemm_any (n:=n) (ins:=ins) ⟨_,_,_,rfl,HM.out.below HB1.out⟩ HI.out HJ.out HZ.out HN3.out).mono ?_;rintro e w2 hX;have HX:Hid (DimR w (gemmO n x.dims y.dims (z.map Vl.dims)) e w2):=hid ⟨HB1.out.trans (hX.1.mono HB1.out.size),hX.2⟩;rcases hX with ⟨_,⟨_,rfl⟩ | ⟨_,v2,rfl,hr2⟩⟩
 ·exact ⟨rfl,HX.out⟩
 ·clear hr2;go_wp2
  go_ret
  exact HX.out
set_option maxHeartbeats 4000000 in
theorem dims_Conv {w:World} {v:Value} {n:Nd} {x:Vl} {ins:List Vl} (h:MkV w v n ins) (hi:ins[0]?=some x) {y:Vl} {z:Option Vl} (hj:ins[1]?=some y) (hz:ins[2]?=z) (hn:ins.length≤3) (hsm:Sm x.dims) (hym:Sm y.dims) (hl:n.op.toList=[67,111,110,118]) :
  Calls Tryz.prog 33 #[v] w fun e w'=>DimR w (optO (convP n x.dims y.dims (z.map Vl.dims))) e w':=by
 obtain ⟨vin,vat,vv,rfl,hm⟩:=h;obtain ⟨a1,c1,rfl⟩:=hm.node.is.form;obtain ⟨a2,c2,rfl⟩:=hm.node.ia.form;obtain ⟨a3,c3,rfl⟩:=hm.ins.form;have HM:=hid hm;obtain ⟨bx,ox,vd,rfl,g0,hd,hy⟩:=dims_at hm.ins hi;clear hm;have hlen:0 < ins.length:=(List.getElem?_eq_some_iff.1 hi).1;have HGd:Hid (∀ zs,convP n x.dims y.dims (z.map Vl.dims)=some zs→Gd zs):=hid (fun zs h=>conv_gd hsm hym h);have HJ:=hid hj;have HZ:=hid hz;have HN3:=hid hn;have HS1:=hid hsm;have HS2:=hid hym;clear hi hj hz hn hsm hym;clear hy;have HD:=hid hd;clear hd;have HY:=hid (fun (W:World)=>rule_yes W);have HNo:=hid (fun (W:World)=>rule_no W);have g1:=cell_alloc g0 (.cells #[.string n.op,.string n.name,.slice a1 n.ins.length c1,.string n.out,.slice a2 n.attrs.length c2,.slice (some ⟨bx,ox,none⟩) ins.length c3] 63);have HB1:=hid ((Below.refl w.heap.size w).alloc (Nat.le_refl _) (.cells #[.string n.op,.string n.name,.slice a1 n.ins.length c1,.string n.out,.slice a2 n.attrs.length c2,.slice (some ⟨bx,ox,none⟩) ins.length c3] 63));have HA1:=hid (BoxN.new w #[.string n.op,.string n.name,.slice a1 n.ins.length c1,.string n.out,.slice a2 n.attrs.length c2,.slice (some ⟨bx,ox,none⟩) ins.length c3] 63);obtain ⟨ad,cd,rfl⟩:=HD.out.shape;go_enter Tryz.func33,Tryz.ntmps33
 go_wp2_with fail
 generalize hW1:World.alloc w _=W1 at g1 HB1 HA1 ⊢;clear hW1;refine (conv_any (n:=n) (ins:=ins) ⟨_,_,_,rfl,HM.out.below HB1.out⟩ (HD.out.below HB1.out) HS1.out HJ.out HS2.out HZ.out HN3.out).mono ?_;rintro e w2 hR;have hX:DimR w (optO (convP n x.dims y.dims (z.map Vl.dims))) e w2:=hR.dim HB1.out HGd.out;have HX:=hid hX;clear hX;obtain ⟨-,hc⟩:=hR;cases hx:convP n x.dims y.dims (z.map Vl.dims) with
 | none =>
  rw [hx] at hc;obtain rfl:e=brk 4:=hc;clear hx;exact ⟨rfl,HX.out⟩
 | some zs =>
  rw [hx] at hc;obtain ⟨v2,rfl,-⟩:=hc;clear hx;go_wp2
  go_ret
  exact HX.out
set_option maxHeartbeats 8000000 in
theorem g_dims_MaxPool {w:World} {v:Value} {n:Nd} {x:Vl} {ins:List Vl} (h:MkV w v n ins) (hi:ins[0]?=some x) (hsm:Sm x.dims) (hl:n.op.toList=[77,97,120,80,111,111,108]∨n.op.toList=[65,118,101,114,97,103,101,80,111,111,108]) :
  Calls Tryz.prog 33 #[v] w fun e w'=>DimR w (optO (poolP n x.dims)) e w':=by
 rcases hl with hl | hl
 all_goals
  obtain ⟨vin,vat,vv,rfl,hm⟩:=h;obtain ⟨a1,c1,rfl⟩:=hm.node.is.form;obtain ⟨a2,c2,rfl⟩:=hm.node.ia.form;obtain ⟨a3,c3,rfl⟩:=hm.ins.form;have HM:=hid hm;obtain ⟨bx,ox,vd,rfl,g0,hd,hy⟩:=dims_at hm.ins hi;clear hm;have hlen:0 < ins.length:=(List.getElem?_eq_some_iff.1 hi).1;have HGd:Hid (∀ zs,poolP n x.dims=some zs→Gd zs):=hid (fun zs h=>pool_gd hsm h);have HS1:=hid hsm;clear hi hsm;clear hy;have HD:=hid hd;clear hd;have HY:=hid (fun (W:World)=>rule_yes W);have HNo:=hid (fun (W:World)=>rule_no W);have g1:=cell_alloc g0 (.cells #[.string n.op,.string n.name,.slice a1 n.ins.length c1,.string n.out,.slice a2 n.attrs.length c2,.slice (some ⟨bx,ox,none⟩) ins.length c3] 63);have HB1:=hid ((Below.refl w.heap.size w).alloc (Nat.le_refl _) (.cells #[.string n.op,.string n.name,.slice a1 n.ins.length c1,.string n.out,.slice a2 n.attrs.length c2,.slice (some ⟨bx,ox,none⟩) ins.length c3] 63));have HA1:=hid (BoxN.new w #[.string n.op,.string n.name,.slice a1 n.ins.length c1,.string n.out,.slice a2 n.attrs.length c2,.slice (some ⟨bx,ox,none⟩) ins.length c3] 63);obtain ⟨ad,cd,rfl⟩:=HD.out.shape;go_enter Tryz.func33,Tryz.ntmps33
  go_wp2_with fail
  generalize hW1:World.alloc w _=W1 at g1 HB1 HA1 ⊢;clear hW1;refine (pool_any (n:=n) (ins:=ins) ⟨_,_,_,rfl,HM.out.below HB1.out⟩ (HD.out.below HB1.out) HS1.out).mono ?_;rintro e w2 hR;have hX:DimR w (optO (poolP n x.dims)) e w2:=hR.dim HB1.out HGd.out;have HX:=hid hX;clear hX;obtain ⟨-,hc⟩:=hR;cases hx:poolP n x.dims with
  | none =>
   rw [hx] at hc;obtain rfl:e=brk 4:=hc;clear hx;exact ⟨rfl,HX.out⟩
  | some zs =>
   rw [hx] at hc;obtain ⟨v2,rfl,-⟩:=hc;clear hx;go_wp2
   go_ret
   exact HX.out
theorem dims_MaxPool {w:World} {v:Value} {n:Nd} {x:Vl} {ins:List Vl} (h:MkV w v n ins) (hi:ins[0]?=some x) (hsm:Sm x.dims) (hl:n.op.toList=[77,97,120,80,111,111,108]) :
  Calls Tryz.prog 33 #[v] w fun e w'=>DimR w (optO (poolP n x.dims)) e w' :=
 g_dims_MaxPool h hi hsm (Or.inl hl)
theorem dims_AveragePool {w:World} {v:Value} {n:Nd} {x:Vl} {ins:List Vl} (h:MkV w v n ins) (hi:ins[0]?=some x) (hsm:Sm x.dims) (hl:n.op.toList=[65,118,101,114,97,103,101,80,111,111,108]) :
  Calls Tryz.prog 33 #[v] w fun e w'=>DimR w (optO (poolP n x.dims)) e w' :=
 g_dims_MaxPool h hi hsm (Or.inr hl)
def dimNames:List (List UInt8):=[[67,111,110,115,116,97,110,116],[73,100,101,110,116,105,116,121],[78,101,103],[65,98,115],[78,111,116],[82,101,108,117],[83,113,114,116],[70,108,111,111,114],[69,120,112],[83,105,103,109,111,105,100],[84,97,110,104],[67,108,105,112],[67,97,115,116],[65,100,100],[83,117,98],[77,117,108],[68,105,118],[77,97,120],[77,105,110],[65,110,100],[79,114],[88,111,114],[69,113,117,97,108],[76,101,115,115],[71,114,101,97,116,101,114],[87,104,101,114,101],[83,111,102,116,109,97,120],[82,101,100,117,99,101,83,117,109],[82,101,100,117,99,101,77,97,120],[82,101,100,117,99,101,77,101,97,110],[65,114,103,77,97,120],[77,97,116,77,117,108],[71,101,109,109],[67,111,110,118],[77,97,120,80,111,111,108],[65,118,101,114,97,103,101,80,111,111,108],[71,108,111,98,97,108,65,118,101,114,97,103,101,80,111,111,108],[66,97,116,99,104,78,111,114,109,97,108,105,122,97,116,105,111,110]]
theorem dim_ne {l m:List UInt8} {L:List (List UInt8)} (h:m ∉ L) (hl:l ∈ L):(m==l)=false:=by
 have:m≠l:=fun e=>h (e ▸ hl)
 simpa using this
set_option maxHeartbeats 4000000 in
theorem dims_rest {w:World} {v:Value} {n:Nd} {x:Vl} {ins:List Vl} (h:MkV w v n ins) (hi:ins[0]?=some x) {ds:Int × List Int} (hM:∀ (W:World) (v vx:Value),Below w.heap.size w W→MkV W v n ins→IntsIn W vx x.dims→Calls Tryz.prog 74 #[v,vx] W fun e w'=>DimR W ds e w') (hl:n.op.toList ∉ dimNames) :
  Calls Tryz.prog 33 #[v] w fun e w'=>DimR w (ds) e w':=by
 obtain ⟨vin,vat,vv,rfl,hm⟩:=h;obtain ⟨a1,c1,rfl⟩:=hm.node.is.form;obtain ⟨a2,c2,rfl⟩:=hm.node.ia.form;obtain ⟨a3,c3,rfl⟩:=hm.ins.form;have HM:=hid hm;obtain ⟨bx,ox,vd,rfl,g0,hd,hy⟩:=dims_at hm.ins hi;clear hm;have hlen:0 < ins.length:=(List.getElem?_eq_some_iff.1 hi).1;have HMv:=hid hM;clear hi hM;clear hy;have HD:=hid hd;clear hd;have HY:=hid (fun (W:World)=>rule_yes W);have HNo:=hid (fun (W:World)=>rule_no W);have q0:(n.op.toList==([67,111,110,115,116,97,110,116]:List UInt8))=false:=dim_ne hl (l:=[67,111,110,115,116,97,110,116]) (by unfold dimNames;simp);have q1:(n.op.toList==([73,100,101,110,116,105,116,121]:List UInt8))=false:=dim_ne hl (l:=[73,100,101,110,116,105,116,121]) (by unfold dimNames;simp);have q2:(n.op.toList==([78,101,103]:List UInt8))=false:=dim_ne hl (l:=[78,101,103]) (by unfold dimNames;simp);have q3:(n.op.toList==([65,98,115]:List UInt8))=false:=dim_ne hl (l:=[65,98,115]) (by unfold dimNames;simp);have q4:(n.op.toList==([78,111,116]:List UInt8))=false:=dim_ne hl (l:=[78,111,116]) (by unfold dimNames;simp);have q5:(n.op.toList==([82,101,108,117]:List UInt8))=false:=dim_ne hl (l:=[82,101,108,117]) (by unfold dimNames;simp);have q6:(n.op.toList==([83,113,114,116]:List UInt8))=false:=dim_ne hl (l:=[83,113,114,116]) (by unfold dimNames;simp);have q7:(n.op.toList==([70,108,111,111,114]:List UInt8))=false:=dim_ne hl (l:=[70,108,111,111,114]) (by unfold dimNames;simp);have q8:(n.op.toList==([69,120,112]:List UInt8))=false:=dim_ne hl (l:=[69,120,112]) (by unfold dimNames;simp);have q9:(n.op.toList==([83,105,103,109,111,105,100]:List UInt8))=false:=dim_ne hl (l:=[83,105,103,109,111,105,100]) (by unfold dimNames;simp);have q10:(n.op.toList==([84,97,110,104]:List UInt8))=false:=dim_ne hl (l:=[84,97,110,104]) (by unfold dimNames;simp);have q11:(n.op.toList==([67,108,105,112]:List UInt8))=false:=dim_ne hl (l:=[67,108,105,112]) (by unfold dimNames;simp);have q12:(n.op.toList==([67,97,115,116]:List UInt8))=false:=dim_ne hl (l:=[67,97,115,116]) (by unfold dimNames;simp);have q13:(n.op.toList==([65,100,100]:List UInt8))=false:=dim_ne hl (l:=[65,100,100]) (by unfold dimNames;simp);have q14:(n.op.toList==([83,117,98]:List UInt8))=false:=dim_ne hl (l:=[83,117,98]) (by unfold dimNames;simp);have q15:(n.op.toList==([77,117,108]:List UInt8))=false:=dim_ne hl (l:=[77,117,108]) (by unfold dimNames;simp);have q16:(n.op.toList==([68,105,118]:List UInt8))=false:=dim_ne hl (l:=[68,105,118]) (by unfold dimNames;simp);have q17:(n.op.toList==([77,97,120]:List UInt8))=false:=dim_ne hl (l:=[77,97,120]) (by unfold dimNames;simp);have q18:(n.op.toList==([77,105,110]:List UInt8))=false:=dim_ne hl (l:=[77,105,110]) (by unfold dimNames;simp);have q19:(n.op.toList==([65,110,100]:List UInt8))=false:=dim_ne hl (l:=[65,110,100]) (by unfold dimNames;simp);have q20:(n.op.toList==([79,114]:List UInt8))=false:=dim_ne hl (l:=[79,114]) (by unfold dimNames;simp);have q21:(n.op.toList==([88,111,114]:List UInt8))=false:=dim_ne hl (l:=[88,111,114]) (by unfold dimNames;simp);have q22:(n.op.toList==([69,113,117,97,108]:List UInt8))=false:=dim_ne hl (l:=[69,113,117,97,108]) (by unfold dimNames;simp);have q23:(n.op.toList==([76,101,115,115]:List UInt8))=false:=dim_ne hl (l:=[76,101,115,115]) (by unfold dimNames;simp);have q24:(n.op.toList==([71,114,101,97,116,101,114]:List UInt8))=false:=dim_ne hl (l:=[71,114,101,97,116,101,114]) (by unfold dimNames;simp);have q25:(n.op.toList==([87,104,101,114,101]:List UInt8))=false:=dim_ne hl (l:=[87,104,101,114,101]) (by unfold dimNames;simp);have q26:(n.op.toList==([83,111,102,116,109,97,120]:List UInt8))=false:=dim_ne hl (l:=[83,111,102,116,109,97,120]) (by unfold dimNames;simp);have q27:(n.op.toList==([82,101,100,117,99,101,83,117,109]:List UInt8))=false:=dim_ne hl (l:=[82,101,100,117,99,101,83,117,109]) (by unfold dimNames;simp);have q28:(n.op.toList==([82,101,100,117,99,101,77,97,120]:List UInt8))=false:=dim_ne hl (l:=[82,101,100,117,99,101,77,97,120]) (by unfold dimNames;simp);have q29:(n.op.toList==([82,101,100,117,99,101,77,101,97,110]:List UInt8))=false:=dim_ne hl (l:=[82,101,100,117,99,101,77,101,97,110]) (by unfold dimNames;simp);have q30:(n.op.toList==([65,114,103,77,97,120]:List UInt8))=false:=dim_ne hl (l:=[65,114,103,77,97,120]) (by unfold dimNames;simp);have q31:(n.op.toList==([77,97,116,77,117,108]:List UInt8))=false:=dim_ne hl (l:=[77,97,116,77,117,108]) (by unfold dimNames;simp);have q32:(n.op.toList==([71,101,109,109]:List UInt8))=false:=dim_ne hl (l:=[71,101,109,109]) (by unfold dimNames;simp);have q33:(n.op.toList==([67,111,110,118]:List UInt8))=false:=dim_ne hl (l:=[67,111,110,118]) (by unfold dimNames;simp);have q34:(n.op.toList==([77,97,120,80,111,111,108]:List UInt8))=false:=dim_ne hl (l:=[77,97,120,80,111,111,108]) (by unfold dimNames;simp);have q35:(n.op.toList==([65,118,101,114,97,103,101,80,111,111,108]:List UInt8))=false:=dim_ne hl (l:=[65,118,101,114,97,103,101,80,111,111,108]) (by unfold dimNames;simp);have q36:(n.op.toList==([71,108,111,98,97,108,65,118,101,114,97,103,101,80,111,111,108]:List UInt8))=false:=dim_ne hl (l:=[71,108,111,98,97,108,65,118,101,114,97,103,101,80,111,111,108]) (by unfold dimNames;simp);have q37:(n.op.toList==([66,97,116,99,104,78,111,114,109,97,108,105,122,97,116,105,111,110]:List UInt8))=false:=dim_ne hl (l:=[66,97,116,99,104,78,111,114,109,97,108,105,122,97,116,105,111,110]) (by unfold dimNames;simp);clear hl;have g1:=cell_alloc g0 (.cells #[.string n.op,.string n.name,.slice a1 n.ins.length c1,.string n.out,.slice a2 n.attrs.length c2,.slice (some ⟨bx,ox,none⟩) ins.length c3] 63);have HB1:=hid ((Below.refl w.heap.size w).alloc (Nat.le_refl _) (.cells #[.string n.op,.string n.name,.slice a1 n.ins.length c1,.string n.out,.slice a2 n.attrs.length c2,.slice (some ⟨bx,ox,none⟩) ins.length c3] 63));have HA1:=hid (BoxN.new w #[.string n.op,.string n.name,.slice a1 n.ins.length c1,.string n.out,.slice a2 n.attrs.length c2,.slice (some ⟨bx,ox,none⟩) ins.length c3] 63);obtain ⟨ad,cd,rfl⟩:=HD.out.shape;go_enter Tryz.func33,Tryz.ntmps33
 go_wp2_with fail
 generalize hW1:World.alloc w _=W1 at g1 HB1 HA1 ⊢;clear hW1;refine (HMv.out W1 _ _ HB1.out ⟨_,_,_,rfl,HM.out.below HB1.out⟩ (HD.out.below HB1.out)).mono ?_;rintro e w2 hX;have HX:Hid (DimR w ds e w2):=hid ⟨HB1.out.trans (hX.1.mono HB1.out.size),hX.2⟩;rcases hX with ⟨_,⟨_,rfl⟩ | ⟨_,v2,rfl,hr2⟩⟩
 ·exact ⟨rfl,HX.out⟩
 ·clear hr2;go_wp2
  go_ret
  exact HX.out
end
section
open Go.RowKit
set_option maxRecDepth 100000
def whereO (x y z:List Int):Int × List Int:=if (Vb.bcO x y).1≠0 then ((Vb.bcO x y).1,[]) else Vb.bcO (Vb.bcO x y).2 z
theorem where_no {x y z:List Int} (h:(Vb.bcO x y).1≠0):whereO x y z=((Vb.bcO x y).1,[]):=if_pos h
theorem where_yes {x y z:List Int} (h:(Vb.bcO x y).1=0):whereO x y z=Vb.bcO (Vb.bcO x y).2 z:=if_neg (fun c=>c h)
def gapP (x:List Int):Option (List Int):=if x.length=4 then some [x.getD 0 0,x.getD 1 0,1,1] else none
def bnP (x:List Int) (rest:List Vl):Option (List Int):=if 2≤x.length∧∀ v ∈ rest,v.dims=(x.drop 1).take 1 then some x else none
attribute [local irreducible] Vb.bcO productP reducedP axisP intP RowI whereO gapP bnP
set_option maxHeartbeats 4000000 in
theorem dims_Where {w:World} {v:Value} {n:Nd} {x:Vl} {y:Vl} {ins:List Vl} (h:MkV w v n ins) (hi:ins[0]?=some x) (hj:ins[1]?=some y) {z:Vl} (hk:ins[2]?=some z) (hl:n.op.toList=[87,104,101,114,101]) :
  Calls Tryz.prog 33 #[v] w fun e w'=>DimR w (whereO x.dims y.dims z.dims) e w':=by
 obtain ⟨vin,vat,vv,rfl,hm⟩:=h;obtain ⟨a1,c1,rfl⟩:=hm.node.is.form;obtain ⟨a2,c2,rfl⟩:=hm.node.ia.form;obtain ⟨a3,c3,rfl⟩:=hm.ins.form;have HM:=hid hm;obtain ⟨bx,ox,vd,rfl,g0,hd,hy⟩:=dims_at hm.ins hi;clear hm;obtain ⟨b3,o3,cc3,vf,hv3,-,-,-,g4,-,-,hf⟩:=value_at HM.out.ins hk;obtain ⟨e3,-,-⟩:=Value.slice.inj hv3;obtain ⟨rfl,rfl⟩:bx=b3∧ox=o3:=by simpa using e3
 have g4:w.cell? ⟨bx,ox+8,none⟩=some vf:=g4;have hlen2:2 < ins.length:=(List.getElem?_eq_some_iff.1 hk).1;have HF:=hid hf;clear hf hv3 e3 hk;obtain ⟨ve,g2,he⟩:=hy _ hj;have HE:=hid he;clear he;have hlen:1 < ins.length:=(List.getElem?_eq_some_iff.1 hj).1;clear hi hj;clear hy;have HD:=hid hd;clear hd;have HY:=hid (fun (W:World)=>rule_yes W);have HNo:=hid (fun (W:World)=>rule_no W);have g1:=cell_alloc g0 (.cells #[.string n.op,.string n.name,.slice a1 n.ins.length c1,.string n.out,.slice a2 n.attrs.length c2,.slice (some ⟨bx,ox,none⟩) ins.length c3] 63);have g3:=cell_alloc g2 (.cells #[.string n.op,.string n.name,.slice a1 n.ins.length c1,.string n.out,.slice a2 n.attrs.length c2,.slice (some ⟨bx,ox,none⟩) ins.length c3] 63);have HB1:=hid ((Below.refl w.heap.size w).alloc (Nat.le_refl _) (.cells #[.string n.op,.string n.name,.slice a1 n.ins.length c1,.string n.out,.slice a2 n.attrs.length c2,.slice (some ⟨bx,ox,none⟩) ins.length c3] 63));have HA1:=hid (BoxN.new w #[.string n.op,.string n.name,.slice a1 n.ins.length c1,.string n.out,.slice a2 n.attrs.length c2,.slice (some ⟨bx,ox,none⟩) ins.length c3] 63);obtain ⟨ad,cd,rfl⟩:=HD.out.shape;obtain ⟨ae,ce,rfl⟩:=HE.out.shape;go_enter Tryz.func33,Tryz.ntmps33
 go_wp2_with fail
 have g5:=cell_alloc g4 (.cells #[.string n.op,.string n.name,.slice a1 n.ins.length c1,.string n.out,.slice a2 n.attrs.length c2,.slice (some ⟨bx,ox,none⟩) ins.length c3] 63);obtain ⟨af,cf,rfl⟩:=HF.out.shape;have hbx:bx < w.heap.size:=cell_in g0;have hl1:(1:Int) < (ins.length:Int):=by omega
 have hl2:(2:Int) < (ins.length:Int):=by omega
 have HSr:Hid (∀ W',Below (w.heap.size+1) (w.alloc (.cells #[.string n.op,.string n.name,.slice a1 n.ins.length c1,.string n.out,.slice a2 n.attrs.length c2,.slice (some ⟨bx,ox,none⟩) ins.length c3] 63)) W'→W'.cell? ⟨w.heap.size,5,none⟩=some (.slice (some ⟨bx,ox,none⟩) ins.length c3)∧W'.cell? ⟨bx,ox+5,none⟩=some (.slice ae y.dims.length ce)∧W'.cell? ⟨bx,ox+8,none⟩=some (.slice af z.dims.length cf)):=hid fun W' h=>⟨(h.cell (p:=⟨w.heap.size,5,none⟩) (Nat.lt_succ_self _)).trans HA1.out.six.2.2.2.2.2,(h.cell (p:=⟨bx,ox+5,none⟩) (Nat.lt_succ_of_lt hbx)).trans g3,(h.cell (p:=⟨bx,ox+8,none⟩) (Nat.lt_succ_of_lt hbx)).trans g5⟩;have HBs:Hid (∀ W',Below (w.heap.size+1) (w.alloc (.cells #[.string n.op,.string n.name,.slice a1 n.ins.length c1,.string n.out,.slice a2 n.attrs.length c2,.slice (some ⟨bx,ox,none⟩) ins.length c3] 63)) W'→Below w.heap.size w W'):=hid fun W' h=>HB1.out.trans (h.mono (Nat.le_succ _));refine wp_region_plan 13 [0,1,2,3,4,5,7,8,9,10,11,6,12] (fun W'=>Below (w.heap.size+1) (w.alloc (.cells #[.string n.op,.string n.name,.slice a1 n.ins.length c1,.string n.out,.slice a2 n.attrs.length c2,.slice (some ⟨bx,ox,none⟩) ins.length c3] 63)) W') (by kernel_rfl) (by kernel_rfl) (fun _ d _ _ _ h=>by cases d<;>exact h) (Below.refl _ _).drew ?_;have B0:Hid (Below (w.heap.size+1) (w.alloc (.cells #[.string n.op,.string n.name,.slice a1 n.ins.length c1,.string n.out,.slice a2 n.attrs.length c2,.slice (some ⟨bx,ox,none⟩) ins.length c3] 63)) (w.alloc (.cells #[.string n.op,.string n.name,.slice a1 n.ins.length c1,.string n.out,.slice a2 n.attrs.length c2,.slice (some ⟨bx,ox,none⟩) ins.length c3] 63)).drew):=hid (Below.refl _ _).drew;have hsz:w.heap.size+1≤(w.alloc (.cells #[.string n.op,.string n.name,.slice a1 n.ins.length c1,.string n.out,.slice a2 n.attrs.length c2,.slice (some ⟨bx,ox,none⟩) ins.length c3] 63)).drew.heap.size:=by simp [World.drew]
 generalize (w.alloc (.cells #[.string n.op,.string n.name,.slice a1 n.ins.length c1,.string n.out,.slice a2 n.attrs.length c2,.slice (some ⟨bx,ox,none⟩) ins.length c3] 63)).drew=wD at B0 hsz ⊢
 repeat
  refine plan_read (v:=?_) rfl rfl (Or.inl ⟨by rfl,?_⟩) ?_;rotate_left
  ·intro W' hSw;obtain ⟨s0,s1,s2⟩:=HSr.out W' hSw;go_simp
   try with_reducible rfl
  try simp only [Act.put,List.getElem_toArray,List.getElem_cons_zero,List.getElem_cons_succ,List.setIfInBounds_toArray,List.set_cons_zero,List.set_cons_succ]
 refine plan_act rfl rfl (fun K' hK=>?_);go_simp
 have HBD:=hid (HBs.out _ B0.out);refine (spread_any (HD.out.below HBD.out) (HE.out.below HBD.out)).mono ?_;rintro e w2 ⟨B2,⟨hne,rfl⟩ | ⟨h0,v2,rfl,hr2⟩⟩
 ·have E:=hid (where_no (z:=z.dims) hne);exact ⟨rfl,HBD.out.trans (B2.mono HBD.out.size),Or.inl ⟨by rw [E.out];exact hne,by rw [E.out]⟩⟩
 have E:=hid (where_yes (z:=z.dims) h0);have HL2:Hid ((Vb.bcO x.dims y.dims).2.length * 8≤140737488351232):=hid (by have:=bc_len h0;have:=HD.out.wf.1;have:=HE.out.wf.1;omega);have HI2:Hid (IntsIn w2 v2 (Vb.bcO x.dims y.dims).2):=hid (hr2.ints HL2.out (bc_inI HD.out.wf.2 HE.out.wf.2));have B1:Hid (Below (w.heap.size+1) (w.alloc (.cells #[.string n.op,.string n.name,.slice a1 n.ins.length c1,.string n.out,.slice a2 n.attrs.length c2,.slice (some ⟨bx,ox,none⟩) ins.length c3] 63)) w2):=hid (B0.out.trans (B2.mono hsz));have HB2:=hid (HBs.out _ B1.out);clear hr2 B2 h0;generalize (Vb.bcO x.dims y.dims).2=q at *;refine hK.out _ _ B1.out ?_;clear hK K'
 try simp only [Act.put,List.getElem_toArray,List.getElem_cons_zero,List.getElem_cons_succ,List.setIfInBounds_toArray,List.set_cons_zero,List.set_cons_succ]
 refine plan_act rfl rfl (fun K' hK=>?_);go_simp
 refine (spread_any HI2.out (HF.out.below HB2.out)).mono ?_;rintro e w3 hR;have hX:DimR w (Vb.bcO q z.dims) e w3:=hR.dim HB2.out (fun h0=>by have:=bc_len h0;have:=HL2.out;have:=HF.out.wf.1;omega) (bc_inI HI2.out.wf.2 HF.out.wf.2);have HX:Hid (DimR w (whereO x.dims y.dims z.dims) e w3):=hid (by rw [E.out];exact hX);clear hX;rcases hR with ⟨B3,⟨_,rfl⟩ | ⟨_,v3,rfl,hr3⟩⟩
 ·exact ⟨rfl,HX.out⟩
 have hsz2:=B1.out.size;refine hK.out _ _ (B1.out.trans (B3.mono (Nat.le_trans (by simp) hsz2))) ?_;clear hK K' hr3;refine plan_tail rfl ?_;simp only [List.toList_toArray,List.drop_succ_cons,List.drop_zero];go_wp2
 go_ret
 exact HX.out
set_option maxHeartbeats 4000000 in
theorem dims_GlobalAveragePool {w:World} {v:Value} {n:Nd} {x:Vl} {ins:List Vl} (h:MkV w v n ins) (hi:ins[0]?=some x) (hsm:Sm x.dims) (hl:n.op.toList=[71,108,111,98,97,108,65,118,101,114,97,103,101,80,111,111,108]) :
  Calls Tryz.prog 33 #[v] w fun e w'=>DimR w (optO (gapP x.dims)) e w':=by
 obtain ⟨vin,vat,vv,rfl,hm⟩:=h;obtain ⟨a1,c1,rfl⟩:=hm.node.is.form;obtain ⟨a2,c2,rfl⟩:=hm.node.ia.form;obtain ⟨a3,c3,rfl⟩:=hm.ins.form;have HM:=hid hm;obtain ⟨bx,ox,vd,rfl,g0,hd,hy⟩:=dims_at hm.ins hi;clear hm;have hlen:0 < ins.length:=(List.getElem?_eq_some_iff.1 hi).1;have HS1:=hid hsm;clear hi hsm;clear hy;have HD:=hid hd;clear hd;have HY:=hid (fun (W:World)=>rule_yes W);have HNo:=hid (fun (W:World)=>rule_no W);have g1:=cell_alloc g0 (.cells #[.string n.op,.string n.name,.slice a1 n.ins.length c1,.string n.out,.slice a2 n.attrs.length c2,.slice (some ⟨bx,ox,none⟩) ins.length c3] 63);have HB1:=hid ((Below.refl w.heap.size w).alloc (Nat.le_refl _) (.cells #[.string n.op,.string n.name,.slice a1 n.ins.length c1,.string n.out,.slice a2 n.attrs.length c2,.slice (some ⟨bx,ox,none⟩) ins.length c3] 63));have HA1:=hid (BoxN.new w #[.string n.op,.string n.name,.slice a1 n.ins.length c1,.string n.out,.slice a2 n.attrs.length c2,.slice (some ⟨bx,ox,none⟩) ins.length c3] 63);obtain ⟨ad,cd,rfl⟩:=HD.out.shape;by_cases h4:x.dims.length=4
 case neg =>
  have E:Hid (gapP x.dims=none):=hid (by unfold gapP;exact if_neg h4);have hb:((x.dims.length:Int)==4)=false:=by simp;omega
  clear h4;go_enter Tryz.func33,Tryz.ntmps33
  go_wp2_with fail
  refine (HNo.out _).mono ?_;rintro e w' ⟨rfl,rfl⟩;exact ⟨rfl,HB1.out,Or.inl ⟨by rw [E.out];decide,by rw [E.out];rfl⟩⟩
 have E:Hid (gapP x.dims=some [x.dims.getD 0 0,x.dims.getD 1 0,1,1]):=hid (by unfold gapP;exact if_pos h4);have hb:((x.dims.length:Int)==4)=true:=by simp;omega
 have H4:=hid h4;have h40:(0:Int) < (x.dims.length:Int):=by omega
 have h41:(1:Int) < (x.dims.length:Int):=by omega
 have h40n:0 < x.dims.length:=by omega
 have h41n:1 < x.dims.length:=by omega
 clear h4;obtain ⟨b0,o0,ha0,-,l0,u0,-⟩:=ints_at (k:=0) HD.out (by have:=H4.out;omega);obtain ⟨b1,o1,ha1,-,-,u1,-⟩:=ints_at (k:=1) HD.out (by have:=H4.out;omega);subst ha0;obtain ⟨rfl,rfl⟩:b0=b1∧o0=o1:=by simpa using ha1
 clear ha1;have HGd:Hid (Gd [x.dims.getD 0 0,x.dims.getD 1 0,1,1]):=hid (four_gd (getD_up HS1.out 0) (getD_up HS1.out 1) (by decide) (by decide));generalize x.dims.getD 0 0=q0 at *;generalize x.dims.getD 1 0=q1 at *;go_enter Tryz.func33,Tryz.ntmps33
 go_wp2_with fail
 refine (HY.out _).mono ?_;rintro e wq ⟨rfl,rfl⟩;go_wp2_with fail
 have HSr:Hid (∀ W',Below w.heap.size w W'→W'.cell? ⟨b0,o0,none⟩=some (.int .i64 q0)∧W'.cell? ⟨b0,o0+1,none⟩=some (.int .i64 q1)):=hid fun W' h=>⟨(h.cell (p:=⟨b0,o0,none⟩) l0).trans u0,(h.cell (p:=⟨b0,o0+1,none⟩) l0).trans u1⟩;refine wp_region_plan 7 [0,1,2,3,4,5,6] (fun W'=>Below w.heap.size w W') (by kernel_rfl) (by kernel_rfl) (fun _ d _ _ _ h=>by cases d<;>exact h) HB1.out.drew ?_;have B0:Hid (Below w.heap.size w (w.alloc (.cells #[.string n.op,.string n.name,.slice a1 n.ins.length c1,.string n.out,.slice a2 n.attrs.length c2,.slice (some ⟨bx,ox,none⟩) ins.length c3] 63)).drew):=hid HB1.out.drew;have hsz:w.heap.size≤(w.alloc (.cells #[.string n.op,.string n.name,.slice a1 n.ins.length c1,.string n.out,.slice a2 n.attrs.length c2,.slice (some ⟨bx,ox,none⟩) ins.length c3] 63)).drew.heap.size:=B0.out.size;generalize (w.alloc (.cells #[.string n.op,.string n.name,.slice a1 n.ins.length c1,.string n.out,.slice a2 n.attrs.length c2,.slice (some ⟨bx,ox,none⟩) ins.length c3] 63)).drew=wD at B0 hsz ⊢
 repeat
  refine plan_read (v:=?_) rfl rfl (Or.inl ⟨by rfl,?_⟩) ?_;rotate_left
  ·intro W' hSw;obtain ⟨s0,s1⟩:=HSr.out W' hSw;go_simp
   try with_reducible rfl
  try simp only [Act.put,List.getElem_toArray,List.getElem_cons_zero,List.getElem_cons_succ,List.setIfInBounds_toArray,List.set_cons_zero,List.set_cons_succ]
 refine plan_act rfl rfl (fun K' hK=>?_);go_simp
 have HBF:Hid (Below w.heap.size w (wD.alloc (Obj.cells #[.int .i64 q0,.int .i64 q1,.int .i64 1,.int .i64 1] 3))):=hid (B0.out.alloc hsz _);have HRw:Hid (IntsIn (wD.alloc (Obj.cells #[.int .i64 q0,.int .i64 q1,.int .i64 1,.int .i64 1] 3)) (.slice (some ⟨wD.heap.size,0,none⟩) 4 4) [q0,q1,1,1]):=hid ((row_box (B:=w.heap.size) (zs:=[q0,q1,1,1]) (BoxN.new _ _ _) hsz rfl (by simp)).ints HGd.out.1 HGd.out.2);refine hK.out _ _ HBF.out ?_;clear hK K';refine plan_tail rfl ?_;simp only [List.toList_toArray,List.drop_succ_cons,List.drop_zero];go_wp2
 go_ret
 rw [E.out];exact ⟨HBF.out,Or.inr ⟨rfl,_,rfl,HRw.out⟩⟩
set_option maxHeartbeats 4000000 in
theorem dims_Constant {w:World} {v:Value} {n:Nd} {a:At} {ins:List Vl} (h:MkV w v n ins) (hf:n.attrs.find? isVal=some a) (hl:n.op.toList=[67,111,110,115,116,97,110,116]) :
  Calls Tryz.prog 33 #[v] w fun e w'=>DimR w (0,a.dims) e w':=by
 obtain ⟨vin,vat,vv,rfl,hm⟩:=h;obtain ⟨a1,c1,rfl⟩:=hm.node.is.form;obtain ⟨a2,c2,rfl⟩:=hm.node.ia.form;obtain ⟨a3,c3,rfl⟩:=hm.ins.form;have HM:=hid hm;have HF:=hid hf;clear hm hf;have HB1:=hid ((Below.refl w.heap.size w).alloc (Nat.le_refl _) (.cells #[.string n.op,.string n.name,.slice a1 n.ins.length c1,.string n.out,.slice a2 n.attrs.length c2,.slice a3 ins.length c3] 63));go_enter Tryz.func33,Tryz.ntmps33
 go_wp2_with fail
 generalize World.alloc w _=W1 at HB1 ⊢;refine (constant_any (n:=n) (ins:=ins) ⟨_,_,_,rfl,HM.out.below HB1.out⟩ HF.out).mono ?_;rintro e w2 ⟨vd,vx,rfl,hvd,hvx,B2⟩;obtain ⟨ad,cd,rfl⟩:=hvd.shape;obtain ⟨ax,cx,rfl⟩:=hvx.shape;have HVD:=hid hvd;clear hvd hvx;have hfd:∀ W:World,(Instr.field 46 (.agg #[.int .i64 a.typ,.slice ad a.dims.length cd,.slice ax a.data.length cx]) 1).run Tryz.prog W=.ok (.slice ad a.dims.length cd) W:=fun _=>by kernel_rfl
 have HB2:=hid (HB1.out.trans (B2.mono HB1.out.size));clear B2;go_wp2
 go_ret
 exact ⟨HB2.out,Or.inr ⟨rfl,_,rfl,HVD.out⟩⟩
set_option maxHeartbeats 4000000 in
theorem dims_BatchNormalization {w:World} {v:Value} {n:Nd} {x:Vl} {ins:List Vl} (h:MkV w v n ins) (hi:ins[0]?=some x) (hsm:Sm x.dims) (hn:2≤ins.length) (hl:n.op.toList=[66,97,116,99,104,78,111,114,109,97,108,105,122,97,116,105,111,110]) :
  Calls Tryz.prog 33 #[v] w fun e w'=>DimR w (optO (bnP x.dims (ins.drop 1))) e w':=by
 obtain ⟨vin,vat,vv,rfl,hm⟩:=h;obtain ⟨a1,c1,rfl⟩:=hm.node.is.form;obtain ⟨a2,c2,rfl⟩:=hm.node.ia.form;obtain ⟨a3,c3,rfl⟩:=hm.ins.form;have HM:=hid hm;obtain ⟨bx,ox,vd,rfl,g0,hd,hy⟩:=dims_at hm.ins hi;clear hm;have hlen:0 < ins.length:=(List.getElem?_eq_some_iff.1 hi).1;have HS1:=hid hsm;have hic:=HM.out.ins.cap;have hil:=HM.out.ins.len;clear hi hsm;clear hy;have HD:=hid hd;clear hd;have HY:=hid (fun (W:World)=>rule_yes W);have HNo:=hid (fun (W:World)=>rule_no W);have g1:=cell_alloc g0 (.cells #[.string n.op,.string n.name,.slice a1 n.ins.length c1,.string n.out,.slice a2 n.attrs.length c2,.slice (some ⟨bx,ox,none⟩) ins.length c3] 63);have HB1:=hid ((Below.refl w.heap.size w).alloc (Nat.le_refl _) (.cells #[.string n.op,.string n.name,.slice a1 n.ins.length c1,.string n.out,.slice a2 n.attrs.length c2,.slice (some ⟨bx,ox,none⟩) ins.length c3] 63));have HA1:=hid (BoxN.new w #[.string n.op,.string n.name,.slice a1 n.ins.length c1,.string n.out,.slice a2 n.attrs.length c2,.slice (some ⟨bx,ox,none⟩) ins.length c3] 63);obtain ⟨ad,cd,rfl⟩:=HD.out.shape;by_cases h2:2≤x.dims.length
 case neg =>
  have E:Hid (bnP x.dims (ins.drop 1)=none):=hid (by unfold bnP;exact if_neg (fun c=>h2 c.1));have hb:¬ (2:Int)≤(x.dims.length:Int):=by omega
  clear h2;go_enter Tryz.func33,Tryz.ntmps33
  go_wp2_with fail
  refine (HNo.out _).mono ?_;rintro e w' ⟨rfl,rfl⟩;exact ⟨rfl,HB1.out,Or.inl ⟨by rw [E.out];decide,by rw [E.out];rfl⟩⟩
 have hb:(2:Int)≤(x.dims.length:Int):=by omega
 have H2:=hid h2;have E0:Hid (∀ v ∈ ins.drop 1,¬ v.dims=(x.dims.drop 1).take 1→bnP x.dims (ins.drop 1)=none):=hid (fun v hv hne=>by unfold bnP;exact if_neg (fun c=>hne (c.2 v hv)));have E1:Hid ((∀ v ∈ ins.drop 1,v.dims=(x.dims.drop 1).take 1)→bnP x.dims (ins.drop 1)=some x.dims):=hid (fun h=>by unfold bnP;exact if_pos ⟨h2,h⟩);have hxc:=HD.out.capI.2;have hcd1:¬ cd=1:=by omega
 have hcd2:2≤cd:=by omega
 have hc31:¬ c3=1:=by omega
 have hi1i:(1:Int)≤(ins.length:Int):=by omega
 obtain ⟨b0,o0,ha0,-,l0,u0,-⟩:=ints_at (k:=0) HD.out (by omega);subst ha0;clear u0 h2;have HI1:Hid (IntsIn w (.slice (some ⟨b0,o0+1,none⟩) 1 (cd - 1)) ((x.dims.drop 1).take 1)):=hid (by
  have h:=ints_dropI (k:=1) HD.out (by have:=H2.out;omega);rw [if_neg hcd1,Option.map_some,Addr.add_lit] at h;exact h.take (k:=1) (by rw [List.length_drop];have:=H2.out;omega))
 generalize hq1:(x.dims.drop 1).take 1=q1 at *;clear hq1;go_enter Tryz.func33,Tryz.ntmps33
 go_wp2_with fail
 refine (HY.out _).mono ?_;rintro e wq ⟨rfl,rfl⟩;obtain ⟨k0,k1,k2,k3,k4,k5⟩:=HA1.out.six;go_wp2_with fail
 clear k0 k1 k2 k3 k4 k5 g1;generalize hW1:World.alloc w _=W1 at HB1 HA1 ⊢;clear hW1;go_loopw [134] (fun i wr=>∃ (k:Nat),k≤ins.length - 1∧i=.int .i64 (k:Int)∧Hid (∀ (j:Nat) v,j < k→ins[j+1]?=some v→v.dims=q1)∧Hid (Below w.heap.size w wr)) (fun i _=>ins.length - 1 - (intOf i).toNat)
 case atStart=>exact ⟨0,Nat.zero_le _,rfl,hid (fun j v hj=>by omega),HB1⟩
 obtain ⟨k,hk,rfl,hA,hW⟩:=hrel;by_cases hkl:k < ins.length - 1
 case neg =>
  have hki:¬ (k:Int) < ((ins.length - 1:Nat):Int):=by omega
  have E:Hid (bnP x.dims (ins.drop 1)=some x.dims):=hid (E1.out (fun v hv=>by
   obtain ⟨j,hj⟩:=List.mem_iff_getElem?.1 hv;rw [List.getElem?_drop,Nat.add_comm] at hj;exact hA.out j v (by have:=(List.getElem?_eq_some_iff.1 hj).1;omega) hj))
  go_wp2
  go_ret
  first | rw [E.out] | rw [←List.drop_one,E.out]
  exact ⟨hW.out,Or.inr ⟨rfl,_,rfl,HD.out.below hW.out⟩⟩
 have hki:(k:Int) < ((ins.length - 1:Nat):Int):=by omega
 obtain ⟨v,hv⟩:=gAt ins (k+1) (by omega);obtain ⟨b',o',cap',vd,hvs,hb',u0,u1,u2,-,-,hd⟩:=value_at HM.out.ins hv;obtain ⟨e1,-,-⟩:=Value.slice.inj hvs;obtain ⟨e1,e2⟩:bx=b'∧ox=o':=by simpa using e1
 subst e1 e2;have hof:ox+(k+1) * 3=ox+3+k * 3:=by omega
 rw [hof] at u0 u1 u2;have u0:=(hW.out.cell (p:=⟨bx,ox+3+k * 3,none⟩) hb').trans u0;have u1:=(hW.out.cell (p:=⟨bx,ox+3+k * 3+1,none⟩) hb').trans u1;have u2:=(hW.out.cell (p:=⟨bx,ox+3+k * 3+2,none⟩) hb').trans u2;have HDv:=hid hd;obtain ⟨av,cv,rfl⟩:=hd.shape;have HV:=hid hv;clear hof hv hvs hd;go_wp2_with fail
 clear u0 u1 u2;have HP8:=hid (BoxN.new wr #[.string v.name,.int .i64 v.typ,.slice av v.dims.length cv] 29);have HB8:Hid (Below w.heap.size w (wr.alloc (Obj.cells #[.string v.name,.int .i64 v.typ,.slice av v.dims.length cv] 29))):=hid (hW.out.alloc hW.out.size _);generalize wr.alloc _=w8 at HP8 HB8 ⊢;generalize wr.heap.size=P8 at HP8 ⊢;have hx2c:(2:Int)≤(cd:Int):=by omega
 have HSr:Hid (∀ W',Below w8.heap.size w8 W'→W'.cell? ⟨P8,2,none⟩=some (.slice av v.dims.length cv)):=hid fun W' h=>(HP8.out.below' h).cell 2 rfl;refine wp_region_all [0,1,2,3,4,5] (fun W'=>Below w8.heap.size w8 W') (by kernel_rfl) (by kernel_rfl) (fun _ d _ _ _ h=>by cases d<;>exact h) (Below.refl _ _).drew ?_;have B0:Hid (Below w8.heap.size w8 w8.drew):=hid (Below.refl _ _).drew;generalize w8.drew=wD at B0 ⊢
 repeat
  refine plan_read (v:=?_) rfl rfl (Or.inl ⟨by rfl,?_⟩) ?_;rotate_left
  ·intro W' hSw;have s0:=HSr.out W' hSw;go_simp
   try with_reducible rfl
  try simp only [Act.put,List.getElem_toArray,List.getElem_cons_zero,List.getElem_cons_succ,List.setIfInBounds_toArray,List.set_cons_zero,List.set_cons_succ]
 refine plan_act rfl rfl (fun K' hK=>?_);go_simp
 have HBD:=hid (HB8.out.trans (B0.out.mono HB8.out.size));refine (equalI_any (HDv.out.below HBD.out) (HI1.out.below HBD.out)).mono ?_;rintro e w9 ⟨rfl,B9⟩;have B1:=hid (B0.out.trans (B9.mono B0.out.size));have HB9:=hid (HB8.out.trans (B1.out.mono HB8.out.size));refine hK.out _ _ B1.out ?_;clear hK K' B9
 try simp only [Act.put,List.getElem_toArray,List.getElem_cons_zero,List.getElem_cons_succ,List.setIfInBounds_toArray,List.set_cons_zero,List.set_cons_succ]
 refine plan_act rfl rfl (fun K' hK=>?_);go_simp
 by_cases hvq:v.dims=q1
 ·try rw [decide_eq_true hvq]
  refine (HY.out _).mono ?_;rintro e w' ⟨rfl,rfl⟩;refine hK.out _ _ B1.out ?_;clear hK K';refine plan_end ?_;have hA2:Hid (∀ (j:Nat) u,j < k+1→ins[j+1]?=some u→u.dims=q1):=hid (fun j u hj hu=>by
   by_cases e:j=k
   ·subst e;rw [HV.out] at hu;cases hu
    exact hvq
   ·exact hA.out j u (by omega) hu)
  clear hvq;go_wp2_with fail
  go_roundw
  case rel=>exact ⟨k+1,by omega,by go_num,hA2,HB9⟩
  case measure=>simp [intOf];omega
 ·try rw [decide_eq_false hvq]
  have E:Hid (bnP x.dims (ins.drop 1)=none):=hid (E0.out v (List.mem_iff_getElem?.2 ⟨k,by rw [List.getElem?_drop,Nat.add_comm];exact HV.out⟩) hvq);refine (HNo.out _).mono ?_;rintro e w' ⟨rfl,rfl⟩;exact ⟨rfl,HB9.out,Or.inl (by first | (rw [E.out];exact ⟨by decide,rfl⟩) | (rw [←List.drop_one,E.out];exact ⟨by decide,rfl⟩))⟩
end
end Go.Proofs.YtijhdmidffenbaaGreatDoor
