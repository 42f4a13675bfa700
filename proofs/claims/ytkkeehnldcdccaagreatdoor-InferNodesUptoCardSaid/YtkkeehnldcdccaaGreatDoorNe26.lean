import Derived.Test.YtkkeehnldcdccaaGreatDoorNe22
import Derived.Test.YtkkeehnldcdccaaGreatDoorNe25
set_option linter.unusedVariables false
set_option linter.unusedSimpArgs false
set_option maxRecDepth 100000
set_option maxHeartbeats 44000000
namespace Go.Proofs.YtkkeehnldcdccaaGreatDoor
open Go.Lib (hid)
open Go.RowKit
section
theorem Iq{l q:List Int}{c lo hi:Int}(h:AN l c lo hi=some q)(h0:0≤lo)(h1:0≤hi)(i:Nat):0≤q.getD i 0∧q.getD i 0≤hi:=by
 by_cases k:i<q.length
 ·have:=(AT h).2 _ (Am k);omega
 ·rw[List.getD,List.getElem?_eq_none (by omega)];exact⟨by decide,h1⟩
theorem Si{x k s q d:List Int}{i:Nat}{z:Int}(h:Df x k s q d i=some z)(hx:∀i,0≤x.getD i 0∧x.getD i 0≤65536)(hk:∀i,0≤k.getD i 0∧k.getD i 0≤65536)(hq:∀i,0≤q.getD i 0∧q.getD i 0≤100)(hd:∀i,0≤d.getD i 0∧d.getD i 0≤100):0≤z∧z≤10000000∨s.getD i 0<0:=by
 by_cases hs:s.getD i 0<0
 ·exact Or.inr hs
 left;unfold Df at h;split at h
 ·rename_i g
  obtain rfl:=Option.some.inj h;have h1:=hx (2+i);have h2:=hk i;have h3:=hq i;have h4:=hq (2+i);have h5:=hd i;have hm:-100≤d.getD i 0*(k.getD i 0-1):=by
   have:=Int.mul_le_mul_of_nonneg_left (show-1≤k.getD i 0-1 by omega) h5.1;omega
  have h6:=Int.ediv_le_self (s.getD i 0) g;have h7:=Int.ediv_nonneg g (show 0≤s.getD i 0 by omega);omega
 ·cases h
theorem Mt{n:Nd}{x k:List Int}{a b:Int}(h:AQ n x k=some (a,b))(hx:Sm x)(hk:∀i,0≤k.getD i 0∧k.getD i 0≤65536):(0≤a∧a≤10000000)∧0≤b∧b≤10000000:=by
 unfold AQ at h;split at h
 ·cases h
 ·rename_i s hs
  split at h
  ·cases h
  ·rename_i q hq
   split at h
   ·cases h
   ·rename_i d hd
    have gs:=Iq hs (by decide) (by decide);have gq:=Iq hq (by decide) (by decide);have gd:=Iq hd (by decide) (by decide);have gx:=Gl hx;unfold DM at h;split at h
    ·cases h
    ·rename_i a' ha
     split at h
     ·cases h
     ·rename_i b' hb
      obtain⟨rfl,rfl⟩:=Prod.mk.inj (Option.some.inj h);have r1:=Si ha gx hk gq gd;have r2:=Si hb gx hk gq gd;have:=gs 0;have:=gs 1;omega
theorem Nw{a b c d:Int}(ha:0≤a∧a≤10000000)(hb:0≤b∧b≤10000000)(hc:0≤c∧c≤10000000)(hd:0≤d∧d≤10000000):Gd [a,b,c,d]:=by
 refine⟨by simp,fun z hz=>Cg ?_⟩;simp only[List.mem_cons,List.not_mem_nil,or_false]at hz;omega
theorem GK{x:List Int}(h:Sm x)(i:Nat):0≤x.getD i 0∧x.getD i 0≤10000000:=by have:=Gl h i;omega
theorem Xp{x:List Int}(h:Sm x)(k:Nat):Sm (x.drop k):=⟨by rw[List.length_drop];have:=h.1;omega,fun z hz=>h.2 z (List.mem_of_mem_drop hz)⟩
theorem Sj{n:Nd}{x k zs:List Int}{z:Option (List Int)}(hx:Sm x)(hk:Sm k)(h:CD n x k z=some zs):Gd zs:=by
 unfold CD at h;split at h
 ·split at h
  ·split at h
   ·unfold Jr at h;split at h
    ·cases h
    ·rename_i a b hw
     obtain rfl:=Option.some.inj h;have:=Mt hw hx (Gl (Xp hk 2));exact Nw (GK hx 0) (GK hk 0) this.1 this.2
   ·cases h
  ·cases h
 ·cases h
theorem Sk{n:Nd}{x zs:List Int}(hx:Sm x)(h:BZ n x=some zs):Gd zs:=by
 unfold BZ at h;split at h
 ·cases h
 ·rename_i k hk
  split at h
  ·split at h
   ·cases h
   ·rename_i a b hw
    split at h
    ·obtain rfl:=Option.some.inj h;have:=Mt hw hx (fun i=>by have:=Iq hk (by decide) (by decide) i;omega);exact Nw (GK hx 0) (GK hx 1) this.1 this.2
    ·cases h
  ·cases h
attribute [local irreducible] Vb.Bx Au A7 Bq AH Ag CD BZ CC
theorem Bb{w:World}{v:Value}{n:Nd}{x:Vl}{ins:List Vl}(h:BF w v n ins)(hi:ins[0]?=some x)(hl:n.op.toList=[73,100,101,110,116,105,116,121]∨n.op.toList=[78,101,103]∨n.op.toList=[65,98,115]∨n.op.toList=[82,101,108,117]∨n.op.toList=[83,113,114,116]∨n.op.toList=[70,108,111,111,114]∨n.op.toList=[69,120,112]∨n.op.toList=[83,105,103,109,111,105,100]∨n.op.toList=[84,97,110,104]∨n.op.toList=[67,108,105,112]∨n.op.toList=[67,97,115,116]) :
  Calls Tryz.prog 20 #[v] w fun e w'=>AV w ((0,x.dims)) e w':=by
 rcases hl with hl|hl|hl|hl|hl|hl|hl|hl|hl|hl|hl
 all_goals
  obtain⟨vin,vat,vv,rfl,hm⟩:=h;obtain⟨a1,c1,rfl⟩:=hm.node.is.form;obtain⟨a2,c2,rfl⟩:=hm.node.ia.form;obtain⟨a3,c3,rfl⟩:=hm.ins.form;have HM:=hid hm;obtain⟨bx,ox,vd,rfl,g0,hd,hy⟩:=CW hm.ins hi;clear hm;have hlen:0<ins.length:=(List.getElem?_eq_some_iff.1 hi).1;clear hi;clear hy;have HD:=hid hd;clear hd;have HY:=hid (fun(W:World)=>Ao W);have HNo:=hid (fun(W:World)=>Aw W);have g1:=Aj g0 (.cells #[.string n.op,.string n.name,.slice a1 n.ins.length c1,.string n.out,.slice a2 n.attrs.length c2,.slice (some ⟨bx,ox,none⟩) ins.length c3] 55);have HB1:=hid ((Below.refl w.heap.size w).alloc (Nat.le_refl _) (.cells #[.string n.op,.string n.name,.slice a1 n.ins.length c1,.string n.out,.slice a2 n.attrs.length c2,.slice (some ⟨bx,ox,none⟩) ins.length c3] 55));have HA1:=hid (Ac.new w #[.string n.op,.string n.name,.slice a1 n.ins.length c1,.string n.out,.slice a2 n.attrs.length c2,.slice (some ⟨bx,ox,none⟩) ins.length c3] 55);obtain⟨ad,cd,rfl⟩:=HD.out.shape;go_enter Tryz.func20,Tryz.ntmps20
  go_wp2
  go_ret
  exact⟨HB1.out,Or.inr ⟨rfl,_,rfl,HD.out.below HB1.out⟩⟩
theorem LL{w:World}{v:Value}{n:Nd}{x:Vl}{ins:List Vl}(h:BF w v n ins)(hi:ins[0]?=some x)(hl:n.op.toList=[73,100,101,110,116,105,116,121]) :
  Calls Tryz.prog 20 #[v] w fun e w'=>AV w ((0,x.dims)) e w':=
 Bb h hi (Or.inl hl)
theorem Vz{w:World}{v:Value}{n:Nd}{x:Vl}{ins:List Vl}(h:BF w v n ins)(hi:ins[0]?=some x)(hl:n.op.toList=[78,101,103]) :
  Calls Tryz.prog 20 #[v] w fun e w'=>AV w ((0,x.dims)) e w':=
 Bb h hi (Or.inr (Or.inl hl))
theorem VA{w:World}{v:Value}{n:Nd}{x:Vl}{ins:List Vl}(h:BF w v n ins)(hi:ins[0]?=some x)(hl:n.op.toList=[65,98,115]) :
  Calls Tryz.prog 20 #[v] w fun e w'=>AV w ((0,x.dims)) e w':=
 Bb h hi (Or.inr (Or.inr (Or.inl hl)))
theorem Tt{w:World}{v:Value}{n:Nd}{x:Vl}{ins:List Vl}(h:BF w v n ins)(hi:ins[0]?=some x)(hl:n.op.toList=[82,101,108,117]) :
  Calls Tryz.prog 20 #[v] w fun e w'=>AV w ((0,x.dims)) e w':=
 Bb h hi (Or.inr (Or.inr (Or.inr (Or.inl hl))))
theorem Tu{w:World}{v:Value}{n:Nd}{x:Vl}{ins:List Vl}(h:BF w v n ins)(hi:ins[0]?=some x)(hl:n.op.toList=[83,113,114,116]) :
  Calls Tryz.prog 20 #[v] w fun e w'=>AV w ((0,x.dims)) e w':=
 Bb h hi (Or.inr (Or.inr (Or.inr (Or.inr (Or.inl hl)))))
theorem QZ{w:World}{v:Value}{n:Nd}{x:Vl}{ins:List Vl}(h:BF w v n ins)(hi:ins[0]?=some x)(hl:n.op.toList=[70,108,111,111,114]) :
  Calls Tryz.prog 20 #[v] w fun e w'=>AV w ((0,x.dims)) e w':=
 Bb h hi (Or.inr (Or.inr (Or.inr (Or.inr (Or.inr (Or.inl hl))))))
theorem VB{w:World}{v:Value}{n:Nd}{x:Vl}{ins:List Vl}(h:BF w v n ins)(hi:ins[0]?=some x)(hl:n.op.toList=[69,120,112]) :
  Calls Tryz.prog 20 #[v] w fun e w'=>AV w ((0,x.dims)) e w':=
 Bb h hi (Or.inr (Or.inr (Or.inr (Or.inr (Or.inr (Or.inr (Or.inl hl)))))))
theorem Nx{w:World}{v:Value}{n:Nd}{x:Vl}{ins:List Vl}(h:BF w v n ins)(hi:ins[0]?=some x)(hl:n.op.toList=[83,105,103,109,111,105,100]) :
  Calls Tryz.prog 20 #[v] w fun e w'=>AV w ((0,x.dims)) e w':=
 Bb h hi (Or.inr (Or.inr (Or.inr (Or.inr (Or.inr (Or.inr (Or.inr (Or.inl hl))))))))
theorem Tv{w:World}{v:Value}{n:Nd}{x:Vl}{ins:List Vl}(h:BF w v n ins)(hi:ins[0]?=some x)(hl:n.op.toList=[84,97,110,104]) :
  Calls Tryz.prog 20 #[v] w fun e w'=>AV w ((0,x.dims)) e w':=
 Bb h hi (Or.inr (Or.inr (Or.inr (Or.inr (Or.inr (Or.inr (Or.inr (Or.inr (Or.inl hl)))))))))
theorem Tw{w:World}{v:Value}{n:Nd}{x:Vl}{ins:List Vl}(h:BF w v n ins)(hi:ins[0]?=some x)(hl:n.op.toList=[67,108,105,112]) :
  Calls Tryz.prog 20 #[v] w fun e w'=>AV w ((0,x.dims)) e w':=
 Bb h hi (Or.inr (Or.inr (Or.inr (Or.inr (Or.inr (Or.inr (Or.inr (Or.inr (Or.inr (Or.inl hl))))))))))
theorem Tx{w:World}{v:Value}{n:Nd}{x:Vl}{ins:List Vl}(h:BF w v n ins)(hi:ins[0]?=some x)(hl:n.op.toList=[67,97,115,116]) :
  Calls Tryz.prog 20 #[v] w fun e w'=>AV w ((0,x.dims)) e w':=
 Bb h hi (Or.inr (Or.inr (Or.inr (Or.inr (Or.inr (Or.inr (Or.inr (Or.inr (Or.inr (Or.inr hl))))))))))
theorem Ty{w:World}{v:Value}{n:Nd}{x:Vl}{ins:List Vl}(h:BF w v n ins)(hi:ins[0]?=some x){y:Vl}{z:Option Vl}(hj:ins[1]?=some y)(hz:ins[2]?=z)(hn:ins.length≤3)(hl:n.op.toList=[71,101,109,109]) :
  Calls Tryz.prog 20 #[v] w fun e w'=>AV w (CC n x.dims y.dims (z.map Vl.dims)) e w':=by
 obtain⟨vin,vat,vv,rfl,hm⟩:=h;obtain⟨a1,c1,rfl⟩:=hm.node.is.form;obtain⟨a2,c2,rfl⟩:=hm.node.ia.form;obtain⟨a3,c3,rfl⟩:=hm.ins.form;have HM:=hid hm;obtain⟨bx,ox,vd,rfl,g0,hd,hy⟩:=CW hm.ins hi;clear hm;have hlen:0<ins.length:=(List.getElem?_eq_some_iff.1 hi).1;have HI:=hid hi;have HJ:=hid hj;have HZ:=hid hz;have HN3:=hid hn;clear hi hj hz hn;clear hy;have HD:=hid hd;clear hd;have HY:=hid (fun(W:World)=>Ao W);have HNo:=hid (fun(W:World)=>Aw W);have g1:=Aj g0 (.cells #[.string n.op,.string n.name,.slice a1 n.ins.length c1,.string n.out,.slice a2 n.attrs.length c2,.slice (some ⟨bx,ox,none⟩) ins.length c3] 55);have HB1:=hid ((Below.refl w.heap.size w).alloc (Nat.le_refl _) (.cells #[.string n.op,.string n.name,.slice a1 n.ins.length c1,.string n.out,.slice a2 n.attrs.length c2,.slice (some ⟨bx,ox,none⟩) ins.length c3] 55));have HA1:=hid (Ac.new w #[.string n.op,.string n.name,.slice a1 n.ins.length c1,.string n.out,.slice a2 n.attrs.length c2,.slice (some ⟨bx,ox,none⟩) ins.length c3] 55);obtain⟨ad,cd,rfl⟩:=HD.out.shape;go_enter Tryz.func20,Tryz.ntmps20
 go_wp2_with fail
 generalize hW1:World.alloc w _=W1 at g1 HB1 HA1⊢;clear hW1;refine(Vr (n:=n) (ins:=ins) ⟨_,_,_,rfl,HM.out.below HB1.out⟩ HI.out HJ.out HZ.out HN3.out).mono ?_;rintro e w2 hX;have HX:Hid (AV w (CC n x.dims y.dims (z.map Vl.dims)) e w2):=hid ⟨HB1.out.trans (hX.1.mono HB1.out.size),hX.2⟩;rcases hX with⟨_,⟨_,rfl⟩| ⟨_,v2,rfl,hr2⟩⟩
 ·exact⟨rfl,HX.out⟩
 ·clear hr2;go_wp2
  go_ret
  exact HX.out
theorem Tz{w:World}{v:Value}{n:Nd}{x:Vl}{ins:List Vl}(h:BF w v n ins)(hi:ins[0]?=some x){y:Vl}{z:Option Vl}(hj:ins[1]?=some y)(hz:ins[2]?=z)(hn:ins.length≤3)(hsm:Sm x.dims)(hym:Sm y.dims)(hl:n.op.toList=[67,111,110,118]) :
  Calls Tryz.prog 20 #[v] w fun e w'=>AV w (AX (CD n x.dims y.dims (z.map Vl.dims))) e w':=by
 obtain⟨vin,vat,vv,rfl,hm⟩:=h;obtain⟨a1,c1,rfl⟩:=hm.node.is.form;obtain⟨a2,c2,rfl⟩:=hm.node.ia.form;obtain⟨a3,c3,rfl⟩:=hm.ins.form;have HM:=hid hm;obtain⟨bx,ox,vd,rfl,g0,hd,hy⟩:=CW hm.ins hi;clear hm;have hlen:0<ins.length:=(List.getElem?_eq_some_iff.1 hi).1;have HGd:Hid (∀zs,CD n x.dims y.dims (z.map Vl.dims)=some zs→Gd zs):=hid (fun zs h=>Sj hsm hym h);have HJ:=hid hj;have HZ:=hid hz;have HN3:=hid hn;have HS1:=hid hsm;have HS2:=hid hym;clear hi hj hz hn hsm hym;clear hy;have HD:=hid hd;clear hd;have HY:=hid (fun(W:World)=>Ao W);have HNo:=hid (fun(W:World)=>Aw W);have g1:=Aj g0 (.cells #[.string n.op,.string n.name,.slice a1 n.ins.length c1,.string n.out,.slice a2 n.attrs.length c2,.slice (some ⟨bx,ox,none⟩) ins.length c3] 55);have HB1:=hid ((Below.refl w.heap.size w).alloc (Nat.le_refl _) (.cells #[.string n.op,.string n.name,.slice a1 n.ins.length c1,.string n.out,.slice a2 n.attrs.length c2,.slice (some ⟨bx,ox,none⟩) ins.length c3] 55));have HA1:=hid (Ac.new w #[.string n.op,.string n.name,.slice a1 n.ins.length c1,.string n.out,.slice a2 n.attrs.length c2,.slice (some ⟨bx,ox,none⟩) ins.length c3] 55);obtain⟨ad,cd,rfl⟩:=HD.out.shape;go_enter Tryz.func20,Tryz.ntmps20
 go_wp2_with fail
 generalize hW1:World.alloc w _=W1 at g1 HB1 HA1⊢;clear hW1;refine(Vy (n:=n) (ins:=ins) ⟨_,_,_,rfl,HM.out.below HB1.out⟩ (HD.out.below HB1.out) HS1.out HJ.out HS2.out HZ.out HN3.out).mono ?_;rintro e w2 hR;have hX:AV w (AX (CD n x.dims y.dims (z.map Vl.dims))) e w2:=hR.dim HB1.out HGd.out;have HX:=hid hX;clear hX;obtain⟨-,hc⟩:=hR;cases hx:CD n x.dims y.dims (z.map Vl.dims)with
 | none=>
  rw[hx]at hc;obtain rfl:e=Em 4:=hc;clear hx;exact⟨rfl,HX.out⟩
 | some zs=>
  rw[hx]at hc;obtain⟨v2,rfl,-⟩:=hc;clear hx;go_wp2
  go_ret
  exact HX.out
theorem Gp{w:World}{v:Value}{n:Nd}{x:Vl}{ins:List Vl}(h:BF w v n ins)(hi:ins[0]?=some x)(hsm:Sm x.dims)(hl:n.op.toList=[77,97,120,80,111,111,108]∨n.op.toList=[65,118,101,114,97,103,101,80,111,111,108]) :
  Calls Tryz.prog 20 #[v] w fun e w'=>AV w (AX (BZ n x.dims)) e w':=by
 rcases hl with hl|hl
 all_goals
  obtain⟨vin,vat,vv,rfl,hm⟩:=h;obtain⟨a1,c1,rfl⟩:=hm.node.is.form;obtain⟨a2,c2,rfl⟩:=hm.node.ia.form;obtain⟨a3,c3,rfl⟩:=hm.ins.form;have HM:=hid hm;obtain⟨bx,ox,vd,rfl,g0,hd,hy⟩:=CW hm.ins hi;clear hm;have hlen:0<ins.length:=(List.getElem?_eq_some_iff.1 hi).1;have HGd:Hid (∀zs,BZ n x.dims=some zs→Gd zs):=hid (fun zs h=>Sk hsm h);have HS1:=hid hsm;clear hi hsm;clear hy;have HD:=hid hd;clear hd;have HY:=hid (fun(W:World)=>Ao W);have HNo:=hid (fun(W:World)=>Aw W);have g1:=Aj g0 (.cells #[.string n.op,.string n.name,.slice a1 n.ins.length c1,.string n.out,.slice a2 n.attrs.length c2,.slice (some ⟨bx,ox,none⟩) ins.length c3] 55);have HB1:=hid ((Below.refl w.heap.size w).alloc (Nat.le_refl _) (.cells #[.string n.op,.string n.name,.slice a1 n.ins.length c1,.string n.out,.slice a2 n.attrs.length c2,.slice (some ⟨bx,ox,none⟩) ins.length c3] 55));have HA1:=hid (Ac.new w #[.string n.op,.string n.name,.slice a1 n.ins.length c1,.string n.out,.slice a2 n.attrs.length c2,.slice (some ⟨bx,ox,none⟩) ins.length c3] 55);obtain⟨ad,cd,rfl⟩:=HD.out.shape;go_enter Tryz.func20,Tryz.ntmps20
  go_wp2_with fail
  generalize hW1:World.alloc w _=W1 at g1 HB1 HA1⊢;clear hW1;refine(Vu (n:=n) (ins:=ins) ⟨_,_,_,rfl,HM.out.below HB1.out⟩ (HD.out.below HB1.out) HS1.out).mono ?_;rintro e w2 hR;have hX:AV w (AX (BZ n x.dims)) e w2:=hR.dim HB1.out HGd.out;have HX:=hid hX;clear hX;obtain⟨-,hc⟩:=hR;cases hx:BZ n x.dims with
  | none=>
   rw[hx]at hc;obtain rfl:e=Em 4:=hc;clear hx;exact⟨rfl,HX.out⟩
  | some zs=>
   rw[hx]at hc;obtain⟨v2,rfl,-⟩:=hc;clear hx;go_wp2
   go_ret
   exact HX.out
theorem Ny{w:World}{v:Value}{n:Nd}{x:Vl}{ins:List Vl}(h:BF w v n ins)(hi:ins[0]?=some x)(hsm:Sm x.dims)(hl:n.op.toList=[77,97,120,80,111,111,108]) :
  Calls Tryz.prog 20 #[v] w fun e w'=>AV w (AX (BZ n x.dims)) e w':=
 Gp h hi hsm (Or.inl hl)
theorem IX{w:World}{v:Value}{n:Nd}{x:Vl}{ins:List Vl}(h:BF w v n ins)(hi:ins[0]?=some x)(hsm:Sm x.dims)(hl:n.op.toList=[65,118,101,114,97,103,101,80,111,111,108]) :
  Calls Tryz.prog 20 #[v] w fun e w'=>AV w (AX (BZ n x.dims)) e w':=
 Gp h hi hsm (Or.inr hl)
def AE:List (List UInt8):=[[67,111,110,115,116,97,110,116],[73,100,101,110,116,105,116,121],[78,101,103],[65,98,115],[78,111,116],[82,101,108,117],[83,113,114,116],[70,108,111,111,114],[69,120,112],[83,105,103,109,111,105,100],[84,97,110,104],[67,108,105,112],[67,97,115,116],[65,100,100],[83,117,98],[77,117,108],[68,105,118],[77,97,120],[77,105,110],[65,110,100],[79,114],[88,111,114],[69,113,117,97,108],[76,101,115,115],[71,114,101,97,116,101,114],[87,104,101,114,101],[83,111,102,116,109,97,120],[82,101,100,117,99,101,83,117,109],[82,101,100,117,99,101,77,97,120],[82,101,100,117,99,101,77,101,97,110],[65,114,103,77,97,120],[77,97,116,77,117,108],[71,101,109,109],[67,111,110,118],[77,97,120,80,111,111,108],[65,118,101,114,97,103,101,80,111,111,108],[71,108,111,98,97,108,65,118,101,114,97,103,101,80,111,111,108],[66,97,116,99,104,78,111,114,109,97,108,105,122,97,116,105,111,110]]
theorem Bd{l m:List UInt8}{L:List (List UInt8)}(h:m∉L)(hl:l∈L):(m==l)=false:=by
 have:m≠l:=fun e=>h (e ▸ hl)
 simpa using this
theorem CS{w:World}{v:Value}{n:Nd}{x:Vl}{ins:List Vl}(h:BF w v n ins)(hi:ins[0]?=some x){ds:Int×List Int}(hM:∀(W:World) (v vx:Value),Below w.heap.size w W→BF W v n ins→Aa W vx x.dims→Calls Tryz.prog 54 #[v,vx] W fun e w'=>AV W ds e w')(hl:n.op.toList∉AE) :
  Calls Tryz.prog 20 #[v] w fun e w'=>AV w (ds) e w':=by
 obtain⟨vin,vat,vv,rfl,hm⟩:=h;obtain⟨a1,c1,rfl⟩:=hm.node.is.form;obtain⟨a2,c2,rfl⟩:=hm.node.ia.form;obtain⟨a3,c3,rfl⟩:=hm.ins.form;have HM:=hid hm;obtain⟨bx,ox,vd,rfl,g0,hd,hy⟩:=CW hm.ins hi;clear hm;have hlen:0<ins.length:=(List.getElem?_eq_some_iff.1 hi).1;have HMv:=hid hM;clear hi hM;clear hy;have HD:=hid hd;clear hd;have HY:=hid (fun(W:World)=>Ao W);have HNo:=hid (fun(W:World)=>Aw W);have q0:(n.op.toList==([67,111,110,115,116,97,110,116]:List UInt8))=false:=Bd hl (l:=[67,111,110,115,116,97,110,116]) (by unfold AE;simp);have q1:(n.op.toList==([73,100,101,110,116,105,116,121]:List UInt8))=false:=Bd hl (l:=[73,100,101,110,116,105,116,121]) (by unfold AE;simp);have q2:(n.op.toList==([78,101,103]:List UInt8))=false:=Bd hl (l:=[78,101,103]) (by unfold AE;simp);have q3:(n.op.toList==([65,98,115]:List UInt8))=false:=Bd hl (l:=[65,98,115]) (by unfold AE;simp);have q4:(n.op.toList==([78,111,116]:List UInt8))=false:=Bd hl (l:=[78,111,116]) (by unfold AE;simp);have q5:(n.op.toList==([82,101,108,117]:List UInt8))=false:=Bd hl (l:=[82,101,108,117]) (by unfold AE;simp);have q6:(n.op.toList==([83,113,114,116]:List UInt8))=false:=Bd hl (l:=[83,113,114,116]) (by unfold AE;simp);have q7:(n.op.toList==([70,108,111,111,114]:List UInt8))=false:=Bd hl (l:=[70,108,111,111,114]) (by unfold AE;simp);have q8:(n.op.toList==([69,120,112]:List UInt8))=false:=Bd hl (l:=[69,120,112]) (by unfold AE;simp);have q9:(n.op.toList==([83,105,103,109,111,105,100]:List UInt8))=false:=Bd hl (l:=[83,105,103,109,111,105,100]) (by unfold AE;simp);have q10:(n.op.toList==([84,97,110,104]:List UInt8))=false:=Bd hl (l:=[84,97,110,104]) (by unfold AE;simp);have q11:(n.op.toList==([67,108,105,112]:List UInt8))=false:=Bd hl (l:=[67,108,105,112]) (by unfold AE;simp);have q12:(n.op.toList==([67,97,115,116]:List UInt8))=false:=Bd hl (l:=[67,97,115,116]) (by unfold AE;simp);have q13:(n.op.toList==([65,100,100]:List UInt8))=false:=Bd hl (l:=[65,100,100]) (by unfold AE;simp);have q14:(n.op.toList==([83,117,98]:List UInt8))=false:=Bd hl (l:=[83,117,98]) (by unfold AE;simp);have q15:(n.op.toList==([77,117,108]:List UInt8))=false:=Bd hl (l:=[77,117,108]) (by unfold AE;simp);have q16:(n.op.toList==([68,105,118]:List UInt8))=false:=Bd hl (l:=[68,105,118]) (by unfold AE;simp);have q17:(n.op.toList==([77,97,120]:List UInt8))=false:=Bd hl (l:=[77,97,120]) (by unfold AE;simp);have q18:(n.op.toList==([77,105,110]:List UInt8))=false:=Bd hl (l:=[77,105,110]) (by unfold AE;simp);have q19:(n.op.toList==([65,110,100]:List UInt8))=false:=Bd hl (l:=[65,110,100]) (by unfold AE;simp);have q20:(n.op.toList==([79,114]:List UInt8))=false:=Bd hl (l:=[79,114]) (by unfold AE;simp);have q21:(n.op.toList==([88,111,114]:List UInt8))=false:=Bd hl (l:=[88,111,114]) (by unfold AE;simp);have q22:(n.op.toList==([69,113,117,97,108]:List UInt8))=false:=Bd hl (l:=[69,113,117,97,108]) (by unfold AE;simp);have q23:(n.op.toList==([76,101,115,115]:List UInt8))=false:=Bd hl (l:=[76,101,115,115]) (by unfold AE;simp);have q24:(n.op.toList==([71,114,101,97,116,101,114]:List UInt8))=false:=Bd hl (l:=[71,114,101,97,116,101,114]) (by unfold AE;simp);have q25:(n.op.toList==([87,104,101,114,101]:List UInt8))=false:=Bd hl (l:=[87,104,101,114,101]) (by unfold AE;simp);have q26:(n.op.toList==([83,111,102,116,109,97,120]:List UInt8))=false:=Bd hl (l:=[83,111,102,116,109,97,120]) (by unfold AE;simp);have q27:(n.op.toList==([82,101,100,117,99,101,83,117,109]:List UInt8))=false:=Bd hl (l:=[82,101,100,117,99,101,83,117,109]) (by unfold AE;simp);have q28:(n.op.toList==([82,101,100,117,99,101,77,97,120]:List UInt8))=false:=Bd hl (l:=[82,101,100,117,99,101,77,97,120]) (by unfold AE;simp);have q29:(n.op.toList==([82,101,100,117,99,101,77,101,97,110]:List UInt8))=false:=Bd hl (l:=[82,101,100,117,99,101,77,101,97,110]) (by unfold AE;simp);have q30:(n.op.toList==([65,114,103,77,97,120]:List UInt8))=false:=Bd hl (l:=[65,114,103,77,97,120]) (by unfold AE;simp);have q31:(n.op.toList==([77,97,116,77,117,108]:List UInt8))=false:=Bd hl (l:=[77,97,116,77,117,108]) (by unfold AE;simp);have q32:(n.op.toList==([71,101,109,109]:List UInt8))=false:=Bd hl (l:=[71,101,109,109]) (by unfold AE;simp);have q33:(n.op.toList==([67,111,110,118]:List UInt8))=false:=Bd hl (l:=[67,111,110,118]) (by unfold AE;simp);have q34:(n.op.toList==([77,97,120,80,111,111,108]:List UInt8))=false:=Bd hl (l:=[77,97,120,80,111,111,108]) (by unfold AE;simp);have q35:(n.op.toList==([65,118,101,114,97,103,101,80,111,111,108]:List UInt8))=false:=Bd hl (l:=[65,118,101,114,97,103,101,80,111,111,108]) (by unfold AE;simp);have q36:(n.op.toList==([71,108,111,98,97,108,65,118,101,114,97,103,101,80,111,111,108]:List UInt8))=false:=Bd hl (l:=[71,108,111,98,97,108,65,118,101,114,97,103,101,80,111,111,108]) (by unfold AE;simp);have q37:(n.op.toList==([66,97,116,99,104,78,111,114,109,97,108,105,122,97,116,105,111,110]:List UInt8))=false:=Bd hl (l:=[66,97,116,99,104,78,111,114,109,97,108,105,122,97,116,105,111,110]) (by unfold AE;simp);clear hl;have g1:=Aj g0 (.cells #[.string n.op,.string n.name,.slice a1 n.ins.length c1,.string n.out,.slice a2 n.attrs.length c2,.slice (some ⟨bx,ox,none⟩) ins.length c3] 55);have HB1:=hid ((Below.refl w.heap.size w).alloc (Nat.le_refl _) (.cells #[.string n.op,.string n.name,.slice a1 n.ins.length c1,.string n.out,.slice a2 n.attrs.length c2,.slice (some ⟨bx,ox,none⟩) ins.length c3] 55));have HA1:=hid (Ac.new w #[.string n.op,.string n.name,.slice a1 n.ins.length c1,.string n.out,.slice a2 n.attrs.length c2,.slice (some ⟨bx,ox,none⟩) ins.length c3] 55);obtain⟨ad,cd,rfl⟩:=HD.out.shape;go_enter Tryz.func20,Tryz.ntmps20
 go_wp2_with fail
 generalize hW1:World.alloc w _=W1 at g1 HB1 HA1⊢;clear hW1;refine(HMv.out W1 _ _ HB1.out ⟨_,_,_,rfl,HM.out.below HB1.out⟩ (HD.out.below HB1.out)).mono ?_;rintro e w2 hX;have HX:Hid (AV w ds e w2):=hid ⟨HB1.out.trans (hX.1.mono HB1.out.size),hX.2⟩;rcases hX with⟨_,⟨_,rfl⟩| ⟨_,v2,rfl,hr2⟩⟩
 ·exact⟨rfl,HX.out⟩
 ·clear hr2;go_wp2
  go_ret
  exact HX.out
end
end Go.Proofs.YtkkeehnldcdccaaGreatDoor
