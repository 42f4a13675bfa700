import Derived.Shelf.Spec.SlicesGrow
import Derived.Test.YtkkeehnldcdccaaGreatDoorNe19
set_option linter.unusedVariables false
set_option linter.unusedSimpArgs false
set_option maxRecDepth 100000
set_option maxHeartbeats 16000000
namespace Go.Proofs.YtkkeehnldcdccaaGreatDoor
open Go.Lib (hid)
open Go.RowKit
section
theorem Jo{r:Nat}:∀(l acc ks:List Int),DB r acc l=some ks→acc.Nodup→ks.Nodup
 | [],acc,ks,h,hn=>by obtain rfl:acc=ks:=Option.some.inj h;exact hn
 | a::l,acc,ks,h,hn=>by
  unfold DB at h;split at h
  ·cases h
  ·rename_i k _
   split at h
   ·cases h
   ·rename_i hc
    refine Jo l _ ks h ?_;rw[List.nodup_append];refine⟨hn,by simp,fun x hx y hy e=>?_⟩;obtain rfl:y=k:=by simpa using hy
    subst e;exact hc (by rw[List.contains_iff_mem];exact hx)
theorem DU{r:Nat}{l ks:List Int}(h:By l r=some ks):ks.Nodup:=Jo l [] ks h (by simp)
def F0(l:List Int):List Int:=l.mergeSort fun x y=>decide (x≤y)
theorem GJ(l:List Int):(F0 l).length=l.length:=List.length_mergeSort _
theorem Ek{l:List Int}{z:Int}(h:z∈F0 l):z∈l:=List.mem_mergeSort.1 h
theorem KW{l:List Int}(h:l.Nodup):(F0 l).Pairwise (fun x y=>x<y):=by
 have h1:=List.pairwise_mergeSort (le:=fun(x y:Int)=>decide (x≤y)) (by intro a b c;simp;omega) (by intro a b;simp;omega) l;have h2:(F0 l).Nodup:=(List.mergeSort_perm l _).nodup_iff.2 h;rw[List.pairwise_iff_getElem];intro i j hi hj hij;have e1:=(List.pairwise_iff_getElem.1 h1) i j hi hj hij;have e2:=(List.pairwise_iff_getElem.1 h2) i j hi hj hij;have e1:(F0 l)[i]≤(F0 l)[j]:=of_decide_eq_true e1;have e2:(F0 l)[i]≠(F0 l)[j]:=e2;omega
theorem aY{L:List Int}{k:Nat}(h:k<L.length):L[k]=L.getD k 0:=by simp[List.getD,List.getElem?_eq_getElem h]
theorem QO{L:List Int}{R:Nat}(h:L.Pairwise (fun x y=>x<y))(hr:∀z∈L,0≤z∧z<(R:Int)):∀d k:Nat,k+d+1=L.length→L.getD k 0+((d:Int)+1)≤R
 | 0,k,hk=>by have:=hr _ (Am (zs:=L) (k:=k) (by omega));omega
 | d+1,k,hk=>by
  have ih:=QO h hr d (k+1) (by omega);have:=(List.pairwise_iff_getElem.1 h) k (k+1) (by omega) (by omega) (by omega);rw[aY,aY]at this;omega
theorem O4{L:List Int}{R:Nat}(h:L.Pairwise (fun x y=>y<x))(hr:∀z∈L,0≤z∧z<(R:Int)):∀k:Nat,k<L.length→L.getD k 0+(k:Int)<R
 | 0,hk=>by have:=hr _ (Am (zs:=L) hk);omega
 | k+1,hk=>by
  have ih:=O4 h hr k (by omega);have:=(List.pairwise_iff_getElem.1 h) k (k+1) (by omega) (by omega) (by omega);rw[aY,aY]at this;omega
def P0:List Int→List Int→Option (List Int)
 | out,[]=>some out
 | out,a::l=>if out.getD a.toNat 0=1 then P0 (out.take a.toNat++out.drop (a.toNat+1)) l else none
theorem Yp{out l:List Int}{k:Nat}(h:¬k<l.length):P0 out (l.drop k)=some out:=by rw[List.drop_eq_nil_of_le (by omega)];rfl
theorem Yq{out l:List Int}{k j:Nat}(hk:k<l.length)(hj:l.getD k 0=(j:Int))(h:¬out.getD j 0=1):P0 out (l.drop k)=none:=by rw[Bs hk,hj,P0,Int.toNat_natCast];exact if_neg h
theorem Xm{out l:List Int}{k j:Nat}(hk:k<l.length)(hj:l.getD k 0=(j:Int))(h:out.getD j 0=1):P0 out (l.drop k)=P0 (out.take j++out.drop (j+1)) (l.drop (k+1)):=by rw[Bs hk,hj,P0,Int.toNat_natCast];exact if_pos h
def Bn(n:Nd)(x:List Int):Option (List Int):=match By (Af n.attrs AF []) x.length with |none=>none|some l=>P0 x (F0 l).reverse
theorem KX{n:Nd}{x:List Int}(h:By (Af n.attrs AF []) x.length=none):Bn n x=none:=by unfold Bn;rw[h]
theorem Jp{n:Nd}{x l:List Int}(h:By (Af n.attrs AF []) x.length=some l):Bn n x=P0 x ((F0 l).reverse.drop 0):=by unfold Bn;rw[h];rfl
def Hv:List Int→List Int→List Int
 | out,[]=>out
 | out,a::l=>Hv (out.take a.toNat++1::out.drop a.toNat) l
theorem Yr{out l:List Int}{k:Nat}(h:¬k<l.length):Hv out (l.drop k)=out:=by rw[List.drop_eq_nil_of_le (by omega)];rfl
theorem Xn{out l:List Int}{k j:Nat}(hk:k<l.length)(hj:l.getD k 0=(j:Int)):Hv out (l.drop k)=Hv (out.take j++1::out.drop j) (l.drop (k+1)):=by rw[Bs hk,hj,Hv,Int.toNat_natCast]
def Dd(n:Nd)(x:List Int):Option (List Int):=match By (Af n.attrs AF []) (x.length+(Af n.attrs AF []).length)with |none=>none|some l=>some (Hv x (F0 l))
theorem RW{n:Nd}{x s:List Int}(es:Af n.attrs AF []=s)(h:By s (x.length+s.length)=none):Dd n x=none:=by subst es;unfold Dd;rw[h]
theorem O5{n:Nd}{x s l:List Int}(es:Af n.attrs AF []=s)(h:By s (x.length+s.length)=some l):Dd n x=some (Hv x ((F0 l).drop 0)):=by subst es;unfold Dd;rw[h];rfl
attribute [local irreducible] Af By P0 Hv Bn Dd Ag BI F0
theorem O6{w:World}{v vx:Value}{n:Nd}{ins:List Vl}{x:List Int}(h:BF w v n ins)(hx:Aa w vx x)(hsm:Sm x) :
  Calls Tryz.prog 122 #[v,vx] w fun e w'=>AY w (Bn n x) e w':=by
 obtain⟨i0,hi,hz0,hz1,hz2⟩:=info_parts AI;obtain⟨vin,vat,vv,rfl,hm⟩:=h;obtain⟨a1,c1,rfl⟩:=hm.node.is.form;obtain⟨a2,c2,rfl⟩:=hm.node.ia.form;obtain⟨a3,c3,rfl⟩:=hm.ins.form;have HM:=hid hm;clear hm;obtain⟨a4,c4,rfl⟩:=hx.shape;have hxl:=hx.wf.1;have hxc:=hx.capI.2;have HX:=hid hx;clear hx;have HY:=hid (fun(W:World)=>Ao W);have HNo:=hid (fun(W:World)=>Aw W);have HB1:=hid ((Below.refl w.heap.size w).alloc (Nat.le_refl _) (Obj.cells #[.string n.op,.string n.name,.slice a1 n.ins.length c1,.string n.out,.slice a2 n.attrs.length c2,.slice a3 ins.length c3] 55));have HA1:=hid (Ac.new w #[.string n.op,.string n.name,.slice a1 n.ins.length c1,.string n.out,.slice a2 n.attrs.length c2,.slice a3 ins.length c3] 55);have HSm:=hid hsm;have hx6:=hsm.1;clear hsm;obtain⟨k0,k1,k2,k3,k4,k5⟩:=HA1.out.six;go_enter Tryz.func122,Tryz.ntmps122
 go_wp2_with fail
 generalize World.alloc w (Obj.cells #[.string n.op,.string n.name,.slice a1 n.ins.length c1,.string n.out,.slice a2 n.attrs.length c2,.slice a3 ins.length c3] 55)=W1 at HB1 HA1⊢;have HBw:Hid (∀W,Below W1.heap.size W1 W→Below w.heap.size w W):=hid fun W hB=>HB1.out.trans (hB.mono HB1.out.size);clear k0 k1 k2 k3 k4 k5;refine(CR (n:=n) ⟨_,_,rfl,(HM.out.below HB1.out).node⟩ AF (.empty none 0)).mono ?_;rintro e w2⟨v2,rfl,hr,B⟩;have HW2:Hid (Below W1.heap.size W1 w2):=hid B;have hok:=BS (nm:=AF) (other:=[]) (v:=(.agg #[.string n.op,.string n.name,.slice a1 n.ins.length c1,.string n.out,.slice a2 n.attrs.length c2])) ⟨_,_,rfl,HM.out.node⟩ (by simp) (by simp);have HN1:=hid (fun h=>KX (n:=n) (x:=x) h);have HN2:=hid (fun l h=>Jp (n:=n) (x:=x) (l:=l) h);have HI2:Hid (Aa w2 v2 (Af n.attrs AF [])):=hid (BI.ints (B:=W1.heap.size) (by unfold BI;exact hr) hok.1 hok.2);have hsl:=hok.1;clear hr hok B;generalize Af n.attrs AF []=s at*;obtain⟨as',cs',rfl⟩:=HI2.out.shape;go_wp2_with fail
 refine(Ib (r:=x.length) HI2.out hsl (by omega)).mono ?_;rintro e w3⟨B3,hc⟩;have HW3:=hid (HW2.out.trans (B3.mono HW2.out.size));have HB3:=hid B3;clear B3;cases hax:By s x.length with
 | none=>
  rw[hax]at hc;obtain rfl:e=Em 4:=hc;have E:=hid (HN1.out hax);exact⟨rfl,AY.no E.out (HBw.out _ HW3.out)⟩
 | some l=>
 rw[hax]at hc;obtain⟨v3,rfl,hr3⟩:∃v,e=.returned v∧Ag w3 _ v l:=hc;obtain⟨hpl,hpn⟩:=A8 hax;have E:=hid (HN2.out l hax);have HND:=hid (DU hax);have HP:=hid hpl;have hll:l.length*8≤140737488351232:=by rw[hpn];exact hsl
 have HR3:=hid hr3;obtain⟨a5,c5,rfl⟩:=hr3.form;clear hr3 hax hpl hpn HN1 HN2 HI2;go_wp2_with fail
 refine(O3 HR3.out HB3.out.size (by omega)).mono ?_;rintro e w4⟨rfl,hr4,B4⟩;have HR4:Hid (Ag w4 w2.heap.size (.slice a5 l.length c5) (F0 l)):=hid (by unfold F0;exact hr4);have HB4:=hid (HB3.out.trans B4);clear hr4 B4 HR3 HB3;go_wp2_with fail
 refine(Xk HR4.out HB4.out.size (by rw[GJ];omega)).mono ?_;rintro e w5⟨rfl,hr5,B5⟩;have HB5:=hid (HB4.out.trans B5);have HW5:=hid (HW2.out.trans (HB5.out.mono HW2.out.size));have HLl:Hid ((F0 l).reverse.length=l.length):=hid (by rw[List.length_reverse,GJ]);have HLD:=hid (O4 (L:=(F0 l).reverse) (R:=x.length) (List.pairwise_reverse.2 (KW HND.out)) (fun z hz=>HP.out z (Ek (List.mem_reverse.1 hz))));have HLP:Hid (∀z∈(F0 l).reverse,0≤z∧z<(x.length:Int)):=hid (fun z hz=>HP.out z (Ek (List.mem_reverse.1 hz)));generalize (F0 l).reverse=L at*;have HI5:Hid (Aa w5 (.slice a5 l.length c5) L):=hid (hr5.ints (by rw[HLl.out];exact hll) (fun z hz=>DO (HLP.out z hz) (by omega)));clear hr5 B5 HR4 HB4 HND HP HW2 HB5;go_wp2_with fail
 refine(Vb.Cv (HX.out.below (HBw.out _ HW5.out))).mono ?_;rintro e w6⟨v6,rfl,hf6,B6⟩;have HR6:Hid (Ag w6 w5.heap.size v6 x):=hid (by unfold Ag;exact hf6);have HB6:=hid B6;obtain⟨a7,c7,rfl⟩:=hf6.form;clear hf6 B6;go_wp2_with fail
 go_loopw [6,23] (fun ov i wr=>∃(k:Nat) (out:List Int),k≤l.length∧i=.int .i64 (k:Int)∧out.length+k=x.length∧Hid (∀z∈out,Bf z)∧Hid (Bn n x=P0 out (L.drop k))∧Hid (Ag wr w5.heap.size ov out)∧Hid (Below w5.heap.size w5 wr)) (fun _ i _=>l.length-(intOf i).toNat)
 case atStart=>exact⟨0,x,Nat.zero_le _,rfl,rfl,hid HX.out.wf.2,E,HR6,HB6⟩
 case round=>
  obtain⟨k,out,hk,rfl,hol,hOI,hF,hO,hW⟩:=hrel;have HWr:=hid (HBw.out _ (HW5.out.trans (hW.out.mono HW5.out.size)));obtain⟨ao,co,rfl⟩:=hO.out.form;by_cases hkl:k<l.length
  ·have hki:(k:Int)<(l.length:Int):=by omega
   have hkL:k<L.length:=by rw[HLl.out];exact hkl
   have hzr:=HLP.out _ (Am (zs:=L) hkL);have hzd:=HLD.out k hkL;obtain⟨j,hj⟩:∃j:Nat,L.getD k 0=(j:Int):=⟨(L.getD k 0).toNat,by omega⟩;have hjo:j<out.length:=by omega
   have hji:(j:Int)<(out.length:Int):=by omega
   have hj0:(0:Int)≤(j:Int):=by omega
   obtain⟨bp,op',hap,-,gp,up,-⟩:=Ai HI5.out hkL;subst hap;have up:=(hW.out.cell (p:=⟨bp,op'+k,none⟩) gp).trans up;obtain⟨bx,ox,hax,-,gx,ux,hxi⟩:=Ai (hO.out.ints (by omega) hOI.out) hjo;subst hax;have F1:=hid (fun h=>Yq (out:=out) hkL hj h);have F2:=hid (fun h=>Xm (out:=out) hkL hj h);rw[hj]at up;clear hj hzr hzd gp gx hxi;have hjw:IntKind.i64.wrap ((j:Int)+1)=(j:Int)+1:=by rw[IntKind.wrap_i64];omega
   generalize out.getD j 0=q at*;by_cases h1:q=1
   ·have G:=hid (hF.out.trans (F2.out h1));rw[h1]at ux;clear h1 F1 F2;have HD:=hid (QK hO.out hW.out.size hjo);go_wp2_with fail
    refine(HY.out _).mono ?_;rintro e w'⟨rfl,rfl⟩;go_wp2_with fail
    refine HD.out.mono ?_;rintro e w9⟨v9,rfl,hr9,B9⟩;have HR9:=hid hr9;have HB9:=hid (hW.out.trans B9);have HOI:Hid (∀z∈out.take j++out.drop (j+1),Bf z):=hid (fun z hz=>hOI.out z (by rcases List.mem_append.1 hz with h|h;exact List.mem_of_mem_take h;exact List.mem_of_mem_drop h));have HOL2:Hid ((out.take j++out.drop (j+1)).length+(k+1)=x.length):=hid (by simp;omega);clear hr9 B9 HD ux up;generalize out.take j++out.drop (j+1)=out2 at*;obtain⟨a9,c9,rfl⟩:=HR9.out.form;go_wp2_with fail
    go_roundw
    case rel=>exact⟨k+1,out2,by omega,by go_num,HOL2.out,HOI,G,HR9,HB9⟩
    case measure=>simp[intOf];omega
   ·have G:=hid (hF.out.trans (F1.out h1));have hb1:(q==1)=false:=by simpa using h1
    clear h1 F1 F2;go_wp2_with fail
    refine(HNo.out _).mono ?_;rintro e w'⟨rfl,rfl⟩;exact⟨rfl,AY.no G.out HWr.out⟩
  ·have hki:¬(k:Int)<(l.length:Int):=by omega
   have G:=hid (hF.out.trans (Yp (by rw[HLl.out];exact hkl)));have HRw:Hid (Ag wr w.heap.size (.slice ao out.length co) out):=hid (hO.out.base (HBw.out _ HW5.out).size);go_wp2
   go_ret
   exact AY.yes G.out HWr.out HRw.out
theorem LE{w:World}{v vx:Value}{n:Nd}{ins:List Vl}{x:List Int}(h:BF w v n ins)(hx:Aa w vx x)(hsm:Sm x) :
  Calls Tryz.prog 123 #[v,vx] w fun e w'=>AY w (Dd n x) e w':=by
 obtain⟨i0,hi,hz0,hz1,hz2⟩:=info_parts AI;obtain⟨vin,vat,vv,rfl,hm⟩:=h;obtain⟨a1,c1,rfl⟩:=hm.node.is.form;obtain⟨a2,c2,rfl⟩:=hm.node.ia.form;obtain⟨a3,c3,rfl⟩:=hm.ins.form;have HM:=hid hm;clear hm;obtain⟨a4,c4,rfl⟩:=hx.shape;have hxl:=hx.wf.1;have hxc:=hx.capI.2;have HX:=hid hx;clear hx;have HY:=hid (fun(W:World)=>Ao W);have HNo:=hid (fun(W:World)=>Aw W);have HB1:=hid ((Below.refl w.heap.size w).alloc (Nat.le_refl _) (Obj.cells #[.string n.op,.string n.name,.slice a1 n.ins.length c1,.string n.out,.slice a2 n.attrs.length c2,.slice a3 ins.length c3] 55));have HA1:=hid (Ac.new w #[.string n.op,.string n.name,.slice a1 n.ins.length c1,.string n.out,.slice a2 n.attrs.length c2,.slice a3 ins.length c3] 55);have HSm:=hid hsm;have hx6:=hsm.1;clear hsm;obtain⟨k0,k1,k2,k3,k4,k5⟩:=HA1.out.six;go_enter Tryz.func123,Tryz.ntmps123
 go_wp2_with fail
 generalize World.alloc w (Obj.cells #[.string n.op,.string n.name,.slice a1 n.ins.length c1,.string n.out,.slice a2 n.attrs.length c2,.slice a3 ins.length c3] 55)=W1 at HB1 HA1⊢;have HBw:Hid (∀W,Below W1.heap.size W1 W→Below w.heap.size w W):=hid fun W hB=>HB1.out.trans (hB.mono HB1.out.size);clear k0 k1 k2 k3 k4 k5;refine(CR (n:=n) ⟨_,_,rfl,(HM.out.below HB1.out).node⟩ AF (.empty none 0)).mono ?_;rintro e w2⟨v2,rfl,hr,B⟩;have HW2:Hid (Below W1.heap.size W1 w2):=hid B;have hok:=BS (nm:=AF) (other:=[]) (v:=(.agg #[.string n.op,.string n.name,.slice a1 n.ins.length c1,.string n.out,.slice a2 n.attrs.length c2])) ⟨_,_,rfl,HM.out.node⟩ (by simp) (by simp);obtain⟨s,hse⟩:∃s,Af n.attrs AF []=s:=⟨_,rfl⟩;rw[hse]at hr hok;have HN1:=hid (fun h=>RW (n:=n) (x:=x) hse h);have HN2:=hid (fun l h=>O5 (n:=n) (x:=x) (l:=l) hse h);have HI2:Hid (Aa w2 v2 s):=hid (BI.ints (B:=W1.heap.size) (by unfold BI;exact hr) hok.1 hok.2);have hsl:=hok.1;clear hr hok B hse;obtain⟨as',cs',rfl⟩:=HI2.out.shape;have hxs:IntKind.i64.wrap ((x.length:Int)+(s.length:Int))=((x.length+s.length:Nat):Int):=by rw[IntKind.wrap_i64];omega
 go_wp2_with fail
 clear hxs;refine(Ib (r:=x.length+s.length) HI2.out hsl (by omega)).mono ?_;rintro e w3⟨B3,hc⟩;have HW3:=hid (HW2.out.trans (B3.mono HW2.out.size));have HB3:=hid B3;clear B3;cases hax:By s (x.length+s.length)with
 | none=>
  rw[hax]at hc;obtain rfl:e=Em 4:=hc;have E:=hid (HN1.out hax);exact⟨rfl,AY.no E.out (HBw.out _ HW3.out)⟩
 | some l=>
 rw[hax]at hc;obtain⟨v3,rfl,hr3⟩:∃v,e=.returned v∧Ag w3 _ v l:=hc;obtain⟨hpl,hpn⟩:=A8 hax;have E:=hid (HN2.out l hax);have HND:=hid (DU hax);have HP:=hid hpl;have HPN:=hid hpn;have hll:l.length*8≤140737488351232:=by rw[hpn];exact hsl
 have HR3:=hid hr3;obtain⟨a5,c5,rfl⟩:=hr3.form;clear hr3 hax hpl hpn HN1 HN2 HI2;go_wp2_with fail
 refine(O3 HR3.out HB3.out.size (by omega)).mono ?_;rintro e w5⟨rfl,hr5,B4⟩;have hr5:Ag w5 w2.heap.size (.slice a5 l.length c5) (F0 l):=by unfold F0;exact hr5
 have HB5:=hid (HB3.out.trans B4);have HW5:=hid (HW2.out.trans (HB5.out.mono HW2.out.size));have HLl:Hid ((F0 l).length=l.length):=hid (GJ l);have HLP:Hid (∀z∈F0 l,0≤z∧z<((x.length+s.length:Nat):Int)):=hid (fun z hz=>HP.out z (Ek hz));have HLD:=hid (QO (L:=F0 l) (R:=x.length+s.length) (KW HND.out) HLP.out);have HU:Hid (∀z∈Hv x (F0 l),True):=hid (fun _ _=>trivial);clear HU;generalize F0 l=L at*;have HI5:Hid (Aa w5 (.slice a5 l.length c5) L):=hid (hr5.ints (by rw[HLl.out];exact hll) (fun z hz=>DO (HLP.out z hz) (by omega)));clear hr5 B4 HR3 HB3 HND HP HW2 HB5;go_wp2_with fail
 refine(Vb.Cv (HX.out.below (HBw.out _ HW5.out))).mono ?_;rintro e w6⟨v6,rfl,hf6,B6⟩;have HR6:Hid (Ag w6 w5.heap.size v6 x):=hid (by unfold Ag;exact hf6);have HB6:=hid B6;obtain⟨a7,c7,rfl⟩:=hf6.form;clear hf6 B6;go_wp2_with fail
 go_loopw [7,26] (fun ov i wr=>∃(k:Nat) (out:List Int),k≤l.length∧i=.int .i64 (k:Int)∧out.length=x.length+k∧Hid (Dd n x=some (Hv out (L.drop k)))∧Hid (Ag wr w5.heap.size ov out)∧Hid (Below w5.heap.size w5 wr)) (fun _ i _=>l.length-(intOf i).toNat)
 case atStart=>exact⟨0,x,Nat.zero_le _,rfl,rfl,E,HR6,HB6⟩
 case round=>
  obtain⟨k,out,hk,rfl,hol,hF,hO,hW⟩:=hrel;have HWr:=hid (HBw.out _ (HW5.out.trans (hW.out.mono HW5.out.size)));obtain⟨ao,co,rfl⟩:=hO.out.form;have HOL:=hid hol;clear hol;by_cases hkl:k<l.length
  ·have hki:(k:Int)<(l.length:Int):=by omega
   have hkL:k<L.length:=by rw[HLl.out];exact hkl
   have hzr:=HLP.out _ (Am (zs:=L) hkL);have hzd:=HLD.out (L.length-k-1) k (by omega);obtain⟨j,hj⟩:∃j:Nat,L.getD k 0=(j:Int):=⟨(L.getD k 0).toNat,by omega⟩;have hjo:j≤out.length:=by have:=HOL.out;have:=HPN.out;have:=HLl.out;omega
   obtain⟨bp,op',hap,-,gp,up,-⟩:=Ai HI5.out hkL;subst hap;have up:=(hW.out.cell (p:=⟨bp,op'+k,none⟩) gp).trans up;have F2:=hid (Xn (out:=out) hkL hj);rw[hj]at up;clear hj hzr hzd gp;have G:=hid (hF.out.trans (congrArg some F2.out));have HOA:=hid (hO.out.below ((Below.refl wr.heap.size wr).alloc (Nat.le_refl _) (.cells #[.int .i64 1] 3)));have HWA:Hid (Below w5.heap.size w5 (wr.alloc (.cells #[.int .i64 1] 3))):=hid (hW.out.alloc hW.out.size _);have HI:=hid (QM (x:=1) (vb:=wr.heap.size) HOA.out HWA.out.size hjo (by have:=HOL.out;have:=HPN.out;omega) (Ac.new _ _ _) (fun g hg=>by have:=(hO.out.own.lt g hg).2;omega));clear F2;go_wp2_with fail
   refine HI.out.mono ?_;rintro e w9⟨v9,rfl,hr9,B9⟩;have HR9:=hid hr9;have HB9:=hid (HWA.out.trans B9);have HOL2:Hid ((out.take j++1::out.drop j).length=x.length+(k+1)):=hid (by have:=HOL.out;simp;omega);clear hr9 B9 HI up HOA HWA;generalize out.take j++1::out.drop j=out2 at*;obtain⟨a9,c9,rfl⟩:=HR9.out.form;go_wp2_with fail
   go_roundw
   case rel=>exact⟨k+1,out2,by omega,by go_num,HOL2.out,G,HR9,HB9⟩
   case measure=>simp[intOf];omega
  ·have hki:¬(k:Int)<(l.length:Int):=by omega
   have G:=hid (hF.out.trans (congrArg some (Yr (by rw[HLl.out];exact hkl))));have HRw:Hid (Ag wr w.heap.size (.slice ao out.length co) out):=hid (hO.out.base (HBw.out _ HW5.out).size);go_wp2
   go_ret
   exact AY.yes G.out HWr.out HRw.out
end
section
theorem JM{P:Program}{w:World}{t ty e:TypeId}{i:TypeInfo}{z:Value}(ht:P.underlying t=some (.slice e))(hi:P.info? e=some i)(hz:i.zero=some z)
  (hsize:i.size=1) (hby:i.bytes=8) (hzs:z.cells.size=1) {base n:Nat} {v:Value} {xs:List Value} (hown:w.ownsRow base e 1 v n xs) {xv:Value} {zs:List Int} (hI:Aa w xv zs)
  (h63:n+zs.length≤maxLen) (hbytes:(n+zs.length)*8≤140737488355328) (hbase:base≤w.heap.size) :
  ∃v' w',(Builtin.append_ #[t,t] ty #[v,xv]).run P w=.ok v' w'∧w'.ownsRow base e 1 v' (n+zs.length) (xs++zs.map (Value.int .i64))∧w.grownBy w' v.ownBlock:=by
 cases hI with
 | empty a0 cap=>
  cases a0 with
  | none=>
   refine⟨v,w,?_,by simpa using hown,⟨rfl,rfl,rfl,Nat.le_refl _,fun _ _ _=>rfl⟩⟩;rcases hown.2 with⟨rfl,rfl⟩| ⟨g,cp,cur,rfl,_,_,hnc,_⟩
   ·simp[Builtin.append_,run_underlying ht,sizeOf,typeInfo,hi,Builtin.lenOf,Builtin.firstCells]
   ·simp[Builtin.append_,run_underlying ht,sizeOf,typeInfo,hi,Builtin.lenOf,Builtin.firstCells,hnc,storeCells]
  | some ad=>
   obtain⟨v',w',hr,h2,h3,_,h5⟩:=run_append_own_at (P:=P) w base t ty e i z 1 8 ht hi hz hsize hby hzs (by decide) v n xs hown ad 0 cap [] (by simp) (fun j u hu=>by simp at hu) (fun u hu=>by simp at hu) h63 hbytes hbase;exact⟨v',w',hr,by simpa using h2,h3⟩
 | row b off cap _ h0 hc hb hr hlen hw=>
  obtain⟨v',w',hr',h2,h3,_,h5⟩:=run_append_own_at (P:=P) w base t ty e i z 1 8 ht hi hz hsize hby hzs (by decide) v n xs hown ⟨b,off,none⟩ zs.length cap (zs.map (Value.int .i64)) (by simp) (Je hr) (Oe zs) h63 hbytes hbase;exact⟨v',w',hr',h2,h3⟩
theorem Hi{P:Program}{w:World}{ops:Array Oper}{rest:List Oper}{o:Oper}{a:Act}{Q:Exit→Act→World→Prop}(hgd:o.guard=none)(s x:Operand)(t:TypeId)
  (ho:o.op=.call { callee:=.builtin .append,args:=#[s,x],argTypes:=#[t,t] })
  {e:TypeId} {i:TypeInfo} {z:Value} (ht:P.underlying t=some (.slice e)) (hi:P.info? e=some i) (hz:i.zero=some z)
  (hsize:i.size=1) (hby:i.bytes=8) (hzs:z.cells.size=1) {base n:Nat} {v:Value} {xs:List Value} {xv:Value} {zs:List Int} (hs:a.eval s=v) (hx:a.eval x=xv) (hown:w.ownsRow base e 1 v n xs) (hI:Aa w xv zs)
  (h63:n+zs.length≤maxLen) (hbytes:(n+zs.length)*8≤140737488355328) (hbase:base≤w.heap.size)
  (h:∀v' w',w'.ownsRow base e 1 v' (n+zs.length) (xs++zs.map (Value.int .i64))→w.grownBy w' v.ownBlock→wpList P ops Q rest (a.put o.dst v') w'):wpList P ops Q (o::rest) a w:=by
 refine wpList_plain hgd fun K hK=>?_;obtain⟨v',w',hr,h2,h3⟩:=JM (P:=P) (ty:=o.type) ht hi hz hsize hby hzs hown hI h63 hbytes hbase;unfold Oper.wp execOp;simp only[ho,resolve,invoke,builtin,Sem.run_bind,Sem.run_pure,Result.andThen_ok,List.map_toArray,List.map_cons,List.map_nil,hs,hx,hr];exact hK _ _ (h v' w' h2 h3)
def G8.ren:Go.Shelf.Ren:=⟨fun|4=>170|n=>n,fun|0=>0|3=>3|4=>4|9=>9|20=>20 |22=>29|25=>3|n=>n,fun|n=>n⟩
theorem G8.lays:Go.Proofs.Lays8.n4 Tryz.prog G8.ren:={
 mixed:=by kernel_rfl
 f4:=⟨Tryz.f170.name,by decide,Tryz.func170.trans (congrArg some (by kernel_rfl))⟩
 t0:=Tryz.underlying0
 a0:=Tryz.isAgg0
 z0:=Tryz.sizeOf0
 v0:=Tryz.zeroValue0
 t3:=Tryz.underlying3
 a3:=Tryz.isAgg3
 z3:=Tryz.sizeOf3
 v3:=Tryz.zeroValue3
 t4:=Tryz.underlying4
 a4:=Tryz.isAgg4
 z4:=Tryz.sizeOf4
 v4:=Tryz.zeroValue4
 t9:=Tryz.underlying9
 a9:=Tryz.isAgg9
 z9:=Tryz.sizeOf9
 v9:=Tryz.zeroValue9
 t20:=Tryz.underlying20
 a20:=Tryz.isAgg20
 z20:=Tryz.sizeOf20
 v20:=Tryz.zeroValue20
 t22:=Tryz.underlying29
 a22:=Tryz.isAgg29
 z22:=Tryz.sizeOf29
 v22:=Tryz.zeroValue29 }
theorem U7(n:Nat)(hn:n*8≤140737488355328)(w:World) :
  Calls Tryz.prog 170 #[.slice none 0 0,.int .i64 (n:Int)] w fun e w'=>∃v',e=.returned v'∧Ag w' w.heap.size v' []∧Below w.heap.size w w':=by
 obtain⟨i0,hi,hz0,hz1,hz2⟩:=info_parts AI;by_cases h:n=0
 ·subst h;refine(Any8.slices_Grow_room G8.lays none 0 0 0 w (Nat.le_refl _) (by decide) (by decide) (Nat.le_refl _)).mono ?_;rintro e w'⟨rfl,rfl⟩;exact⟨_,rfl,Ag.nil _ _,Below.refl _ _⟩
 ·refine(Any8.slices_Grow_grow G8.lays i0 (.int .i64 0) hi hz0 (by rw[hz1];decide) none 0 0 n [] w (Nat.le_refl _) (by omega) (by rw[hz2];omega) (by omega) (by simp) (fun _=>rfl) (fun a e=>by cases e)).mono ?_;rintro e w'⟨rfl,rfl⟩;have hge:=grownCap_ge w (0+n) 0 (G8.ren.t 25);have hmx:=grownCap_le_maxLen w (0+n) 0 (G8.ren.t 25) (by unfold maxLen;omega);refine⟨_,rfl,?_,((Below.refl w.heap.size w).drew).alloc (Nat.le_refl _) _⟩;generalize grownCap w (0+n) 0 (G8.ren.t 25)=c at hge hmx⊢;refine Np (W:=w.drew) (Nat.le_refl _) ?_ (Nat.zero_le _) hmx rfl (by simp);rw[Array.size_append,Array.size_append,size_zeroCells,size_zeroCells];simp[Value.cells];omega
def Wz(ls:List (List Int))(k:Nat):Nat:=(ls.take k).flatten.length
theorem U8{ls:List (List Int)}{k:Nat}{l:List Int}(h:ls[k]?=some l):Wz ls (k+1)=Wz ls k+l.length:=by
 unfold Wz;rw[List.take_add_one,h];simp
theorem Ys(ls:List (List Int))(k:Nat):Wz ls k≤ls.flatten.length:=by
 unfold Wz;have h:ls.flatten.length=(ls.take k).flatten.length+(ls.drop k).flatten.length:=by
  rw[←List.length_append,←List.flatten_append,List.take_append_drop]
 omega
theorem To{ls:List (List Int)}{k:Nat}{l:List Int}(h:ls[k]?=some l):(ls.take (k+1)).flatten=(ls.take k).flatten++l:=by
 rw[List.take_add_one,h];simp
attribute [local irreducible] Ag Wz
theorem O7{w:World}{b:Nat}{us:List Value}{ls:List (List Int)}(hb:Ac w b us.toArray 29)(hl:us.length=ls.length)(h:∀(k:Nat) (v:Value) (l:List Int),us[k]?=some v→ls[k]?=some l→Aa w v l)(hs:ls.flatten.length*8≤140737488351232)(hu:us.length≤1000000) :
  Calls Tryz.prog 120 #[.slice (some ⟨b,0,none⟩) us.length us.length] w fun e w'=>∃v',e=.returned v'∧Ag w' w.heap.size v' ls.flatten∧Below w.heap.size w w':=by
 obtain⟨i0,hi,hz0,hz1,hz2⟩:=info_parts AI;have HB:=hid hb;have HL:=hid hl;have HH:=hid h;have HT:=hid (fun k=>Ys ls k);have HS:=hid hs;have hbl:b<w.heap.size:=hb.lt;clear hb hl h hs;go_enter Tryz.func120,Tryz.ntmps120
 go_wp2_with fail
 go_loopw [3,11] (fun s i wr=>∃(k q:Nat),k≤us.length∧i=.int .i64 (k:Int)∧s=.int .i64 (q:Int)∧Hid (q=Wz ls k)∧Hid (Below w.heap.size w wr)) (fun _ i _=>us.length-(intOf i).toNat)
 case atStart=>exact⟨0,0,Nat.zero_le _,rfl,rfl,hid (by unfold Wz;simp),hid (Below.refl _ _)⟩
 obtain⟨k,q,hk,rfl,rfl,hQ,hW⟩:=hrel;by_cases hkl:k<us.length
 case pos=>
  have hki:(k:Int)<(us.length:Int):=by omega
  obtain⟨u,hu'⟩:∃u,us[k]?=some u:=⟨_,List.getElem?_eq_getElem hkl⟩;obtain⟨l,hl'⟩:∃l,ls[k]?=some l:=⟨_,List.getElem?_eq_getElem (by have:=HL.out;omega)⟩;have hI:=HH.out k u l hu' hl';obtain⟨a,c,rfl⟩:=hI.shape;have hc:=(hW.out.cell (p:=⟨b,k,none⟩) hbl).trans (HB.out.cell k (v:=.slice a l.length c) (by simpa using hu'));have hq2:Hid (q+l.length=Wz ls (k+1)):=hid (by rw[U8 hl',hQ.out]);have hle:=HT.out (k+1);rw[←hq2.out]at hle;have hsb:=HS.out;have hw1:IntKind.i64.wrap ((q:Int)+(l.length:Int))=((q+l.length:Nat):Int):=by rw[IntKind.wrap_i64];omega
  have hw2:¬(((q+l.length:Nat):Int)<0):=by omega
  clear hI hu' hl' hle hsb;generalize q+l.length=q2 at*;go_wp2_with fail
  go_roundw
  case rel=>exact⟨k+1,q2,by omega,by go_num,rfl,hq2,hW⟩
  case measure=>simp[intOf];omega
 have hki:¬(k:Int)<(us.length:Int):=by omega
 obtain rfl:k=us.length:=by omega
 have hqb:q*8≤140737488355328:=by have:=hQ.out;have:=HT.out us.length;have:=HS.out;omega
 have HG:=hid (U7 q hqb wr);go_wp2_with fail
 refine HG.out.mono ?_;rintro e w2⟨v2,rfl,hr2,B2⟩;have HR2:Hid (Ag w2 w.heap.size v2 []):=hid (hr2.base hW.out.size);have HB2:=hid (hW.out.trans (B2.mono hW.out.size));clear hr2 B2 HG hqb hki hkl hk hQ hW;go_wp2_with fail
 go_loopw [6,27] (fun ov i wr=>∃(k:Nat),k≤us.length∧i=.int .i64 (k:Int)∧Hid (Ag wr w.heap.size ov (ls.take k).flatten)∧Hid (Below w.heap.size w wr)) (fun _ i _=>us.length-(intOf i).toNat)
 case atStart=>exact⟨0,Nat.zero_le _,rfl,HR2,HB2⟩
 obtain⟨k,hk,rfl,hO,hW⟩:=hrel;by_cases hkl:k<us.length
 case pos=>
  have hki:(k:Int)<(us.length:Int):=by omega
  obtain⟨u,hu'⟩:∃u,us[k]?=some u:=⟨_,List.getElem?_eq_getElem hkl⟩;obtain⟨l,hl'⟩:∃l,ls[k]?=some l:=⟨_,List.getElem?_eq_getElem (by have:=HL.out;omega)⟩;have hI:=HH.out k u l hu' hl';have HI:=hid (hI.below hW.out);obtain⟨a,c,rfl⟩:=hI.shape;have hc:=(hW.out.cell (p:=⟨b,k,none⟩) hbl).trans (HB.out.cell k (v:=.slice a l.length c) (by simpa using hu'));have HN:Hid ((ls.take (k+1)).flatten=(ls.take k).flatten++l):=hid (To hl');have hle:=HT.out (k+1);have hsb:=HS.out;have hlen:(ls.take k).flatten.length+l.length≤ls.flatten.length:=by unfold Wz at hle;rw[HN.out,List.length_append]at hle;exact hle
  clear hI hu' hl' hle;generalize ls.flatten.length=FL at*;generalize (ls.take k).flatten=A at*;obtain⟨ao,co,rfl⟩:=hO.out.form;have hsw:=hW.out.size;go_wp2_with (at_builtin;refine Hi rfl _ _ 29 rfl Tryz.underlying29 hi hz0 hz1 hz2 rfl rfl rfl hO.out.own HI.out ?A3 ?A4 ?A5 ?_)
  case A3=>unfold maxLen;omega
  case A4=>omega
  case A5=>omega
  intro v' w4 hown' hgrow;have HB4:Hid (Below w.heap.size w w4):=hid (hW.out.grown hgrow hsw fun g hg=>(hO.out.own.lt g hg).1);have HR4:Hid (Ag w4 w.heap.size v' (ls.take (k+1)).flatten):=hid (by rw[HN.out];unfold Ag;rw[List.length_append,List.map_append];exact hown');clear hown' hgrow HN;go_wp2_with fail
  go_roundw
  case rel=>exact⟨k+1,by omega,by go_num,HR4,HB4⟩
  case measure=>simp[intOf];omega
 have hki:¬(k:Int)<(us.length:Int):=by omega
 go_wp2
 go_ret
 exact⟨_,rfl,by have:=hO.out;rwa [List.take_of_length_le (by have:=HL.out;omega)]at this,hW.out⟩
end
section
def BK:ByteArray:=⟨#[115,104,97,112,101]⟩
def Hj(x:List Int)(i:Nat)(left d:Int):Int×Int:=if d=-1∧left<0 then((i:Int),1)else if d=0∧i<x.length then(left,x.getD i 0)else(left,d)
def EO(x:List Int):Nat→Int→Int→List Int→List Int→Option (Int×Int×List Int)
 | _,left,prod,out,[]=>some (left,prod,out)
 | i,left,prod,out,d::l=>
  if 1≤(Hj x i left d).2∧(Hj x i left d).2≤65536 then(if prod*(Hj x i left d).2≤65536 then EO x (i+1) (Hj x i left d).1 (prod*(Hj x i left d).2) (out++[(Hj x i left d).2]) l else none)else none
def Nq(x:List Int)(r:Int×Int×List Int):Option (List Int):=
 if 0≤r.1 then(if((AK x).1).tmod r.2.1=0 then some (r.2.2.set r.1.toNat (((AK x).1).tdiv r.2.1))else none)else if(AK x).1=r.2.1 then some r.2.2 else none
def Bv(n:Nd)(x:List Int):Option (List Int):=match EO x 0 (-1) 1 [] (Af n.attrs BK [])with |none=>none|some r=>Nq x r
theorem RX{x l:List Int}{k i:Nat}{left prod:Int}{out:List Int}(h:¬k<l.length):EO x i left prod out (l.drop k)=some (left,prod,out):=by
 rw[List.drop_eq_nil_of_le (by omega),EO]
theorem RY{x l:List Int}{k:Nat}{left prod q p:Int}{out:List Int}(hk:k<l.length)(hs:Hj x k left (l.getD k 0)=(q,p))(h:¬(1≤p∧p≤65536)):EO x k left prod out (l.drop k)=none:=by
 rw[Bs hk,EO,hs];exact if_neg h
theorem RZ{x l:List Int}{k:Nat}{left prod q p:Int}{out:List Int}(hk:k<l.length)(hs:Hj x k left (l.getD k 0)=(q,p))(h:1≤p∧p≤65536)(g:¬prod*p≤65536):EO x k left prod out (l.drop k)=none:=by
 rw[Bs hk,EO,hs];simp only[];rw[if_pos h,if_neg g]
theorem O8{x l:List Int}{k:Nat}{left prod q p:Int}{out:List Int}(hk:k<l.length)(hs:Hj x k left (l.getD k 0)=(q,p))(h:1≤p∧p≤65536)(g:prod*p≤65536):EO x k left prod out (l.drop k)=EO x (k+1) q (prod*p) (out++[p]) (l.drop (k+1)):=by
 rw[Bs hk,EO,hs];simp only[];rw[if_pos h,if_pos g]
theorem ES{n:Nd}{x l:List Int}(e:Af n.attrs BK []=l)(h:EO x 0 (-1) 1 [] l=none):Bv n x=none:=by subst e;unfold Bv;rw[h]
theorem O9{n:Nd}{x l:List Int}{r:Int×Int×List Int}(e:Af n.attrs BK []=l)(h:EO x 0 (-1) 1 [] l=some r):Bv n x=Nq x r:=by subst e;unfold Bv;rw[h]
attribute [local irreducible] Af EO Hj Bv Nq AK Ag
theorem Pa{w:World}{v vx:Value}{n:Nd}{ins:List Vl}{x:List Int}(h:BF w v n ins)(hx:Aa w vx x)(hsm:Sm x) :
  Calls Tryz.prog 116 #[v,vx] w fun e w'=>AY w (Bv n x) e w':=by
 obtain⟨i0,hi,hz0,hz1,hz2⟩:=info_parts AI;obtain⟨vin,vat,vv,rfl,hm⟩:=h;obtain⟨a1,c1,rfl⟩:=hm.node.is.form;obtain⟨a2,c2,rfl⟩:=hm.node.ia.form;obtain⟨a3,c3,rfl⟩:=hm.ins.form;have HM:=hid hm;clear hm;obtain⟨a4,c4,rfl⟩:=hx.shape;have hxl:=hx.wf.1;have hxc:=hx.capI.2;have HX:=hid hx;clear hx;have HY:=hid (fun(W:World)=>Ao W);have HNo:=hid (fun(W:World)=>Aw W);have HB1:=hid ((Below.refl w.heap.size w).alloc (Nat.le_refl _) (Obj.cells #[.string n.op,.string n.name,.slice a1 n.ins.length c1,.string n.out,.slice a2 n.attrs.length c2,.slice a3 ins.length c3] 55));have HA1:=hid (Ac.new w #[.string n.op,.string n.name,.slice a1 n.ins.length c1,.string n.out,.slice a2 n.attrs.length c2,.slice a3 ins.length c3] 55);have HSm:=hid hsm;clear hsm;go_enter Tryz.func116,Tryz.ntmps116
 go_wp2_with fail
 generalize World.alloc w (Obj.cells #[.string n.op,.string n.name,.slice a1 n.ins.length c1,.string n.out,.slice a2 n.attrs.length c2,.slice a3 ins.length c3] 55)=W1 at HB1 HA1⊢;refine(CR (n:=n) ⟨_,_,rfl,(HM.out.below HB1.out).node⟩ BK (.empty none 0)).mono ?_;rintro e w3⟨v3,rfl,hr3,B3⟩;have HB3:=hid (HB1.out.trans (B3.mono HB1.out.size));have hok:=BS (nm:=BK) (other:=[]) (v:=.agg #[.string n.op,.string n.name,.slice a1 n.ins.length c1,.string n.out,.slice a2 n.attrs.length c2]) ⟨_,_,rfl,HM.out.node⟩ (by simp) (by simp);obtain⟨l,hle⟩:∃l,Af n.attrs BK []=l:=⟨_,rfl⟩;rw[hle]at hr3 hok;have HLe:=hid hle;have HI3:Hid (Aa w3 v3 l):=hid (BI.ints (B:=W1.heap.size) (by unfold BI;exact hr3) hok.1 hok.2);have hll:=hok.1;have HOk:=hid hok.2;obtain⟨a6,c6,rfl⟩:=HI3.out.shape;clear hle hr3 hok B3 HA1;go_wp2_with fail
 go_loopw [5,6,7,15] (fun lv pv ov i wr=>∃(k:Nat) (left prod:Int) (out:List Int),k≤l.length∧i=.int .i64 (k:Int)∧lv=.int .i64 left∧pv=.int .i64 prod∧ -1≤left∧left<(k:Int)∧1≤prod∧prod≤65536∧out.length=k∧Hid (EO x 0 (-1) 1 [] l=EO x k left prod out (l.drop k))∧Hid (Ag wr w3.heap.size ov out)∧Hid (Below w3.heap.size w3 wr)) (fun _ _ _ i _=>l.length-(intOf i).toNat)
 case atStart=>exact⟨0,-1,1,[],Nat.zero_le _,rfl,rfl,rfl,by omega,by omega,by omega,by omega,rfl,hid rfl,hid (Ag.nil _ _),hid (Below.refl _ _)⟩
 case round=>
  obtain⟨k,left,prod,out,hk,rfl,rfl,rfl,hl0,hl1,hp0,hp1,hol,hF,hO,hW⟩:=hrel;have HBr:=hid (HB3.out.trans (hW.out.mono HB3.out.size));obtain⟨ao,co,hov⟩:=hO.out.form;subst hov;have hsw:=hW.out.size;have HOL:=hid hol;rw[hol];have holk:out.length≤k:=by omega
  clear hol;by_cases hkl:k<l.length
  ·have hki:(k:Int)<(l.length:Int):=by omega
   obtain⟨bl,ol,hal,-,gl,ul,-⟩:=Ai HI3.out hkl;subst hal;have ul:=(hW.out.cell (p:=⟨bl,ol+k,none⟩) gl).trans ul;have F1:=hid (fun q p h1 h2=>RY (x:=x) (left:=left) (prod:=prod) (out:=out) (q:=q) (p:=p) hkl h1 h2);have F2:=hid (fun q p h1 h2 h3=>RZ (x:=x) (left:=left) (prod:=prod) (out:=out) (q:=q) (p:=p) hkl h1 h2 h3);have F3:=hid (fun q p h1 h2 h3=>O8 (x:=x) (left:=left) (prod:=prod) (out:=out) (q:=q) (p:=p) hkl h1 h2 h3);have FS:=hid (show Hj x k left (l.getD k 0)=if l.getD k 0=-1∧left<0 then((k:Int),1)else if l.getD k 0=0∧k<x.length then(left,x.getD k 0)else(left,l.getD k 0) by unfold Hj;rfl);generalize l.getD k 0=d at*;have hOo:Hid (wr.ownsRow w3.heap.size 3 1 (.slice ao k co) k (out.map (Value.int .i64))):=hid (by have:=hO.out.own;rw[HOL.out]at this;exact this);have hO:Hid (Ag wr w3.heap.size (.slice ao k co) out):=hid (by have:=hO.out;rw[HOL.out]at this;exact this);by_cases c1:d=-1∧left<0
   ·have hrs:=FS.out.trans (if_pos c1);obtain⟨c1a,c1b⟩:=c1;subst c1a;have G:=hid (hF.out.trans (F3.out _ _ hrs ⟨by decide,by decide⟩ (by omega)));have hlb:decide (left<0)=true:=by simpa using c1b
    rw[Int.mul_one]at G;clear hrs F1 F2 F3 FS;go_wp2_with fail
    refine(HY.out _).mono ?_;rintro e w'⟨rfl,rfl⟩;go_wp2_with fail
    refine(HY.out _).mono ?_;rintro e w'⟨rfl,rfl⟩;go_wp2_with (at_builtin;refine wpList_append_own _ rfl _ _ 29 rfl w3.heap.size 3 i0 (.int .i64 0) 1 8 Tryz.underlying29 hi hz0 hz1 hz2 rfl (by decide) _ _ _ rfl (hOo.out.alloc _) ⟨w'.heap.size,0,none⟩ 1 1 (#[.int .i64 1]:Array Value).toList rfl rfl (World.news_of_block (heap_alloc_new w' _)) (by simp[Value.oneCell']) ?A3 ?A4 ?A5 ?_)
    case A3=>unfold maxLen;omega
    case A4=>omega
    case A5=>first|(simp;omega)|omega
    intro v' w4 hown' hgrow _;have hb4:Hid (Below w3.heap.size w3 w4):=hid ((hW.out.alloc hsw _).grown hgrow (by simp;omega) fun g hg=>(hOo.out.lt g hg).1);have ho4:Hid (Ag w4 w3.heap.size v' (out++[1])):=hid (Ag.push (zs:=out) hO.out (by rw[HOL.out];exact hown'));have hl4:Hid ((out++[1]).length=k+1):=hid (by rw[List.length_append,HOL.out];rfl);clear hown' hgrow;go_wp2_with fail
    go_roundw
    case rel=>exact⟨k+1,(k:Int),prod,out++[1],by omega,by go_num,by first|rfl|go_num,by first|rfl|go_num,by omega,by omega,by omega,by omega,hl4.out,G,ho4,hb4⟩
    case measure=>simp[intOf];omega
   by_cases c2:d=0∧k<x.length
   ·have hrs:=hid (FS.out.trans ((if_neg c1).trans (if_pos c2)));obtain⟨c2a,c2b⟩:=c2;subst c2a;have rp:=HSm.out.at c2b;obtain⟨bx,ox,hax,-,gx,ux,-⟩:=Ai HX.out c2b;subst hax;have ux:=(HBr.out.cell (p:=⟨bx,ox+k,none⟩) gx).trans ux;have hkx:(k:Int)<(x.length:Int):=by omega
    clear c1;generalize x.getD k 0=p at*;obtain⟨rp1,rp2⟩:=rp;have wpq:0≤prod*p∧prod*p≤4294967296:=by
     have h1:=Int.mul_nonneg (show 0≤prod by omega) (show 0≤p by omega);have h2:=Int.mul_le_mul (show prod≤65536 by omega) (show p≤65536 by omega) (by omega) (by omega);omega
    have wpq1:1≤prod*p:=by
     have:=Int.mul_le_mul (show(1:Int)≤prod by omega) (show(1:Int)≤p by omega) (by omega) (by omega);omega
    go_wp2_with fail
    refine(HY.out _).mono ?_;rintro e w'⟨rfl,rfl⟩;go_wp2_with fail
    have hwr:wrap64 (prod*p)=prod*p:=by unfold wrap64;omega
    try rw[hwr]
    clear hwr;by_cases c9:prod*p≤65536
    ·have G:=hid (hF.out.trans (F3.out _ _ hrs.out ⟨by omega,by omega⟩ c9));have c9b:decide (prod*p≤65536)=true:=by simpa using c9
     clear F1 F2 F3 FS;generalize prod*p=pr at*;rw[c9b];refine(HY.out _).mono ?_;rintro e w'⟨rfl,rfl⟩;go_wp2_with (at_builtin;refine wpList_append_own _ rfl _ _ 29 rfl w3.heap.size 3 i0 (.int .i64 0) 1 8 Tryz.underlying29 hi hz0 hz1 hz2 rfl (by decide) _ _ _ rfl (hOo.out.alloc _) ⟨w'.heap.size,0,none⟩ 1 1 (#[.int .i64 p]:Array Value).toList rfl rfl (World.news_of_block (heap_alloc_new w' _)) (by simp[Value.oneCell']) ?A3 ?A4 ?A5 ?_)
     case A3=>unfold maxLen;omega
     case A4=>omega
     case A5=>first|(simp;omega)|omega
     intro v' w4 hown' hgrow _;have hb4:Hid (Below w3.heap.size w3 w4):=hid ((hW.out.alloc hsw _).grown hgrow (by simp;omega) fun g hg=>(hOo.out.lt g hg).1);have ho4:Hid (Ag w4 w3.heap.size v' (out++[p])):=hid (Ag.push (zs:=out) hO.out (by rw[HOL.out];exact hown'));have hl4:Hid ((out++[p]).length=k+1):=hid (by rw[List.length_append,HOL.out];rfl);clear hown' hgrow;go_wp2_with fail
     go_roundw
     case rel=>exact⟨k+1,left,pr,out++[p],by omega,by go_num,by first|rfl|go_num,by first|rfl|go_num,by omega,by omega,by omega,by omega,hl4.out,G,ho4,hb4⟩
     case measure=>simp[intOf];omega
    ·have G:=hid (hF.out.trans (F2.out _ _ hrs.out ⟨by omega,by omega⟩ (by omega)));have c9b:decide (prod*p≤65536)=false:=by simpa using c9
     clear F1 F2 F3 FS;generalize prod*p=pr at*;rw[c9b];refine(HNo.out _).mono ?_;rintro e w'⟨rfl,rfl⟩;exact⟨rfl,AY.no (ES HLe.out G.out) HBr.out⟩
   have hrs:=hid (FS.out.trans ((if_neg c1).trans (if_neg c2)));by_cases d1:d=-1
   ·subst d1;have hlb:decide (left<0)=false:=by
     have:¬left<0:=fun c=>c1 ⟨rfl,c⟩
     simpa using this
    clear c1 c2;clear F2 F3 FS;go_wp2_with fail
    refine(HNo.out _).mono ?_;rintro e w'⟨rfl,rfl⟩;exact⟨rfl,AY.no (ES HLe.out (hF.out.trans (F1.out _ _ hrs.out (by omega)))) HBr.out⟩
   by_cases d0:d=0
   ·subst d0;have hkx:¬(k:Int)<(x.length:Int):=by
     have:¬k<x.length:=fun c=>c2 ⟨rfl,c⟩;omega
    clear c1 c2;clear F2 F3 FS;go_wp2_with fail
    refine(HNo.out _).mono ?_;rintro e w'⟨rfl,rfl⟩;exact⟨rfl,AY.no (ES HLe.out (hF.out.trans (F1.out _ _ hrs.out (by omega)))) HBr.out⟩
   have d1b:(d== -1)=false:=by simpa using d1
   have d0b:(d==0)=false:=by simpa using d0
   clear c1 c2;by_cases r1:1≤d
   case neg=>
    have r1b:decide (1≤d)=false:=by simpa using r1
    clear F2 F3 FS;go_wp2_with fail
    refine(HNo.out _).mono ?_;rintro e w'⟨rfl,rfl⟩;exact⟨rfl,AY.no (ES HLe.out (hF.out.trans (F1.out _ _ hrs.out (by omega)))) HBr.out⟩
   by_cases r2:d≤65536
   case neg=>
    have r2b:decide (d≤65536)=false:=by simpa using r2
    clear F2 F3 FS;go_wp2_with fail
    refine(HNo.out _).mono ?_;rintro e w'⟨rfl,rfl⟩;exact⟨rfl,AY.no (ES HLe.out (hF.out.trans (F1.out _ _ hrs.out (by omega)))) HBr.out⟩
   have wpq:0≤prod*d∧prod*d≤4294967296:=by
    have h1:=Int.mul_nonneg (show 0≤prod by omega) (show 0≤d by omega);have h2:=Int.mul_le_mul (show prod≤65536 by omega) (show d≤65536 by omega) (by omega) (by omega);omega
   have wpq1:1≤prod*d:=by
    have:=Int.mul_le_mul (show(1:Int)≤prod by omega) (show(1:Int)≤d by omega) (by omega) (by omega);omega
   go_wp2_with fail
   refine(HY.out _).mono ?_;rintro e w'⟨rfl,rfl⟩;go_wp2_with fail
   have hwr:wrap64 (prod*d)=prod*d:=by unfold wrap64;omega
   try rw[hwr]
   clear hwr;by_cases c9:prod*d≤65536
   ·have G:=hid (hF.out.trans (F3.out _ _ hrs.out ⟨by omega,by omega⟩ c9));have c9b:decide (prod*d≤65536)=true:=by simpa using c9
    clear F1 F2 F3 FS;generalize prod*d=pr at*;rw[c9b];refine(HY.out _).mono ?_;rintro e w'⟨rfl,rfl⟩;go_wp2_with (at_builtin;refine wpList_append_own _ rfl _ _ 29 rfl w3.heap.size 3 i0 (.int .i64 0) 1 8 Tryz.underlying29 hi hz0 hz1 hz2 rfl (by decide) _ _ _ rfl (hOo.out.alloc _) ⟨w'.heap.size,0,none⟩ 1 1 (#[.int .i64 d]:Array Value).toList rfl rfl (World.news_of_block (heap_alloc_new w' _)) (by simp[Value.oneCell']) ?A3 ?A4 ?A5 ?_)
    case A3=>unfold maxLen;omega
    case A4=>omega
    case A5=>first|(simp;omega)|omega
    intro v' w4 hown' hgrow _;have hb4:Hid (Below w3.heap.size w3 w4):=hid ((hW.out.alloc hsw _).grown hgrow (by simp;omega) fun g hg=>(hOo.out.lt g hg).1);have ho4:Hid (Ag w4 w3.heap.size v' (out++[d])):=hid (Ag.push (zs:=out) hO.out (by rw[HOL.out];exact hown'));have hl4:Hid ((out++[d]).length=k+1):=hid (by rw[List.length_append,HOL.out];rfl);clear hown' hgrow;go_wp2_with fail
    go_roundw
    case rel=>exact⟨k+1,left,pr,out++[d],by omega,by go_num,by first|rfl|go_num,by first|rfl|go_num,by omega,by omega,by omega,by omega,hl4.out,G,ho4,hb4⟩
    case measure=>simp[intOf];omega
   ·have G:=hid (hF.out.trans (F2.out _ _ hrs.out ⟨by omega,by omega⟩ (by omega)));have c9b:decide (prod*d≤65536)=false:=by simpa using c9
    clear F1 F2 F3 FS;generalize prod*d=pr at*;rw[c9b];refine(HNo.out _).mono ?_;rintro e w'⟨rfl,rfl⟩;exact⟨rfl,AY.no (ES HLe.out G.out) HBr.out⟩
  ·have hki:¬(k:Int)<(l.length:Int):=by omega
   obtain rfl:k=l.length:=by omega
   have HF:=hid (O9 HLe.out (hF.out.trans (RX (Nat.lt_irrefl _))));have hL:=hid (And.intro hl0 hl1);have hO:Hid (Ag wr w3.heap.size (.slice ao l.length co) out):=hid (by have:=hO.out;rw[HOL.out]at this;exact this);have hcr:=JW x;go_wp2_with fail
   refine(EE (HX.out.below HBr.out)).mono ?_;rintro e w4⟨rfl,B4⟩;have HB4:=hid (HBr.out.trans (B4.mono HBr.out.size));have hO4:=hid (hO.out.below B4);have HE:Hid (Nq x (left,prod,out)=if 0≤left then(if((AK x).1).tmod prod=0 then some (out.set left.toNat (((AK x).1).tdiv prod))else none)else if(AK x).1=prod then some out else none):=hid (by unfold Nq;rfl);clear B4;generalize (AK x).1=q at*;have hp00:¬prod=0:=by omega
   have hpm:¬prod=-1:=by omega
   by_cases c0:0≤left
   ·have c0b:decide (0≤left)=true:=by simpa using c0
    have tq:0≤q.tmod prod∧q.tmod prod≤65536:=by
     rw[Int.tmod_eq_emod_of_nonneg (by omega)];have:=Int.emod_lt_of_pos q (show 0<prod by omega);have:=Int.emod_nonneg q hp00;omega
    have td:0≤q.tdiv prod∧q.tdiv prod≤65536:=by
     rw[Int.tdiv_eq_ediv_of_nonneg (by omega)];have h1:=Int.ediv_nonneg (show 0≤q by omega) (show 0≤prod by omega);have h2:=Int.ediv_le_self prod (show 0≤q by omega);omega
    by_cases c1:q.tmod prod=0
    ·have F:=hid (HF.out.trans (HE.out.trans ((if_pos c0).trans (if_pos c1))));obtain⟨j,hj⟩:∃j:Nat,(j:Int)=left:=⟨left.toNat,by omega⟩;have hjt:left.toNat=j:=by omega
     rw[hjt]at F;subst hj;obtain⟨g,hg,hgB,cg,zg,hst⟩:=(show Vb.Bj w3.heap.size w4 (.slice ao l.length co) out from by have:=hO4.out;unfold Ag at this;exact this).at HOL.out (by omega:j<l.length);subst hg;have HST:=hid (hst (q.tdiv prod));have c1b:(q.tmod prod==0)=true:=by simpa using c1
     have c1c:q%prod=0:=by rw[Int.tmod_eq_emod_of_nonneg (by omega)]at c1;exact c1
     have tde:q.tdiv prod=q/prod:=Int.tdiv_eq_ediv_of_nonneg (by omega);rw[tde]at HST F td;have hji:(j:Int)<(l.length:Int):=by omega
     have HRz:Hid (Ag (w4.setCell ⟨g,j,none⟩ (.int .i64 (q/prod))) w.heap.size (.slice (some ⟨g,0,none⟩) l.length co) (out.set j (q/prod))):=hid (by
      have h1:Ag (w4.setCell ⟨g,j,none⟩ (.int .i64 (q/prod))) w3.heap.size (.slice (some ⟨g,0,none⟩) l.length co) (out.set j (q/prod)):=by unfold Ag;exact HST.out
      exact h1.base HB3.out.size)
     have HBz:=hid (HB4.out.setCell (p:=⟨g,j,none⟩) (Nat.le_trans HB3.out.size hgB) (.int .i64 (q/prod)));clear hst c1 tq tde;go_wp2_with fail
     refine(HY.out _).mono ?_;rintro e w'⟨rfl,rfl⟩;go_wp2
     go_ret
     exact AY.yes F.out HBz.out HRz.out
    ·have F:=hid (HF.out.trans (HE.out.trans ((if_pos c0).trans (if_neg c1))));have c1b:(q.tmod prod==0)=false:=by simpa using c1
     have c1c:¬q%prod=0:=by rw[Int.tmod_eq_emod_of_nonneg (by omega)]at c1;exact c1
     have c1d:(q%prod==0)=false:=by simpa using c1c
     clear c1 c1c;go_wp2_with fail
     refine(HNo.out _).mono ?_;rintro e w'⟨rfl,rfl⟩;exact⟨rfl,AY.no F.out HB4.out⟩
   ·have c0b:decide (0≤left)=false:=by simpa using c0
    by_cases c1:q=prod
    ·have F:=hid (HF.out.trans (HE.out.trans ((if_neg c0).trans (if_pos c1))));have c1b:(q==prod)=true:=by simpa using c1
     clear c1;go_wp2_with fail
     refine(HY.out _).mono ?_;rintro e w'⟨rfl,rfl⟩;go_wp2
     go_ret
     exact AY.yes F.out HB4.out (hO4.out.base HB3.out.size)
    ·have F:=hid (HF.out.trans (HE.out.trans ((if_neg c0).trans (if_neg c1))));have c1b:(q==prod)=false:=by simpa using c1
     clear c1;go_wp2_with fail
     refine(HNo.out _).mono ?_;rintro e w'⟨rfl,rfl⟩;exact⟨rfl,AY.no F.out HB4.out⟩
end
end Go.Proofs.YtkkeehnldcdccaaGreatDoor
