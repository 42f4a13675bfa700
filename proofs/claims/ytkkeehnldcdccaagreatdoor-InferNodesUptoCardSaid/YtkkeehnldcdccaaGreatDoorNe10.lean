import Derived.Test.YtkkeehnldcdccaaGreatDoorNe09
set_option linter.unusedVariables false
set_option linter.unusedSimpArgs false
set_option maxRecDepth 100000
set_option maxHeartbeats 8000000
namespace Go.Proofs.YtkkeehnldcdccaaGreatDoor
open Go.Lib (hid)
namespace Vb
open Go.RowKit Vx Vx.Vw
def bk(zs:List Int)(i:Nat):Int:=if zs.length≤i then 1 else zs.getD (zs.length-1-i) 0
def CA(a b:List Int):List Int:=(List.range (max a.length b.length)).map fun j=>max (bk a (max a.length b.length-1-j)) (bk b (max a.length b.length-1-j))
def RK(a b:List Int)(i:Nat):Prop:=bk a i=bk b i∨bk a i=1∨bk b i=1
def Co(a b:List Int)(k:Nat):Prop:=∀i,i<k→RK a b i
instance (a b:List Int)(k:Nat):Decidable (Co a b k):=by unfold Co RK;infer_instance
def Bx(a b:List Int):Int×List Int:=if(AK a).2≠0 then((AK a).2,[])else if(AK b).2≠0 then((AK b).2,[])else if Co a b (max a.length b.length)then(if(AK (CA a b)).2≠0 then((AK (CA a b)).2,[])else(0,CA a b))else(4,[])
theorem Gf(a b:List Int):(CA a b).length=max a.length b.length:=by simp[CA]
theorem Kq{a b:List Int}{j:Nat}(h:j<max a.length b.length):(CA a b).getD j 0=max (bk a (max a.length b.length-1-j)) (bk b (max a.length b.length-1-j)):=by
 simp[CA,List.getD,h]
theorem L8(a b:List Int):CA a b=CA b a:=by
 unfold CA;rw[Nat.max_comm];apply List.map_congr_left;intro j _;exact Int.max_comm _ _
theorem Co.comm{a b:List Int}{k:Nat}(h:Co a b k):Co b a k:=fun i hi=>by
 rcases h i hi with h|h|h
 ·exact Or.inl h.symm
 ·exact Or.inr (Or.inr h)
 ·exact Or.inr (Or.inl h)
theorem Uu{zs:List Int}(h:∀z∈zs,Bf z)(i:Nat):Bf (bk zs i):=by
 unfold bk;by_cases h1:zs.length≤i
 ·rw[if_pos h1];constructor<;>decide
 ·rw[if_neg h1];exact Kp h _
theorem If{a b:List Int}(ha:∀z∈a,Bf z)(hb:∀z∈b,Bf z):∀z∈CA a b,Bf z:=by
 intro z hz;obtain⟨j,_,rfl⟩:=List.mem_map.1 hz;have h1:=Uu ha (max a.length b.length-1-j);have h2:=Uu hb (max a.length b.length-1-j);unfold Bf at*;omega
theorem Qr{zs:List Int}{i:Nat}(h:zs.length≤i):bk zs i=1:=by unfold bk;rw[if_pos h]
theorem RL{zs:List Int}{i:Nat}(h:i<zs.length):bk zs i=zs.getD (zs.length-1-i) 0:=by unfold bk;rw[if_neg (by omega)]
def FD(L S:List Int)(i:Nat)(xs:List Int):Prop:=xs.length=L.length∧(∀j,j<L.length-S.length+i→xs.getD j 0=(CA L S).getD j 0)∧(∀j,L.length-S.length+i≤j→xs.getD j 0=L.getD j 0)
theorem FD.len{L S xs:List Int}{i:Nat}(h:FD L S i xs):xs.length=L.length:=h.1
theorem FD.here{L S xs:List Int}{i:Nat}(h:FD L S i xs):xs.getD (L.length-S.length+i) 0=L.getD (L.length-S.length+i) 0:=h.2.2 _ (Nat.le_refl _)
theorem FD.zero{L S:List Int}(hL:b7 L)(hl:S.length≤L.length):FD L S 0 L:=by
 refine⟨rfl,fun j hj=>?_,fun j _=>rfl⟩;have hm:max L.length S.length=L.length:=by omega
 rw[Kq (by omega),hm,RL (by omega),Qr (zs:=S) (by omega),show L.length-1-(L.length-1-j)=j by omega];have:=hL _ (Am (zs:=L) (k:=j) (by omega));omega
theorem JV{L S:List Int}{i:Nat}(hl:S.length≤L.length)(hi:i<S.length):(CA L S).getD (L.length-S.length+i) 0=max (L.getD (L.length-S.length+i) 0) (S.getD i 0)∧(RK L S (S.length-1-i)↔(L.getD (L.length-S.length+i) 0=S.getD i 0∨L.getD (L.length-S.length+i) 0=1∨S.getD i 0=1)):=by
 have hm:max L.length S.length=L.length:=by omega
 have e1:bk L (S.length-1-i)=L.getD (L.length-S.length+i) 0:=by rw[RL (by omega),show L.length-1-(S.length-1-i)=L.length-S.length+i by omega]
 have e2:bk S (S.length-1-i)=S.getD i 0:=by rw[RL (by omega),show S.length-1-(S.length-1-i)=i by omega]
 refine⟨?_,by unfold RK;rw[e1,e2]⟩;rw[Kq (by omega),hm,show L.length-1-(L.length-S.length+i)=S.length-1-i by omega,e1,e2]
theorem FD.put{L S xs:List Int}{i:Nat}(h:FD L S i xs)(hl:S.length≤L.length)(hi:i<S.length)(h1:L.getD (L.length-S.length+i) 0=1)(h2:1≤S.getD i 0):FD L S (i+1) (xs.set (L.length-S.length+i) (S.getD i 0)):=by
 refine⟨by rw[List.length_set];exact h.1,fun j hj=>?_,fun j hj=>?_⟩
 ·by_cases e:j=L.length-S.length+i
  ·subst e;rw[(JV hl hi).1,h1];have:(xs.set (L.length-S.length+i) (S.getD i 0)).getD (L.length-S.length+i) 0=S.getD i 0:=by
    have hlt:L.length-S.length+i<xs.length:=by have:=h.1;omega
    simp[List.getD,hlt]
   rw[this];omega
  ·have:(xs.set (L.length-S.length+i) (S.getD i 0)).getD j 0=xs.getD j 0:=by simp[List.getD,List.getElem?_set_ne (Ne.symm e)]
   rw[this];exact h.2.1 j (by omega)
 ·have:(xs.set (L.length-S.length+i) (S.getD i 0)).getD j 0=xs.getD j 0:=by simp[List.getD,List.getElem?_set_ne (show L.length-S.length+i≠j by omega)]
  rw[this];exact h.2.2 j (by omega)
theorem FD.stay{L S xs:List Int}{i:Nat}(h:FD L S i xs)(hl:S.length≤L.length)(hi:i<S.length)(hL:1≤L.getD (L.length-S.length+i) 0)(h1:S.getD i 0=1∨S.getD i 0=L.getD (L.length-S.length+i) 0):FD L S (i+1) xs:=by
 refine⟨h.1,fun j hj=>?_,fun j hj=>h.2.2 j (by omega)⟩;by_cases e:j=L.length-S.length+i
 ·subst e;rw[(JV hl hi).1,h.here];rcases h1 with h1|h1<;>rw[h1]<;>omega
 ·exact h.2.1 j (by omega)
theorem FD.all{L S xs:List Int}(h:FD L S S.length xs)(hl:S.length≤L.length):xs=CA L S:=by
 refine List.ext_getElem (by rw[h.1,Gf];omega) fun j h1 h2=>?_;have:=h.2.1 j (by have:=h.1;omega)
 simpa[List.getD,List.getElem?_eq_getElem h1,List.getElem?_eq_getElem h2]using this
def Ub(L S:List Int)(i:Nat):Prop:=∀k,k<i→RK L S (S.length-1-k)
theorem Ub.zero(L S:List Int):Ub L S 0:=fun k hk=>by omega
theorem Ub.next{L S:List Int}{i:Nat}(h:Ub L S i)(g:RK L S (S.length-1-i)):Ub L S (i+1):=fun k hk=>by
 by_cases e:k=i
 ·subst e;exact g
 ·exact h k (by omega)
theorem Ub.all{L S:List Int}(h:Ub L S S.length)(n:Nat):Co L S n:=fun i hi=>by
 by_cases h1:i<S.length
 ·have:=h (S.length-1-i) (by omega)
  rwa [show S.length-1-(S.length-1-i)=i by omega]at this
 ·exact Or.inr (Or.inr (Qr (by omega)))
def ZK(w:World)(o:Int×List Int)(e:Ending)(w':World):Prop:=
 Below w.heap.size w w'∧((o.1≠0∧e=.returned (.tuple #[.slice none 0 0,.int .i64 o.1]))∨(o.1=0∧∃v,e=.returned (.tuple #[v,.int .i64 0])∧Bj w.heap.size w' v o.2))
attribute [local irreducible] AK CA RK Co FD Ub bk
theorem Uv{w:World}(v:Value)(zs:List Int)(i:Nat)(h:Aa w v zs)(hl:zs.length≤6)(hi:i≤6) :
  Calls Tryz.prog 131 #[v,.int .i64 (i:Int)] w fun e w'=>e=.returned (.int .i64 (bk zs i))∧w=w':=by
 obtain⟨a1,c1,rfl⟩:=h.form;have H:=hid h.rowsV.2;clear h;by_cases hk:zs.length≤i
 ·have hki:(zs.length:Int)≤(i:Int):=by omega
  rw[Qr hk];go_enter Tryz.func131,Tryz.ntmps131
  go_wp2_with fail
  go_ret
  exact⟨rfl,rfl⟩
 ·have hki:(i:Int)<(zs.length:Int):=by omega
  obtain⟨p,hp⟩:∃p:Nat,p=zs.length-1-i:=⟨_,rfl⟩;have hpi:(zs.length:Int)-1-(i:Int)=(p:Int):=by omega
  have hpl:(p:Int)<(zs.length:Int):=by omega
  obtain⟨b,o,rfl,hb,hr⟩:=H.out p (by omega);have hcx:=hr p (by omega);rw[RL (by omega),←hp];clear hp;generalize zs.getD p 0=z at*;go_enter Tryz.func131,Tryz.ntmps131
  go_wp2_with fail
  go_ret
  exact⟨rfl,rfl⟩
theorem Kr{B B':Nat}{w:World}{v:Value}{zs:List Int}(h:Bj B w v zs)(hB:B'≤B):Bj B' w v zs:=Bl h hB
theorem EP{B:Nat}{w:World}{v:Value}{zs:List Int}(h:Bj B w v zs)(q:Nat):Bj B (w.drewN q) v zs:=h
theorem Uw{a b:List Int}{n i:Nat}(h:Co a b n)(hi:i<n):RK a b i:=by unfold Co at h;exact h i hi
def bJ(xa xb:List Int)(k:Nat):Prop:=(1≤k→(AK xa).2=0)∧(2≤k→(AK xb).2=0)
theorem Lv{w:World}{va vb:Value}{xa xb:List Int}(ha:Aa w va xa)(hb0:Aa w vb xb):Calls Tryz.prog 108 #[va,vb] w (ZK w (Bx xa xb)):=by
 obtain⟨a1,c1,rfl⟩:=ha.form;obtain⟨a2,c2,rfl⟩:=hb0.form;have Ixa:=hid ha;have Ixb:=hid hb0;have HRxa:=hid ha.rowsV.2;have HRxb:=hid hb0.rowsV.2;clear ha hb0;obtain⟨W1,hW1⟩:∃W1,Hid (w.alloc (.cells #[.slice a1 xa.length c1,.slice a2 xb.length c2] 29)=W1):=⟨_,hid rfl⟩;have b1:Hid (Below w.heap.size w W1):=hid (by rw[←hW1.out];exact(Below.refl _ w).alloc (Nat.le_refl _) _);have hblk:W1.heap[w.heap.size]?=some (.cells #[.slice a1 xa.length c1,.slice a2 xb.length c2] 29 (0,0)):=by rw[←hW1.out];exact World.alloc_heap_new w _
 have q0:W1.cell? ⟨w.heap.size,0,none⟩=some (.slice a1 xa.length c1):=by simp[World.cell?,hblk]
 have q1:W1.cell? ⟨w.heap.size,1,none⟩=some (.slice a2 xb.length c2):=by simp[World.cell?,hblk]
 have E1:Hid ((AK xa).2≠0→Bx xa xb=((AK xa).2,[])):=hid fun h=>by unfold Bx;rw[if_pos h]
 have E2:Hid ((AK xa).2=0→(AK xb).2≠0→Bx xa xb=((AK xb).2,[])):=hid fun h g=>by unfold Bx;rw[if_neg (by rw[h];decide),if_pos g]
 clear hblk;go_enter Tryz.func108,Tryz.ntmps108
 go_wp2_with fail
 rw[hW1.out];go_loop [20] (fun i=>∃k:Nat,k≤2∧i=.int .i64 (k:Int)∧Hid (bJ xa xb k)) (fun i=>2-(intOf i).toNat)
 case atStart=>exact⟨0,Nat.zero_le _,rfl,hid ⟨fun h=>by omega,fun h=>by omega⟩⟩
 case round=>
  obtain⟨k,hk,rfl,h2⟩:=hrel;rcases(match k,hk with |0,_=>Or.inl rfl|1,_=>Or.inr (Or.inl rfl)|2,_=>Or.inr (Or.inr rfl):k=0∨k=1∨k=2)with e|e|e
  ·subst e;go_wp2_with fail
   refine(Vx.C6 (Ixa.out.below b1.out)).mono ?_;rintro e _⟨rfl,rfl⟩;by_cases hce:(AK xa).2=0
   ·have HT:Hid (bJ xa xb 1):=hid ⟨fun _=>hce,fun h=>by omega⟩;rw[hce];clear hce;go_wp2_with fail
    go_round
    case rel=>exact⟨1,by omega,rfl,HT⟩
    case measure=>simp[intOf]
   ·have NX:=hid (E1.out hce);have HNE:=hid hce;generalize (AK xa).2=ce at*;have hb1:(ce != 0)=true:=by simpa using hce
    clear hce;go_wp2_with fail
    go_ret2
    rw[NX.out];exact⟨b1.out,Or.inl ⟨HNE.out,rfl⟩⟩
  ·subst e;go_wp2_with fail
   refine(Vx.C6 (Ixb.out.below b1.out)).mono ?_;rintro e _⟨rfl,rfl⟩;by_cases hce:(AK xb).2=0
   ·have HT:Hid (bJ xa xb 2):=hid ⟨fun _=>h2.out.1 (by omega),fun _=>hce⟩;rw[hce];clear hce;go_wp2_with fail
    go_round
    case rel=>exact⟨2,by omega,rfl,HT⟩
    case measure=>simp[intOf]
   ·have NX:=hid (E2.out (h2.out.1 (by omega)) hce);have HNE:=hid hce;generalize (AK xb).2=ce at*;have hb1:(ce != 0)=true:=by simpa using hce
    clear hce;go_wp2_with fail
    go_ret2
    rw[NX.out];exact⟨b1.out,Or.inl ⟨HNE.out,rfl⟩⟩
  ·subst e;have HA:=hid (h2.out.1 (by omega));have HB:=hid (h2.out.2 (by omega));have HPxa:=hid (JU HA.out);have HPxb:=hid (JU HB.out);have hl1:=(Ge HA.out).2.1;have hl2:=(Ge HB.out).2.1;clear E1 E2 q0 q1;by_cases hlt:xa.length<xb.length
   ·have hlti:(xa.length:Int)<(xb.length:Int):=by omega
    have E3:Hid (¬Co xb xa (max xb.length xa.length)→Bx xa xb=(4,[])):=hid fun h=>by unfold Bx;rw[if_neg (by rw[HA.out];decide),if_neg (by rw[HB.out];decide),if_neg (fun g=>h (by rw[Nat.max_comm];exact g.comm))]
    have E4:Hid (Co xb xa (max xb.length xa.length)→(AK (CA xb xa)).2≠0→Bx xa xb=((AK (CA xb xa)).2,[])):=hid fun g h=>by unfold Bx;rw[if_neg (by rw[HA.out];decide),if_neg (by rw[HB.out];decide),if_pos (by rw[Nat.max_comm];exact g.comm),L8,if_pos h]
    have E5:Hid (Co xb xa (max xb.length xa.length)→(AK (CA xb xa)).2=0→Bx xa xb=(0,CA xb xa)):=hid fun g h=>by unfold Bx;rw[if_neg (by rw[HA.out];decide),if_neg (by rw[HB.out];decide),if_pos (by rw[Nat.max_comm];exact g.comm),L8,if_neg (by rw[h];decide)]
    have hLS:xa.length≤xb.length:=by omega
    obtain⟨ah,hah⟩:∃ah:Nat,ah=xb.length-xa.length:=⟨_,rfl⟩;have hsub:(xb.length:Int)-(xa.length:Int)=(ah:Int):=by omega
    have HAH:=hid hah;clear hah;go_wp2_with fail
    refine(Cv (Ixb.out.below b1.out)).mono ?_;rintro e w2⟨v,rfl,hf,B2⟩;obtain⟨a5,c5,rfl⟩:=hf.form;have b2:=hid (b1.out.trans (B2.mono b1.out.size));have hf2:Hid (Bj w.heap.size w2 (.slice a5 xb.length c5) xb):=hid (Kr hf b1.out.size);clear hf B2;go_wp2_with fail
    go_loopw [49] (fun i wr=>∃k:Nat,k≤xa.length∧i=.int .i64 (k:Int)∧Hid (Ub xb xa k)∧Hid (∃xs,Bj w.heap.size wr (.slice a5 xb.length c5) xs∧FD xb xa k xs)∧Hid (Below w.heap.size w wr)) (fun i _=>xa.length-(intOf i).toNat)
    case atStart=>exact⟨0,Nat.zero_le _,rfl,hid (Ub.zero _ _),hid ⟨_,hf2.out,FD.zero HPxb.out hLS⟩,b2⟩
    case round=>
     obtain⟨k,hk,rfl,hco,hx,hb⟩:=hrel;obtain⟨xs,hfr,hbc⟩:=hx.out;by_cases hkl:k<xa.length
     ·have hki:(k:Int)<(xa.length:Int):=by omega
      obtain⟨p,hp⟩:∃p:Nat,p=ah+k:=⟨_,rfl⟩;have hpi:(ah:Int)+(k:Int)=(p:Int):=by omega
      have hpL:p<xb.length:=by have:=HAH.out;omega
      have hpl:(p:Int)<(xb.length:Int):=by omega
      have hpe:xb.length-xa.length+k=p:=by rw[←HAH.out,hp]
      have hpair:=JV hLS hkl;have hput:=hbc.put hLS hkl;have hstay:=hbc.stay hLS hkl;have hhere:=hbc.here;rw[hpe]at hpair hput hstay hhere;obtain⟨g,rfl,hBg,hcell,hfz,hst⟩:=hfr.at hbc.len hpL;obtain⟨b,o,rfl,hbb,hrd⟩:=HRxa.out k hkl;have hcx:=(hb.out.cell (p:=⟨b,o+k,none⟩) hbb).trans (hrd k hkl);rw[hhere]at hcell;have d1:=HPxb.out _ (Am hpL);have s1:=HPxa.out _ (Am hkl);have HCN:=hid hco.out.next;have HPR:=hid hpair.2;have HCO:=hid (fun(h:¬RK xb xa (xa.length-1-k)) (g:Co xb xa (max xb.length xa.length))=>h (Uw g (by omega)));clear hpair hp hpe hhere;generalize xb.getD p 0=d at*;generalize xa.getD k 0=s at*;by_cases hd1:d=1
      ·have HPT:=hid (hput hd1 s1);have HNX:=hid (HCN.out (HPR.out.2 (Or.inr (Or.inl hd1))));have hsf:=hid (hst s);have hbs:Hid (Below w.heap.size w (wr.setCell ⟨g,p,none⟩ (.int .i64 s))):=hid (hb.out.setCell (p:=⟨g,p,none⟩) hBg _);clear hput hstay hfr hbc hx hst hBg;subst hd1;go_wp2
       go_roundw
       case rel=>exact⟨k+1,by omega,by go_num,HNX,hid ⟨_,hsf.out,HPT.out⟩,hbs⟩
       case measure=>simp[intOf];omega
      ·have b1':(d==1)=false:=by simpa using hd1
       by_cases hs1:s=1
       ·have b2':(s != 1)=false:=by simp[hs1]
        have HST:=hid (hstay d1 (Or.inl hs1));have HNX:=hid (HCN.out (HPR.out.2 (Or.inr (Or.inr hs1))));have hfr2:=hid hfr;clear hput hstay hfr hbc hx hst hBg hd1 hs1;go_wp2
        go_quiet (fail)
        go_wp2
        go_roundw
        case rel=>exact⟨k+1,by omega,by go_num,HNX,hid ⟨_,EP hfr2.out _,HST.out⟩,hid (below_drewN hb.out _)⟩
        case measure=>simp[intOf];omega
       ·have b2':(s != 1)=true:=by simpa using hs1
        by_cases hsd:s=d
        ·have b3':(s != d)=false:=by simp[hsd]
         have HST:=hid (hstay d1 (Or.inr hsd));have HNX:=hid (HCN.out (HPR.out.2 (Or.inl hsd.symm)));have hfr2:=hid hfr;clear hput hstay hfr hbc hx hst hBg hd1 hs1 hsd;go_wp2
         go_quiet (fail)
         go_wp2
         go_roundw
         case rel=>exact⟨k+1,by omega,by go_num,HNX,hid ⟨_,EP hfr2.out _,HST.out⟩,hid (below_drewN hb.out _)⟩
         case measure=>simp[intOf];omega
        ·have b3':(s != d)=true:=by simpa using hsd
         have NO:=hid (E3.out (HCO.out (fun h=>by rcases HPR.out.1 h with h|h|h;exact hsd h.symm;exact hd1 h;exact hs1 h)));clear hput hstay hfr hbc hx hst hBg hd1 hs1 hsd;go_wp2
         go_quiet (fail)
         go_wp2
         go_ret2
         rw[NO.out];exact⟨below_drewN hb.out _,Or.inl ⟨by decide,rfl⟩⟩
     ·obtain rfl:k=xa.length:=by omega
      have hxe:=hbc.all hLS;subst hxe;have HCA:=hid (hco.out.all (max xb.length xa.length));have hol:Hid ((CA xb xa).length=xb.length):=hid hbc.len;have io:Hid (Aa wr (.slice a5 xb.length c5) (CA xb xa)):=hid (hfr.ints (by rw[hol.out];omega) (If Ixb.out.wf.2 Ixa.out.wf.2));have hfr2:=hid hfr;have HE4:=hid (E4.out HCA.out);have HE5:=hid (E5.out HCA.out);clear hfr hbc hx;go_wp2_with fail
      refine(Vx.C6 io.out).mono ?_;rintro e _⟨rfl,rfl⟩;by_cases hce:(AK (CA xb xa)).2=0
      ·have NX:=hid (HE5.out hce);rw[hce];clear hce;go_wp2_with fail
       go_ret2
       rw[NX.out];exact⟨hb.out,Or.inr ⟨rfl,_,rfl,hfr2.out⟩⟩
      ·have NX:=hid (HE4.out hce);have HNE:=hid hce;generalize (AK (CA xb xa)).2=ce at*;have hb1:(ce != 0)=true:=by simpa using hce
       clear hce;go_wp2_with fail
       go_ret2
       rw[NX.out];exact⟨hb.out,Or.inl ⟨HNE.out,rfl⟩⟩
   ·have hlti:¬(xa.length:Int)<(xb.length:Int):=by omega
    have E3:Hid (¬Co xa xb (max xa.length xb.length)→Bx xa xb=(4,[])):=hid fun h=>by unfold Bx;rw[if_neg (by rw[HA.out];decide),if_neg (by rw[HB.out];decide),if_neg h]
    have E4:Hid (Co xa xb (max xa.length xb.length)→(AK (CA xa xb)).2≠0→Bx xa xb=((AK (CA xa xb)).2,[])):=hid fun g h=>by unfold Bx;rw[if_neg (by rw[HA.out];decide),if_neg (by rw[HB.out];decide),if_pos g,if_pos h]
    have E5:Hid (Co xa xb (max xa.length xb.length)→(AK (CA xa xb)).2=0→Bx xa xb=(0,CA xa xb)):=hid fun g h=>by unfold Bx;rw[if_neg (by rw[HA.out];decide),if_neg (by rw[HB.out];decide),if_pos g,if_neg (by rw[h];decide)]
    have hLS:xb.length≤xa.length:=by omega
    obtain⟨ah,hah⟩:∃ah:Nat,ah=xa.length-xb.length:=⟨_,rfl⟩;have hsub:(xa.length:Int)-(xb.length:Int)=(ah:Int):=by omega
    have HAH:=hid hah;clear hah;go_wp2_with fail
    refine(Cv (Ixa.out.below b1.out)).mono ?_;rintro e w2⟨v,rfl,hf,B2⟩;obtain⟨a5,c5,rfl⟩:=hf.form;have b2:=hid (b1.out.trans (B2.mono b1.out.size));have hf2:Hid (Bj w.heap.size w2 (.slice a5 xa.length c5) xa):=hid (Kr hf b1.out.size);clear hf B2;go_wp2_with fail
    go_loopw [49] (fun i wr=>∃k:Nat,k≤xb.length∧i=.int .i64 (k:Int)∧Hid (Ub xa xb k)∧Hid (∃xs,Bj w.heap.size wr (.slice a5 xa.length c5) xs∧FD xa xb k xs)∧Hid (Below w.heap.size w wr)) (fun i _=>xb.length-(intOf i).toNat)
    case atStart=>exact⟨0,Nat.zero_le _,rfl,hid (Ub.zero _ _),hid ⟨_,hf2.out,FD.zero HPxa.out hLS⟩,b2⟩
    case round=>
     obtain⟨k,hk,rfl,hco,hx,hb⟩:=hrel;obtain⟨xs,hfr,hbc⟩:=hx.out;by_cases hkl:k<xb.length
     ·have hki:(k:Int)<(xb.length:Int):=by omega
      obtain⟨p,hp⟩:∃p:Nat,p=ah+k:=⟨_,rfl⟩;have hpi:(ah:Int)+(k:Int)=(p:Int):=by omega
      have hpL:p<xa.length:=by have:=HAH.out;omega
      have hpl:(p:Int)<(xa.length:Int):=by omega
      have hpe:xa.length-xb.length+k=p:=by rw[←HAH.out,hp]
      have hpair:=JV hLS hkl;have hput:=hbc.put hLS hkl;have hstay:=hbc.stay hLS hkl;have hhere:=hbc.here;rw[hpe]at hpair hput hstay hhere;obtain⟨g,rfl,hBg,hcell,hfz,hst⟩:=hfr.at hbc.len hpL;obtain⟨b,o,rfl,hbb,hrd⟩:=HRxb.out k hkl;have hcx:=(hb.out.cell (p:=⟨b,o+k,none⟩) hbb).trans (hrd k hkl);rw[hhere]at hcell;have d1:=HPxa.out _ (Am hpL);have s1:=HPxb.out _ (Am hkl);have HCN:=hid hco.out.next;have HPR:=hid hpair.2;have HCO:=hid (fun(h:¬RK xa xb (xb.length-1-k)) (g:Co xa xb (max xa.length xb.length))=>h (Uw g (by omega)));clear hpair hp hpe hhere;generalize xa.getD p 0=d at*;generalize xb.getD k 0=s at*;by_cases hd1:d=1
      ·have HPT:=hid (hput hd1 s1);have HNX:=hid (HCN.out (HPR.out.2 (Or.inr (Or.inl hd1))));have hsf:=hid (hst s);have hbs:Hid (Below w.heap.size w (wr.setCell ⟨g,p,none⟩ (.int .i64 s))):=hid (hb.out.setCell (p:=⟨g,p,none⟩) hBg _);clear hput hstay hfr hbc hx hst hBg;subst hd1;go_wp2
       go_roundw
       case rel=>exact⟨k+1,by omega,by go_num,HNX,hid ⟨_,hsf.out,HPT.out⟩,hbs⟩
       case measure=>simp[intOf];omega
      ·have b1':(d==1)=false:=by simpa using hd1
       by_cases hs1:s=1
       ·have b2':(s != 1)=false:=by simp[hs1]
        have HST:=hid (hstay d1 (Or.inl hs1));have HNX:=hid (HCN.out (HPR.out.2 (Or.inr (Or.inr hs1))));have hfr2:=hid hfr;clear hput hstay hfr hbc hx hst hBg hd1 hs1;go_wp2
        go_quiet (fail)
        go_wp2
        go_roundw
        case rel=>exact⟨k+1,by omega,by go_num,HNX,hid ⟨_,EP hfr2.out _,HST.out⟩,hid (below_drewN hb.out _)⟩
        case measure=>simp[intOf];omega
       ·have b2':(s != 1)=true:=by simpa using hs1
        by_cases hsd:s=d
        ·have b3':(s != d)=false:=by simp[hsd]
         have HST:=hid (hstay d1 (Or.inr hsd));have HNX:=hid (HCN.out (HPR.out.2 (Or.inl hsd.symm)));have hfr2:=hid hfr;clear hput hstay hfr hbc hx hst hBg hd1 hs1 hsd;go_wp2
         go_quiet (fail)
         go_wp2
         go_roundw
         case rel=>exact⟨k+1,by omega,by go_num,HNX,hid ⟨_,EP hfr2.out _,HST.out⟩,hid (below_drewN hb.out _)⟩
         case measure=>simp[intOf];omega
        ·have b3':(s != d)=true:=by simpa using hsd
         have NO:=hid (E3.out (HCO.out (fun h=>by rcases HPR.out.1 h with h|h|h;exact hsd h.symm;exact hd1 h;exact hs1 h)));clear hput hstay hfr hbc hx hst hBg hd1 hs1 hsd;go_wp2
         go_quiet (fail)
         go_wp2
         go_ret2
         rw[NO.out];exact⟨below_drewN hb.out _,Or.inl ⟨by decide,rfl⟩⟩
     ·obtain rfl:k=xb.length:=by omega
      have hxe:=hbc.all hLS;subst hxe;have HCA:=hid (hco.out.all (max xa.length xb.length));have hol:Hid ((CA xa xb).length=xa.length):=hid hbc.len;have io:Hid (Aa wr (.slice a5 xa.length c5) (CA xa xb)):=hid (hfr.ints (by rw[hol.out];omega) (If Ixa.out.wf.2 Ixb.out.wf.2));have hfr2:=hid hfr;have HE4:=hid (E4.out HCA.out);have HE5:=hid (E5.out HCA.out);clear hfr hbc hx;go_wp2_with fail
      refine(Vx.C6 io.out).mono ?_;rintro e _⟨rfl,rfl⟩;by_cases hce:(AK (CA xa xb)).2=0
      ·have NX:=hid (HE5.out hce);rw[hce];clear hce;go_wp2_with fail
       go_ret2
       rw[NX.out];exact⟨hb.out,Or.inr ⟨rfl,_,rfl,hfr2.out⟩⟩
      ·have NX:=hid (HE4.out hce);have HNE:=hid hce;generalize (AK (CA xa xb)).2=ce at*;have hb1:(ce != 0)=true:=by simpa using hce
       clear hce;go_wp2_with fail
       go_ret2
       rw[NX.out];exact⟨hb.out,Or.inl ⟨HNE.out,rfl⟩⟩
end Vb
namespace Vb
open Go.RowKit Vx Vx.Vw
def JB(a b:List Int)(n k:Nat)(xs:List Int):Prop:=xs.length=n∧∀i,i<k→xs.getD (n-1-i) 0=(CA a b).getD (n-1-i) 0
theorem JB.len{a b xs:List Int}{n k:Nat}(h:JB a b n k xs):xs.length=n:=h.1
theorem JB.zero(a b:List Int)(n:Nat):JB a b n 0 (List.replicate n 0):=⟨by simp,fun i hi=>by omega⟩
theorem JB.step{a b xs:List Int}{n k p:Nat}(h:JB a b n k xs)(hn:n=max a.length b.length)(hk:k<n)(hp:p=n-1-k):JB a b n (k+1) (xs.set p (max (bk a k) (bk b k))):=by
 refine⟨by rw[List.length_set];exact h.1,fun i hi=>?_⟩;by_cases e:i=k
 ·subst e;rw[Kq (by omega),←hn,show n-1-(n-1-i)=i by omega,hp];have hlt:n-1-i<xs.length:=by have:=h.1;omega
  simp[List.getD,hlt]
 ·have:(xs.set p (max (bk a k) (bk b k))).getD (n-1-i) 0=xs.getD (n-1-i) 0:=by simp[List.getD,List.getElem?_set_ne (show p≠n-1-i by omega)]
  rw[this];exact h.2 i (by omega)
theorem JB.all{a b xs:List Int}{n:Nat}(h:JB a b n n xs)(hn:n=max a.length b.length):xs=CA a b:=by
 refine List.ext_getElem (by rw[h.1,Gf,hn]) fun j h1 h2=>?_;have:=h.2 (n-1-j) (by have:=h.1;omega);rw[show n-1-(n-1-j)=j by have:=h.1;omega]at this
 simpa[List.getD,List.getElem?_eq_getElem h1,List.getElem?_eq_getElem h2]using this
theorem Co.zero(a b:List Int):Co a b 0:=fun i hi=>by omega
theorem Co.next{a b:List Int}{k:Nat}(h:Co a b k)(g:RK a b k):Co a b (k+1):=fun i hi=>by
 by_cases e:i=k
 ·subst e;exact g
 ·exact h i (by omega)
theorem WG(a b:List Int)(i:Nat):RK a b i↔(bk a i=bk b i∨bk a i=1∨bk b i=1):=Iff.rfl
attribute [local irreducible] AK CA RK Co bk JB
theorem Ks{w:World}{va vb:Value}{xa xb:List Int}(ha:Aa w va xa)(hb0:Aa w vb xb):Calls Tryz.prog 67 #[va,vb] w (ZK w (Bx xa xb)):=by
 obtain⟨a1,c1,rfl⟩:=ha.form;obtain⟨a2,c2,rfl⟩:=hb0.form;have Ixa:=hid ha;have Ixb:=hid hb0;clear ha hb0;have E1:Hid ((AK xa).2≠0→Bx xa xb=((AK xa).2,[])):=hid fun h=>by unfold Bx;rw[if_pos h]
 have E2:Hid ((AK xa).2=0→(AK xb).2≠0→Bx xa xb=((AK xb).2,[])):=hid fun h g=>by unfold Bx;rw[if_neg (by rw[h];decide),if_pos g]
 go_enter Tryz.func67,Tryz.ntmps67
 go_wp2_with fail
 refine(Vx.Cj Ixa.out).mono ?_;rintro e _⟨rfl,rfl⟩;by_cases hca:(AK xa).2=0
 rotate_left
 ·have NX:=hid (E1.out hca);have HNE:=hid hca;generalize (AK xa).2=ce at*;have hb1:(ce != 0)=true:=by simpa using hca
  clear hca;go_wp2_with fail
  go_ret2
  rw[NX.out];exact⟨Below.refl _ _,Or.inl ⟨HNE.out,rfl⟩⟩
 have HA:=hid hca;rw[hca];clear hca;go_wp2_with fail
 refine(Vx.Cj Ixb.out).mono ?_;rintro e _⟨rfl,rfl⟩;by_cases hcb:(AK xb).2=0
 rotate_left
 ·have NX:=hid (E2.out HA.out hcb);have HNE:=hid hcb;generalize (AK xb).2=ce at*;have hb1:(ce != 0)=true:=by simpa using hcb
  clear hcb;go_wp2_with fail
  go_ret2
  rw[NX.out];exact⟨Below.refl _ _,Or.inl ⟨HNE.out,rfl⟩⟩
 have HB:=hid hcb;rw[hcb];clear hcb;obtain⟨n,hn⟩:∃n:Nat,Hid (n=max xa.length xb.length):=⟨_,hid rfl⟩;have E3:Hid (¬Co xa xb n→Bx xa xb=(4,[])):=hid fun h=>by unfold Bx;rw[if_neg (by rw[HA.out];decide),if_neg (by rw[HB.out];decide),←hn.out,if_neg h]
 have E4:Hid (Co xa xb n→(AK (CA xa xb)).2≠0→Bx xa xb=((AK (CA xa xb)).2,[])):=hid fun g h=>by unfold Bx;rw[if_neg (by rw[HA.out];decide),if_neg (by rw[HB.out];decide),←hn.out,if_pos g,if_pos h]
 have E5:Hid (Co xa xb n→(AK (CA xa xb)).2=0→Bx xa xb=(0,CA xa xb)):=hid fun g h=>by unfold Bx;rw[if_neg (by rw[HA.out];decide),if_neg (by rw[HB.out];decide),←hn.out,if_pos g,if_neg (by rw[h];decide)]
 have HPxa:=hid (JU HA.out);have HPxb:=hid (JU HB.out);have hl1:=(Ge HA.out).2.1;have hl2:=(Ge HB.out).2.1;have hn6:n≤6:=by have:=hn.out;omega
 have hmx:max (xa.length:Int) (xb.length:Int)=(n:Int):=by have:=hn.out;omega
 have hmk:=Lu w n (by omega);have hrow:Hid (DR (w.alloc (.cells (CO (List.replicate n 0)) 3)) w.heap.size (List.replicate n 0)):=hid (DR.new w _);have hbel:Hid (Below w.heap.size w (w.alloc (.cells (CO (List.replicate n 0)) 3))):=hid ((Below.refl _ w).alloc (Nat.le_refl _) _);clear E1 E2;go_wp2_with fail
 go_loopw [10] (fun i wr=>∃k:Nat,k≤n∧i=.int .i64 (k:Int)∧Hid (Co xa xb k)∧Hid (∃xs,DR wr w.heap.size xs∧JB xa xb n k xs)∧Hid (Below w.heap.size w wr)) (fun i _=>n-(intOf i).toNat)
 case atStart=>exact⟨0,Nat.zero_le _,rfl,hid (Co.zero _ _),hid ⟨_,hrow.out,JB.zero _ _ _⟩,hbel⟩
 case round=>
  obtain⟨k,hk,rfl,hco,hx,hb⟩:=hrel;obtain⟨xs,hr,hbc⟩:=hx.out;by_cases hkl:k<n
  ·have hki:(k:Int)<(n:Int):=by omega
   obtain⟨p,hp⟩:∃p:Nat,p=n-1-k:=⟨_,rfl⟩;have hpi:(n:Int)-1-(k:Int)=(p:Int):=by omega
   have hpn:p<n:=by omega
   have hpl:(p:Int)<(n:Int):=by omega
   have hst:=hid (hbc.step hn.out hkl hp);have hcell:=hr.cell (j:=p) (by rw[hbc.len];exact hpn);have hfz:=hr.frozen p;have hset:=hid (hr.set p (max (bk xa k) (bk xb k)));have hbs:Hid (Below w.heap.size w (wr.setCell ⟨w.heap.size,p,none⟩ (.int .i64 (max (bk xa k) (bk xb k))))):=hid (hb.out.setCell (p:=⟨w.heap.size,p,none⟩) (Nat.le_refl _) _);have HCI:=hid (WG xa xb k);have HCN:=hid hco.out.next;have HCO:=hid (fun(h:¬RK xa xb k) (g:Co xa xb n)=>h (Uw g hkl));have HT1:=hid (Uv (.slice a1 xa.length c1) xa k (Ixa.out.below hb.out) hl1 (by omega));have HT2:=hid (Uv (.slice a2 xb.length c2) xb k (Ixb.out.below hb.out) hl2 (by omega));generalize bk xa k=x at*;generalize bk xb k=y at*;clear hx hr hbc hp;go_wp2_with fail
   refine HT1.out.mono ?_;rintro e _⟨rfl,rfl⟩;go_wp2_with fail
   refine HT2.out.mono ?_;rintro e _⟨rfl,rfl⟩;by_cases h1:x=y
   ·have hb1:(x != y)=false:=by simp[h1]
    have NX:=hid (HCN.out (HCI.out.2 (Or.inl h1)));clear h1;go_wp2_with fail
    go_roundw
    case rel=>exact⟨k+1,by omega,by go_num,NX,hid ⟨_,hset.out,hst.out⟩,hbs⟩
    case measure=>simp[intOf];omega
   ·have hb1:(x != y)=true:=by simpa using h1
    by_cases h2:x=1
    ·have hb2:(x != 1)=false:=by simp[h2]
     have NX:=hid (HCN.out (HCI.out.2 (Or.inr (Or.inl h2))));clear h1 h2;go_wp2_with fail
     go_roundw
     case rel=>exact⟨k+1,by omega,by go_num,NX,hid ⟨_,hset.out,hst.out⟩,hbs⟩
     case measure=>simp[intOf];omega
    ·have hb2:(x != 1)=true:=by simpa using h2
     by_cases h3:y=1
     ·have hb3:(y != 1)=false:=by simp[h3]
      have NX:=hid (HCN.out (HCI.out.2 (Or.inr (Or.inr h3))));clear h1 h2 h3;go_wp2_with fail
      go_roundw
      case rel=>exact⟨k+1,by omega,by go_num,NX,hid ⟨_,hset.out,hst.out⟩,hbs⟩
      case measure=>simp[intOf];omega
     ·have hb3:(y != 1)=true:=by simpa using h3
      have NO:=hid (E3.out (HCO.out (fun h=>by rcases HCI.out.1 h with h|h|h;exact h1 h;exact h2 h;exact h3 h)));clear h1 h2 h3;go_wp2_with fail
      go_ret2
      rw[NO.out];exact⟨hb.out,Or.inl ⟨by decide,rfl⟩⟩
  ·obtain rfl:k=n:=by omega
   have hxe:=hbc.all hn.out;subst hxe;have hxl:=hbc.len;have hfr2:=hid (Bj.row hr (Nat.le_refl _) hxl.symm (by omega));have io:=hid (hfr2.out.ints (by rw[hxl];omega) (If Ixa.out.wf.2 Ixb.out.wf.2));have HE4:=hid (E4.out hco.out);have HE5:=hid (E5.out hco.out);clear hx hr hbc hxl hmk hrow hbel;go_wp2_with fail
   refine(Vx.Cj io.out).mono ?_;rintro e _⟨rfl,rfl⟩;by_cases hce:(AK (CA xa xb)).2=0
   ·have NX:=hid (HE5.out hce);rw[hce];clear hce;go_wp2_with fail
    go_ret2
    rw[NX.out];exact⟨hb.out,Or.inr ⟨rfl,_,rfl,hfr2.out⟩⟩
   ·have NX:=hid (HE4.out hce);have HNE:=hid hce;generalize (AK (CA xa xb)).2=ce at*;have hb1:(ce != 0)=true:=by simpa using hce
    clear hce;go_wp2_with fail
    go_ret2
    rw[NX.out];exact⟨hb.out,Or.inl ⟨HNE.out,rfl⟩⟩
end Vb
end Go.Proofs.YtkkeehnldcdccaaGreatDoor
