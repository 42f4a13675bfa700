import Derived.Maps.Views
import Derived.Test.YtkkeehnldcdccaaGreatDoorRows
import Derived.Test.YtkkeehnldcdccaaGreatDoorCards
import Derived.Test.YtkkeehnldcdccaaGreatDoorTie
import Derived.ProofKit
import Derived.OpenShut
import Derived.SizedLaws
import Derived.ChangeSlices
import Derived.Deep.Strs
import Derived.Deep.DeepHandedRow
import Derived.Lay
import Derived.LaidMore
import Derived.SevenTiedAt
import Derived.Stop.Joined
import Derived.HandedShaped
import Derived.Shelf.Vars
import Derived.Carry
import Derived.Test.YtkkeehnldcdccaaGreatDoorNe43
import Derived.Test.YtkkeehnldcdccaaGreatDoorNe45
set_option linter.unusedVariables false
set_option linter.unusedSimpArgs false
set_option maxRecDepth 100000
set_option maxHeartbeats 16000000
namespace Go.Proofs.YtkkeehnldcdccaaGreatDoor
open Go.RowKit
open Go.Lib (hid)
section
theorem T8{w:World}{B:Nat}{l:List Vl}{vv:Value}{ds:List Value}(h:EW w B l vv ds)(hl:l.length≤1048575)(hb:∀x∈l,x.name.size≤1048576∧Bf x.typ∧x.dims.length*8≤140737488351232∧∀z∈x.dims,Bf z):BJ 3 AM w vv l:=by
 by_cases h0:l=[]
 ·subst h0;obtain⟨a,c,rfl⟩:=Bh h.row;exact .empty a c
 ·have hp:0<l.length:=List.length_pos_iff.2 h0;obtain⟨g,cap,e,hB,hg⟩:=World.ownsRow.form h.row hp;have hr:=h.row;subst e;have hblk:=(World.ownsRow.lt hr g rfl).2;have hcap:l.length≤cap:=by
   obtain⟨_,h1| ⟨g',cap',cur,e,_,_,hc,_⟩⟩:=hr
   ·omega
   ·obtain⟨_,_,rfl⟩:=Value.slice.inj e;exact hc
  refine .row g 0 cap l h0 hcap hblk (fun j x hj=>?_) (by omega);have hjl:=(List.getElem?_eq_some_iff.1 hj).1;obtain⟨d,hd⟩:∃d,ds[j]?=some d:=⟨_,List.getElem?_eq_getElem (by rw[h.len];exact hjl)⟩;obtain⟨b1,b2,b3,b4⟩:=hb x (List.mem_of_getElem? hj);refine⟨Rz x d,rfl,⟨d,rfl,b1,b2,Aa.of_owns (h.att j x d hj hd) (by omega) b4⟩,fun i u hu=>?_⟩;have:=World.ownsRow.cells hr (g:=g) rfl (j*3+i) u (PR hj hd hu);rw[show(⟨g,0,none⟩:Addr).add (j*3+i)=⟨g,j*3+i,none⟩from by rw[Fo,Nat.zero_add]]at this;rw[show 0+j*3+i=j*3+i by omega];exact this
theorem T9{w:World}{v:Value}{l:List Vl}(h:BJ 3 AM w v l):∀x∈l,x.name.size≤1048576∧Bf x.typ∧x.dims.length*8≤140737488351232∧∀z∈x.dims,Bf z:=fun x hx=>by
 obtain⟨j,hj⟩:=List.getElem?_of_mem hx;obtain⟨b,off,cap,cs,rfl,hb,_,_,⟨vd,rfl,h1,h2,h3⟩,hc⟩:=h.rows j x hj;exact⟨h1,h2,h3.wf.1,h3.wf.2⟩
attribute [local irreducible] BL AK Cz AA
end
section
open Go.RowKit Go.ChangeShapes Go.WideShapes
variable {H:Type}
def cM(g:Gr)(s:ByteArray):Option Nat:=g.nodes.findIdx? fun n=>decide (n.out=s)
end
section
attribute [local irreducible] Cz AK JT AA
end
theorem Jz{w:World}{v1 v2:Value}{l:List Vl}(h1:BJ 3 AM w v1 l)(h2:BJ 3 AM w v2 l) :
  Calls Tryz.prog 8 #[v1,v2] w fun e w'=>e=.returned (.bool true)∧Below w.heap.size w w':=by
 obtain⟨a1,c1,rfl⟩:=h1.form;obtain⟨a2,c2,rfl⟩:=h2.form;have hll:=h1.len;have H1:=hid h1;have H2:=hid h2;have hlb:((l.length:Int) != (l.length:Int))=false:=by simp
 clear h1 h2;go_enter Tryz.func8,Tryz.ntmps8
 go_wp2_with fail
 go_loopw [5] (fun i wr=>∃k:Nat,k≤l.length∧i=.int .i64 (k:Int)∧Hid (Below w.heap.size w wr)) (fun i _=>l.length-(intOf i).toNat)
 case atStart=>exact⟨0,Nat.zero_le _,rfl,hid (Below.refl _ _)⟩
 case round=>
  obtain⟨k,hk,rfl,hB⟩:=hrel;by_cases hkl:k<l.length
  ·have hki:(k:Int)<(l.length:Int):=by omega
   obtain⟨x,hx⟩:∃x,l[k]?=some x:=⟨_,List.getElem?_eq_getElem hkl⟩;obtain⟨b,off,cap,vd,hv,hb,c0,c1',c2',g1,g2,g3⟩:=Bm H1.out hx;obtain⟨rfl,_,rfl⟩:=Value.slice.inj hv;obtain⟨b',off',cap',vd',hv',hb',d0,d1,d2,_,_,g3'⟩:=Bm H2.out hx;obtain⟨rfl,_,rfl⟩:=Value.slice.inj hv';have HS:Hid (∀W',Below wr.heap.size wr W'→W'.cell? ⟨b,off+k*3,none⟩=some (.string x.name)∧W'.cell? ⟨b,off+k*3+1,none⟩=some (.int .i64 x.typ)∧W'.cell? ⟨b,off+k*3+2,none⟩=some vd∧W'.cell? ⟨b',off'+k*3,none⟩=some (.string x.name)∧W'.cell? ⟨b',off'+k*3+1,none⟩=some (.int .i64 x.typ)∧W'.cell? ⟨b',off'+k*3+2,none⟩=some vd'):=hid fun W' h=>by
    have hq:=hB.out.trans (h.mono hB.out.size);exact⟨(hq.cell (p:=⟨b,off+k*3,none⟩) hb).trans c0,(hq.cell (p:=⟨b,off+k*3+1,none⟩) hb).trans c1',(hq.cell (p:=⟨b,off+k*3+2,none⟩) hb).trans c2',(hq.cell (p:=⟨b',off'+k*3,none⟩) hb').trans d0,(hq.cell (p:=⟨b',off'+k*3+1,none⟩) hb').trans d1,(hq.cell (p:=⟨b',off'+k*3+2,none⟩) hb').trans d2⟩
   have HC:Hid (∀W,Below wr.heap.size wr W→Calls Tryz.prog 31 #[vd,vd'] W fun e w'=>e=.returned (.bool true)∧Below W.heap.size W w'):=hid fun W h=>by
    have hq:=hB.out.trans (h.mono hB.out.size);have:=GM (g3.below hq) (g3'.below hq)
    rwa [decide_eq_true rfl]at this
   have HBr:=hB;clear hv hv' c0 c1' c2' d0 d1 d2 g1 g2 g3 g3' hB hx;go_wp2_with fail
   refine Ae 36 [0,1,2,3,4,5,6,7,8,9,10,11,12,13,14,15,16,17,18,19,20,21,22,23,24,25,26,27,28,29,30,31,32,33,34,35] (fun W'=>Below wr.heap.size wr W') (by kernel_rfl) (by kernel_rfl) (fun _ d _ _ _ h=>by cases d<;>exact h) (Below.refl _ _).drew ?_;have B0:Hid (Below wr.heap.size wr wr.drew):=hid (Below.refl _ _).drew;generalize wr.drew=wD at B0⊢
   repeat
    refine Ah (v:=?_) rfl rfl (Or.inl ⟨by rfl,?_⟩) ?_;rotate_left
    ·intro w' hSw;obtain⟨s0,s1,s2,s3,s4,s5⟩:=HS.out w' hSw;go_simp
     try with_reducible rfl
    try simp only[Act.put,List.getElem_toArray,List.getElem_cons_zero,List.getElem_cons_succ,List.setIfInBounds_toArray,List.set_cons_zero,List.set_cons_succ]
   refine Av rfl rfl (fun K' hK=>?_);go_simp
   refine(HC.out _ B0.out).mono ?_;rintro e w6⟨rfl,B⟩;have B1:=hid (B0.out.trans (B.mono B0.out.size));refine hK.out _ _ B1.out ?_;clear hK K' B;refine Aq rfl ?_;simp only[List.toList_toArray,List.drop_succ_cons,List.drop_zero];go_wp2_with fail
   go_roundw
   case rel=>exact⟨k+1,by omega,by go_num,hid (HBr.out.trans (B1.out.mono HBr.out.size))⟩
   case measure=>simp[intOf];omega
  ·have hki:¬(k:Int)<(l.length:Int):=by omega
   go_wp2
   go_ret
   exact⟨rfl,hB.out⟩
section
def oS(n:Nd)(o:Int×Int×List Int):ByteArray:=if o.1=0 then n.out else⟨#[]⟩
def oT(o:Int×Int×List Int):Int:=if o.1=0 then o.2.1 else 0
def oD(o:Int×Int×List Int):List Int:=if o.1=0 then o.2.2 else []
theorem Dx.uni{w w':World}{n:Nd}{o:Int×Int×List Int}{e:Ending}(h:Dx w n o e w'):∃a c,e=.returned (.tuple #[.agg #[.string (oS n o),.int .i64 (oT o),.slice a (oD o).length c],.int .i64 o.1])∧Hid (Ag w' w.heap.size (.slice a (oD o).length c) (oD o))∧Hid (Below w.heap.size w w'):=by
 obtain⟨B,⟨h0,rfl⟩| ⟨h0,v,rfl,hr⟩⟩:=h
 ·unfold oS oT oD;rw[if_neg h0,if_neg h0,if_neg h0];exact⟨none,0,rfl,hid (Ag.nil _ _),hid B⟩
 ·unfold oS oT oD;rw[if_pos h0,if_pos h0,if_pos h0,h0];obtain⟨a,c,rfl⟩:=hr.form;exact⟨a,c,rfl,hid hr,hid B⟩
theorem Ww{w:World}{b:Nat}{s:ByteArray}{t:Int}{vd:Value}{ds:List Int}{T:TypeId}(h:Ac w b #[.string s,.int .i64 t,vd] T)(hs:s.size≤1048576)(ht:Bf t)(hd:Aa w vd ds):BJ 3 AM w (.slice (some ⟨b,0,none⟩) 1 1) ([⟨s,t,ds⟩]:List Vl):=by
 refine BJ.row b 0 1 ([⟨s,t,ds⟩]:List Vl) (by simp) (by simp) (Al (h.cell 0 rfl)) (fun j x hj=>?_) (by simp);cases j with
 | succ j=>simp at hj
 | zero=>
  obtain rfl:(⟨s,t,ds⟩:Vl)=x:=by simpa using hj
  refine⟨[.string s,.int .i64 t,vd],rfl,⟨vd,rfl,hs,ht,hd⟩,fun i u hu=>?_⟩;have:=h.cell i (by simpa using hu)
  simpa using this
theorem XS{t:Int}(h:Cz t 0=true):Bf t:=by
 by_cases c:Bf t
 ·exact c
 ·exfalso;have h1:¬t=1:=fun e=>c (by subst e;unfold Bf;decide);have h2:¬t=6:=fun e=>c (by subst e;unfold Bf;decide);have h3:¬t=7:=fun e=>c (by subst e;unfold Bf;decide);have h4:¬t=9:=fun e=>c (by subst e;unfold Bf;decide)
  revert h
  unfold Cz;simp[h1,h2,h3,h4]
theorem Zd(n:Nd)(ins:List Vl):Bf (oT (BL n ins)):=by
 unfold oT;split
 ·rename_i h
  refine XS (TC (n:=n) (ins:=ins) (ds:=(BL n ins).2.2) ?_).2;rw[←h]
 ·exact Ij
attribute [local irreducible] BL AK Cz AA Ag oS oT oD
theorem PU{w:World}{vn vv:Value}{n:Nd}{ins:List Vl}(hn:Ba w vn n)(hb:n.attrs.length≤1048575)(ho:n.out.size≤1048576)(hs:BJ 3 AM w vv ins)(hG:Eu w)(hax:(Af n.attrs AF []).length *8+48≤140737488351232) :
  Calls Tryz.prog 3 #[vn,vv] w fun e w'=>e=.returned (.bool true)∧Below w.heap.size w w':=by
 obtain⟨vin,vat,rfl,hm⟩:=hn;obtain⟨a1,c1,rfl⟩:=hm.is.form;obtain⟨a2,c2,rfl⟩:=hm.ia.form;obtain⟨a3,c3,rfl⟩:=hs.form;have hil:=hs.len;have hnl:=hm.is.len;have HN:=hid hm;have HS:=hid hs;have HG:=hid hG;have HAX:=hid hax;have HBd:=hid (T9 hs);have HOs:Hid ((oS n (BL n ins)).size≤1048576):=hid (by unfold oS;split;exact ho;decide);have HGd:Hid ((oD (BL n ins)).length *8≤140737488351232∧∀z∈oD (BL n ins),Bf z):=hid (by
  unfold oD;split
  ·rename_i h;exact T7 h
  ·simp)
 clear hm hs hG hax ho;have HLv:=hid (fun(W:World) (hB:Below w.heap.size w W)=>Ry (HG.out.below hB));unfold Nd.val;have HB1:=hid ((Below.refl w.heap.size w).alloc (Nat.le_refl _) (Obj.cells #[.string n.op,.string n.name,.slice a1 n.ins.length c1,.string n.out,.slice a2 n.attrs.length c2] 25));have HA1:=hid (Ac.new w #[.string n.op,.string n.name,.slice a1 n.ins.length c1,.string n.out,.slice a2 n.attrs.length c2] 25);go_enter Tryz.func3,Tryz.ntmps3
 go_wp2_with fail
 generalize World.alloc w _=W1 at HB1 HA1⊢;refine(LP (n:=n) (HN.out.below HB1.out)).mono ?_;rintro e w2⟨vin',vat',tss,rfl,ho,B2⟩;obtain⟨a5,c5,rfl⟩:=Bh ho.ins;obtain⟨a6,c6,rfl⟩:=Bh ho.row;have HB2:=hid (HB1.out.trans (B2.mono HB1.out.size));have HA2:=hid (HA1.out.below' B2);have HO2:=hid ho;clear B2 ho HA1;unfold Nd.val;go_wp2_with fail
 have HM3:=hid (Ac.new w2 #[.string n.op,.string n.name,.slice a5 n.ins.length c5,.string n.out,.slice a6 n.attrs.length c6] 25);have HB23:Hid (Below w2.heap.size w2 (w2.alloc (Obj.cells #[.string n.op,.string n.name,.slice a5 n.ins.length c5,.string n.out,.slice a6 n.attrs.length c6] 25))):=hid ((Below.refl _ w2).alloc (Nat.le_refl _) _);have HB3:=hid (HB2.out.trans (HB23.out.mono HB2.out.size));have HA3:=hid (HA2.out.below' HB23.out);have HO3:=hid (HO2.out.below HB23.out);clear HA2 HO2 HB2;generalize w2.alloc _=w3 at HM3 HB23 HB3 HA3 HO3⊢;generalize w2.heap.size=mb at HM3⊢;clear HB23;refine(Lo (l:=ins) (HS.out.below (AZ HB3.out) HB3.out)).mono ?_;rintro e w4⟨vv4,dvs,rfl,hv4,B4⟩;obtain⟨a7,c7,rfl⟩:=Bh hv4.row;have HB4:=hid (HB3.out.trans (B4.mono HB3.out.size));have HM4:=hid (HM3.out.below' B4);have HA4:=hid (HA3.out.below' B4);have hNB:=HN.out.bounds;have hO4:=(HO3.out.below B4).reads ⟨hNB.ins,by omega,hNB.att⟩;have HO4:Hid (Fg w4 n (.slice a5 n.ins.length c5) (.slice a6 n.attrs.length c6)):=hid ⟨hO4.is,hO4.ia⟩;have HV4:=hid (T8 hv4 hil HBd.out);have HN4:=hid (HN.out.below HB4.out);have HS4:=hid (HS.out.below (AZ HB4.out) HB4.out);have HG4:=hid (HG.out.below HB4.out);obtain⟨k0,k1,k2,k3,k4⟩:=HM4.out.five;clear B4 hv4 hNB hO4 HM3 HA3 HO3 HB3;go_wp2_with fail
 clear k0 k1 k2 k3 k4;refine(TA (n:=n) (ins:=ins) ⟨_,_,rfl,HO4.out⟩ HV4.out HG4.out HAX.out).mono ?_;rintro e w5 h5;obtain⟨ar,cr,rfl,HR5,B5⟩:=h5.uni;have HM5:=hid (HM4.out.below' B5.out);have HA5:=hid (HA4.out.below' B5.out);clear h5;have HT:=hid (Zd n ins);obtain⟨cd,hcd⟩:∃cd,(BL n ins).1=cd:=⟨_,rfl⟩;have HCd:=hid hcd;obtain⟨s,hs0⟩:∃s,oS n (BL n ins)=s:=⟨_,rfl⟩;obtain⟨t,ht0⟩:∃t,oT (BL n ins)=t:=⟨_,rfl⟩;obtain⟨ds,hd0⟩:∃ds,oD (BL n ins)=ds:=⟨_,rfl⟩;have HS0:=hid hs0;have HT0:=hid ht0;have HD0:=hid hd0;rw[hcd,hs0,ht0,hd0];rw[hd0]at HR5 HGd;rw[hs0]at HOs;rw[ht0]at HT;clear hcd hs0 ht0 hd0;have HX6:=hid (Ac.new w5 #[.string s,.int .i64 t,.slice ar ds.length cr] 31);have B56:=hid ((Below.refl w5.heap.size w5).alloc (Nat.le_refl _) (Obj.cells #[.string s,.int .i64 t,.slice ar ds.length cr] 31));have HM6:=hid (HM5.out.below' B56.out);have HA6:=hid (HA5.out.below' B56.out);have HR6:=hid (HR5.out.below B56.out);have B46:=hid (B5.out.trans (B56.out.mono B5.out.size));obtain⟨k0,k1,k2,k3,k4⟩:=HA6.out.five;clear B56 HM5 HA5 HR5 B5;go_wp2_with fail
 clear k0 k1 k2 k3 k4;generalize w5.alloc _=w6 at HX6 HM6 HA6 HR6 B46⊢;generalize w5.heap.size=ab at HX6⊢;refine(Wr (n:=n) (ins:=ins) ⟨_,_,rfl,HN4.out.below B46.out⟩ (HS4.out.below (AZ B46.out) B46.out) HAX.out).mono ?_;rintro e w7 h7;obtain⟨aq,cq,rfl,HR7,B7⟩:=h7.uni;rw[HCd.out,HS0.out,HT0.out,HD0.out];rw[HD0.out]at HR7;clear h7;have HX7:=hid (HX6.out.below' B7.out);have HM7:=hid (HM6.out.below' B7.out);have HA7:=hid (HA6.out.below' B7.out);have HQ7:=hid (HR6.out.below B7.out);have B47:=hid (B46.out.trans (B7.out.mono B46.out.size));have HY8:=hid (Ac.new w7 #[.string s,.int .i64 t,.slice aq ds.length cq] 31);have B78:=hid ((Below.refl w7.heap.size w7).alloc (Nat.le_refl _) (Obj.cells #[.string s,.int .i64 t,.slice aq ds.length cq] 31));have HX8:=hid (HX7.out.below' B78.out);have HM8:=hid (HM7.out.below' B78.out);have HA8:=hid (HA7.out.below' B78.out);have HQ8:=hid (HQ7.out.below B78.out);have HR8:=hid (HR7.out.below B78.out);have B48:=hid (B47.out.trans (B78.out.mono B47.out.size));have hcc:(cd != cd)=false:=by simp
 obtain⟨x0,x1,x2⟩:=HX8.out.three;obtain⟨y0,y1,y2⟩:=HY8.out.three;clear B78 B47 HX7 HM7 HA7 HQ7 HR7 B7 HX6 HM6 HA6 HR6 B46;go_wp2_with fail
 clear x0 x1 x2 y0 y1 y2;obtain⟨w8,h8⟩:∃w8,w7.alloc (Obj.cells #[.string s,.int .i64 t,.slice aq ds.length cq] 31)=w8:=⟨_,rfl⟩;rw[h8]at HY8 HX8 HM8 HA8 HQ8 HR8 B48;rw[h8];have hs8:w8.heap.size=w7.heap.size+1:=by rw[←h8];exact World.size_alloc _ _
 obtain⟨w9,h9⟩:∃w9,w8.alloc (Obj.cells #[.string s,.int .i64 t,.slice ar ds.length cr] 31)=w9:=⟨_,rfl⟩;rw[h9];have hs9:w9.heap.size=w7.heap.size+1+1:=by rw[←h9,World.size_alloc,hs8]
 have HP9:Ac w9 (w7.heap.size+1) #[.string s,.int .i64 t,.slice ar ds.length cr] 31:=by rw[←hs8,←h9];exact Ac.new _ _ _
 have B89:Below w8.heap.size w8 w9:=by rw[←h9];exact(Below.refl _ w8).alloc (Nat.le_refl _) _
 obtain⟨w10,h10⟩:∃w10,w9.alloc (Obj.cells #[.string s,.int .i64 t,.slice aq ds.length cq] 31)=w10:=⟨_,rfl⟩;rw[h10];have HP10:Ac w10 (w7.heap.size+1+1) #[.string s,.int .i64 t,.slice aq ds.length cq] 31:=by rw[←hs9,←h10];exact Ac.new _ _ _
 have B910:Below w9.heap.size w9 w10:=by rw[←h10];exact(Below.refl _ w9).alloc (Nat.le_refl _) _
 have HP9:=HP9.below' B910;have B8:=B89.trans (B910.mono B89.size);have HX:=hid (HX8.out.below' B8);have HM:=hid (HM8.out.below' B8);have HA:=hid (HA8.out.below' B8);have HQ:=hid (HQ8.out.below B8);have HR:=hid (HR8.out.below B8);have B410:=hid (B48.out.trans (B8.mono B48.out.size));have L1:=hid (Ww HP9 HOs.out HT.out (HQ.out.ints HGd.out.1 HGd.out.2));have L2:=hid (Ww HP10 HOs.out HT.out (HR.out.ints HGd.out.1 HGd.out.2));clear h8 h9 h10 hs8 hs9 B8 B89 B910 HP9 HP10 HX8 HM8 HA8 HQ8 HR8 B48 HY8;refine(Jz L1.out L2.out).mono ?_;rintro e w11⟨rfl,B11⟩;have HX:=hid (HX.out.below' B11);have HM:=hid (HM.out.below' B11);have HA:=hid (HA.out.below' B11);have HQ:=hid (HQ.out.below B11);have B4w:=hid (B410.out.trans (B11.mono B410.out.size));clear L1 L2 B11 B410 HR;obtain⟨x0,x1,x2⟩:=HX.out.three;go_wp2_with fail
 clear x0 x1 x2;have hdl:=HGd.out.1;go_loopw [11] (fun i wr=>∃(k:Nat) (out:List Int),k≤ds.length∧i=.int .i64 (k:Int)∧Hid (out.length=ds.length)∧Hid (Vb.Bj w4.heap.size wr (.slice ar ds.length cr) out)∧Hid (Ac wr ab #[.string s,.int .i64 t,.slice ar ds.length cr] 31)∧Hid (Below w4.heap.size w4 wr)) (fun i _=>ds.length-(intOf i).toNat)
 case atStart=>exact⟨0,ds,Nat.zero_le _,rfl,hid rfl,hid (by have:=HQ.out;unfold Ag at this;exact this),HX,B4w⟩
 case round=>
  obtain⟨k,out,hk,rfl,HOL,hO,hX,hW⟩:=hrel;obtain⟨x0,x1,x2⟩:=hX.out.three;by_cases hkl:k<ds.length
  ·have hki:(k:Int)<(ds.length:Int):=by omega
   obtain⟨g,hg,hgB,u0,z0,hst⟩:=hO.out.at HOL.out hkl;subst hg;have hf:=hO.out;unfold Vb.Bj at hf;have hne:g≠ab:=fun e=>Bu hf hX.out (by decide) g rfl e;clear hf;have HST:=hid (hst (-1));have HXS:=hid (Jw hX.out (p:=⟨g,k,none⟩) (.int .i64 (-1)) (fun e=>hne e.symm));have HWS:=hid (hW.out.setCell (p:=⟨g,k,none⟩) hgB (.int .i64 (-1)));clear hst hne;go_wp2_with fail
   go_roundw
   case rel=>exact⟨k+1,out.set k (-1),by omega,by go_num,hid (by rw[List.length_set];exact HOL.out),HST,HXS,HWS⟩
   case measure=>simp[intOf];omega
  ·have hki:¬(k:Int)<(ds.length:Int):=by omega
   have HBw:=hid (HB4.out.trans (hW.out.mono HB4.out.size));obtain⟨k0,k1,k2,k3,k4⟩:=(HM4.out.below' hW.out).five;obtain⟨m0,m1,m2,m3,m4⟩:=(HA4.out.below' hW.out).five;have hsn:=TM n (HO4.out.below hW.out) (HN4.out.below hW.out);unfold Nd.val at hsn;have HSN:=hid hsn;have HVw:=hid (HV4.out.below (AZ hW.out) hW.out);have HSw:=hid (HS4.out.below (AZ hW.out) hW.out);clear hsn;go_wp2_with fail
   clear x0 x1 x2 k0 k1 k2 k3 k4 m0 m1 m2 m3 m4;refine HSN.out.mono ?_;rintro e w12⟨rfl,B12⟩;have HB12:=hid (HBw.out.trans (B12.mono HBw.out.size));have HV12:=hid (HVw.out.below (AZ B12) B12);have HS12:=hid (HSw.out.below (AZ B12) B12);clear B12;go_wp2_with fail
   refine(Jz HV12.out HS12.out).mono ?_;rintro e w13⟨rfl,B13⟩;have HB13:=hid (HB12.out.trans (B13.mono HB12.out.size));clear B13;go_wp2_with fail
   refine(HLv.out _ HB13.out).mono ?_;rintro e w14⟨rfl,B14⟩;have HB14:=hid (HB13.out.trans (B14.mono HB13.out.size));clear B14;go_wp2
   go_ret
   exact⟨rfl,HB14.out⟩
end
section
open Go.RowKit Go.ChangeShapes Go.WideShapes Go.Deep
theorem BJ.imp{α:Type}{sz:Nat}{R R':Rd α}{w:World}{v:Value}{xs:List α}(h:BJ sz R w v xs)(hR:∀cs x,R w cs x→R' w cs x):BJ sz R' w v xs:=by
 cases h with
 | empty a0 cap=>exact .empty a0 cap
 | row b off cap _ h0 hc hb hr hlen=>
  refine .row b off cap xs h0 hc hb (fun j x hj=>?_) hlen;obtain⟨cs,h1,h2,h3⟩:=hr j x hj;exact⟨cs,h1,hR _ _ h2,h3⟩
theorem BJ.each{α:Type}{sz:Nat}{R:Rd α}{w:World}{v:Value}{xs:List α}{P:α→Prop}(h:BJ sz R w v xs)(hR:∀cs x,R w cs x→P x):∀x∈xs,P x:=fun x hx=>by
 obtain⟨j,hj⟩:=List.getElem?_of_mem hx;obtain⟨b,off,cap,cs,h1,h2,h3,h4,h5,h6⟩:=h.rows j x hj;exact hR cs x h5
def Sz:Rd At:=fun w cs a=>Ux w cs a∧a.ints.length≤1048575
theorem RB:F5 Tryz.prog 43 9 Sz:=by
 refine⟨by kernel_rfl,fun {H} enc W fuel cs x h hlt hb=>?_⟩;obtain⟨xs,n,_,rfl,hl,hlen,hf⟩:=DataW.trod_struct Tryz.underlying43 h;rw[show Tryz.prog.cellsOf 43=9 by kernel_rfl]at hl
 match cs,hl with
 | [c0,c1,c2,c3,c4,c5,c6,c7,c8],_=>
  obtain⟨a0,e0,i0⟩:=Be hf hlen hlt hb (i:=0) rfl C1;obtain⟨a1,e1,i1⟩:=Be hf hlen hlt hb (i:=1) rfl M2;obtain⟨a2,e2,i2⟩:=Be hf hlen hlt hb (i:=2) rfl Qs;obtain⟨a3,e3,i3⟩:=Be hf hlen hlt hb (i:=3) rfl Qs;obtain⟨a4,e4,i4⟩:=Be hf hlen hlt hb (i:=4) rfl C1;obtain⟨⟨t0,t1,t2⟩,vd,vx,e5,i5,i6,i7⟩:=Be hf hlen hlt hb (i:=5) rfl Oq;obtain⟨a8,v8,e8,i8⟩:=Be hf hlen hlt hb (i:=6) rfl Ma;obtain rfl:=DS e0;obtain rfl:=DS e1;obtain rfl:=DS e2;obtain rfl:=DS e3;obtain rfl:=DS e4;obtain rfl:=DS e8;have e5':[c5,c6,c7]=[.int .i64 t0,vd,vx]:=e5;obtain⟨rfl,rfl,rfl⟩:c5=.int .i64 t0∧c6=vd∧c7=vx:=by simpa using e5'
  exact⟨⟨a0,a1,a2,a3,a4,t0,t1,t2,a8⟩,⟨_,_,_,rfl,⟨i6,i7,Aa.of_sl i8,i1,i2,i3,i5,i0,i4⟩⟩,i8.len⟩
theorem PV:F5 Tryz.prog 23 1 (SE 9 Sz):=Et Tryz.underlying23 (by kernel_rfl) (by decide) RB
end
section
open Go.RowKit Go.ChangeShapes Go.WideShapes Go.Deep
def XT:Rd Nd:=fun w cs n=>∃vin vat,cs=[.string n.op,.string n.name,vin,.string n.out,vat]∧Fg w n vin vat∧n.attrs.length≤1048575∧(∀a∈n.attrs,a.ints.length≤1048575)∧n.out.size≤1048576
theorem RC:F5 Tryz.prog 25 5 XT:=by
 refine⟨by kernel_rfl,fun {H} enc W fuel cs x h hlt hb=>?_⟩;obtain⟨xs,n,_,rfl,hl,hlen,hf⟩:=DataW.trod_struct Tryz.underlying25 h;rw[show Tryz.prog.cellsOf 25=5 by kernel_rfl]at hl
 match cs,hl with
 | [c0,c1,c2,c3,c4],_=>
  obtain⟨a0,e0,i0⟩:=Be hf hlen hlt hb (i:=0) rfl C1;obtain⟨a1,e1,i1⟩:=Be hf hlen hlt hb (i:=1) rfl C1;obtain⟨a2,v2,e2,i2⟩:=Be hf hlen hlt hb (i:=2) rfl SY;obtain⟨a3,e3,i3⟩:=Be hf hlen hlt hb (i:=3) rfl C1;obtain⟨a4,v4,e4,i4⟩:=Be hf hlen hlt hb (i:=4) rfl PV;obtain rfl:=DS e0;obtain rfl:=DS e1;obtain rfl:=DS e2;obtain rfl:=DS e3;obtain rfl:=DS e4;exact⟨⟨a0,a1,a2,a3,a4⟩,_,_,rfl,⟨Bi.of_sl i2,Bw.of_sl (i4.imp fun _ _ h=>h.1)⟩,i4.len,i4.each (fun _ _ h=>h.2),i3⟩
theorem RD{H:Type}{enc:TypeId×Value→H}{W:World}{r:Reach}{b0:Nat}{v:Value}{d:DataW H}{p:List MemPlace}
  (hv:Value.okWide Tryz.prog W r b0 25 v) (hd:DataW.Trod enc Tryz.prog W 0 (fun _=>true) true 25 v d p) (hlt:∀y∈p,y.block<W.heap.size) (hb:Rows.uptoBulk d≤1048576):∃n,Ba W v n∧n.attrs.length≤1048575∧(∀a∈n.attrs,a.ints.length≤1048575)∧n.out.size≤1048576:=by
 obtain⟨cs,n,rfl,vin,vat,e,h,hl⟩:=Uf Tryz.underlying25 RC hv hd hlt hb;refine⟨n,⟨vin,vat,?_,h⟩,hl⟩;unfold Nd.val
 congr 1
 rw[←Array.toList_inj,e]
theorem NN{w:World}{vn vv:Value}{n:Nd}{ins:List Vl}(hn:Ba w vn n)(hb:n.attrs.length≤1048575)(hm:(∀a∈n.attrs,a.ints.length≤1048575)∧n.out.size≤1048576)(hs:BJ 3 AM w vv ins)(hG:Eu w) :
  Calls Tryz.prog 3 #[vn,vv] w fun e w'=>e=.returned (.bool true)∧Below w.heap.size w w':=PU hn hb hm.2 hs hG (Yt hm.1)
end
section
open Go.ChangeShapes Go.WideShapes Go.ChangeAt Go.RowKit
theorem own:ownKnob Tryz.prog.godebug=none:=by kernel_rfl
theorem SC:laidOutB Tryz.prog=true:=by kernel_rfl
theorem PW:Tryz.prog.cellsOf 9=1:=by kernel_rfl
def ML:List (String×DataW Unit):=[("unicode/utf8.acceptRanges",Rows.laid_unicode_utf8_acceptRanges),("mandrel/schema.ones",Rows.laid_mandrel_schema_ones),("unicode/utf8.first",Rows.laid_unicode_utf8_first)]
theorem aT:Tryz.prog.globalNamed "mandrel/schema.ones" =some 0:=by kernel_rfl
theorem aU:(Tryz.prog.globals[0]?).map (·.type)=some 162:=by kernel_rfl
theorem aV:(Es.map fun s=>(DataW.lit (.string s.data.toList):DataW Unit))=[.lit (.string [73,100,101,110,116,105,116,121]),.lit (.string [78,101,103]),.lit (.string [65,98,115]),.lit (.string [78,111,116]),.lit (.string [82,101,108,117]),.lit (.string [83,113,114,116]),.lit (.string [70,108,111,111,114]),.lit (.string [69,120,112]),.lit (.string [83,105,103,109,111,105,100]),.lit (.string [84,97,110,104])]:=by rfl
theorem Ua{a b:ByteArray}(h:a.data.toList=b.data.toList):a=b:=by
 cases a;cases b
 simpa using h
theorem XU{W:World}(h:laidMetH Tryz.prog ML W):∀(j:Nat) s,Es[j]?=some s→W.cell? ⟨0,j,none⟩=some (.string s):=by
 rw[MakeChecks.laidMetH_plain _ _ _ (by kernel_rfl)]at h;obtain⟨ps,⟨g0,t0,cs0,f0,p0,q0,hg0,ht0,hv0,hd0,⟨g1,t1,cs1,f1,p1,q1,hg1,ht1,hv1,hd1,_,_⟩,_⟩,_,_⟩:=h;obtain rfl:=Option.some.inj (aT.symm.trans hg1);obtain rfl:=Option.some.inj (aU.symm.trans ht1);obtain⟨xs,m,_,ex,_,hl,hel⟩:=DataW.trod_array Tryz.underlying162 hd1;intro j s hj;have hj10:j<10:=(List.getElem?_eq_some_iff.1 hj).1;have hE:=hel j hj10;rw[PW,Nat.mul_one,List.getElem?_eq_getElem (by omega)]at hE;obtain⟨z,e1,e2,_⟩:=DataW.trod_string Tryz.underlying9 hE;have e3:(xs.map (·.1))=Es.map fun s=>(DataW.lit (.string s.data.toList):DataW Unit):=by
  rw[aV];exact(DataW.agg.inj (Prod.mk.inj ex).1).symm
 have e4:(xs.map (·.1))[j]?=(Es.map fun s=>(DataW.lit (.string s.data.toList):DataW Unit))[j]?:=by rw[e3]
 rw[List.getElem?_map,List.getElem?_map,List.getElem?_eq_getElem (by omega:j<xs.length),hj,e2]at e4;have hz:z=s:=by
  simp only[Option.map_some,Option.some.injEq,DataW.lit.injEq,Lit.string.injEq]at e4;exact Ua e4
 rw[World.var?_cell hg1 hv1 j,←hz];have h0:((cs1.toList.drop j).take 1)[0]?=some (.string z):=by rw[e1];rfl
 simpa using h0
theorem XV{W:World}(h:laidMetH Tryz.prog ML W)(hs:W.ShapedOpen Tryz.prog):Eu W where
 ones:=XU h
 max:=Go.Proofs.cell_of_shapedOpen_int (zero:=#[.int .i64 0]) (t:=3) hs (of_decide_eq_true (by kernel_rfl)) (by kernel_rfl) rfl (by kernel_rfl) (by kernel_rfl) Tryz.underlying3
theorem Wx(os:Os)(args:Array Value):laidMetH Tryz.prog ML ((World.laidAll Tryz.prog os ML).forCall (fun _ _=>0) ⟨#[],args,[]⟩).memory:=by
 rw[MakeChecks.laidMetH_plain _ _ _ (by kernel_rfl)];exact laidMet_laidAll _ (by kernel_rfl) (by kernel_rfl)
end
section
open Go.RowKit Go.ChangeShapes Go.WideShapes Go.Deep
theorem PX{H:Type}{enc:TypeId×Value→H}{W:World}{r:Reach}{b0:Nat}{v:Value}{d:DataW H}{p:List MemPlace}
  (hv:Value.okWide Tryz.prog W r b0 26 v) (hd:DataW.Trod enc Tryz.prog W 0 (fun _=>true) true 26 v d p) (hlt:∀y∈p,y.block<W.heap.size) (hb:Rows.uptoBulk d≤1048576):∃l,BJ 3 AM W v l:=by
 obtain⟨a,len,cap,rfl⟩:=okWide_slice Tryz.underlying26 hv;obtain⟨fuel,hf⟩:=hd;obtain⟨l,v1,e,h⟩:=Ot.2 enc W fuel _ _ hf hlt hb;simp[Value.cells]at e;subst e;exact⟨l,h⟩
end
end Go.Proofs.YtkkeehnldcdccaaGreatDoor
