import Derived.BigQuiet
import Derived.Deep.QuietTactic
import Derived.Deep.LoopGhost
import Derived.Test.YtkkeehnldcdccaaGreatDoorNe33
set_option linter.unusedVariables false
set_option linter.unusedSimpArgs false
set_option maxRecDepth 100000
set_option maxHeartbeats 8000000
namespace Go.Proofs.YtkkeehnldcdccaaGreatDoor
open Go.Lib (hid)
open Go.RowKit
def Q7(xs ys:List Int)(k:Nat):Prop:=∀j,j<k→xs.getD j 0=ys.getD j 0
theorem VR{xs ys:List Int}(hl:xs.length=ys.length)(h:Q7 xs ys xs.length):xs=ys:=by
 refine List.ext_getElem hl fun j h1 h2=>?_;have:=h j h1
 simpa[List.getD,List.getElem?_eq_getElem h1,List.getElem?_eq_getElem h2]using this
theorem Q8(b1 o1 c1 b2 o2 c2:Nat)(xs ys:List Int)(hlen:xs.length*8≤140737488351232)(hl:xs.length=ys.length)(w:World)(hb1:b1<w.heap.size)(hb2:b2<w.heap.size)(h1:Hid (Ec w b1 o1 xs))(h2:Hid (Ec w b2 o2 ys)) :
  Calls Tryz.prog 31 #[.slice (some ⟨b1,o1,none⟩) xs.length c1,.slice (some ⟨b2,o2,none⟩) ys.length c2] w fun e w'=>e=.returned (.bool (decide (xs=ys)))∧Below w.heap.size w w':=by
 rw[←hl];have HL:=hid hl;clear hl;go_enter Tryz.func31,Tryz.ntmps31
 go_wp2
 go_loopw [5] (fun i wr=>∃k:Nat,k≤xs.length∧i=.int .i64 (k:Int)∧Hid (Q7 xs ys k)∧Hid (Below w.heap.size w wr)) (fun i _=>xs.length-(intOf i).toNat)
 case atStart=>exact⟨0,Nat.zero_le _,rfl,hid (fun j hj=>by omega),hid (Below.refl _ _)⟩
 case round=>
  obtain⟨k,hk,rfl,hs,hb⟩:=hrel;by_cases hkl:k<xs.length
  ·have x1:=(hb.out.cell (p:=⟨b1,o1+k,none⟩) hb1).trans (h1.out k hkl);have x2:=(hb.out.cell (p:=⟨b2,o2+k,none⟩) hb2).trans (h2.out k (by have:=HL.out;omega));have hki:(k:Int)<(xs.length:Int):=by omega
   have hnx:Hid (xs.getD k 0=ys.getD k 0→Q7 xs ys (k+1)):=hid fun h j hj=>by
    by_cases e:j=k
    ·subst e;exact h
    ·exact hs.out j (by omega)
   have hno:Hid (xs.getD k 0≠ys.getD k 0→xs≠ys):=hid fun h e=>h (by rw[e]);generalize xs.getD k 0=x at*;generalize ys.getD k 0=y at*;by_cases hxy:x=y
   ·have HN:=hid (hnx.out hxy);subst hxy;go_wp2
    go_quiet (fail)
    go_wp2
    go_roundw
    case rel=>exact⟨k+1,by omega,by go_num,HN,hid (below_drewN hb.out _)⟩
    case measure=>simp[intOf];omega
   ·have HN:=hid (hno.out hxy);go_wp2
    go_quiet (fail)
    go_wp2
    go_ret
    exact⟨Ab (Ar (by rw[decide_eq_false HN.out])),below_drewN hb.out _⟩
  ·obtain rfl:k=xs.length:=by omega
   have HN:=hid (VR HL.out hs.out);go_wp2
   go_ret
   exact⟨Ab (Ar (by rw[decide_eq_true HN.out])),hb.out⟩
theorem Q9(a1 a2:Option Addr)(n1 n2 c1 c2:Nat)(hl:(n1:Int)≠(n2:Int))(w:World) :
  Calls Tryz.prog 31 #[.slice a1 n1 c1,.slice a2 n2 c2] w fun e w'=>e=.returned (.bool false)∧w=w':=by
 have h:((n1:Int) != (n2:Int))=true:=by simpa using hl
 go_enter Tryz.func31,Tryz.ntmps31
 go_wp2
 all_goals first
  | (go_ret;exact⟨rfl,rfl⟩)
  | (exfalso;simp_all)
theorem Pz(a1 a2:Option Addr)(c1 c2:Nat)(w:World) :
  Calls Tryz.prog 31 #[.slice a1 0 c1,.slice a2 0 c2] w fun e w'=>e=.returned (.bool true)∧w=w':=by
 go_enter Tryz.func31,Tryz.ntmps31
 go_wp2
 go_rounds 1
 go_ret
 exact⟨rfl,rfl⟩
theorem GM{w:World}{a b:Value}{xs ys:List Int}(h1:Aa w a xs)(h2:Aa w b ys) :
  Calls Tryz.prog 31 #[a,b] w fun e w'=>e=.returned (.bool (decide (xs=ys)))∧Below w.heap.size w w':=by
 by_cases hl:xs.length=ys.length
 ·cases h1 with
  | empty a0 c0=>
   have e:ys=[]:=List.eq_nil_of_length_eq_zero (by simpa using hl.symm);subst e;obtain⟨a3,c3,rfl⟩:=h2.shape;refine(Pz a0 a3 c0 c3 w).mono ?_;rintro e w'⟨rfl,rfl⟩;exact⟨rfl,Below.refl _ _⟩
  | row b1 o1 c1 _ n0 hc hb hr hlen hw=>
   cases h2 with
   | empty a0 c0=>exact absurd (List.eq_nil_of_length_eq_zero (by simpa using hl)) n0
   | row b2 o2 c2 _ n0' hc' hb' hr' hlen' hw'=>exact Q8 b1 o1 c1 b2 o2 c2 xs ys hlen hl w hb hb' (hid hr) (hid hr')
 ·obtain⟨a1,c1,rfl⟩:=h1.shape;obtain⟨a2,c2,rfl⟩:=h2.shape;refine(Q9 a1 a2 xs.length ys.length c1 c2 (by omega) w).mono ?_;rintro e w'⟨rfl,rfl⟩;exact⟨Ab (Ar (decide_eq_false (fun e=>hl (by rw[e]))).symm),Below.refl _ _⟩
theorem PA(t:Int)(dims data:List Int){w:World}{v1 x1 v2 x2:Value}(h1:Aa w v1 dims)(h2:Aa w x1 data)(h3:Aa w v2 dims)(h4:Aa w x2 data) :
  Calls Tryz.prog 80 #[.agg #[.int .i64 t,v1,x1],.agg #[.int .i64 t,v2,x2]] w fun e w'=>e=.returned (.bool true)∧Below w.heap.size w w':=by
 obtain⟨a1,c1,rfl⟩:=h1.shape;obtain⟨a2,c2,rfl⟩:=h2.shape;obtain⟨a3,c3,rfl⟩:=h3.shape;obtain⟨a4,c4,rfl⟩:=h4.shape;have hlen:=h2.wf.1;have H1:=hid h1;have H2:=hid h2;have H3:=hid h3;have H4:=hid h4;clear h1 h2 h3 h4;go_enter Tryz.func80,Tryz.ntmps80
 go_wp2_with fail
 generalize hw1:(w.alloc _).alloc _=w1;have HA1:Hid (Ac w1 w.heap.size #[.int .i64 t,.slice a1 dims.length c1,.slice a2 data.length c2] 41):=hid (by rw[←hw1];exact(Ac.new w _ _).below' ((Below.refl _ _).alloc (Nat.le_refl _) _));have HE1:Hid (Ac w1 (w.heap.size+1) #[.int .i64 t,.slice a3 dims.length c3,.slice a4 data.length c4] 41):=hid (by
  have:=Ac.new (w.alloc (Obj.cells #[.int .i64 t,.slice a1 dims.length c1,.slice a2 data.length c2] 41)) #[.int .i64 t,.slice a3 dims.length c3,.slice a4 data.length c4] 41;rw[World.size_alloc]at this;rw[←hw1];exact this)
 have HB1:Hid (Below w.heap.size w w1):=hid (by rw[←hw1];exact((Below.refl _ w).alloc (Nat.le_refl _) _).alloc (by simp) _);clear hw1;refine(GM (H1.out.below HB1.out) (H3.out.below HB1.out)).mono ?_;rintro e w2⟨rfl,B2⟩;rw[show decide (dims=dims)=true from decide_eq_true rfl];have HA2:=hid (HA1.out.below' B2);have HE2:=hid (HE1.out.below' B2);have HB2:=hid (HB1.out.trans (B2.mono HB1.out.size));clear B2 HA1 HE1 HB1;have e2:w2.cell? ⟨w.heap.size,2,none⟩=some (.slice a2 data.length c2):=HA2.out.cell 2 rfl;have g2:w2.cell? ⟨w.heap.size+1,2,none⟩=some (.slice a4 data.length c4):=HE2.out.cell 2 rfl;go_wp2_with fail
 go_loopw [5] (fun i wr=>∃k:Nat,k≤data.length∧i=.int .i64 (k:Int)∧Hid (Below w2.heap.size w2 wr)) (fun i _=>data.length-(intOf i).toNat)
 case atStart=>exact⟨0,Nat.zero_le _,rfl,hid (Below.refl _ _)⟩
 case round=>
  obtain⟨k,hk,rfl,hB⟩:=hrel;have r2:wr.cell? ⟨w.heap.size,2,none⟩=some (.slice a2 data.length c2):=(HA2.out.below' hB.out).cell 2 rfl;have q2:wr.cell? ⟨w.heap.size+1,2,none⟩=some (.slice a4 data.length c4):=(HE2.out.below' hB.out).cell 2 rfl;clear e2 g2;by_cases hkl:k<data.length
  ·have hki:(k:Int)<(data.length:Int):=by omega
   have hk0:(0:Int)≤(k:Int):=by omega
   have hBr:=HB2.out.trans (hB.out.mono HB2.out.size);obtain⟨b,o,c,hv,hb,hr,_⟩:=H2.out.rows hkl;obtain⟨rfl,_,rfl⟩:=Value.slice.inj hv;obtain⟨b',o',c',hv',hb',hr',_⟩:=H4.out.rows hkl;obtain⟨rfl,_,rfl⟩:=Value.slice.inj hv';have x1:=(hBr.cell (p:=⟨b,o+k,none⟩) hb).trans (hr k hkl);have x2:=(hBr.cell (p:=⟨b',o'+k,none⟩) hb').trans (hr' k hkl);generalize data.getD k 0=z at x1 x2;clear hv hv' hr hr' hBr;go_wp2
   go_quiet (fail)
   go_wp2
   go_roundw
   case rel=>exact⟨k+1,by omega,by go_num,hid (below_drewN hB.out _)⟩
   case measure=>simp[intOf];omega
  ·have hki:¬(k:Int)<(data.length:Int):=by omega
   go_wp2
   go_ret
   exact⟨rfl,HB2.out.trans (hB.out.mono HB2.out.size)⟩
theorem TL(a:At){w:World}{v1 x1 i1 v2 x2 i2:Value}(h1:Er w a v1 x1 i1)(h2:Er w a v2 x2 i2) :
  Calls Tryz.prog 32 #[a.val v1 x1 i1,a.val v2 x2 i2] w fun e w'=>e=.returned (.bool true)∧Below w.heap.size w w':=by
 obtain⟨d1,e1,rfl⟩:=h1.id.shape;obtain⟨x1,f1,rfl⟩:=h1.ix.shape;obtain⟨a2,c2,rfl⟩:=h1.ii.shape;obtain⟨d2,e2,rfl⟩:=h2.id.shape;obtain⟨x2,f2,rfl⟩:=h2.ix.shape;obtain⟨a4,c4,rfl⟩:=h2.ii.shape;have hlen:=h1.ii.wf.1;have H1:=hid h1;have H2:=hid h2;clear h1 h2;unfold At.val;go_enter Tryz.func32,Tryz.ntmps32
 go_wp2_with fail
 generalize hw1:(w.alloc _).alloc _=w1;have HA1:Hid (Ac w1 w.heap.size #[.string a.name,.int .i64 a.kind,.int .i64 a.f,.int .i64 a.i,.string a.s,.int .i64 a.typ,.slice d1 a.dims.length e1,.slice x1 a.data.length f1,.slice a2 a.ints.length c2] 43):=hid (by rw[←hw1];exact(Ac.new w _ _).below' ((Below.refl _ _).alloc (Nat.le_refl _) _));have HE1:Hid (Ac w1 (w.heap.size+1) #[.string a.name,.int .i64 a.kind,.int .i64 a.f,.int .i64 a.i,.string a.s,.int .i64 a.typ,.slice d2 a.dims.length e2,.slice x2 a.data.length f2,.slice a4 a.ints.length c4] 43):=hid (by
  have:=Ac.new (w.alloc (Obj.cells #[.string a.name,.int .i64 a.kind,.int .i64 a.f,.int .i64 a.i,.string a.s,.int .i64 a.typ,.slice d1 a.dims.length e1,.slice x1 a.data.length f1,.slice a2 a.ints.length c2] 43)) #[.string a.name,.int .i64 a.kind,.int .i64 a.f,.int .i64 a.i,.string a.s,.int .i64 a.typ,.slice d2 a.dims.length e2,.slice x2 a.data.length f2,.slice a4 a.ints.length c4] 43;rw[World.size_alloc]at this;rw[←hw1];exact this)
 have HB1:Hid (Below w.heap.size w w1):=hid (by rw[←hw1];exact((Below.refl _ w).alloc (Nat.le_refl _) _).alloc (by simp) _);clear hw1;refine(PA a.typ a.dims a.data (H1.out.id.below HB1.out) (H1.out.ix.below HB1.out) (H2.out.id.below HB1.out) (H2.out.ix.below HB1.out)).mono ?_;rintro e w2⟨rfl,B2⟩;have HA2:=hid (HA1.out.below' B2);have HE2:=hid (HE1.out.below' B2);have HB2:=hid (HB1.out.trans (B2.mono HB1.out.size));clear B2 HA1 HE1 HB1;have e2:w2.cell? ⟨w.heap.size,8,none⟩=some (.slice a2 a.ints.length c2):=HA2.out.cell 8 rfl;have g2:w2.cell? ⟨w.heap.size+1,8,none⟩=some (.slice a4 a.ints.length c4):=HE2.out.cell 8 rfl;go_wp2_with fail
 go_loopw [5] (fun i wr=>∃k:Nat,k≤a.ints.length∧i=.int .i64 (k:Int)∧Hid (Below w2.heap.size w2 wr)) (fun i _=>a.ints.length-(intOf i).toNat)
 case atStart=>exact⟨0,Nat.zero_le _,rfl,hid (Below.refl _ _)⟩
 case round=>
  obtain⟨k,hk,rfl,hB⟩:=hrel;have r2:wr.cell? ⟨w.heap.size,8,none⟩=some (.slice a2 a.ints.length c2):=(HA2.out.below' hB.out).cell 8 rfl;have q2:wr.cell? ⟨w.heap.size+1,8,none⟩=some (.slice a4 a.ints.length c4):=(HE2.out.below' hB.out).cell 8 rfl;clear e2 g2;by_cases hkl:k<a.ints.length
  ·have hki:(k:Int)<(a.ints.length:Int):=by omega
   have hk0:(0:Int)≤(k:Int):=by omega
   have hBr:=HB2.out.trans (hB.out.mono HB2.out.size);obtain⟨b,o,c,hv,hb,hr,_⟩:=H1.out.ii.rows hkl;obtain⟨rfl,_,rfl⟩:=Value.slice.inj hv;obtain⟨b',o',c',hv',hb',hr',_⟩:=H2.out.ii.rows hkl;obtain⟨rfl,_,rfl⟩:=Value.slice.inj hv';have x1:=(hBr.cell (p:=⟨b,o+k,none⟩) hb).trans (hr k hkl);have x2:=(hBr.cell (p:=⟨b',o'+k,none⟩) hb').trans (hr' k hkl);generalize a.ints.getD k 0=z at x1 x2;clear hv hv' hr hr' hBr;go_wp2
   go_quiet (fail)
   go_wp2
   go_roundw
   case rel=>exact⟨k+1,by omega,by go_num,hid (below_drewN hB.out _)⟩
   case measure=>simp[intOf];omega
  ·have hki:¬(k:Int)<(a.ints.length:Int):=by omega
   go_wp2
   go_ret
   exact⟨rfl,HB2.out.trans (hB.out.mono HB2.out.size)⟩
theorem TM(n:Nd){w:World}{v1 x1 v2 x2:Value}(h1:Fg w n v1 x1)(h2:Fg w n v2 x2) :
  Calls Tryz.prog 9 #[n.val v1 x1,n.val v2 x2] w fun e w'=>e=.returned (.bool true)∧Below w.heap.size w w':=by
 obtain⟨a1,c1,rfl⟩:=h1.is.form;obtain⟨a2,c2,rfl⟩:=h1.ia.form;obtain⟨a3,c3,rfl⟩:=h2.is.form;obtain⟨a4,c4,rfl⟩:=h2.ia.form;have hil:=h1.is.len;have hal:=h1.ia.len;have H1:=hid h1;have H2:=hid h2;clear h1 h2;unfold Nd.val;go_enter Tryz.func9,Tryz.ntmps9
 go_wp2_with fail
 generalize hw1:(w.alloc _).alloc _=w1;have HA1:Hid (Ac w1 w.heap.size #[.string n.op,.string n.name,.slice a1 n.ins.length c1,.string n.out,.slice a2 n.attrs.length c2] 25):=hid (by rw[←hw1];exact(Ac.new w _ _).below' ((Below.refl _ _).alloc (Nat.le_refl _) _));have HE1:Hid (Ac w1 (w.heap.size+1) #[.string n.op,.string n.name,.slice a3 n.ins.length c3,.string n.out,.slice a4 n.attrs.length c4] 25):=hid (by
  have:=Ac.new (w.alloc (Obj.cells #[.string n.op,.string n.name,.slice a1 n.ins.length c1,.string n.out,.slice a2 n.attrs.length c2] 25)) #[.string n.op,.string n.name,.slice a3 n.ins.length c3,.string n.out,.slice a4 n.attrs.length c4] 25;rw[World.size_alloc]at this;rw[←hw1];exact this)
 have HB1:Hid (Below w.heap.size w w1):=hid (by rw[←hw1];exact((Below.refl _ w).alloc (Nat.le_refl _) _).alloc (by simp) _);clear hw1;go_loopw [5] (fun i wr=>∃k:Nat,k≤n.ins.length∧i=.int .i64 (k:Int)∧Hid (Below w1.heap.size w1 wr)) (fun i _=>n.ins.length-(intOf i).toNat)
 case atStart=>exact⟨0,Nat.zero_le _,rfl,hid (Below.refl _ _)⟩
 case round=>
  obtain⟨k,hk,rfl,hB⟩:=hrel;have r2:wr.cell? ⟨w.heap.size,2,none⟩=some (.slice a1 n.ins.length c1):=(HA1.out.below' hB.out).cell 2 rfl;have q2:wr.cell? ⟨w.heap.size+1,2,none⟩=some (.slice a3 n.ins.length c3):=(HE1.out.below' hB.out).cell 2 rfl;by_cases hkl:k<n.ins.length
  ·have hki:(k:Int)<(n.ins.length:Int):=by omega
   have hk0:(0:Int)≤(k:Int):=by omega
   have hBr:=HB1.out.trans (hB.out.mono HB1.out.size);obtain⟨s,hs⟩:∃s,n.ins[k]?=some s:=⟨_,List.getElem?_eq_getElem hkl⟩;obtain⟨b,o,c,hv,hb,hr⟩:=H1.out.is.rows k s hs;obtain⟨rfl,_,rfl⟩:=Value.slice.inj hv;obtain⟨b',o',c',hv',hb',hr'⟩:=H2.out.is.rows k s hs;obtain⟨rfl,_,rfl⟩:=Value.slice.inj hv';have x1:=(hBr.cell (p:=⟨b,o+k,none⟩) hb).trans (hr k s hs);have x2:=(hBr.cell (p:=⟨b',o'+k,none⟩) hb').trans (hr' k s hs);clear hv hv' hr hr' hBr hs;go_wp2
   go_quiet (fail)
   go_wp2
   go_roundw
   case rel=>exact⟨k+1,by omega,by go_num,hid (below_drewN hB.out _)⟩
   case measure=>simp[intOf];omega
  ·have hki:¬(k:Int)<(n.ins.length:Int):=by omega
   clear hk;go_wp2
   go_loopw [6] (fun i wq=>∃k:Nat,k≤n.attrs.length∧i=.int .i64 (k:Int)∧Hid (Below w1.heap.size w1 wq)) (fun i _=>n.attrs.length-(intOf i).toNat)
   case atStart=>exact⟨0,Nat.zero_le _,rfl,hB⟩
   case round=>
    clear r2 q2 hB hki hkl;obtain⟨m,hm,rfl,hB⟩:=hrel;have hBr:=hid (HB1.out.trans (hB.out.mono HB1.out.size));have HAr:=hid (HA1.out.below' hB.out);have HEr:=hid (HE1.out.below' hB.out);have r4:wr.cell? ⟨w.heap.size,4,none⟩=some (.slice a2 n.attrs.length c2):=HAr.out.cell 4 rfl;by_cases hml:m<n.attrs.length
    ·have hmi:(m:Int)<(n.attrs.length:Int):=by omega
     have hm0:(0:Int)≤(m:Int):=by omega
     obtain⟨a,ha⟩:∃a,n.attrs[m]?=some a:=⟨_,List.getElem?_eq_getElem hml⟩;obtain⟨b,o,c,hv,hb,hr⟩:=H1.out.ia.rows m a ha;obtain⟨rfl,_,rfl⟩:=Value.slice.inj hv;obtain⟨b',o',c',hv',hb',hr'⟩:=H2.out.ia.rows m a ha;obtain⟨rfl,_,rfl⟩:=Value.slice.inj hv';obtain⟨d1,x1,i1,hc1,hn1⟩:=hr m a ha;obtain⟨d2,x2,i2,hc2,hn2⟩:=hr' m a ha;have HN1:=hid hn1;have HN2:=hid hn2;have HS:Hid (∀W',Below wr.heap.size wr W'→W'.cell? ⟨w.heap.size,4,none⟩=some (.slice (some ⟨b,o,none⟩) n.attrs.length c2)∧W'.cell? ⟨w.heap.size+1,4,none⟩=some (.slice (some ⟨b',o',none⟩) n.attrs.length c4)∧Iy W' b (o+m*9) a d1 x1 i1∧Iy W' b' (o'+m*9) a d2 x2 i2):=hid fun W' h=>⟨(HAr.out.below' h).cell 4 rfl,(HEr.out.below' h).cell 4 rfl,hc1.below hb (hBr.out.trans (h.mono hBr.out.size)),hc2.below hb' (hBr.out.trans (h.mono hBr.out.size))⟩;clear hv hv' hr hr' hc1 hc2 hn1 hn2 ha;go_wp2
     refine Ae 11 [0,1,2,3,4,5,6,7,8,9,10] (fun W'=>Below wr.heap.size wr W') (by kernel_rfl) (by kernel_rfl) (fun _ d _ _ _ h=>by cases d<;>exact h) (Below.refl _ _).drew ?_;have B0:Hid (Below wr.heap.size wr wr.drew):=hid (Below.refl _ _).drew
     repeat
      refine Ah (v:=?_) rfl rfl (Or.inl ⟨by rfl,?_⟩) ?_;rotate_left
      ·intro w' hSw;obtain⟨s1,s2,s3,s4⟩:=HS.out w' hSw;obtain⟨e0,e1,e2,e3,e4,e5,e6,e7,e8⟩:=s3;obtain⟨g0,g1,g2,g3,g4,g5,g6,g7,g8⟩:=s4;go_simp
       try with_reducible rfl
      try simp only[Act.put,List.getElem_toArray,List.getElem_cons_zero,List.getElem_cons_succ,List.setIfInBounds_toArray,List.set_cons_zero,List.set_cons_succ]
     refine Av rfl rfl (fun K' hK=>?_);go_simp
     have hb0:=hBr.out.trans (B0.out.mono hBr.out.size);have hc:=TL a (HN1.out.below hb0) (HN2.out.below hb0);unfold At.val at hc;refine hc.mono ?_;rintro e w6⟨rfl,B⟩;have B1:=hid (B0.out.trans (B.mono B0.out.size));refine hK.out _ _ B1.out ?_;clear hK K' B hc hb0 r4;refine Aq rfl ?_;simp only[List.toList_toArray,List.drop_succ_cons,List.drop_zero];go_wp2
     go_roundw
     case rel=>exact⟨m+1,by omega,by go_num,hid (hB.out.trans (B1.out.mono hB.out.size))⟩
     case measure=>simp[intOf];omega
    ·have hmi:¬(m:Int)<(n.attrs.length:Int):=by omega
     go_wp2
     go_ret
     exact⟨rfl,hBr.out⟩
section
attribute [local irreducible] AH De Au Vb.Bx Ag CC Ed
theorem TN{w:World}{v vv:Value}{n:Nd}{ins:List Vl}{x y:Vl}(h:Ba w v n)(hs:BJ 3 AM w vv ins)(hx:ins[0]?=some x)(hy:ins[1]?=some y)(hl:ins.length≤3) :
  Calls Tryz.prog 73 #[v,vv] w fun e w'=>Ff w (CC n x.dims y.dims ((ins[2]?).map Vl.dims)) e w':=by
 obtain⟨a1,c1,a2,c2,rfl,HN⟩:=Cr h;obtain⟨a3,c3,rfl⟩:=hs.form;obtain⟨bi,oi,vd,hai,gi,d0,HX⟩:=Di hs hx;obtain⟨bi',oi',vk,hai',-,d1,HK⟩:=Di hs hy;rw[hai]at hai';obtain⟨rfl,rfl⟩:bi=bi'∧oi=oi':=by simpa using hai'
 have hz:∀z,ins[2]?=some z→∃vz,w.cell? ⟨bi,oi+8,none⟩=some vz∧Aa w vz z.dims:=fun z hz=>by
  obtain⟨b',o',vz,e,-,dz,hi⟩:=Di hs hz;rw[hai]at e;obtain⟨rfl,rfl⟩:bi=b'∧oi=o':=by simpa using e
  exact⟨vz,dz,hi⟩
 subst hai;have hi2:1<ins.length:=(List.getElem?_eq_some_iff.1 hy).1;have d0:w.cell? ⟨bi,oi+2,none⟩=some vd:=by simpa using d0
 have d1:w.cell? ⟨bi,oi+5,none⟩=some vk:=by simpa using d1
 have HX:=hid HX;have HK:=hid HK;have HZ:=hid hz;clear hx hy hai' h hz;generalize x.dims=x at*;generalize y.dims=y at*;go_enter Tryz.func73,Tryz.ntmps73
 have hi0:(0:Int)<(ins.length:Int):=by omega
 have hi1:(1:Int)<(ins.length:Int):=by omega
 have hi0':0<ins.length:=by omega
 go_wp2_with fail
 generalize hW1:w.alloc _=W1;obtain⟨HB1,HF,HN⟩:=HN.out W1 hW1;clear hW1;have e0:=(HB1.out.cell gi).trans d0;have e1:=(HB1.out.cell gi).trans d1;refine Ae 10 [0,1,2,3,4,5,6,7,8,9] (fun W'=>Below W1.heap.size W1 W') (by kernel_rfl) (by kernel_rfl) (fun _ d _ _ _ h=>by cases d<;>exact h) (Below.refl _ _).drew ?_;have B0:Hid (Below W1.heap.size W1 W1.drew):=hid (Below.refl _ _).drew;generalize W1.drew=wD at B0⊢
 repeat
  refine Ah (v:=?_) rfl rfl (Or.inl ⟨by rfl,?_⟩) ?_;rotate_left
  ·intro W' hSw;obtain⟨f0,f1,f2,f3,f4⟩:=HF.out _ hSw;have e0:=(hSw.cell (Al e0)).trans e0;go_simp
   try with_reducible rfl
  try simp only[Act.put,List.getElem_toArray,List.getElem_cons_zero,List.getElem_cons_succ,List.setIfInBounds_toArray,List.set_cons_zero,List.set_cons_succ]
 refine Av rfl rfl (fun K' hK=>?_);go_simp
 refine(Ju Pj (HN.out _ B0.out) (HX.out.below (HB1.out.trans (B0.out.mono HB1.out.size)))).mono ?_;rintro e w2 h2;obtain⟨va,ba,rfl,B2,SA,IA⟩:=h2.uni;have B2:=hid (B0.out.trans (B2.out.mono B0.out.size));clear h2;refine hK.out _ _ B2.out ?_;clear hK K'
 repeat
  refine Ah (v:=?_) rfl rfl (Or.inl ⟨by rfl,?_⟩) ?_;rotate_left
  ·intro W' hSw;go_simp
   try with_reducible rfl
  try simp only[Act.put,List.getElem_toArray,List.getElem_cons_zero,List.getElem_cons_succ,List.setIfInBounds_toArray,List.set_cons_zero,List.set_cons_succ]
 refine Aq rfl ?_;simp only[List.toList_toArray,List.drop_succ_cons,List.drop_zero];go_wp2_with fail
 refine Ae 10 [0,1,2,3,4,5,6,7,8,9] (fun W'=>Below w2.heap.size w2 W') (by kernel_rfl) (by kernel_rfl) (fun _ d _ _ _ h=>by cases d<;>exact h) (Below.refl _ _).drew ?_;have B3:Hid (Below w2.heap.size w2 w2.drew):=hid (Below.refl _ _).drew;generalize w2.drew=wE at B3⊢
 repeat
  refine Ah (v:=?_) rfl rfl (Or.inl ⟨by rfl,?_⟩) ?_;rotate_left
  ·intro W' hSw;have hSw:=B2.out.trans (hSw.mono B2.out.size);obtain⟨f0,f1,f2,f3,f4⟩:=HF.out _ hSw;have e1:=(hSw.cell (Al e1)).trans e1;go_simp
   try with_reducible rfl
  try simp only[Act.put,List.getElem_toArray,List.getElem_cons_zero,List.getElem_cons_succ,List.setIfInBounds_toArray,List.set_cons_zero,List.set_cons_succ]
 refine Av rfl rfl (fun K' hK=>?_);go_simp
 have BE:=hid (B2.out.trans (B3.out.mono B2.out.size));refine(Ju QT (HN.out _ BE.out) (HK.out.below (HB1.out.trans (BE.out.mono HB1.out.size)))).mono ?_;rintro e w4 h4;obtain⟨vb,bb,rfl,B4,SB,IB⟩:=h4.uni;have B4:=hid (B3.out.trans (B4.out.mono B3.out.size));have IA:=hid (fun zs e=>(IA.out zs e).below B4.out);clear h4;refine hK.out _ _ B4.out ?_;clear hK K'
 repeat
  refine Ah (v:=?_) rfl rfl (Or.inl ⟨by rfl,?_⟩) ?_;rotate_left
  ·intro W' hSw;go_simp
   try with_reducible rfl
  try simp only[Act.put,List.getElem_toArray,List.getElem_cons_zero,List.getElem_cons_succ,List.setIfInBounds_toArray,List.set_cons_zero,List.set_cons_succ]
 refine Aq rfl ?_;simp only[List.toList_toArray,List.drop_succ_cons,List.drop_zero];have HB4:=hid (HB1.out.trans ((B2.out.trans (B4.out.mono B2.out.size)).mono HB1.out.size));clear BE B2 B3 B4 e0 e1 HF HN HX HK;by_cases hab:ba=true∧bb=true
 case neg=>
  have E:Hid (CC n x y ((ins[2]?).map Vl.dims)=(4,[])):=hid (by
   cases ha:De n Pj x with
   | none=>exact QU ha
   | some p=>
    cases hb:De n QT y with
    | none=>exact QV ha hb
    | some q=>exact absurd ⟨SA.out.trans (by rw[ha];rfl),SB.out.trans (by rw[hb];rfl)⟩ hab)
  have hab:ba=false∨(ba=true∧bb=false):=by
   cases ba<;>cases bb<;>simp_all
  rcases hab with rfl| ⟨rfl,rfl⟩
  all_goals
   go_wp2_with fail
   go_ret2
   exact Ff.no (by rw[E.out]) (by decide) HB4.out
 obtain⟨rfl,rfl⟩:=hab;obtain⟨pa,ha⟩:=Option.isSome_iff_exists.1 SA.out.symm;obtain⟨pb,hb⟩:=Option.isSome_iff_exists.1 SB.out.symm;have HG:=hid (fun z=>Vo (z:=z) ha hb);have IA:=hid (IA.out _ ha);have IB:=hid (IB.out _ hb);clear ha hb SA SB;go_wp2_with fail
 refine(Jv IA.out IB.out).mono ?_;rintro e w5 h5;obtain⟨a5,k5,c5,rfl,B5,I5⟩:=h5.form;have HB5:=hid (HB4.out.trans (B5.out.mono HB4.out.size));clear h5;by_cases h0:(Au pa pb).1=0
 case neg=>
  have E:=hid ((HG.out ((ins[2]?).map Vl.dims)).trans (Sc h0));have H0:=hid h0;have hb:((Au pa pb).1 != 0)=true:=by simpa using h0
  clear h0;go_wp2_with fail
  go_ret2
  exact Ff.no (by rw[E.out]) H0.out HB5.out
 obtain⟨rfl,J5⟩:=I5.out h0;have J5:=hid J5;clear I5;have H0:=hid h0;rw[h0];clear h0;have HG:=hid (HG.out ((ins[2]?).map Vl.dims));obtain⟨oz,hz⟩:∃oz,ins[2]?=oz:=⟨_,rfl⟩;cases oz with
 | none=>
  have l3:(ins.length:Int)<3:=by have:=List.getElem?_eq_none_iff.1 hz;omega
  have E:=hid (HG.out.trans (show Ed (Au pa pb) ((ins[2]?).map Vl.dims)=(0,(Au pa pb).2) by rw[hz];exact Sd H0.out));clear hz;go_wp2_with fail
  go_ret2
  exact Ff.yes E.out HB5.out J5.out
 | some z=>
  have l3:¬(ins.length:Int)<3:=by have:=(List.getElem?_eq_some_iff.1 hz).1;omega
  have l2:(2:Int)<(ins.length:Int):=by omega
  obtain⟨vz,dz,iz⟩:=HZ.out z hz;have dz:=(HB5.out.cell gi).trans dz;have IZ:=hid (iz.below HB5.out);have HG:=hid (HG.out.trans (show Ed (Au pa pb) ((ins[2]?).map Vl.dims)=Ed (Au pa pb) (some z.dims) by rw[hz];rfl));clear hz iz;go_wp2_with fail
  refine(GL IZ.out J5.out).mono ?_;rintro e w6⟨hf,-⟩;obtain⟨a6,k6,c6,rfl,B6,I6⟩:=hf.form;have HB6:=hid (HB5.out.trans (B6.out.mono HB5.out.size));clear hf;by_cases q:(Vb.Bx z.dims (Au pa pb).2).1=0
  case neg=>
   have E:=hid (HG.out.trans (Vp H0.out q));have Q:=hid q;have hb:((Vb.Bx z.dims (Au pa pb).2).1 != 0)=true:=by simpa using q
   clear q;go_wp2_with fail
   go_ret2
   exact Ff.no (by rw[E.out]) Q.out HB6.out
  obtain⟨rfl,J6⟩:=I6.out q;have J6:=hid J6;clear I6;have Q:=hid q;have EN:=hid (fun s=>HG.out.trans <| Vq H0.out Q.out s);have EY:=hid (fun s=>HG.out.trans <| Se H0.out Q.out s);rw[q];clear q;go_wp2_with fail
  refine(GM J6.out (J5.out.below B6.out)).mono ?_;rintro e w7⟨rfl,B7⟩;have HB7:=hid (HB6.out.trans (B7.mono HB6.out.size));have I7:=hid ((J5.out.below B6.out).below B7);clear B7;by_cases s:(Vb.Bx z.dims (Au pa pb).2).2=(Au pa pb).2
  ·have E:=hid (EY.out s);rw[decide_eq_true s];clear s;go_wp2_with fail
   go_ret2
   exact Ff.yes E.out HB7.out I7.out
  ·have E:=hid (EN.out s);rw[decide_eq_false s];clear s;go_wp2_with fail
   go_ret2
   exact Ff.no (by rw[E.out]) (by decide) HB7.out
end
end Go.Proofs.YtkkeehnldcdccaaGreatDoor
