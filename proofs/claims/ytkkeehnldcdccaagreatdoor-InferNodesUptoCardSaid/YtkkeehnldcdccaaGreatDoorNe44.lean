import Derived.Test.YtkkeehnldcdccaaGreatDoorNe34
import Derived.Test.YtkkeehnldcdccaaGreatDoorNe38
set_option linter.unusedVariables false
set_option linter.unusedSimpArgs false
set_option maxRecDepth 100000
set_option maxHeartbeats 4000000
namespace Go.Proofs.YtkkeehnldcdccaaGreatDoor
open Go.Lib (hid)
open Go.RowKit
theorem PQ{W:World}{b:Nat}{cs:Array Value}{t:TypeId}{ss:List ByteArray}(h:Ac W b cs t)(e:cs.toList=ss.map Value.string)(h0:ss≠[])(hl:ss.length≤1000):Bi W (.slice (some ⟨b,0,none⟩) ss.length ss.length) ss:=by
 refine .row b 0 ss.length ss h0 (Nat.le_refl _) h.lt (fun j s hj=>?_) (by omega);have:cs[j]?=some (.string s):=by rw[←Array.getElem?_toList,e,List.getElem?_map,hj];rfl
 simpa using h.cell j this
theorem Lm{W:World}{b:Nat}{cs:Array Value}{t:TypeId}{zs:List Int}(h:Ac W b cs t)(e:cs.toList=zs.map (Value.int .i64))(h0:zs≠[])(hl:zs.length≤1000)(hi:∀z∈zs,Bf z):Aa W (.slice (some ⟨b,0,none⟩) zs.length zs.length) zs:=by
 refine .row b 0 zs.length zs h0 (Nat.le_refl _) h.lt (fun j hj=>?_) (by omega) hi;have:cs[j]?=some (.int .i64 (zs.getD j 0)):=by
  rw[←Array.getElem?_toList,e,List.getElem?_map,List.getElem?_eq_getElem hj];simp[List.getD,List.getElem?_eq_getElem hj]
 simpa using h.cell j this
theorem Ws{W:World}{b:Nat}{t:TypeId}{x y:Vl}{dx dy:Value}(h:Ac W b #[.string x.name,.int .i64 x.typ,dx,.string y.name,.int .i64 y.typ,dy] t)
  (hx:x.name.size≤1048576∧Bf x.typ∧Aa W dx x.dims) (hy:y.name.size≤1048576∧Bf y.typ∧Aa W dy y.dims):BJ 3 AM W (.slice (some ⟨b,0,none⟩) 2 2) [x,y]:=by
 refine .row b 0 2 [x,y] (by simp) (by simp) h.lt (fun j z hj=>?_) (by simp)
 match j,hj with
 | 0,hj=>
  obtain rfl:=Option.some.inj hj;exact⟨[.string x.name,.int .i64 x.typ,dx],rfl,⟨dx,rfl,hx⟩,fun i u hu=>by
   match i,hu with
   | 0,hu=>obtain rfl:=Option.some.inj hu;simpa using h.cell 0 rfl
   | 1,hu=>obtain rfl:=Option.some.inj hu;simpa using h.cell 1 rfl
   | 2,hu=>obtain rfl:=Option.some.inj hu;simpa using h.cell 2 rfl⟩
 | 1,hj=>
  obtain rfl:=Option.some.inj hj;exact⟨[.string y.name,.int .i64 y.typ,dy],rfl,⟨dy,rfl,hy⟩,fun i u hu=>by
   match i,hu with
   | 0,hu=>obtain rfl:=Option.some.inj hu;simpa using h.cell 3 rfl
   | 1,hu=>obtain rfl:=Option.some.inj hu;simpa using h.cell 4 rfl
   | 2,hu=>obtain rfl:=Option.some.inj hu;simpa using h.cell 5 rfl⟩
theorem Wt{W:World}{b:Nat}{t:TypeId}{x:Vl}{dx:Value}(h:Ac W b #[.string x.name,.int .i64 x.typ,dx] t)
  (hx:x.name.size≤1048576∧Bf x.typ∧Aa W dx x.dims):BJ 3 AM W (.slice (some ⟨b,0,none⟩) 1 1) [x]:=by
 refine .row b 0 1 [x] (by simp) (by simp) h.lt (fun j z hj=>?_) (by simp)
 match j,hj with
 | 0,hj=>
  obtain rfl:=Option.some.inj hj;exact⟨[.string x.name,.int .i64 x.typ,dx],rfl,⟨dx,rfl,hx⟩,fun i u hu=>by
   match i,hu with
   | 0,hu=>obtain rfl:=Option.some.inj hu;simpa using h.cell 0 rfl
   | 1,hu=>obtain rfl:=Option.some.inj hu;simpa using h.cell 1 rfl
   | 2,hu=>obtain rfl:=Option.some.inj hu;simpa using h.cell 2 rfl⟩
theorem DZ{W:World}{b:Nat}{cs:Array Value}{t:TypeId}(h:b=W.heap.size):Ac (W.alloc (.cells cs t)) b cs t:=by subst h;exact Ac.new _ _ _
def sA:ByteArray:=⟨#[97]⟩
def sB:ByteArray:=⟨#[98]⟩
def sC:ByteArray:=⟨#[99]⟩
def Ln:Nd:=⟨⟨#[77,97,116,77,117,108]⟩,⟨#[]⟩,[sA,sB],sC,[]⟩
def Ht:Nd:=⟨⟨#[82,101,108,117]⟩,⟨#[]⟩,[sA],sC,[]⟩
def Zb:Vl:=⟨⟨#[]⟩,1,[5,2,3]⟩
def Zc:Vl:=⟨⟨#[]⟩,1,[3,4]⟩
def vR:Vl:=⟨⟨#[]⟩,6,[]⟩
theorem XQ:EM Ln [Zb,Zc] (Dh (Ci [Zb,Zc] 1) 1) (Au [5,2,3] [3,4])=(0,1,[5,2,4]):=by decide+kernel
theorem Wu(ds:Int×List Int):EM Ht [vR] (CH (Fl.un [82,101,108,117] 6 0).2 6) ds=(4,0,[]):=by
 have h1:AA Ht=0:=by decide+kernel
 have h2:CP [vR]=0:=by decide+kernel
 have h3:CH (Fl.un [82,101,108,117] 6 0).2 6=(4,0):=by decide+kernel
 rw[h3];exact Im h1 rfl h2 (by decide)
theorem XR{w:World}{vn vv:Value}(hn:Ba w vn Ln)(hs:BJ 3 AM w vv [Zb,Zc])(hG:Eu w) :
  Calls Tryz.prog 6 #[vn,vv] w fun e w'=>Dx w Ln (0,1,[5,2,4]) e w':=by
 have hl:Ln.op.toList=[77,97,116,77,117,108]:=by unfold Ln;rw[ByteArray.toList_eq]
 have:=Nh (ty:=Dh (Ci [Zb,Zc] 1) 1) (ds:=Au [5,2,3] [3,4]) hn hs hG
  (fun _ _ _ W v hB hm=>QG hm rfl hl) (fun _ _ _ _ W v hB hm=>Jn hm rfl rfl hl)
 rwa [XQ]at this
theorem Wv{w:World}{vn vv:Value}(hn:Ba w vn Ht)(hs:BJ 3 AM w vv [vR])(hG:Eu w) :
  Calls Tryz.prog 6 #[vn,vv] w fun e w'=>Dx w Ht (4,0,[]) e w':=by
 have hl:Ht.op.toList=[82,101,108,117]:=by unfold Ht;rw[ByteArray.toList_eq]
 have h3:CH (Fl.un [82,101,108,117] 6 0).2 6=(4,0):=by decide+kernel
 have:=Nh (ty:=CH (Fl.un [82,101,108,117] 6 0).2 6) (ds:=(0,[])) hn hs hG
  (fun _ _ _ W v hB hm=>by have:=OR hm (x:=vR) rfl hl;rwa [hl]at this) (fun _ _ _ h=>by rw[h3]at h;exact absurd h (by decide))
 rwa [Wu]at this
theorem Ry{w:World}(hG:Eu w):Calls Tryz.prog 10 #[] w fun e w'=>e=.returned (.bool true)∧Below w.heap.size w w':=by
 have HG:=hid hG;clear hG;go_enter Tryz.func10,Tryz.ntmps10
 go_wp2_with fail
 have HB1:Hid (Below w.heap.size w ((((w.alloc (Obj.cells #[.string ⟨#[97]⟩,.string ⟨#[98]⟩] 9)).alloc (Obj.cells #[.int .i64 5,.int .i64 2,.int .i64 3] 3)).alloc (Obj.cells #[.int .i64 3,.int .i64 4] 3)).alloc (Obj.cells #[.string ⟨#[]⟩,.int .i64 1,.slice (some ⟨w.heap.size+1,0,none⟩) 3 3,.string ⟨#[]⟩,.int .i64 1,.slice (some ⟨w.heap.size+1+1,0,none⟩) 2 2] 31))):=hid (((((Below.refl _ w).alloc (Nat.le_refl _) _).alloc (by simp) _).alloc (by simp<;>omega) _).alloc (by simp<;>omega) _);have D1:Ac ((((w.alloc (Obj.cells #[.string ⟨#[97]⟩,.string ⟨#[98]⟩] 9)).alloc (Obj.cells #[.int .i64 5,.int .i64 2,.int .i64 3] 3)).alloc (Obj.cells #[.int .i64 3,.int .i64 4] 3)).alloc (Obj.cells #[.string ⟨#[]⟩,.int .i64 1,.slice (some ⟨w.heap.size+1,0,none⟩) 3 3,.string ⟨#[]⟩,.int .i64 1,.slice (some ⟨w.heap.size+1+1,0,none⟩) 2 2] 31)) w.heap.size #[.string ⟨#[97]⟩,.string ⟨#[98]⟩] 9:=(DZ rfl).below' ((((Below.refl _ _).alloc (Nat.le_refl _) _).alloc (by simp) _).alloc (by simp<;>omega) _);have D2:Ac ((((w.alloc (Obj.cells #[.string ⟨#[97]⟩,.string ⟨#[98]⟩] 9)).alloc (Obj.cells #[.int .i64 5,.int .i64 2,.int .i64 3] 3)).alloc (Obj.cells #[.int .i64 3,.int .i64 4] 3)).alloc (Obj.cells #[.string ⟨#[]⟩,.int .i64 1,.slice (some ⟨w.heap.size+1,0,none⟩) 3 3,.string ⟨#[]⟩,.int .i64 1,.slice (some ⟨w.heap.size+1+1,0,none⟩) 2 2] 31)) (w.heap.size+1) #[.int .i64 5,.int .i64 2,.int .i64 3] 3:=(DZ (by simp)).below' (((Below.refl _ _).alloc (Nat.le_refl _) _).alloc (by simp) _);have D3:Ac ((((w.alloc (Obj.cells #[.string ⟨#[97]⟩,.string ⟨#[98]⟩] 9)).alloc (Obj.cells #[.int .i64 5,.int .i64 2,.int .i64 3] 3)).alloc (Obj.cells #[.int .i64 3,.int .i64 4] 3)).alloc (Obj.cells #[.string ⟨#[]⟩,.int .i64 1,.slice (some ⟨w.heap.size+1,0,none⟩) 3 3,.string ⟨#[]⟩,.int .i64 1,.slice (some ⟨w.heap.size+1+1,0,none⟩) 2 2] 31)) (w.heap.size+1+1) #[.int .i64 3,.int .i64 4] 3:=(DZ (by simp)).below' ((Below.refl _ _).alloc (Nat.le_refl _) _);have D4:Ac ((((w.alloc (Obj.cells #[.string ⟨#[97]⟩,.string ⟨#[98]⟩] 9)).alloc (Obj.cells #[.int .i64 5,.int .i64 2,.int .i64 3] 3)).alloc (Obj.cells #[.int .i64 3,.int .i64 4] 3)).alloc (Obj.cells #[.string ⟨#[]⟩,.int .i64 1,.slice (some ⟨w.heap.size+1,0,none⟩) 3 3,.string ⟨#[]⟩,.int .i64 1,.slice (some ⟨w.heap.size+1+1,0,none⟩) 2 2] 31)) (w.heap.size+1+1+1) #[.string ⟨#[]⟩,.int .i64 1,.slice (some ⟨w.heap.size+1,0,none⟩) 3 3,.string ⟨#[]⟩,.int .i64 1,.slice (some ⟨w.heap.size+1+1,0,none⟩) 2 2] 31:=DZ (by simp);generalize World.alloc (World.alloc (World.alloc (World.alloc w _) _) _) _=W1 at HB1 D1 D2 D3 D4⊢;have hN:Ba W1 (.agg #[.string ⟨#[77,97,116,77,117,108]⟩,.string ⟨#[]⟩,.slice (some ⟨w.heap.size,0,none⟩) 2 2,.string ⟨#[99]⟩,.slice none 0 0]) Ln:=
  ⟨_,_,rfl,⟨PQ (ss:=[sA,sB]) D1 rfl (by simp) (by simp),.empty none 0⟩⟩
 have hV:BJ 3 AM W1 (.slice (some ⟨w.heap.size+1+1+1,0,none⟩) 2 2) [Zb,Zc]:=
  Ws (x:=Zb) (y:=Zc) D4 ⟨by decide,by unfold Bf Zb;decide,Lm (zs:=[5,2,3]) D2 rfl (by simp) (by simp) (by intro z hz;simp at hz;unfold Bf;omega)⟩ ⟨by decide,by unfold Bf Zc;decide,Lm (zs:=[3,4]) D3 rfl (by simp) (by simp) (by intro z hz;simp at hz;unfold Bf;omega)⟩
 clear D1 D2 D3 D4;refine(XR hN hV (HG.out.below HB1.out)).mono ?_;clear hN hV;rintro e w2⟨B2,⟨h0,-⟩| ⟨-,v2,rfl,hr2⟩⟩
 ·exact absurd rfl h0
 have HB2:=hid (HB1.out.trans (B2.mono HB1.out.size));have HI2:Hid (Aa w2 v2 [5,2,4]):=hid (Ag.ints (B:=W1.heap.size) hr2 (by simp) (by intro z hz;simp at hz;unfold Bf;omega));clear B2 hr2;obtain⟨a2,k2,rfl⟩:=HI2.out.shape;rw[show Ln.out=(⟨#[99]⟩:ByteArray)from rfl];go_wp2_with fail
 have hB3:Below w2.heap.size w2 (((w2.alloc (Obj.cells #[.string ⟨#[99]⟩,.int .i64 1,.slice a2 3 k2] 31)).alloc (Obj.cells #[.string ⟨#[97]⟩] 9)).alloc (Obj.cells #[.string ⟨#[]⟩,.int .i64 6,.slice none 0 0] 31)):=(((Below.refl _ w2).alloc (Nat.le_refl _) _).alloc (by simp) _).alloc (by simp<;>omega) _;have HB3:Hid (Below w.heap.size w (((w2.alloc (Obj.cells #[.string ⟨#[99]⟩,.int .i64 1,.slice a2 3 k2] 31)).alloc (Obj.cells #[.string ⟨#[97]⟩] 9)).alloc (Obj.cells #[.string ⟨#[]⟩,.int .i64 6,.slice none 0 0] 31))):=hid (HB2.out.trans (hB3.mono HB2.out.size));have E1:Hid (Ac (((w2.alloc (Obj.cells #[.string ⟨#[99]⟩,.int .i64 1,.slice a2 3 k2] 31)).alloc (Obj.cells #[.string ⟨#[97]⟩] 9)).alloc (Obj.cells #[.string ⟨#[]⟩,.int .i64 6,.slice none 0 0] 31)) w2.heap.size #[.string ⟨#[99]⟩,.int .i64 1,.slice a2 3 k2] 31):=hid ((DZ rfl).below' (((Below.refl _ _).alloc (Nat.le_refl _) _).alloc (by simp) _));have D2:Ac (((w2.alloc (Obj.cells #[.string ⟨#[99]⟩,.int .i64 1,.slice a2 3 k2] 31)).alloc (Obj.cells #[.string ⟨#[97]⟩] 9)).alloc (Obj.cells #[.string ⟨#[]⟩,.int .i64 6,.slice none 0 0] 31)) (w2.heap.size+1) #[.string ⟨#[97]⟩] 9:=(DZ (by simp)).below' ((Below.refl _ _).alloc (Nat.le_refl _) _);have D3:Ac (((w2.alloc (Obj.cells #[.string ⟨#[99]⟩,.int .i64 1,.slice a2 3 k2] 31)).alloc (Obj.cells #[.string ⟨#[97]⟩] 9)).alloc (Obj.cells #[.string ⟨#[]⟩,.int .i64 6,.slice none 0 0] 31)) (w2.heap.size+1+1) #[.string ⟨#[]⟩,.int .i64 6,.slice none 0 0] 31:=DZ (by simp);have HI3:=hid (HI2.out.below hB3);clear hB3 HI2;generalize World.alloc (World.alloc (World.alloc w2 _) _) _=W3 at HB3 E1 D2 D3 HI3⊢;have hN:Ba W3 (.agg #[.string ⟨#[82,101,108,117]⟩,.string ⟨#[]⟩,.slice (some ⟨w2.heap.size+1,0,none⟩) 1 1,.string ⟨#[99]⟩,.slice none 0 0]) Ht:=
  ⟨_,_,rfl,⟨PQ (ss:=[sA]) D2 rfl (by simp) (by simp),.empty none 0⟩⟩
 have hV:BJ 3 AM W3 (.slice (some ⟨w2.heap.size+1+1,0,none⟩) 1 1) [vR]:=
  Wt (x:=vR) D3 ⟨by decide,by unfold Bf vR;decide,.empty none 0⟩
 clear D2 D3;refine(Wv hN hV (HG.out.below HB3.out)).mono ?_;clear hN hV;rintro e w4⟨B4,⟨-,rfl⟩| ⟨h0,-⟩⟩
 case inr=>exact absurd h0 (by decide)
 have HB4:=hid (HB3.out.trans (B4.mono HB3.out.size));have HI4:=hid (HI3.out.below B4);have E4:=hid (E1.out.below' B4);clear B4 HI3 E1;have g0:=Aj (E4.out.cell 0 rfl) (Obj.cells #[.string ⟨#[]⟩,.int .i64 0,.slice none 0 0] 31);have g1:=Aj (E4.out.cell 1 rfl) (Obj.cells #[.string ⟨#[]⟩,.int .i64 0,.slice none 0 0] 31);have g2:=Aj (E4.out.cell 2 rfl) (Obj.cells #[.string ⟨#[]⟩,.int .i64 0,.slice none 0 0] 31);go_wp2_with fail
 have hB5:Below w4.heap.size w4 ((w4.alloc (Obj.cells #[.string ⟨#[]⟩,.int .i64 0,.slice none 0 0] 31)).alloc (Obj.cells #[.int .i64 5,.int .i64 2,.int .i64 4] 3)):=((Below.refl _ w4).alloc (Nat.le_refl _) _).alloc (by simp) _;have HB5:=hid (HB4.out.trans (hB5.mono HB4.out.size));have D5:Ac ((w4.alloc (Obj.cells #[.string ⟨#[]⟩,.int .i64 0,.slice none 0 0] 31)).alloc (Obj.cells #[.int .i64 5,.int .i64 2,.int .i64 4] 3)) (w4.heap.size+1) #[.int .i64 5,.int .i64 2,.int .i64 4] 3:=DZ (by simp);refine(GM (HI4.out.below hB5) (Lm (zs:=[5,2,4]) D5 rfl (by simp) (by simp) (by intro z hz;simp at hz;unfold Bf;omega))).mono ?_;rintro e w6⟨rfl,B6⟩;have HB6:=hid (HB5.out.trans (B6.mono HB5.out.size));clear B6 g0 g1 g2 D5 hB5;go_wp2
 go_ret
 exact⟨rfl,HB6.out⟩
section
theorem T7{n:Nd}{ins:List Vl}(h:(BL n ins).1=0):Gd (BL n ins).2.2:=by
 obtain⟨-,-,-,-,-,a6,-,e⟩:=Pr h;rw[e];exact(XZ a6).gd
attribute [local irreducible] BL AK Cz AA
end
def Rz(x:Vl)(d:Value):List Value:=[.string x.name,.int .i64 x.typ,d]
def LO:List Vl→List Value→List Value
 | x::l,d::ds=>Rz x d++LO l ds
 | _,_=>[]
theorem MK:∀ {l:List Vl} {ds:List Value} (x:Vl) (d:Value),l.length=ds.length→LO (l++[x]) (ds++[d])=LO l ds++Rz x d
 | [],[],x,d,_=>by simp[LO]
 | [],_::_,_,_,h=>by simp at h
 | _::_,[],_,_,h=>by simp at h
 | b::l,u::ds,x,d,h=>by
  simp only[List.cons_append,LO];rw[MK x d (by simpa using h),List.append_assoc]
theorem PR:∀ {l:List Vl} {ds:List Value} {j:Nat} {x:Vl} {d:Value} {i:Nat} {u:Value},l[j]?=some x→ds[j]?=some d→(Rz x d)[i]?=some u→(LO l ds)[j*3+i]?=some u
 | [],_,j,x,d,i,u,h,_,_=>by simp at h
 | _::_,[],j,x,d,i,u,_,h,_=>by simp at h
 | b::l,c::ds,0,x,d,i,u,h1,h2,h3=>by
  obtain rfl:=Option.some.inj h1;obtain rfl:=Option.some.inj h2;have hi:=(List.getElem?_eq_some_iff.1 h3).1;rw[LO,Nat.zero_mul,Nat.zero_add,List.getElem?_append_left hi];exact h3
 | b::l,c::ds,j+1,x,d,i,u,h1,h2,h3=>by
  rw[LO,List.getElem?_append_right (by simp[Rz];omega)];have e:(j+1)*3+i-(Rz b c).length=j*3+i:=by simp[Rz];omega
  rw[e];exact PR (by simpa using h1) (by simpa using h2) h3
structure EW(w:World)(B:Nat)(l:List Vl)(vv:Value)(ds:List Value):Prop where
 len:ds.length=l.length
 row:w.ownsRow B 31 3 vv l.length (LO l ds)
 att:∀(j:Nat) x d,l[j]?=some x→ds[j]?=some d→w.ownsRow B 3 1 d x.dims.length (x.dims.map (Value.int .i64))
theorem EW.below{w w':World}{B:Nat}{l:List Vl}{vv:Value}{ds:List Value}(h:EW w B l vv ds)(hB:Below w.heap.size w w'):EW w' B l vv ds:=
 ⟨h.len,AJ h.row hB,fun j x d h1 h2=>AJ (h.att j x d h1 h2) hB⟩
theorem RA:(Tryz.prog.info? 31).map (fun i=>(i.zero,i.size,i.bytes))=some (some (.agg #[.string ⟨#[]⟩,.int .i64 0,.slice none 0 0]),3,48):=by kernel_rfl
theorem Lo{w:World}{v:Value}{l:List Vl}(h:BJ 3 AM w v l) :
  Calls Tryz.prog 5 #[v] w fun e w'=>∃vv ds,e=.returned vv∧EW w' w.heap.size l vv ds∧Below w.heap.size w w':=by
 obtain⟨i0,hi,hz0,hz1,hz2⟩:=info_parts RA;have hll:=h.len;obtain⟨a1,c1,rfl⟩:=h.form;have HN:=hid h;clear h;go_enter Tryz.func5,Tryz.ntmps5
 go_wp2
 go_loopw [3,4] (fun ov i wr=>∃(k:Nat) (ds:List Value),k≤l.length∧i=.int .i64 (k:Int)∧Hid (EW wr w.heap.size (l.take k) ov ds)∧Hid ((l.take k).length=k)∧Hid (Below w.heap.size w wr)) (fun _ i _=>l.length-(intOf i).toNat)
 case atStart=>exact⟨0,[],Nat.zero_le _,rfl,hid ⟨rfl,World.ownsRow_nil _ _ _ _,by simp⟩,hid (by simp),hid (Below.refl _ _)⟩
 case round=>
  obtain⟨k,ds,hk,rfl,hV,hL,hW⟩:=hrel;by_cases hkl:k<l.length
  ·have hki:(k:Int)<(l.length:Int):=by omega
   obtain⟨x,hx⟩:∃x,l[k]?=some x:=⟨_,List.getElem?_eq_getElem hkl⟩;obtain⟨b,off,cap,vd,hv,hb,c0,c1',c2,h1,h2,h3⟩:=Bm HN.out hx;obtain⟨rfl,hle,rfl⟩:=Value.slice.inj hv;clear hle hv;have HX:=hid hx;obtain⟨ad,cd,rfl⟩:=h3.shape;go_wp2_with fail
   have HS:Hid (∀W',Below wr.heap.size wr W'→W'.cell? ⟨b,off+k*3,none⟩=some (.string x.name)∧W'.cell? ⟨b,off+k*3+1,none⟩=some (.int .i64 x.typ)∧W'.cell? ⟨b,off+k*3+2,none⟩=some (.slice ad x.dims.length cd)):=hid fun W' h=>by
    have hB:=hW.out.trans (h.mono hW.out.size);exact⟨(hB.cell (p:=⟨b,off+k*3,none⟩) hb).trans c0,(hB.cell (p:=⟨b,off+k*3+1,none⟩) hb).trans c1',(hB.cell (p:=⟨b,off+k*3+2,none⟩) hb).trans c2⟩
   have HC:Hid (∀W,Below wr.heap.size wr W→Calls Tryz.prog 12 #[.slice ad x.dims.length cd] W fun e w'=>∃v',e=.returned v'∧w'.ownsRow W.heap.size 3 1 v' x.dims.length (x.dims.map (Value.int .i64))∧Below W.heap.size W w'):=hid fun W h=>Fx (h3.below (hW.out.trans (h.mono hW.out.size)));refine Ae 19 [0,1,2,3,4,5,6,7,8,9,10,11,12,13,14,15,16,17,18] (fun W'=>Below wr.heap.size wr W') (by kernel_rfl) (by kernel_rfl) (fun _ d _ _ _ h=>by cases d<;>exact h) (Below.refl _ _).drew ?_;have B0:Hid (Below wr.heap.size wr wr.drew):=hid (Below.refl _ _).drew;generalize wr.drew=wD at B0⊢
   repeat
    refine Ah (v:=?_) rfl rfl (Or.inl ⟨by rfl,?_⟩) ?_;rotate_left
    ·intro w' hSw;obtain⟨s0,s1,s2⟩:=HS.out w' hSw;go_simp
     try with_reducible rfl
    try simp only[Act.put,List.getElem_toArray,List.getElem_cons_zero,List.getElem_cons_succ,List.setIfInBounds_toArray,List.set_cons_zero,List.set_cons_succ]
   refine Av rfl rfl (fun K' hK=>?_);go_simp
   refine(HC.out _ B0.out).mono ?_;rintro e w5⟨vd',rfl,ho5,B⟩;obtain⟨a5,c5,rfl⟩:=Bh ho5;have HO5:=hid ho5;have B1:=hid (B0.out.trans (B.mono B0.out.size));refine hK.out _ _ B1.out ?_;clear hK K' B ho5
   repeat
    refine Ah (v:=?_) rfl rfl (Or.inl ⟨by rfl,?_⟩) ?_;rotate_left
    ·intro w' hSw;obtain⟨s0,s1,s2⟩:=HS.out w' hSw;go_simp
     try with_reducible rfl
    try simp only[Act.put,List.getElem_toArray,List.getElem_cons_zero,List.getElem_cons_succ,List.setIfInBounds_toArray,List.set_cons_zero,List.set_cons_succ]
   refine Av rfl rfl (fun K' hK=>?_);go_simp
   refine hK.out _ _ (B1.out.alloc B1.out.size _) ?_;clear hK K';refine Aq rfl ?_;simp only[List.toList_toArray,List.drop_succ_cons,List.drop_zero];have hlk:=hL.out;have hs5:=B1.out.size;have hsw:=hW.out.size;have HV5:=hid (hV.out.below B1.out);go_wp2_with (at_builtin;refine wpList_append_own _ rfl _ _ 26 rfl w.heap.size 31 i0 (.agg #[.string ⟨#[]⟩,.int .i64 0,.slice none 0 0]) 3 48 Tryz.underlying26 hi hz0 hz1 hz2 rfl (by decide) _ _ _ rfl (HV5.out.row.alloc _) ⟨w5.heap.size,0,none⟩ 1 1 (#[.string x.name,.int .i64 x.typ,.slice a5 x.dims.length c5]:Array Value).toList rfl rfl (World.news_of_block (heap_alloc_new w5 _)) (by simp[Value.oneCell']) (by unfold maxLen;omega) (by omega) (by simp;omega) ?_)
   intro v' w6 hown' hgrow _;obtain⟨a6,c6,rfl⟩:=Bh hown';have hx':=HX.out;have hwD:=B0.out.size;have hrE:Hid ((w5.alloc (.cells #[.string x.name,.int .i64 x.typ,.slice a5 x.dims.length c5] 31)).ownsRow w.heap.size 31 3 _ _ (LO (l.take k) ds)):=hid (HV5.out.row.alloc _);have hBE:Below w5.heap.size w5 (w5.alloc (.cells #[.string x.name,.int .i64 x.typ,.slice a5 x.dims.length c5] 31)):=(Below.refl _ _).alloc (Nat.le_refl _) _;have hT:l.take (k+1)=l.take k++[x]:=by rw[List.take_add_one,hx'];rfl
   have HV6:Hid (EW w6 w.heap.size (l.take (k+1)) (.slice a6 (k+1) c6) (ds++[.slice a5 x.dims.length c5])):=hid {
    len:=by rw[hT,List.length_append,List.length_append,HV5.out.len];rfl
    row:=by
     rw[hT,MK _ _ HV5.out.len.symm,List.length_append,hlk];exact hown'
    att:=fun j y d h1 h2=>by
     rw[hT]at h1;by_cases hj:j<(l.take k).length
     ·rw[List.getElem?_append_left hj]at h1;rw[List.getElem?_append_left (by rw[HV5.out.len];exact hj)]at h2;exact(AJ (HV5.out.att j y d h1 h2) hBE).kept hgrow (Dq (AJ (HV5.out.att j y d h1 h2) hBE) hrE.out (by decide))
     ·rw[List.getElem?_append_right (by omega)]at h1;rw[List.getElem?_append_right (by rw[HV5.out.len];omega),HV5.out.len]at h2;have hj0:j-(l.take k).length=0:=by
       rcases Nat.eq_zero_or_pos (j-(l.take k).length)with h|h
       ·exact h
       ·rw[List.getElem?_eq_none (by simp;omega)]at h1;cases h1
      rw[hj0]at h1 h2;obtain rfl:=Option.some.inj h1;obtain rfl:=Option.some.inj h2;have ho6:=AJ (Bl HO5.out (by omega:w.heap.size≤_)) hBE;exact ho6.kept hgrow (Dq ho6 hrE.out (by decide)) }
   have HW6:Hid (Below w.heap.size w w6):=hid (((hW.out.trans (B1.out.mono hsw)).alloc (by omega) _).grown hgrow (by simp;omega) (fun g hg=>by have:=(hrE.out.lt g hg).1;omega));clear hown' hgrow hrE hBE hT;go_wp2
   go_roundw
   case rel=>exact⟨k+1,_,by omega,by go_num,HV6,hid (by rw[List.length_take];omega),HW6⟩
   case measure=>simp[intOf];omega
  ·have hki:¬(k:Int)<(l.length:Int):=by omega
   obtain rfl:k=l.length:=by omega
   have HV:=hid (by have:=hV.out;rwa [List.take_length]at this:EW wr w.heap.size l u3 ds);go_wp2
   go_ret
   exact⟨_,rfl,⟨_,HV.out⟩,hW.out⟩
theorem PS(t:Int)(dims data:List Int){w:World}{vd vx:Value}(hd:Aa w vd dims)(hx:Aa w vx data) :
  Calls Tryz.prog 11 #[.agg #[.int .i64 t,vd,vx]] w fun e w'=>∃vd' vx',e=.returned (.agg #[.int .i64 t,vd',vx'])∧w'.ownsRow w.heap.size 3 1 vd' dims.length (dims.map (Value.int .i64))∧w'.ownsRow w.heap.size 2 1 vx' data.length (data.map (Value.int .i64))∧Below w.heap.size w w':=by
 obtain⟨i0,hi,hz0,hz1,hz2⟩:=info_parts Dp;obtain⟨ad,cd,rfl⟩:=hd.shape;obtain⟨ax,cx,rfl⟩:=hx.shape;have HD:=hid hd;have HX:=hid hx;clear hd hx;go_enter Tryz.func11,Tryz.ntmps11
 go_wp2_with fail
 generalize hw1:(w.alloc (Obj.cells #[.int .i64 t,.slice ad dims.length cd,.slice ax data.length cx] 41)).alloc (Obj.cells #[.int .i64 0,.slice none 0 0,.slice none 0 0] 41)=W1;have hB1:Hid (Below w.heap.size w W1):=hid (by rw[←hw1];exact((Below.refl _ w).alloc (Nat.le_refl _) _).alloc (by simp) _);have hA1:Hid (Ac W1 w.heap.size #[.int .i64 t,.slice ad dims.length cd,.slice ax data.length cx] 41):=hid (by rw[←hw1];exact(Ac.new w _ _).below' ((Below.refl _ _).alloc (Nat.le_refl _) _));have hR1:Hid (Ac W1 (w.heap.size+1) #[.int .i64 0,.slice none 0 0,.slice none 0 0] 41):=hid (by rw[←hw1];simpa using Ac.new (w.alloc (Obj.cells #[.int .i64 t,.slice ad dims.length cd,.slice ax data.length cx] 41)) #[.int .i64 0,.slice none 0 0,.slice none 0 0] 41);have hz:Hid (W1.heap.size=w.heap.size+2):=hid (by rw[←hw1];simp);clear hw1;have k0:W1.cell? ⟨w.heap.size,0,none⟩=some (.int .i64 t):=hA1.out.cell 0 rfl;have k1:W1.cell? ⟨w.heap.size,1,none⟩=some (.slice ad dims.length cd):=hA1.out.cell 1 rfl;have HC:Hid (∀W,Below w.heap.size w W→Calls Tryz.prog 12 #[.slice ad dims.length cd] W fun e w'=>∃v',e=.returned v'∧w'.ownsRow W.heap.size 3 1 v' dims.length (dims.map (Value.int .i64))∧Below W.heap.size W w'):=hid (fun W hW=>Fx (HD.out.below hW));have PT:Hid (∀W b v0 v1 v2 j v,w.heap.size<b→W.cell? ⟨w.heap.size,j,none⟩=some v→(Ef W b v0 v1 v2).cell? ⟨w.heap.size,j,none⟩=some v):=hid (fun W b v0 v1 v2 j v hb hv=>((Bp (Below.refl b W) (Nat.le_refl _)).cell (p:=⟨w.heap.size,j,none⟩) hb).trans hv);have hlt:w.heap.size<W1.heap.size:=by have:=hz.out;omega
 go_region_held3 (fun wz=>wz.cell? ⟨w.heap.size,0,none⟩=some (.int .i64 t)∧wz.cell? ⟨w.heap.size,1,none⟩=some (.slice ad dims.length cd)) (first|go_keep|exact⟨PT.out _ _ _ _ _ 0 _ hlt g0,PT.out _ _ _ _ _ 1 _ hlt g1⟩)
  (first|(go_at_call 12;refine(HC.out W1.drew hB1.out.drew).mono ?_;rintro e w3⟨v',rfl,ho,B3⟩;have HO:=hid ho;obtain⟨a3,c3,rfl⟩:=Bh ho;have HB3:=hid ((Below.refl _ W1).drew.trans B3);have HA3:=hid (hA1.out.below' HB3.out);have g0:w3.cell? ⟨w.heap.size,0,none⟩=some (.int .i64 t):=HA3.out.cell 0 rfl;have g1:w3.cell? ⟨w.heap.size,1,none⟩=some (.slice ad dims.length cd):=HA3.out.cell 1 rfl;clear B3 ho)|(go_at_call 12;refine(HC.out _ (hB1.out.alloc hB1.out.size (Obj.cells #[.int .i64 0,.slice none 0 0,.slice none 0 0] 41)).drew).mono ?_;rintro e w3⟨v',rfl,ho,B3⟩;have HO:=hid ho;obtain⟨a3,c3,rfl⟩:=Bh ho;have HB3:=hid (((Below.refl _ W1).alloc (Nat.le_refl _) (Obj.cells #[.int .i64 0,.slice none 0 0,.slice none 0 0] 41)).drew.trans (B3.mono (by simp)));have HC3:=hid ((Ac.new W1 #[.int .i64 0,.slice none 0 0,.slice none 0 0] 41).below' ((Below.refl _ _).drew.trans B3));obtain⟨f0,f1,f2⟩:=HC3.out.thaw3;obtain⟨r0,r1,r2⟩:=HC3.out.three;have HA3:=hid (hA1.out.below' HB3.out);have g0:w3.cell? ⟨w.heap.size,0,none⟩=some (.int .i64 t):=HA3.out.cell 0 rfl;have g1:w3.cell? ⟨w.heap.size,1,none⟩=some (.slice ad dims.length cd):=HA3.out.cell 1 rfl;clear B3 ho)|fail)
 ·obtain⟨C,hC⟩:∃C,C=w3.heap.size:=⟨_,rfl⟩;have HC7:Hid (Ac (w3.alloc (Obj.cells #[.int .i64 t,.slice a3 dims.length c3,.slice none 0 0] 41)) C #[.int .i64 t,.slice a3 dims.length c3,.slice none 0 0] 41):=hid (by rw[hC];exact Ac.new w3 _ _);have hBx:Below w3.heap.size w3 (w3.alloc (Obj.cells #[.int .i64 t,.slice a3 dims.length c3,.slice none 0 0] 41)):=(Below.refl _ _).alloc (Nat.le_refl _) _;have HA7:=hid (HA3.out.below' hBx);have HR7:=hid ((hR1.out.below' HB3.out).below' hBx);have HO7:=hid (Bl (AJ HO.out hBx) hB1.out.size);have HB7:=hid ((hB1.out.trans (HB3.out.mono hB1.out.size)).trans (hBx.mono (hB1.out.trans (HB3.out.mono hB1.out.size)).size));have hC2:w.heap.size+2≤C:=by have:=hz.out;have:=HB3.out.size;omega
  rw[←hC];clear hC hBx k0 k1 g0 g1;generalize w3.alloc (Obj.cells #[.int .i64 t,.slice a3 dims.length c3,.slice none 0 0] 41)=W7 at HC7 HA7 HR7 HO7 HB7⊢;have k7:W7.cell? ⟨w.heap.size,2,none⟩=some (.slice ax data.length cx):=HA7.out.cell 2 rfl;obtain⟨m0,m1,m2⟩:=HC7.out.three;go_wp2_with (at_builtin;refine BT rfl _ _ 39 rfl Tryz.underlying39 hi hz0 hz1 hz2 rfl (by decide) rfl rfl (HX.out.below HB7.out).news ?_)
  intro v' w8 h1 h2;obtain⟨a8,c8,rfl⟩:=Bh h1;have HO8:=hid (AJ HO7.out h2);have HP8:=hid (Bl h1 HB7.out.size);have HB8:=hid (HB7.out.trans (h2.mono HB7.out.size));have HC8:=hid (HC7.out.below' h2);have HR8:=hid (HR7.out.below' h2);clear h1 h2;obtain⟨n0,n1,n2⟩:=HC8.out.three;obtain⟨f0',f1',f2'⟩:=HC8.out.thaw3;have hC9:=HC8.out.set 2 (.slice a8 data.length c8);rw[show #[Value.int .i64 t,.slice a3 dims.length c3,.slice none 0 0].setIfInBounds 2 (.slice a8 data.length c8)=#[.int .i64 t,.slice a3 dims.length c3,.slice a8 data.length c8]from rfl]at hC9;obtain⟨o0,o1,o2⟩:=hC9.three;have HR9:Hid (Ac (w8.setCell ⟨C,2,none⟩ (.slice a8 data.length c8)) (w.heap.size+1) #[.int .i64 0,.slice none 0 0,.slice none 0 0] 41):=hid ((Below.heap_setCell _ _ _ _ (by simp;omega)).trans HR8.out);obtain⟨q0,q1,q2⟩:=HR9.out.thaw3;obtain⟨q3,q4,q5⟩:=HR9.out.three;clear hC9;go_wp2_with fail
  have hp:=HR9.out.put3 (.int .i64 t) (.slice a3 dims.length c3) (.slice a8 data.length c8);obtain⟨s0,s1,s2⟩:=hp.three;unfold Ef at s0 s1 s2;have hoth:∀g,g≠C→g≠w.heap.size+1→(Ef (w8.setCell ⟨C,2,none⟩ (.slice a8 data.length c8)) (w.heap.size+1) (.int .i64 t) (.slice a3 dims.length c3) (.slice a8 data.length c8)).heap[g]?=w8.heap[g]?:=fun g h1 h2=>(G7 h2).trans (Below.heap_setCell _ _ _ _ h1);have hfo:=A6 (w':=Ef (w8.setCell ⟨C,2,none⟩ (.slice a8 data.length c8)) (w.heap.size+1) (.int .i64 t) (.slice a3 dims.length c3) (.slice a8 data.length c8)) HO8.out (fun g hg=>hoth g (Bu HO8.out HC8.out (by decide) g hg) (Bu HO8.out HR8.out (by decide) g hg));have hfp:=A6 (w':=Ef (w8.setCell ⟨C,2,none⟩ (.slice a8 data.length c8)) (w.heap.size+1) (.int .i64 t) (.slice a3 dims.length c3) (.slice a8 data.length c8)) HP8.out (fun g hg=>hoth g (Bu HP8.out HC8.out (by decide) g hg) (Bu HP8.out HR8.out (by decide) g hg));have hfb:Below w.heap.size w (Ef (w8.setCell ⟨C,2,none⟩ (.slice a8 data.length c8)) (w.heap.size+1) (.int .i64 t) (.slice a3 dims.length c3) (.slice a8 data.length c8)):=Bp (HB8.out.setCell (p:=⟨C,2,none⟩) (by simp;omega) _) (by omega);unfold Ef at hfo hfp hfb;refine bodyPost_ret (v:=.agg #[.int .i64 t,.slice a3 dims.length c3,.slice a8 data.length c8]) (by simp[results,Tryz.f11,go_sem,s0,s1,s2]) rfl ?_;exact⟨_,_,rfl,hfo,hfp,hfb⟩
 ·obtain⟨C,hC⟩:∃C,C=W1.heap.size:=⟨_,rfl⟩;have HC7:Hid (Ac (Ef w3 C (.int .i64 t) (.slice a3 dims.length c3) (.slice none 0 0)) C #[.int .i64 t,.slice a3 dims.length c3,.slice none 0 0] 41):=hid (by rw[hC];exact HC3.out.put3 _ _ _);have hBx:Below W1.heap.size w3 (Ef w3 C (.int .i64 t) (.slice a3 dims.length c3) (.slice none 0 0)):=Bp (Below.refl _ _) (by omega);have HA7:=hid (HA3.out.below hlt hBx);have HR7:=hid ((hR1.out.below' HB3.out).below (by have:=hz.out;omega) hBx);have HO7:Hid ((Ef w3 C (.int .i64 t) (.slice a3 dims.length c3) (.slice none 0 0)).ownsRow w.heap.size 3 1 (.slice a3 dims.length c3) dims.length (dims.map (Value.int .i64))):=hid (Bl (A6 HO.out fun g hg=>G7 (by rw[hC];exact Bu HO.out HC3.out (by decide) g hg)) (by have:=hB1.out.size;simp;omega));have HB7:=hid ((hB1.out.trans (HB3.out.mono hB1.out.size)).trans (hBx.mono hB1.out.size));have hC2:w.heap.size+2≤C:=by have:=hz.out;omega
  rw[←hC];clear f0 f1 f2 r0 r1 r2 k0 k1 g0 g1;unfold Ef at HC7 HA7 HR7 HO7 HB7;clear hC hBx HC3;generalize ((w3.setCell ⟨C,0,none⟩ (.int .i64 t)).setCell ⟨C,1,none⟩ (.slice a3 dims.length c3)).setCell ⟨C,2,none⟩ (.slice none 0 0)=W7 at HC7 HA7 HR7 HO7 HB7⊢;have k7:W7.cell? ⟨w.heap.size,2,none⟩=some (.slice ax data.length cx):=HA7.out.cell 2 rfl;obtain⟨m0,m1,m2⟩:=HC7.out.three;go_wp2_with (at_builtin;refine BT rfl _ _ 39 rfl Tryz.underlying39 hi hz0 hz1 hz2 rfl (by decide) rfl rfl (HX.out.below HB7.out).news ?_)
  intro v' w8 h1 h2;obtain⟨a8,c8,rfl⟩:=Bh h1;have HO8:=hid (AJ HO7.out h2);have HP8:=hid (Bl h1 HB7.out.size);have HB8:=hid (HB7.out.trans (h2.mono HB7.out.size));have HC8:=hid (HC7.out.below' h2);have HR8:=hid (HR7.out.below' h2);clear h1 h2;obtain⟨n0,n1,n2⟩:=HC8.out.three;obtain⟨f0',f1',f2'⟩:=HC8.out.thaw3;have hC9:=HC8.out.set 2 (.slice a8 data.length c8);rw[show #[Value.int .i64 t,.slice a3 dims.length c3,.slice none 0 0].setIfInBounds 2 (.slice a8 data.length c8)=#[.int .i64 t,.slice a3 dims.length c3,.slice a8 data.length c8]from rfl]at hC9;obtain⟨o0,o1,o2⟩:=hC9.three;have HR9:Hid (Ac (w8.setCell ⟨C,2,none⟩ (.slice a8 data.length c8)) (w.heap.size+1) #[.int .i64 0,.slice none 0 0,.slice none 0 0] 41):=hid ((Below.heap_setCell _ _ _ _ (by simp;omega)).trans HR8.out);obtain⟨q0,q1,q2⟩:=HR9.out.thaw3;obtain⟨q3,q4,q5⟩:=HR9.out.three;clear hC9;go_wp2_with fail
  have hp:=HR9.out.put3 (.int .i64 t) (.slice a3 dims.length c3) (.slice a8 data.length c8);obtain⟨s0,s1,s2⟩:=hp.three;unfold Ef at s0 s1 s2;have hoth:∀g,g≠C→g≠w.heap.size+1→(Ef (w8.setCell ⟨C,2,none⟩ (.slice a8 data.length c8)) (w.heap.size+1) (.int .i64 t) (.slice a3 dims.length c3) (.slice a8 data.length c8)).heap[g]?=w8.heap[g]?:=fun g h1 h2=>(G7 h2).trans (Below.heap_setCell _ _ _ _ h1);have hfo:=A6 (w':=Ef (w8.setCell ⟨C,2,none⟩ (.slice a8 data.length c8)) (w.heap.size+1) (.int .i64 t) (.slice a3 dims.length c3) (.slice a8 data.length c8)) HO8.out (fun g hg=>hoth g (Bu HO8.out HC8.out (by decide) g hg) (Bu HO8.out HR8.out (by decide) g hg));have hfp:=A6 (w':=Ef (w8.setCell ⟨C,2,none⟩ (.slice a8 data.length c8)) (w.heap.size+1) (.int .i64 t) (.slice a3 dims.length c3) (.slice a8 data.length c8)) HP8.out (fun g hg=>hoth g (Bu HP8.out HC8.out (by decide) g hg) (Bu HP8.out HR8.out (by decide) g hg));have hfb:Below w.heap.size w (Ef (w8.setCell ⟨C,2,none⟩ (.slice a8 data.length c8)) (w.heap.size+1) (.int .i64 t) (.slice a3 dims.length c3) (.slice a8 data.length c8)):=Bp (HB8.out.setCell (p:=⟨C,2,none⟩) (by simp;omega) _) (by omega);unfold Ef at hfo hfp hfb;refine bodyPost_ret (v:=.agg #[.int .i64 t,.slice a3 dims.length c3,.slice a8 data.length c8]) (by simp[results,Tryz.f11,go_sem,s0,s1,s2]) rfl ?_;exact⟨_,_,rfl,hfo,hfp,hfb⟩
end Go.Proofs.YtkkeehnldcdccaaGreatDoor
