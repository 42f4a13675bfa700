import Derived.Test.YtkkeehnldcdccaaGreatDoorNe37
set_option linter.unusedVariables false
set_option linter.unusedSimpArgs false
set_option maxRecDepth 100000
set_option maxHeartbeats 4000000
namespace Go.Proofs.YtkkeehnldcdccaaGreatDoor
open Go.Lib (hid)
open Go.RowKit
section
structure Fm where
 name:ByteArray
 kind:Int
 must:Bool
def Fm.cells(f:Fm):List Value:=[.string f.name,.int .i64 f.kind,.bool f.must]
def Lc(w:World)(b off:Nat)(fs:List Fm):Prop:=∀(j:Nat) f,fs[j]?=some f→w.cell? ⟨b,off+j*3,none⟩=some (.string f.name)∧w.cell? ⟨b,off+j*3+1,none⟩=some (.int .i64 f.kind)∧w.cell? ⟨b,off+j*3+2,none⟩=some (.bool f.must)
inductive Gu(w:World):Value→List Fm→Prop
 | empty:Gu w (.slice none 0 0) []
 | row (b:Nat) (fs:List Fm) (h0:fs≠[]) (hb:b<w.heap.size) (hr:Lc w b 0 fs) (hlen:fs.length≤100):Gu w (.slice (some ⟨b,0,none⟩) fs.length fs.length) fs
theorem Lc.below{w w':World}{b off:Nat}{fs:List Fm}(h:Lc w b off fs)(hb:b<w.heap.size)(hB:Below w.heap.size w w'):Lc w' b off fs:=fun j f hj=>by
 obtain⟨h1,h2,h3⟩:=h j f hj;exact⟨(hB.cell (p:=⟨b,off+j*3,none⟩) hb).trans h1,(hB.cell (p:=⟨b,off+j*3+1,none⟩) hb).trans h2,(hB.cell (p:=⟨b,off+j*3+2,none⟩) hb).trans h3⟩
theorem Gu.below{w w':World}{v:Value}{fs:List Fm}(h:Gu w v fs)(hB:Below w.heap.size w w'):Gu w' v fs:=by
 cases h with
 | empty=>exact .empty
 | row b _ h0 hb hr hlen=>exact .row b fs h0 (Nat.lt_of_lt_of_le hb hB.size) (hr.below hb hB) hlen
theorem NK:∀ {fs:List Fm} {j:Nat} {f:Fm} {i:Nat} {u:Value},fs[j]?=some f→f.cells[i]?=some u→(fs.flatMap Fm.cells)[j*3+i]?=some u
 | [],j,f,i,u,h,_=>by simp at h
 | g::fs,0,f,i,u,h1,h2=>by
  obtain rfl:=Option.some.inj h1;have hi:i<(Fm.cells g).length:=(List.getElem?_eq_some_iff.1 h2).1;rw[List.flatMap_cons,Nat.zero_mul,Nat.zero_add,List.getElem?_append_left hi];exact h2
 | g::fs,j+1,f,i,u,h1,h2=>by
  rw[List.flatMap_cons,List.getElem?_append_right (by simp[Fm.cells];omega)];have e:(j+1)*3+i-(Fm.cells g).length=j*3+i:=by simp[Fm.cells];omega
  rw[e];exact NK (by simpa using h1) h2
theorem BM(w:World)(fs:List Fm)(cs:Array Value)(hcs:cs=(fs.flatMap Fm.cells).toArray)(n:Nat)(hn:fs.length=n)(h0:fs≠[])(hl:n≤100):Gu (w.alloc (.cells cs 138)) (.slice (some ⟨w.heap.size,0,none⟩) n n) fs:=by
 subst hn;refine .row w.heap.size fs h0 (by simp) (fun j f hj=>?_) hl;have hc:∀(i:Nat) u,f.cells[i]?=some u→(w.alloc (.cells cs 138)).cell? ⟨w.heap.size,0+j*3+i,none⟩=some u:=fun i u hu=>by
  rw[World.cell?,World.alloc_heap_new];have:=NK hj hu;simp only[hcs,Nat.zero_add]
  simpa using this
 exact⟨hc 0 _ rfl,hc 1 _ rfl,hc 2 _ rfl⟩
def EK:List (List UInt8×Int×Int×List Fm)→ByteArray→Option (Int×Int×List Fm)
 | [],_=>none
 | (l,r)::t,op=>if op.toList==l then some r else EK t op
theorem A1{l:List UInt8}{r:Int×Int×List Fm}{t:List (List UInt8×Int×Int×List Fm)}{op:ByteArray}(h:(op.toList==l)=true):EK ((l,r)::t) op=some r:=by unfold EK;rw[if_pos h]
theorem AL{l:List UInt8}{r:Int×Int×List Fm}{t:List (List UInt8×Int×Int×List Fm)}{op:ByteArray}(h:(op.toList==l)=false):EK ((l,r)::t) op=EK t op:=by simp[EK,h]
def Rh:List (List UInt8×Int×Int×List Fm):=[]
def YD:List (List UInt8×Int×Int×List Fm):=([67,111,110,115,116,97,110,116],0,0,[⟨⟨#[118,97,108,117,101]⟩,4,true⟩])::Rh
def YE:List (List UInt8×Int×Int×List Fm):=([66,97,116,99,104,78,111,114,109,97,108,105,122,97,116,105,111,110],5,5,[⟨⟨#[101,112,115,105,108,111,110]⟩,1,false⟩])::YD
def YF:List (List UInt8×Int×Int×List Fm):=([65,118,101,114,97,103,101,80,111,111,108],1,1,[⟨⟨#[107,101,114,110,101,108,95,115,104,97,112,101]⟩,7,true⟩,⟨⟨#[115,116,114,105,100,101,115]⟩,7,false⟩,⟨⟨#[112,97,100,115]⟩,7,false⟩])::YE
def YG:List (List UInt8×Int×Int×List Fm):=([77,97,120,80,111,111,108],1,1,[⟨⟨#[107,101,114,110,101,108,95,115,104,97,112,101]⟩,7,true⟩,⟨⟨#[115,116,114,105,100,101,115]⟩,7,false⟩,⟨⟨#[112,97,100,115]⟩,7,false⟩])::YF
def YH:List (List UInt8×Int×Int×List Fm):=([67,111,110,118],2,3,[⟨⟨#[115,116,114,105,100,101,115]⟩,7,false⟩,⟨⟨#[112,97,100,115]⟩,7,false⟩,⟨⟨#[100,105,108,97,116,105,111,110,115]⟩,7,false⟩,⟨⟨#[103,114,111,117,112]⟩,2,false⟩])::YG
def YI:List (List UInt8×Int×Int×List Fm):=([71,101,109,109],2,3,[⟨⟨#[116,114,97,110,115,65]⟩,2,false⟩,⟨⟨#[116,114,97,110,115,66]⟩,2,false⟩,⟨⟨#[97,108,112,104,97]⟩,1,false⟩,⟨⟨#[98,101,116,97]⟩,1,false⟩])::YH
def YJ:List (List UInt8×Int×Int×List Fm):=([83,111,102,116,109,97,120],1,1,[⟨⟨#[97,120,105,115]⟩,2,false⟩])::YI
def YK:List (List UInt8×Int×Int×List Fm):=([70,108,97,116,116,101,110],1,1,[⟨⟨#[97,120,105,115]⟩,2,false⟩])::YJ
def YL:List (List UInt8×Int×Int×List Fm):=([85,110,115,113,117,101,101,122,101],1,1,[⟨⟨#[97,120,101,115]⟩,7,true⟩])::YK
def YM:List (List UInt8×Int×Int×List Fm):=([83,113,117,101,101,122,101],1,1,[⟨⟨#[97,120,101,115]⟩,7,true⟩])::YL
def YN:List (List UInt8×Int×Int×List Fm):=([80,97,100],1,1,[⟨⟨#[112,97,100,115]⟩,7,true⟩,⟨⟨#[118,97,108,117,101]⟩,1,false⟩])::YM
def YO:List (List UInt8×Int×Int×List Fm):=([71,97,116,104,101,114],2,2,[⟨⟨#[97,120,105,115]⟩,2,false⟩])::YN
def YP:List (List UInt8×Int×Int×List Fm):=([83,108,105,99,101],1,1,[⟨⟨#[115,116,97,114,116,115]⟩,7,true⟩,⟨⟨#[101,110,100,115]⟩,7,true⟩,⟨⟨#[97,120,101,115]⟩,7,false⟩])::YO
def YQ:List (List UInt8×Int×Int×List Fm):=([67,111,110,99,97,116],1,20,[⟨⟨#[97,120,105,115]⟩,2,true⟩])::YP
def Z9:List (List UInt8×Int×Int×List Fm):=([84,114,97,110,115,112,111,115,101],1,1,[⟨⟨#[112,101,114,109]⟩,7,false⟩])::YQ
def aA:List (List UInt8×Int×Int×List Fm):=([69,120,112,97,110,100],1,1,[⟨⟨#[115,104,97,112,101]⟩,7,true⟩])::Z9
def aB:List (List UInt8×Int×Int×List Fm):=([82,101,115,104,97,112,101],1,1,[⟨⟨#[115,104,97,112,101]⟩,7,true⟩])::aA
def aC:List (List UInt8×Int×Int×List Fm):=([65,114,103,77,97,120],1,1,[⟨⟨#[97,120,105,115]⟩,2,false⟩,⟨⟨#[107,101,101,112,100,105,109,115]⟩,2,false⟩])::aB
def aD:List (List UInt8×Int×Int×List Fm):=([82,101,100,117,99,101,77,101,97,110],1,1,[⟨⟨#[97,120,101,115]⟩,7,false⟩,⟨⟨#[107,101,101,112,100,105,109,115]⟩,2,false⟩])::aC
def aE:List (List UInt8×Int×Int×List Fm):=([82,101,100,117,99,101,77,97,120],1,1,[⟨⟨#[97,120,101,115]⟩,7,false⟩,⟨⟨#[107,101,101,112,100,105,109,115]⟩,2,false⟩])::aD
def aF:List (List UInt8×Int×Int×List Fm):=([82,101,100,117,99,101,83,117,109],1,1,[⟨⟨#[97,120,101,115]⟩,7,false⟩,⟨⟨#[107,101,101,112,100,105,109,115]⟩,2,false⟩])::aE
def aG:List (List UInt8×Int×Int×List Fm):=([67,97,115,116],1,1,[⟨⟨#[116,111]⟩,2,true⟩])::aF
def aH:List (List UInt8×Int×Int×List Fm):=([67,108,105,112],1,1,[⟨⟨#[109,105,110]⟩,1,false⟩,⟨⟨#[109,97,120]⟩,1,false⟩])::aG
def Ld:List (List UInt8×Int×Int×List Fm):=([87,104,101,114,101],3,3,[])::aH
structure aI where
 least:Int
 most:Int
 forms:List Fm
 ok:Bool
def Br(op:ByteArray):aI:=
 if Cq op=true∨(op.toList==([71,108,111,98,97,108,65,118,101,114,97,103,101,80,111,111,108]:List UInt8))=true then⟨1,1,[],true⟩
 else if Cu EJ op=true∨(op.toList==([77,97,116,77,117,108]:List UInt8))=true then⟨2,2,[],true⟩
 else match EK Ld op with
  | some r=>⟨r.1,r.2.1,r.2.2,true⟩
  | none=>⟨0,0,[],false⟩
def Hx(r:aI)(w:World)(e:Ending)(w':World):Prop:=
 Below w.heap.size w w'∧∃vf,e=.returned (.tuple #[.int .i64 r.least,.int .i64 r.most,vf,.bool r.ok])∧Gu w' vf r.forms
structure Ch(op:ByteArray):Prop where
 h1:Cq op=false
 hG:(op.toList==([71,108,111,98,97,108,65,118,101,114,97,103,101,80,111,111,108]:List UInt8))=false
 h2:Cu EJ op=false
 hM:(op.toList==([77,97,116,77,117,108]:List UInt8))=false
theorem Ch.of{op:ByteArray}(h:Ch op):Br op=match EK Ld op with |some r=>⟨r.1,r.2.1,r.2.2,true⟩|none=>⟨0,0,[],false⟩:=by
 unfold Br;rw[if_neg (by simp[h.h1,h.hG]),if_neg (by simp[h.h2,h.hM])]
attribute [local irreducible] Cq Cu EJ EK
theorem XF(op:ByteArray)(w:World)(h1:Cq op=true):Calls Tryz.prog 55 #[.string op] w (Hx ⟨1,1,[],true⟩ w):=by
 go_enter Tryz.func55,Tryz.ntmps55
 go_wp2_with fail
 refine(AO op _).mono ?_;rintro e w1⟨rfl,B1⟩;have H1:=hid B1;clear B1;rw[h1];go_wp2_with fail
 refine bodyPost_ret (v:=.tuple #[.int .i64 1,.int .i64 1,.slice none 0 0,.bool true]) (by simp[results,Tryz.f55,go_sem]) rfl ?_;exact⟨H1.out,_,rfl,.empty⟩
theorem XG(op:ByteArray)(w:World)(h1:Cq op=false)(hG:(op.toList==([71,108,111,98,97,108,65,118,101,114,97,103,101,80,111,111,108]:List UInt8))=true):Calls Tryz.prog 55 #[.string op] w (Hx ⟨1,1,[],true⟩ w):=by
 go_enter Tryz.func55,Tryz.ntmps55
 go_wp2_with fail
 refine(AO op _).mono ?_;rintro e w1⟨rfl,B1⟩;have H1:=hid B1;clear B1;rw[h1];go_wp2_with fail
 refine bodyPost_ret (v:=.tuple #[.int .i64 1,.int .i64 1,.slice none 0 0,.bool true]) (by simp[results,Tryz.f55,go_sem]) rfl ?_;exact⟨H1.out,_,rfl,.empty⟩
theorem XH(op:ByteArray)(w:World)(h1:Cq op=false)(hG:(op.toList==([71,108,111,98,97,108,65,118,101,114,97,103,101,80,111,111,108]:List UInt8))=false)(h2:Cu EJ op=true):Calls Tryz.prog 55 #[.string op] w (Hx ⟨2,2,[],true⟩ w):=by
 go_enter Tryz.func55,Tryz.ntmps55
 go_wp2_with fail
 refine(AO op _).mono ?_;rintro e w1⟨rfl,B1⟩;have H1:=hid B1;clear B1;rw[h1];go_wp2_with fail
 refine(AW op _).mono ?_;rintro e w2⟨rfl,B2⟩;have H2:=hid (H1.out.trans (B2.mono H1.out.size));clear B2;rw[h2];go_wp2_with fail
 refine bodyPost_ret (v:=.tuple #[.int .i64 2,.int .i64 2,.slice none 0 0,.bool true]) (by simp[results,Tryz.f55,go_sem]) rfl ?_;exact⟨H2.out,_,rfl,.empty⟩
theorem YR(op:ByteArray)(w:World)(h1:Cq op=false)(hG:(op.toList==([71,108,111,98,97,108,65,118,101,114,97,103,101,80,111,111,108]:List UInt8))=false)(h2:Cu EJ op=false)(hM:(op.toList==([77,97,116,77,117,108]:List UInt8))=true):Calls Tryz.prog 55 #[.string op] w (Hx ⟨2,2,[],true⟩ w):=by
 go_enter Tryz.func55,Tryz.ntmps55
 go_wp2_with fail
 refine(AO op _).mono ?_;rintro e w1⟨rfl,B1⟩;have H1:=hid B1;clear B1;rw[h1];go_wp2_with fail
 refine(AW op _).mono ?_;rintro e w2⟨rfl,B2⟩;have H2:=hid (H1.out.trans (B2.mono H1.out.size));clear B2;rw[h2];go_wp2_with fail
 refine bodyPost_ret (v:=.tuple #[.int .i64 2,.int .i64 2,.slice none 0 0,.bool true]) (by simp[results,Tryz.f55,go_sem]) rfl ?_;exact⟨H2.out,_,rfl,.empty⟩
theorem aJ(op:ByteArray)(w:World)(hp:Ch op)(g0:(op.toList==([87,104,101,114,101]:List UInt8))=true):Calls Tryz.prog 55 #[.string op] w (Hx ⟨3,3,[],true⟩ w):=by
 obtain⟨h1,hG,h2,hM⟩:=hp;go_enter Tryz.func55,Tryz.ntmps55
 go_wp2_with fail
 refine(AO op _).mono ?_;rintro e w1⟨rfl,B1⟩;have H1:=hid B1;clear B1;rw[h1];go_wp2_with fail
 refine(AW op _).mono ?_;rintro e w2⟨rfl,B2⟩;have H2:=hid (H1.out.trans (B2.mono H1.out.size));clear B2;rw[h2];go_wp2_with fail
 refine bodyPost_ret (v:=.tuple #[.int .i64 3,.int .i64 3,.slice none 0 0,.bool true]) (by simp[results,Tryz.f55,go_sem]) rfl ?_;exact⟨H2.out,_,rfl,.empty⟩
theorem aK(op:ByteArray)(w:World)(hp:Ch op)(g0:(op.toList==([87,104,101,114,101]:List UInt8))=false)(g1:(op.toList==([67,108,105,112]:List UInt8))=true):Calls Tryz.prog 55 #[.string op] w (Hx ⟨1,1,[⟨⟨#[109,105,110]⟩,1,false⟩,⟨⟨#[109,97,120]⟩,1,false⟩],true⟩ w):=by
 obtain⟨h1,hG,h2,hM⟩:=hp;go_enter Tryz.func55,Tryz.ntmps55
 go_wp2_with fail
 refine(AO op _).mono ?_;rintro e w1⟨rfl,B1⟩;have H1:=hid B1;clear B1;rw[h1];go_wp2_with fail
 refine(AW op _).mono ?_;rintro e w2⟨rfl,B2⟩;have H2:=hid (H1.out.trans (B2.mono H1.out.size));clear B2;rw[h2];go_wp2_with fail
 refine(AS ⟨#[109,105,110]⟩ 1 _).mono ?_;rintro e w3⟨rfl,B⟩;have H3:=hid (H2.out.trans (B.mono H2.out.size));clear B;go_wp2_with fail
 refine(AS ⟨#[109,97,120]⟩ 1 _).mono ?_;rintro e w4⟨rfl,B⟩;have H4:=hid (H3.out.trans (B.mono H3.out.size));clear B;go_wp2_with fail
 refine bodyPost_ret (v:=.tuple #[.int .i64 1,.int .i64 1,.slice (some ⟨w4.heap.size,0,none⟩) 2 2,.bool true]) (by simp[results,Tryz.f55,go_sem]) rfl ?_;exact⟨H4.out.alloc H4.out.size _,_,rfl,BM w4 [⟨⟨#[109,105,110]⟩,1,false⟩,⟨⟨#[109,97,120]⟩,1,false⟩] _ rfl 2 rfl (by simp) (by decide)⟩
theorem aL(op:ByteArray)(w:World)(hp:Ch op)(g0:(op.toList==([87,104,101,114,101]:List UInt8))=false)(g1:(op.toList==([67,108,105,112]:List UInt8))=false)(g2:(op.toList==([67,97,115,116]:List UInt8))=true):Calls Tryz.prog 55 #[.string op] w (Hx ⟨1,1,[⟨⟨#[116,111]⟩,2,true⟩],true⟩ w):=by
 obtain⟨h1,hG,h2,hM⟩:=hp;go_enter Tryz.func55,Tryz.ntmps55
 go_wp2_with fail
 refine(AO op _).mono ?_;rintro e w1⟨rfl,B1⟩;have H1:=hid B1;clear B1;rw[h1];go_wp2_with fail
 refine(AW op _).mono ?_;rintro e w2⟨rfl,B2⟩;have H2:=hid (H1.out.trans (B2.mono H1.out.size));clear B2;rw[h2];go_wp2_with fail
 refine(Cf ⟨#[116,111]⟩ 2 _).mono ?_;rintro e w3⟨rfl,B⟩;have H3:=hid (H2.out.trans (B.mono H2.out.size));clear B;go_wp2_with fail
 refine bodyPost_ret (v:=.tuple #[.int .i64 1,.int .i64 1,.slice (some ⟨w3.heap.size,0,none⟩) 1 1,.bool true]) (by simp[results,Tryz.f55,go_sem]) rfl ?_;exact⟨H3.out.alloc H3.out.size _,_,rfl,BM w3 [⟨⟨#[116,111]⟩,2,true⟩] _ rfl 1 rfl (by simp) (by decide)⟩
theorem aM(op:ByteArray)(w:World)(hp:Ch op)(g0:(op.toList==([87,104,101,114,101]:List UInt8))=false)(g1:(op.toList==([67,108,105,112]:List UInt8))=false)(g2:(op.toList==([67,97,115,116]:List UInt8))=false)(g3:(op.toList==([82,101,100,117,99,101,83,117,109]:List UInt8))=true):Calls Tryz.prog 55 #[.string op] w (Hx ⟨1,1,[⟨⟨#[97,120,101,115]⟩,7,false⟩,⟨⟨#[107,101,101,112,100,105,109,115]⟩,2,false⟩],true⟩ w):=by
 obtain⟨h1,hG,h2,hM⟩:=hp;go_enter Tryz.func55,Tryz.ntmps55
 go_wp2_with fail
 refine(AO op _).mono ?_;rintro e w1⟨rfl,B1⟩;have H1:=hid B1;clear B1;rw[h1];go_wp2_with fail
 refine(AW op _).mono ?_;rintro e w2⟨rfl,B2⟩;have H2:=hid (H1.out.trans (B2.mono H1.out.size));clear B2;rw[h2];go_wp2_with fail
 refine(AS ⟨#[97,120,101,115]⟩ 7 _).mono ?_;rintro e w3⟨rfl,B⟩;have H3:=hid (H2.out.trans (B.mono H2.out.size));clear B;go_wp2_with fail
 refine(AS ⟨#[107,101,101,112,100,105,109,115]⟩ 2 _).mono ?_;rintro e w4⟨rfl,B⟩;have H4:=hid (H3.out.trans (B.mono H3.out.size));clear B;go_wp2_with fail
 refine bodyPost_ret (v:=.tuple #[.int .i64 1,.int .i64 1,.slice (some ⟨w4.heap.size,0,none⟩) 2 2,.bool true]) (by simp[results,Tryz.f55,go_sem]) rfl ?_;exact⟨H4.out.alloc H4.out.size _,_,rfl,BM w4 [⟨⟨#[97,120,101,115]⟩,7,false⟩,⟨⟨#[107,101,101,112,100,105,109,115]⟩,2,false⟩] _ rfl 2 rfl (by simp) (by decide)⟩
theorem aN(op:ByteArray)(w:World)(hp:Ch op)(g0:(op.toList==([87,104,101,114,101]:List UInt8))=false)(g1:(op.toList==([67,108,105,112]:List UInt8))=false)(g2:(op.toList==([67,97,115,116]:List UInt8))=false)(g3:(op.toList==([82,101,100,117,99,101,83,117,109]:List UInt8))=false)(g4:(op.toList==([82,101,100,117,99,101,77,97,120]:List UInt8))=true):Calls Tryz.prog 55 #[.string op] w (Hx ⟨1,1,[⟨⟨#[97,120,101,115]⟩,7,false⟩,⟨⟨#[107,101,101,112,100,105,109,115]⟩,2,false⟩],true⟩ w):=by
 obtain⟨h1,hG,h2,hM⟩:=hp;go_enter Tryz.func55,Tryz.ntmps55
 go_wp2_with fail
 refine(AO op _).mono ?_;rintro e w1⟨rfl,B1⟩;have H1:=hid B1;clear B1;rw[h1];go_wp2_with fail
 refine(AW op _).mono ?_;rintro e w2⟨rfl,B2⟩;have H2:=hid (H1.out.trans (B2.mono H1.out.size));clear B2;rw[h2];go_wp2_with fail
 refine(AS ⟨#[97,120,101,115]⟩ 7 _).mono ?_;rintro e w3⟨rfl,B⟩;have H3:=hid (H2.out.trans (B.mono H2.out.size));clear B;go_wp2_with fail
 refine(AS ⟨#[107,101,101,112,100,105,109,115]⟩ 2 _).mono ?_;rintro e w4⟨rfl,B⟩;have H4:=hid (H3.out.trans (B.mono H3.out.size));clear B;go_wp2_with fail
 refine bodyPost_ret (v:=.tuple #[.int .i64 1,.int .i64 1,.slice (some ⟨w4.heap.size,0,none⟩) 2 2,.bool true]) (by simp[results,Tryz.f55,go_sem]) rfl ?_;exact⟨H4.out.alloc H4.out.size _,_,rfl,BM w4 [⟨⟨#[97,120,101,115]⟩,7,false⟩,⟨⟨#[107,101,101,112,100,105,109,115]⟩,2,false⟩] _ rfl 2 rfl (by simp) (by decide)⟩
theorem aO(op:ByteArray)(w:World)(hp:Ch op)(g0:(op.toList==([87,104,101,114,101]:List UInt8))=false)(g1:(op.toList==([67,108,105,112]:List UInt8))=false)(g2:(op.toList==([67,97,115,116]:List UInt8))=false)(g3:(op.toList==([82,101,100,117,99,101,83,117,109]:List UInt8))=false)(g4:(op.toList==([82,101,100,117,99,101,77,97,120]:List UInt8))=false)(g5:(op.toList==([82,101,100,117,99,101,77,101,97,110]:List UInt8))=true):Calls Tryz.prog 55 #[.string op] w (Hx ⟨1,1,[⟨⟨#[97,120,101,115]⟩,7,false⟩,⟨⟨#[107,101,101,112,100,105,109,115]⟩,2,false⟩],true⟩ w):=by
 obtain⟨h1,hG,h2,hM⟩:=hp;go_enter Tryz.func55,Tryz.ntmps55
 go_wp2_with fail
 refine(AO op _).mono ?_;rintro e w1⟨rfl,B1⟩;have H1:=hid B1;clear B1;rw[h1];go_wp2_with fail
 refine(AW op _).mono ?_;rintro e w2⟨rfl,B2⟩;have H2:=hid (H1.out.trans (B2.mono H1.out.size));clear B2;rw[h2];go_wp2_with fail
 refine(AS ⟨#[97,120,101,115]⟩ 7 _).mono ?_;rintro e w3⟨rfl,B⟩;have H3:=hid (H2.out.trans (B.mono H2.out.size));clear B;go_wp2_with fail
 refine(AS ⟨#[107,101,101,112,100,105,109,115]⟩ 2 _).mono ?_;rintro e w4⟨rfl,B⟩;have H4:=hid (H3.out.trans (B.mono H3.out.size));clear B;go_wp2_with fail
 refine bodyPost_ret (v:=.tuple #[.int .i64 1,.int .i64 1,.slice (some ⟨w4.heap.size,0,none⟩) 2 2,.bool true]) (by simp[results,Tryz.f55,go_sem]) rfl ?_;exact⟨H4.out.alloc H4.out.size _,_,rfl,BM w4 [⟨⟨#[97,120,101,115]⟩,7,false⟩,⟨⟨#[107,101,101,112,100,105,109,115]⟩,2,false⟩] _ rfl 2 rfl (by simp) (by decide)⟩
theorem aP(op:ByteArray)(w:World)(hp:Ch op)(g0:(op.toList==([87,104,101,114,101]:List UInt8))=false)(g1:(op.toList==([67,108,105,112]:List UInt8))=false)(g2:(op.toList==([67,97,115,116]:List UInt8))=false)(g3:(op.toList==([82,101,100,117,99,101,83,117,109]:List UInt8))=false)(g4:(op.toList==([82,101,100,117,99,101,77,97,120]:List UInt8))=false)(g5:(op.toList==([82,101,100,117,99,101,77,101,97,110]:List UInt8))=false)(g6:(op.toList==([65,114,103,77,97,120]:List UInt8))=true):Calls Tryz.prog 55 #[.string op] w (Hx ⟨1,1,[⟨⟨#[97,120,105,115]⟩,2,false⟩,⟨⟨#[107,101,101,112,100,105,109,115]⟩,2,false⟩],true⟩ w):=by
 obtain⟨h1,hG,h2,hM⟩:=hp;go_enter Tryz.func55,Tryz.ntmps55
 go_wp2_with fail
 refine(AO op _).mono ?_;rintro e w1⟨rfl,B1⟩;have H1:=hid B1;clear B1;rw[h1];go_wp2_with fail
 refine(AW op _).mono ?_;rintro e w2⟨rfl,B2⟩;have H2:=hid (H1.out.trans (B2.mono H1.out.size));clear B2;rw[h2];go_wp2_with fail
 refine(AS ⟨#[97,120,105,115]⟩ 2 _).mono ?_;rintro e w3⟨rfl,B⟩;have H3:=hid (H2.out.trans (B.mono H2.out.size));clear B;go_wp2_with fail
 refine(AS ⟨#[107,101,101,112,100,105,109,115]⟩ 2 _).mono ?_;rintro e w4⟨rfl,B⟩;have H4:=hid (H3.out.trans (B.mono H3.out.size));clear B;go_wp2_with fail
 refine bodyPost_ret (v:=.tuple #[.int .i64 1,.int .i64 1,.slice (some ⟨w4.heap.size,0,none⟩) 2 2,.bool true]) (by simp[results,Tryz.f55,go_sem]) rfl ?_;exact⟨H4.out.alloc H4.out.size _,_,rfl,BM w4 [⟨⟨#[97,120,105,115]⟩,2,false⟩,⟨⟨#[107,101,101,112,100,105,109,115]⟩,2,false⟩] _ rfl 2 rfl (by simp) (by decide)⟩
theorem aQ(op:ByteArray)(w:World)(hp:Ch op)(g0:(op.toList==([87,104,101,114,101]:List UInt8))=false)(g1:(op.toList==([67,108,105,112]:List UInt8))=false)(g2:(op.toList==([67,97,115,116]:List UInt8))=false)(g3:(op.toList==([82,101,100,117,99,101,83,117,109]:List UInt8))=false)(g4:(op.toList==([82,101,100,117,99,101,77,97,120]:List UInt8))=false)(g5:(op.toList==([82,101,100,117,99,101,77,101,97,110]:List UInt8))=false)(g6:(op.toList==([65,114,103,77,97,120]:List UInt8))=false)(g7:(op.toList==([82,101,115,104,97,112,101]:List UInt8))=true):Calls Tryz.prog 55 #[.string op] w (Hx ⟨1,1,[⟨⟨#[115,104,97,112,101]⟩,7,true⟩],true⟩ w):=by
 obtain⟨h1,hG,h2,hM⟩:=hp;go_enter Tryz.func55,Tryz.ntmps55
 go_wp2_with fail
 refine(AO op _).mono ?_;rintro e w1⟨rfl,B1⟩;have H1:=hid B1;clear B1;rw[h1];go_wp2_with fail
 refine(AW op _).mono ?_;rintro e w2⟨rfl,B2⟩;have H2:=hid (H1.out.trans (B2.mono H1.out.size));clear B2;rw[h2];go_wp2_with fail
 refine(Cf ⟨#[115,104,97,112,101]⟩ 7 _).mono ?_;rintro e w3⟨rfl,B⟩;have H3:=hid (H2.out.trans (B.mono H2.out.size));clear B;go_wp2_with fail
 refine bodyPost_ret (v:=.tuple #[.int .i64 1,.int .i64 1,.slice (some ⟨w3.heap.size,0,none⟩) 1 1,.bool true]) (by simp[results,Tryz.f55,go_sem]) rfl ?_;exact⟨H3.out.alloc H3.out.size _,_,rfl,BM w3 [⟨⟨#[115,104,97,112,101]⟩,7,true⟩] _ rfl 1 rfl (by simp) (by decide)⟩
theorem aR(op:ByteArray)(w:World)(hp:Ch op)(g0:(op.toList==([87,104,101,114,101]:List UInt8))=false)(g1:(op.toList==([67,108,105,112]:List UInt8))=false)(g2:(op.toList==([67,97,115,116]:List UInt8))=false)(g3:(op.toList==([82,101,100,117,99,101,83,117,109]:List UInt8))=false)(g4:(op.toList==([82,101,100,117,99,101,77,97,120]:List UInt8))=false)(g5:(op.toList==([82,101,100,117,99,101,77,101,97,110]:List UInt8))=false)(g6:(op.toList==([65,114,103,77,97,120]:List UInt8))=false)(g7:(op.toList==([82,101,115,104,97,112,101]:List UInt8))=false)(g8:(op.toList==([69,120,112,97,110,100]:List UInt8))=true):Calls Tryz.prog 55 #[.string op] w (Hx ⟨1,1,[⟨⟨#[115,104,97,112,101]⟩,7,true⟩],true⟩ w):=by
 obtain⟨h1,hG,h2,hM⟩:=hp;go_enter Tryz.func55,Tryz.ntmps55
 go_wp2_with fail
 refine(AO op _).mono ?_;rintro e w1⟨rfl,B1⟩;have H1:=hid B1;clear B1;rw[h1];go_wp2_with fail
 refine(AW op _).mono ?_;rintro e w2⟨rfl,B2⟩;have H2:=hid (H1.out.trans (B2.mono H1.out.size));clear B2;rw[h2];go_wp2_with fail
 refine(Cf ⟨#[115,104,97,112,101]⟩ 7 _).mono ?_;rintro e w3⟨rfl,B⟩;have H3:=hid (H2.out.trans (B.mono H2.out.size));clear B;go_wp2_with fail
 refine bodyPost_ret (v:=.tuple #[.int .i64 1,.int .i64 1,.slice (some ⟨w3.heap.size,0,none⟩) 1 1,.bool true]) (by simp[results,Tryz.f55,go_sem]) rfl ?_;exact⟨H3.out.alloc H3.out.size _,_,rfl,BM w3 [⟨⟨#[115,104,97,112,101]⟩,7,true⟩] _ rfl 1 rfl (by simp) (by decide)⟩
theorem aS(op:ByteArray)(w:World)(hp:Ch op)(g0:(op.toList==([87,104,101,114,101]:List UInt8))=false)(g1:(op.toList==([67,108,105,112]:List UInt8))=false)(g2:(op.toList==([67,97,115,116]:List UInt8))=false)(g3:(op.toList==([82,101,100,117,99,101,83,117,109]:List UInt8))=false)(g4:(op.toList==([82,101,100,117,99,101,77,97,120]:List UInt8))=false)(g5:(op.toList==([82,101,100,117,99,101,77,101,97,110]:List UInt8))=false)(g6:(op.toList==([65,114,103,77,97,120]:List UInt8))=false)(g7:(op.toList==([82,101,115,104,97,112,101]:List UInt8))=false)(g8:(op.toList==([69,120,112,97,110,100]:List UInt8))=false)(g9:(op.toList==([84,114,97,110,115,112,111,115,101]:List UInt8))=true):Calls Tryz.prog 55 #[.string op] w (Hx ⟨1,1,[⟨⟨#[112,101,114,109]⟩,7,false⟩],true⟩ w):=by
 obtain⟨h1,hG,h2,hM⟩:=hp;go_enter Tryz.func55,Tryz.ntmps55
 go_wp2_with fail
 refine(AO op _).mono ?_;rintro e w1⟨rfl,B1⟩;have H1:=hid B1;clear B1;rw[h1];go_wp2_with fail
 refine(AW op _).mono ?_;rintro e w2⟨rfl,B2⟩;have H2:=hid (H1.out.trans (B2.mono H1.out.size));clear B2;rw[h2];go_wp2_with fail
 refine(AS ⟨#[112,101,114,109]⟩ 7 _).mono ?_;rintro e w3⟨rfl,B⟩;have H3:=hid (H2.out.trans (B.mono H2.out.size));clear B;go_wp2_with fail
 refine bodyPost_ret (v:=.tuple #[.int .i64 1,.int .i64 1,.slice (some ⟨w3.heap.size,0,none⟩) 1 1,.bool true]) (by simp[results,Tryz.f55,go_sem]) rfl ?_;exact⟨H3.out.alloc H3.out.size _,_,rfl,BM w3 [⟨⟨#[112,101,114,109]⟩,7,false⟩] _ rfl 1 rfl (by simp) (by decide)⟩
theorem YS(op:ByteArray)(w:World)(hp:Ch op)(g0:(op.toList==([87,104,101,114,101]:List UInt8))=false)(g1:(op.toList==([67,108,105,112]:List UInt8))=false)(g2:(op.toList==([67,97,115,116]:List UInt8))=false)(g3:(op.toList==([82,101,100,117,99,101,83,117,109]:List UInt8))=false)(g4:(op.toList==([82,101,100,117,99,101,77,97,120]:List UInt8))=false)(g5:(op.toList==([82,101,100,117,99,101,77,101,97,110]:List UInt8))=false)(g6:(op.toList==([65,114,103,77,97,120]:List UInt8))=false)(g7:(op.toList==([82,101,115,104,97,112,101]:List UInt8))=false)(g8:(op.toList==([69,120,112,97,110,100]:List UInt8))=false)(g9:(op.toList==([84,114,97,110,115,112,111,115,101]:List UInt8))=false)(g10:(op.toList==([67,111,110,99,97,116]:List UInt8))=true):Calls Tryz.prog 55 #[.string op] w (Hx ⟨1,20,[⟨⟨#[97,120,105,115]⟩,2,true⟩],true⟩ w):=by
 obtain⟨h1,hG,h2,hM⟩:=hp;go_enter Tryz.func55,Tryz.ntmps55
 go_wp2_with fail
 refine(AO op _).mono ?_;rintro e w1⟨rfl,B1⟩;have H1:=hid B1;clear B1;rw[h1];go_wp2_with fail
 refine(AW op _).mono ?_;rintro e w2⟨rfl,B2⟩;have H2:=hid (H1.out.trans (B2.mono H1.out.size));clear B2;rw[h2];go_wp2_with fail
 refine(Cf ⟨#[97,120,105,115]⟩ 2 _).mono ?_;rintro e w3⟨rfl,B⟩;have H3:=hid (H2.out.trans (B.mono H2.out.size));clear B;go_wp2_with fail
 refine bodyPost_ret (v:=.tuple #[.int .i64 1,.int .i64 20,.slice (some ⟨w3.heap.size,0,none⟩) 1 1,.bool true]) (by simp[results,Tryz.f55,go_sem]) rfl ?_;exact⟨H3.out.alloc H3.out.size _,_,rfl,BM w3 [⟨⟨#[97,120,105,115]⟩,2,true⟩] _ rfl 1 rfl (by simp) (by decide)⟩
theorem YT(op:ByteArray)(w:World)(hp:Ch op)(g0:(op.toList==([87,104,101,114,101]:List UInt8))=false)(g1:(op.toList==([67,108,105,112]:List UInt8))=false)(g2:(op.toList==([67,97,115,116]:List UInt8))=false)(g3:(op.toList==([82,101,100,117,99,101,83,117,109]:List UInt8))=false)(g4:(op.toList==([82,101,100,117,99,101,77,97,120]:List UInt8))=false)(g5:(op.toList==([82,101,100,117,99,101,77,101,97,110]:List UInt8))=false)(g6:(op.toList==([65,114,103,77,97,120]:List UInt8))=false)(g7:(op.toList==([82,101,115,104,97,112,101]:List UInt8))=false)(g8:(op.toList==([69,120,112,97,110,100]:List UInt8))=false)(g9:(op.toList==([84,114,97,110,115,112,111,115,101]:List UInt8))=false)(g10:(op.toList==([67,111,110,99,97,116]:List UInt8))=false)(g11:(op.toList==([83,108,105,99,101]:List UInt8))=true):Calls Tryz.prog 55 #[.string op] w (Hx ⟨1,1,[⟨⟨#[115,116,97,114,116,115]⟩,7,true⟩,⟨⟨#[101,110,100,115]⟩,7,true⟩,⟨⟨#[97,120,101,115]⟩,7,false⟩],true⟩ w):=by
 obtain⟨h1,hG,h2,hM⟩:=hp;go_enter Tryz.func55,Tryz.ntmps55
 go_wp2_with fail
 refine(AO op _).mono ?_;rintro e w1⟨rfl,B1⟩;have H1:=hid B1;clear B1;rw[h1];go_wp2_with fail
 refine(AW op _).mono ?_;rintro e w2⟨rfl,B2⟩;have H2:=hid (H1.out.trans (B2.mono H1.out.size));clear B2;rw[h2];go_wp2_with fail
 refine(Cf ⟨#[115,116,97,114,116,115]⟩ 7 _).mono ?_;rintro e w3⟨rfl,B⟩;have H3:=hid (H2.out.trans (B.mono H2.out.size));clear B;go_wp2_with fail
 refine(Cf ⟨#[101,110,100,115]⟩ 7 _).mono ?_;rintro e w4⟨rfl,B⟩;have H4:=hid (H3.out.trans (B.mono H3.out.size));clear B;go_wp2_with fail
 refine(AS ⟨#[97,120,101,115]⟩ 7 _).mono ?_;rintro e w5⟨rfl,B⟩;have H5:=hid (H4.out.trans (B.mono H4.out.size));clear B;go_wp2_with fail
 refine bodyPost_ret (v:=.tuple #[.int .i64 1,.int .i64 1,.slice (some ⟨w5.heap.size,0,none⟩) 3 3,.bool true]) (by simp[results,Tryz.f55,go_sem]) rfl ?_;exact⟨H5.out.alloc H5.out.size _,_,rfl,BM w5 [⟨⟨#[115,116,97,114,116,115]⟩,7,true⟩,⟨⟨#[101,110,100,115]⟩,7,true⟩,⟨⟨#[97,120,101,115]⟩,7,false⟩] _ rfl 3 rfl (by simp) (by decide)⟩
theorem YU(op:ByteArray)(w:World)(hp:Ch op)(g0:(op.toList==([87,104,101,114,101]:List UInt8))=false)(g1:(op.toList==([67,108,105,112]:List UInt8))=false)(g2:(op.toList==([67,97,115,116]:List UInt8))=false)(g3:(op.toList==([82,101,100,117,99,101,83,117,109]:List UInt8))=false)(g4:(op.toList==([82,101,100,117,99,101,77,97,120]:List UInt8))=false)(g5:(op.toList==([82,101,100,117,99,101,77,101,97,110]:List UInt8))=false)(g6:(op.toList==([65,114,103,77,97,120]:List UInt8))=false)(g7:(op.toList==([82,101,115,104,97,112,101]:List UInt8))=false)(g8:(op.toList==([69,120,112,97,110,100]:List UInt8))=false)(g9:(op.toList==([84,114,97,110,115,112,111,115,101]:List UInt8))=false)(g10:(op.toList==([67,111,110,99,97,116]:List UInt8))=false)(g11:(op.toList==([83,108,105,99,101]:List UInt8))=false)(g12:(op.toList==([71,97,116,104,101,114]:List UInt8))=true):Calls Tryz.prog 55 #[.string op] w (Hx ⟨2,2,[⟨⟨#[97,120,105,115]⟩,2,false⟩],true⟩ w):=by
 obtain⟨h1,hG,h2,hM⟩:=hp;go_enter Tryz.func55,Tryz.ntmps55
 go_wp2_with fail
 refine(AO op _).mono ?_;rintro e w1⟨rfl,B1⟩;have H1:=hid B1;clear B1;rw[h1];go_wp2_with fail
 refine(AW op _).mono ?_;rintro e w2⟨rfl,B2⟩;have H2:=hid (H1.out.trans (B2.mono H1.out.size));clear B2;rw[h2];go_wp2_with fail
 refine(AS ⟨#[97,120,105,115]⟩ 2 _).mono ?_;rintro e w3⟨rfl,B⟩;have H3:=hid (H2.out.trans (B.mono H2.out.size));clear B;go_wp2_with fail
 refine bodyPost_ret (v:=.tuple #[.int .i64 2,.int .i64 2,.slice (some ⟨w3.heap.size,0,none⟩) 1 1,.bool true]) (by simp[results,Tryz.f55,go_sem]) rfl ?_;exact⟨H3.out.alloc H3.out.size _,_,rfl,BM w3 [⟨⟨#[97,120,105,115]⟩,2,false⟩] _ rfl 1 rfl (by simp) (by decide)⟩
theorem YV(op:ByteArray)(w:World)(hp:Ch op)(g0:(op.toList==([87,104,101,114,101]:List UInt8))=false)(g1:(op.toList==([67,108,105,112]:List UInt8))=false)(g2:(op.toList==([67,97,115,116]:List UInt8))=false)(g3:(op.toList==([82,101,100,117,99,101,83,117,109]:List UInt8))=false)(g4:(op.toList==([82,101,100,117,99,101,77,97,120]:List UInt8))=false)(g5:(op.toList==([82,101,100,117,99,101,77,101,97,110]:List UInt8))=false)(g6:(op.toList==([65,114,103,77,97,120]:List UInt8))=false)(g7:(op.toList==([82,101,115,104,97,112,101]:List UInt8))=false)(g8:(op.toList==([69,120,112,97,110,100]:List UInt8))=false)(g9:(op.toList==([84,114,97,110,115,112,111,115,101]:List UInt8))=false)(g10:(op.toList==([67,111,110,99,97,116]:List UInt8))=false)(g11:(op.toList==([83,108,105,99,101]:List UInt8))=false)(g12:(op.toList==([71,97,116,104,101,114]:List UInt8))=false)(g13:(op.toList==([80,97,100]:List UInt8))=true):Calls Tryz.prog 55 #[.string op] w (Hx ⟨1,1,[⟨⟨#[112,97,100,115]⟩,7,true⟩,⟨⟨#[118,97,108,117,101]⟩,1,false⟩],true⟩ w):=by
 obtain⟨h1,hG,h2,hM⟩:=hp;go_enter Tryz.func55,Tryz.ntmps55
 go_wp2_with fail
 refine(AO op _).mono ?_;rintro e w1⟨rfl,B1⟩;have H1:=hid B1;clear B1;rw[h1];go_wp2_with fail
 refine(AW op _).mono ?_;rintro e w2⟨rfl,B2⟩;have H2:=hid (H1.out.trans (B2.mono H1.out.size));clear B2;rw[h2];go_wp2_with fail
 refine(Cf ⟨#[112,97,100,115]⟩ 7 _).mono ?_;rintro e w3⟨rfl,B⟩;have H3:=hid (H2.out.trans (B.mono H2.out.size));clear B;go_wp2_with fail
 refine(AS ⟨#[118,97,108,117,101]⟩ 1 _).mono ?_;rintro e w4⟨rfl,B⟩;have H4:=hid (H3.out.trans (B.mono H3.out.size));clear B;go_wp2_with fail
 refine bodyPost_ret (v:=.tuple #[.int .i64 1,.int .i64 1,.slice (some ⟨w4.heap.size,0,none⟩) 2 2,.bool true]) (by simp[results,Tryz.f55,go_sem]) rfl ?_;exact⟨H4.out.alloc H4.out.size _,_,rfl,BM w4 [⟨⟨#[112,97,100,115]⟩,7,true⟩,⟨⟨#[118,97,108,117,101]⟩,1,false⟩] _ rfl 2 rfl (by simp) (by decide)⟩
theorem YW(op:ByteArray)(w:World)(hp:Ch op)(g0:(op.toList==([87,104,101,114,101]:List UInt8))=false)(g1:(op.toList==([67,108,105,112]:List UInt8))=false)(g2:(op.toList==([67,97,115,116]:List UInt8))=false)(g3:(op.toList==([82,101,100,117,99,101,83,117,109]:List UInt8))=false)(g4:(op.toList==([82,101,100,117,99,101,77,97,120]:List UInt8))=false)(g5:(op.toList==([82,101,100,117,99,101,77,101,97,110]:List UInt8))=false)(g6:(op.toList==([65,114,103,77,97,120]:List UInt8))=false)(g7:(op.toList==([82,101,115,104,97,112,101]:List UInt8))=false)(g8:(op.toList==([69,120,112,97,110,100]:List UInt8))=false)(g9:(op.toList==([84,114,97,110,115,112,111,115,101]:List UInt8))=false)(g10:(op.toList==([67,111,110,99,97,116]:List UInt8))=false)(g11:(op.toList==([83,108,105,99,101]:List UInt8))=false)(g12:(op.toList==([71,97,116,104,101,114]:List UInt8))=false)(g13:(op.toList==([80,97,100]:List UInt8))=false)(g14:(op.toList==([83,113,117,101,101,122,101]:List UInt8))=true):Calls Tryz.prog 55 #[.string op] w (Hx ⟨1,1,[⟨⟨#[97,120,101,115]⟩,7,true⟩],true⟩ w):=by
 obtain⟨h1,hG,h2,hM⟩:=hp;go_enter Tryz.func55,Tryz.ntmps55
 go_wp2_with fail
 refine(AO op _).mono ?_;rintro e w1⟨rfl,B1⟩;have H1:=hid B1;clear B1;rw[h1];go_wp2_with fail
 refine(AW op _).mono ?_;rintro e w2⟨rfl,B2⟩;have H2:=hid (H1.out.trans (B2.mono H1.out.size));clear B2;rw[h2];go_wp2_with fail
 refine(Cf ⟨#[97,120,101,115]⟩ 7 _).mono ?_;rintro e w3⟨rfl,B⟩;have H3:=hid (H2.out.trans (B.mono H2.out.size));clear B;go_wp2_with fail
 refine bodyPost_ret (v:=.tuple #[.int .i64 1,.int .i64 1,.slice (some ⟨w3.heap.size,0,none⟩) 1 1,.bool true]) (by simp[results,Tryz.f55,go_sem]) rfl ?_;exact⟨H3.out.alloc H3.out.size _,_,rfl,BM w3 [⟨⟨#[97,120,101,115]⟩,7,true⟩] _ rfl 1 rfl (by simp) (by decide)⟩
theorem YX(op:ByteArray)(w:World)(hp:Ch op)(g0:(op.toList==([87,104,101,114,101]:List UInt8))=false)(g1:(op.toList==([67,108,105,112]:List UInt8))=false)(g2:(op.toList==([67,97,115,116]:List UInt8))=false)(g3:(op.toList==([82,101,100,117,99,101,83,117,109]:List UInt8))=false)(g4:(op.toList==([82,101,100,117,99,101,77,97,120]:List UInt8))=false)(g5:(op.toList==([82,101,100,117,99,101,77,101,97,110]:List UInt8))=false)(g6:(op.toList==([65,114,103,77,97,120]:List UInt8))=false)(g7:(op.toList==([82,101,115,104,97,112,101]:List UInt8))=false)(g8:(op.toList==([69,120,112,97,110,100]:List UInt8))=false)(g9:(op.toList==([84,114,97,110,115,112,111,115,101]:List UInt8))=false)(g10:(op.toList==([67,111,110,99,97,116]:List UInt8))=false)(g11:(op.toList==([83,108,105,99,101]:List UInt8))=false)(g12:(op.toList==([71,97,116,104,101,114]:List UInt8))=false)(g13:(op.toList==([80,97,100]:List UInt8))=false)(g14:(op.toList==([83,113,117,101,101,122,101]:List UInt8))=false)(g15:(op.toList==([85,110,115,113,117,101,101,122,101]:List UInt8))=true):Calls Tryz.prog 55 #[.string op] w (Hx ⟨1,1,[⟨⟨#[97,120,101,115]⟩,7,true⟩],true⟩ w):=by
 obtain⟨h1,hG,h2,hM⟩:=hp;go_enter Tryz.func55,Tryz.ntmps55
 go_wp2_with fail
 refine(AO op _).mono ?_;rintro e w1⟨rfl,B1⟩;have H1:=hid B1;clear B1;rw[h1];go_wp2_with fail
 refine(AW op _).mono ?_;rintro e w2⟨rfl,B2⟩;have H2:=hid (H1.out.trans (B2.mono H1.out.size));clear B2;rw[h2];go_wp2_with fail
 refine(Cf ⟨#[97,120,101,115]⟩ 7 _).mono ?_;rintro e w3⟨rfl,B⟩;have H3:=hid (H2.out.trans (B.mono H2.out.size));clear B;go_wp2_with fail
 refine bodyPost_ret (v:=.tuple #[.int .i64 1,.int .i64 1,.slice (some ⟨w3.heap.size,0,none⟩) 1 1,.bool true]) (by simp[results,Tryz.f55,go_sem]) rfl ?_;exact⟨H3.out.alloc H3.out.size _,_,rfl,BM w3 [⟨⟨#[97,120,101,115]⟩,7,true⟩] _ rfl 1 rfl (by simp) (by decide)⟩
theorem YY(op:ByteArray)(w:World)(hp:Ch op)(g0:(op.toList==([87,104,101,114,101]:List UInt8))=false)(g1:(op.toList==([67,108,105,112]:List UInt8))=false)(g2:(op.toList==([67,97,115,116]:List UInt8))=false)(g3:(op.toList==([82,101,100,117,99,101,83,117,109]:List UInt8))=false)(g4:(op.toList==([82,101,100,117,99,101,77,97,120]:List UInt8))=false)(g5:(op.toList==([82,101,100,117,99,101,77,101,97,110]:List UInt8))=false)(g6:(op.toList==([65,114,103,77,97,120]:List UInt8))=false)(g7:(op.toList==([82,101,115,104,97,112,101]:List UInt8))=false)(g8:(op.toList==([69,120,112,97,110,100]:List UInt8))=false)(g9:(op.toList==([84,114,97,110,115,112,111,115,101]:List UInt8))=false)(g10:(op.toList==([67,111,110,99,97,116]:List UInt8))=false)(g11:(op.toList==([83,108,105,99,101]:List UInt8))=false)(g12:(op.toList==([71,97,116,104,101,114]:List UInt8))=false)(g13:(op.toList==([80,97,100]:List UInt8))=false)(g14:(op.toList==([83,113,117,101,101,122,101]:List UInt8))=false)(g15:(op.toList==([85,110,115,113,117,101,101,122,101]:List UInt8))=false)(g16:(op.toList==([70,108,97,116,116,101,110]:List UInt8))=true):Calls Tryz.prog 55 #[.string op] w (Hx ⟨1,1,[⟨⟨#[97,120,105,115]⟩,2,false⟩],true⟩ w):=by
 obtain⟨h1,hG,h2,hM⟩:=hp;go_enter Tryz.func55,Tryz.ntmps55
 go_wp2_with fail
 refine(AO op _).mono ?_;rintro e w1⟨rfl,B1⟩;have H1:=hid B1;clear B1;rw[h1];go_wp2_with fail
 refine(AW op _).mono ?_;rintro e w2⟨rfl,B2⟩;have H2:=hid (H1.out.trans (B2.mono H1.out.size));clear B2;rw[h2];go_wp2_with fail
 refine(AS ⟨#[97,120,105,115]⟩ 2 _).mono ?_;rintro e w3⟨rfl,B⟩;have H3:=hid (H2.out.trans (B.mono H2.out.size));clear B;go_wp2_with fail
 refine bodyPost_ret (v:=.tuple #[.int .i64 1,.int .i64 1,.slice (some ⟨w3.heap.size,0,none⟩) 1 1,.bool true]) (by simp[results,Tryz.f55,go_sem]) rfl ?_;exact⟨H3.out.alloc H3.out.size _,_,rfl,BM w3 [⟨⟨#[97,120,105,115]⟩,2,false⟩] _ rfl 1 rfl (by simp) (by decide)⟩
theorem YZ(op:ByteArray)(w:World)(hp:Ch op)(g0:(op.toList==([87,104,101,114,101]:List UInt8))=false)(g1:(op.toList==([67,108,105,112]:List UInt8))=false)(g2:(op.toList==([67,97,115,116]:List UInt8))=false)(g3:(op.toList==([82,101,100,117,99,101,83,117,109]:List UInt8))=false)(g4:(op.toList==([82,101,100,117,99,101,77,97,120]:List UInt8))=false)(g5:(op.toList==([82,101,100,117,99,101,77,101,97,110]:List UInt8))=false)(g6:(op.toList==([65,114,103,77,97,120]:List UInt8))=false)(g7:(op.toList==([82,101,115,104,97,112,101]:List UInt8))=false)(g8:(op.toList==([69,120,112,97,110,100]:List UInt8))=false)(g9:(op.toList==([84,114,97,110,115,112,111,115,101]:List UInt8))=false)(g10:(op.toList==([67,111,110,99,97,116]:List UInt8))=false)(g11:(op.toList==([83,108,105,99,101]:List UInt8))=false)(g12:(op.toList==([71,97,116,104,101,114]:List UInt8))=false)(g13:(op.toList==([80,97,100]:List UInt8))=false)(g14:(op.toList==([83,113,117,101,101,122,101]:List UInt8))=false)(g15:(op.toList==([85,110,115,113,117,101,101,122,101]:List UInt8))=false)(g16:(op.toList==([70,108,97,116,116,101,110]:List UInt8))=false)(g17:(op.toList==([83,111,102,116,109,97,120]:List UInt8))=true):Calls Tryz.prog 55 #[.string op] w (Hx ⟨1,1,[⟨⟨#[97,120,105,115]⟩,2,false⟩],true⟩ w):=by
 obtain⟨h1,hG,h2,hM⟩:=hp;go_enter Tryz.func55,Tryz.ntmps55
 go_wp2_with fail
 refine(AO op _).mono ?_;rintro e w1⟨rfl,B1⟩;have H1:=hid B1;clear B1;rw[h1];go_wp2_with fail
 refine(AW op _).mono ?_;rintro e w2⟨rfl,B2⟩;have H2:=hid (H1.out.trans (B2.mono H1.out.size));clear B2;rw[h2];go_wp2_with fail
 refine(AS ⟨#[97,120,105,115]⟩ 2 _).mono ?_;rintro e w3⟨rfl,B⟩;have H3:=hid (H2.out.trans (B.mono H2.out.size));clear B;go_wp2_with fail
 refine bodyPost_ret (v:=.tuple #[.int .i64 1,.int .i64 1,.slice (some ⟨w3.heap.size,0,none⟩) 1 1,.bool true]) (by simp[results,Tryz.f55,go_sem]) rfl ?_;exact⟨H3.out.alloc H3.out.size _,_,rfl,BM w3 [⟨⟨#[97,120,105,115]⟩,2,false⟩] _ rfl 1 rfl (by simp) (by decide)⟩
theorem Y1(op:ByteArray)(w:World)(hp:Ch op)(g0:(op.toList==([87,104,101,114,101]:List UInt8))=false)(g1:(op.toList==([67,108,105,112]:List UInt8))=false)(g2:(op.toList==([67,97,115,116]:List UInt8))=false)(g3:(op.toList==([82,101,100,117,99,101,83,117,109]:List UInt8))=false)(g4:(op.toList==([82,101,100,117,99,101,77,97,120]:List UInt8))=false)(g5:(op.toList==([82,101,100,117,99,101,77,101,97,110]:List UInt8))=false)(g6:(op.toList==([65,114,103,77,97,120]:List UInt8))=false)(g7:(op.toList==([82,101,115,104,97,112,101]:List UInt8))=false)(g8:(op.toList==([69,120,112,97,110,100]:List UInt8))=false)(g9:(op.toList==([84,114,97,110,115,112,111,115,101]:List UInt8))=false)(g10:(op.toList==([67,111,110,99,97,116]:List UInt8))=false)(g11:(op.toList==([83,108,105,99,101]:List UInt8))=false)(g12:(op.toList==([71,97,116,104,101,114]:List UInt8))=false)(g13:(op.toList==([80,97,100]:List UInt8))=false)(g14:(op.toList==([83,113,117,101,101,122,101]:List UInt8))=false)(g15:(op.toList==([85,110,115,113,117,101,101,122,101]:List UInt8))=false)(g16:(op.toList==([70,108,97,116,116,101,110]:List UInt8))=false)(g17:(op.toList==([83,111,102,116,109,97,120]:List UInt8))=false)(g18:(op.toList==([71,101,109,109]:List UInt8))=true):Calls Tryz.prog 55 #[.string op] w (Hx ⟨2,3,[⟨⟨#[116,114,97,110,115,65]⟩,2,false⟩,⟨⟨#[116,114,97,110,115,66]⟩,2,false⟩,⟨⟨#[97,108,112,104,97]⟩,1,false⟩,⟨⟨#[98,101,116,97]⟩,1,false⟩],true⟩ w):=by
 obtain⟨h1,hG,h2,hM⟩:=hp;go_enter Tryz.func55,Tryz.ntmps55
 go_wp2_with fail
 refine(AO op _).mono ?_;rintro e w1⟨rfl,B1⟩;have H1:=hid B1;clear B1;rw[h1];go_wp2_with fail
 refine(AW op _).mono ?_;rintro e w2⟨rfl,B2⟩;have H2:=hid (H1.out.trans (B2.mono H1.out.size));clear B2;rw[h2];go_wp2_with fail
 refine(AS ⟨#[116,114,97,110,115,65]⟩ 2 _).mono ?_;rintro e w3⟨rfl,B⟩;have H3:=hid (H2.out.trans (B.mono H2.out.size));clear B;go_wp2_with fail
 refine(AS ⟨#[116,114,97,110,115,66]⟩ 2 _).mono ?_;rintro e w4⟨rfl,B⟩;have H4:=hid (H3.out.trans (B.mono H3.out.size));clear B;go_wp2_with fail
 refine(AS ⟨#[97,108,112,104,97]⟩ 1 _).mono ?_;rintro e w5⟨rfl,B⟩;have H5:=hid (H4.out.trans (B.mono H4.out.size));clear B;go_wp2_with fail
 refine(AS ⟨#[98,101,116,97]⟩ 1 _).mono ?_;rintro e w6⟨rfl,B⟩;have H6:=hid (H5.out.trans (B.mono H5.out.size));clear B;go_wp2_with fail
 refine bodyPost_ret (v:=.tuple #[.int .i64 2,.int .i64 3,.slice (some ⟨w6.heap.size,0,none⟩) 4 4,.bool true]) (by simp[results,Tryz.f55,go_sem]) rfl ?_;exact⟨H6.out.alloc H6.out.size _,_,rfl,BM w6 [⟨⟨#[116,114,97,110,115,65]⟩,2,false⟩,⟨⟨#[116,114,97,110,115,66]⟩,2,false⟩,⟨⟨#[97,108,112,104,97]⟩,1,false⟩,⟨⟨#[98,101,116,97]⟩,1,false⟩] _ rfl 4 rfl (by simp) (by decide)⟩
theorem Y2(op:ByteArray)(w:World)(hp:Ch op)(g0:(op.toList==([87,104,101,114,101]:List UInt8))=false)(g1:(op.toList==([67,108,105,112]:List UInt8))=false)(g2:(op.toList==([67,97,115,116]:List UInt8))=false)(g3:(op.toList==([82,101,100,117,99,101,83,117,109]:List UInt8))=false)(g4:(op.toList==([82,101,100,117,99,101,77,97,120]:List UInt8))=false)(g5:(op.toList==([82,101,100,117,99,101,77,101,97,110]:List UInt8))=false)(g6:(op.toList==([65,114,103,77,97,120]:List UInt8))=false)(g7:(op.toList==([82,101,115,104,97,112,101]:List UInt8))=false)(g8:(op.toList==([69,120,112,97,110,100]:List UInt8))=false)(g9:(op.toList==([84,114,97,110,115,112,111,115,101]:List UInt8))=false)(g10:(op.toList==([67,111,110,99,97,116]:List UInt8))=false)(g11:(op.toList==([83,108,105,99,101]:List UInt8))=false)(g12:(op.toList==([71,97,116,104,101,114]:List UInt8))=false)(g13:(op.toList==([80,97,100]:List UInt8))=false)(g14:(op.toList==([83,113,117,101,101,122,101]:List UInt8))=false)(g15:(op.toList==([85,110,115,113,117,101,101,122,101]:List UInt8))=false)(g16:(op.toList==([70,108,97,116,116,101,110]:List UInt8))=false)(g17:(op.toList==([83,111,102,116,109,97,120]:List UInt8))=false)(g18:(op.toList==([71,101,109,109]:List UInt8))=false)(g19:(op.toList==([67,111,110,118]:List UInt8))=true):Calls Tryz.prog 55 #[.string op] w (Hx ⟨2,3,[⟨⟨#[115,116,114,105,100,101,115]⟩,7,false⟩,⟨⟨#[112,97,100,115]⟩,7,false⟩,⟨⟨#[100,105,108,97,116,105,111,110,115]⟩,7,false⟩,⟨⟨#[103,114,111,117,112]⟩,2,false⟩],true⟩ w):=by
 obtain⟨h1,hG,h2,hM⟩:=hp;go_enter Tryz.func55,Tryz.ntmps55
 go_wp2_with fail
 refine(AO op _).mono ?_;rintro e w1⟨rfl,B1⟩;have H1:=hid B1;clear B1;rw[h1];go_wp2_with fail
 refine(AW op _).mono ?_;rintro e w2⟨rfl,B2⟩;have H2:=hid (H1.out.trans (B2.mono H1.out.size));clear B2;rw[h2];go_wp2_with fail
 refine(AS ⟨#[115,116,114,105,100,101,115]⟩ 7 _).mono ?_;rintro e w3⟨rfl,B⟩;have H3:=hid (H2.out.trans (B.mono H2.out.size));clear B;go_wp2_with fail
 refine(AS ⟨#[112,97,100,115]⟩ 7 _).mono ?_;rintro e w4⟨rfl,B⟩;have H4:=hid (H3.out.trans (B.mono H3.out.size));clear B;go_wp2_with fail
 refine(AS ⟨#[100,105,108,97,116,105,111,110,115]⟩ 7 _).mono ?_;rintro e w5⟨rfl,B⟩;have H5:=hid (H4.out.trans (B.mono H4.out.size));clear B;go_wp2_with fail
 refine(AS ⟨#[103,114,111,117,112]⟩ 2 _).mono ?_;rintro e w6⟨rfl,B⟩;have H6:=hid (H5.out.trans (B.mono H5.out.size));clear B;go_wp2_with fail
 refine bodyPost_ret (v:=.tuple #[.int .i64 2,.int .i64 3,.slice (some ⟨w6.heap.size,0,none⟩) 4 4,.bool true]) (by simp[results,Tryz.f55,go_sem]) rfl ?_;exact⟨H6.out.alloc H6.out.size _,_,rfl,BM w6 [⟨⟨#[115,116,114,105,100,101,115]⟩,7,false⟩,⟨⟨#[112,97,100,115]⟩,7,false⟩,⟨⟨#[100,105,108,97,116,105,111,110,115]⟩,7,false⟩,⟨⟨#[103,114,111,117,112]⟩,2,false⟩] _ rfl 4 rfl (by simp) (by decide)⟩
theorem Y3(op:ByteArray)(w:World)(hp:Ch op)(g0:(op.toList==([87,104,101,114,101]:List UInt8))=false)(g1:(op.toList==([67,108,105,112]:List UInt8))=false)(g2:(op.toList==([67,97,115,116]:List UInt8))=false)(g3:(op.toList==([82,101,100,117,99,101,83,117,109]:List UInt8))=false)(g4:(op.toList==([82,101,100,117,99,101,77,97,120]:List UInt8))=false)(g5:(op.toList==([82,101,100,117,99,101,77,101,97,110]:List UInt8))=false)(g6:(op.toList==([65,114,103,77,97,120]:List UInt8))=false)(g7:(op.toList==([82,101,115,104,97,112,101]:List UInt8))=false)(g8:(op.toList==([69,120,112,97,110,100]:List UInt8))=false)(g9:(op.toList==([84,114,97,110,115,112,111,115,101]:List UInt8))=false)(g10:(op.toList==([67,111,110,99,97,116]:List UInt8))=false)(g11:(op.toList==([83,108,105,99,101]:List UInt8))=false)(g12:(op.toList==([71,97,116,104,101,114]:List UInt8))=false)(g13:(op.toList==([80,97,100]:List UInt8))=false)(g14:(op.toList==([83,113,117,101,101,122,101]:List UInt8))=false)(g15:(op.toList==([85,110,115,113,117,101,101,122,101]:List UInt8))=false)(g16:(op.toList==([70,108,97,116,116,101,110]:List UInt8))=false)(g17:(op.toList==([83,111,102,116,109,97,120]:List UInt8))=false)(g18:(op.toList==([71,101,109,109]:List UInt8))=false)(g19:(op.toList==([67,111,110,118]:List UInt8))=false)(g20:(op.toList==([77,97,120,80,111,111,108]:List UInt8))=true):Calls Tryz.prog 55 #[.string op] w (Hx ⟨1,1,[⟨⟨#[107,101,114,110,101,108,95,115,104,97,112,101]⟩,7,true⟩,⟨⟨#[115,116,114,105,100,101,115]⟩,7,false⟩,⟨⟨#[112,97,100,115]⟩,7,false⟩],true⟩ w):=by
 obtain⟨h1,hG,h2,hM⟩:=hp;go_enter Tryz.func55,Tryz.ntmps55
 go_wp2_with fail
 refine(AO op _).mono ?_;rintro e w1⟨rfl,B1⟩;have H1:=hid B1;clear B1;rw[h1];go_wp2_with fail
 refine(AW op _).mono ?_;rintro e w2⟨rfl,B2⟩;have H2:=hid (H1.out.trans (B2.mono H1.out.size));clear B2;rw[h2];go_wp2_with fail
 refine(Cf ⟨#[107,101,114,110,101,108,95,115,104,97,112,101]⟩ 7 _).mono ?_;rintro e w3⟨rfl,B⟩;have H3:=hid (H2.out.trans (B.mono H2.out.size));clear B;go_wp2_with fail
 refine(AS ⟨#[115,116,114,105,100,101,115]⟩ 7 _).mono ?_;rintro e w4⟨rfl,B⟩;have H4:=hid (H3.out.trans (B.mono H3.out.size));clear B;go_wp2_with fail
 refine(AS ⟨#[112,97,100,115]⟩ 7 _).mono ?_;rintro e w5⟨rfl,B⟩;have H5:=hid (H4.out.trans (B.mono H4.out.size));clear B;go_wp2_with fail
 refine bodyPost_ret (v:=.tuple #[.int .i64 1,.int .i64 1,.slice (some ⟨w5.heap.size,0,none⟩) 3 3,.bool true]) (by simp[results,Tryz.f55,go_sem]) rfl ?_;exact⟨H5.out.alloc H5.out.size _,_,rfl,BM w5 [⟨⟨#[107,101,114,110,101,108,95,115,104,97,112,101]⟩,7,true⟩,⟨⟨#[115,116,114,105,100,101,115]⟩,7,false⟩,⟨⟨#[112,97,100,115]⟩,7,false⟩] _ rfl 3 rfl (by simp) (by decide)⟩
theorem Y4(op:ByteArray)(w:World)(hp:Ch op)(g0:(op.toList==([87,104,101,114,101]:List UInt8))=false)(g1:(op.toList==([67,108,105,112]:List UInt8))=false)(g2:(op.toList==([67,97,115,116]:List UInt8))=false)(g3:(op.toList==([82,101,100,117,99,101,83,117,109]:List UInt8))=false)(g4:(op.toList==([82,101,100,117,99,101,77,97,120]:List UInt8))=false)(g5:(op.toList==([82,101,100,117,99,101,77,101,97,110]:List UInt8))=false)(g6:(op.toList==([65,114,103,77,97,120]:List UInt8))=false)(g7:(op.toList==([82,101,115,104,97,112,101]:List UInt8))=false)(g8:(op.toList==([69,120,112,97,110,100]:List UInt8))=false)(g9:(op.toList==([84,114,97,110,115,112,111,115,101]:List UInt8))=false)(g10:(op.toList==([67,111,110,99,97,116]:List UInt8))=false)(g11:(op.toList==([83,108,105,99,101]:List UInt8))=false)(g12:(op.toList==([71,97,116,104,101,114]:List UInt8))=false)(g13:(op.toList==([80,97,100]:List UInt8))=false)(g14:(op.toList==([83,113,117,101,101,122,101]:List UInt8))=false)(g15:(op.toList==([85,110,115,113,117,101,101,122,101]:List UInt8))=false)(g16:(op.toList==([70,108,97,116,116,101,110]:List UInt8))=false)(g17:(op.toList==([83,111,102,116,109,97,120]:List UInt8))=false)(g18:(op.toList==([71,101,109,109]:List UInt8))=false)(g19:(op.toList==([67,111,110,118]:List UInt8))=false)(g20:(op.toList==([77,97,120,80,111,111,108]:List UInt8))=false)(g21:(op.toList==([65,118,101,114,97,103,101,80,111,111,108]:List UInt8))=true):Calls Tryz.prog 55 #[.string op] w (Hx ⟨1,1,[⟨⟨#[107,101,114,110,101,108,95,115,104,97,112,101]⟩,7,true⟩,⟨⟨#[115,116,114,105,100,101,115]⟩,7,false⟩,⟨⟨#[112,97,100,115]⟩,7,false⟩],true⟩ w):=by
 obtain⟨h1,hG,h2,hM⟩:=hp;go_enter Tryz.func55,Tryz.ntmps55
 go_wp2_with fail
 refine(AO op _).mono ?_;rintro e w1⟨rfl,B1⟩;have H1:=hid B1;clear B1;rw[h1];go_wp2_with fail
 refine(AW op _).mono ?_;rintro e w2⟨rfl,B2⟩;have H2:=hid (H1.out.trans (B2.mono H1.out.size));clear B2;rw[h2];go_wp2_with fail
 refine(Cf ⟨#[107,101,114,110,101,108,95,115,104,97,112,101]⟩ 7 _).mono ?_;rintro e w3⟨rfl,B⟩;have H3:=hid (H2.out.trans (B.mono H2.out.size));clear B;go_wp2_with fail
 refine(AS ⟨#[115,116,114,105,100,101,115]⟩ 7 _).mono ?_;rintro e w4⟨rfl,B⟩;have H4:=hid (H3.out.trans (B.mono H3.out.size));clear B;go_wp2_with fail
 refine(AS ⟨#[112,97,100,115]⟩ 7 _).mono ?_;rintro e w5⟨rfl,B⟩;have H5:=hid (H4.out.trans (B.mono H4.out.size));clear B;go_wp2_with fail
 refine bodyPost_ret (v:=.tuple #[.int .i64 1,.int .i64 1,.slice (some ⟨w5.heap.size,0,none⟩) 3 3,.bool true]) (by simp[results,Tryz.f55,go_sem]) rfl ?_;exact⟨H5.out.alloc H5.out.size _,_,rfl,BM w5 [⟨⟨#[107,101,114,110,101,108,95,115,104,97,112,101]⟩,7,true⟩,⟨⟨#[115,116,114,105,100,101,115]⟩,7,false⟩,⟨⟨#[112,97,100,115]⟩,7,false⟩] _ rfl 3 rfl (by simp) (by decide)⟩
theorem Y5(op:ByteArray)(w:World)(hp:Ch op)(g0:(op.toList==([87,104,101,114,101]:List UInt8))=false)(g1:(op.toList==([67,108,105,112]:List UInt8))=false)(g2:(op.toList==([67,97,115,116]:List UInt8))=false)(g3:(op.toList==([82,101,100,117,99,101,83,117,109]:List UInt8))=false)(g4:(op.toList==([82,101,100,117,99,101,77,97,120]:List UInt8))=false)(g5:(op.toList==([82,101,100,117,99,101,77,101,97,110]:List UInt8))=false)(g6:(op.toList==([65,114,103,77,97,120]:List UInt8))=false)(g7:(op.toList==([82,101,115,104,97,112,101]:List UInt8))=false)(g8:(op.toList==([69,120,112,97,110,100]:List UInt8))=false)(g9:(op.toList==([84,114,97,110,115,112,111,115,101]:List UInt8))=false)(g10:(op.toList==([67,111,110,99,97,116]:List UInt8))=false)(g11:(op.toList==([83,108,105,99,101]:List UInt8))=false)(g12:(op.toList==([71,97,116,104,101,114]:List UInt8))=false)(g13:(op.toList==([80,97,100]:List UInt8))=false)(g14:(op.toList==([83,113,117,101,101,122,101]:List UInt8))=false)(g15:(op.toList==([85,110,115,113,117,101,101,122,101]:List UInt8))=false)(g16:(op.toList==([70,108,97,116,116,101,110]:List UInt8))=false)(g17:(op.toList==([83,111,102,116,109,97,120]:List UInt8))=false)(g18:(op.toList==([71,101,109,109]:List UInt8))=false)(g19:(op.toList==([67,111,110,118]:List UInt8))=false)(g20:(op.toList==([77,97,120,80,111,111,108]:List UInt8))=false)(g21:(op.toList==([65,118,101,114,97,103,101,80,111,111,108]:List UInt8))=false)(g22:(op.toList==([66,97,116,99,104,78,111,114,109,97,108,105,122,97,116,105,111,110]:List UInt8))=true):Calls Tryz.prog 55 #[.string op] w (Hx ⟨5,5,[⟨⟨#[101,112,115,105,108,111,110]⟩,1,false⟩],true⟩ w):=by
 obtain⟨h1,hG,h2,hM⟩:=hp;go_enter Tryz.func55,Tryz.ntmps55
 go_wp2_with fail
 refine(AO op _).mono ?_;rintro e w1⟨rfl,B1⟩;have H1:=hid B1;clear B1;rw[h1];go_wp2_with fail
 refine(AW op _).mono ?_;rintro e w2⟨rfl,B2⟩;have H2:=hid (H1.out.trans (B2.mono H1.out.size));clear B2;rw[h2];go_wp2_with fail
 refine(AS ⟨#[101,112,115,105,108,111,110]⟩ 1 _).mono ?_;rintro e w3⟨rfl,B⟩;have H3:=hid (H2.out.trans (B.mono H2.out.size));clear B;go_wp2_with fail
 refine bodyPost_ret (v:=.tuple #[.int .i64 5,.int .i64 5,.slice (some ⟨w3.heap.size,0,none⟩) 1 1,.bool true]) (by simp[results,Tryz.f55,go_sem]) rfl ?_;exact⟨H3.out.alloc H3.out.size _,_,rfl,BM w3 [⟨⟨#[101,112,115,105,108,111,110]⟩,1,false⟩] _ rfl 1 rfl (by simp) (by decide)⟩
theorem Y6(op:ByteArray)(w:World)(hp:Ch op)(g0:(op.toList==([87,104,101,114,101]:List UInt8))=false)(g1:(op.toList==([67,108,105,112]:List UInt8))=false)(g2:(op.toList==([67,97,115,116]:List UInt8))=false)(g3:(op.toList==([82,101,100,117,99,101,83,117,109]:List UInt8))=false)(g4:(op.toList==([82,101,100,117,99,101,77,97,120]:List UInt8))=false)(g5:(op.toList==([82,101,100,117,99,101,77,101,97,110]:List UInt8))=false)(g6:(op.toList==([65,114,103,77,97,120]:List UInt8))=false)(g7:(op.toList==([82,101,115,104,97,112,101]:List UInt8))=false)(g8:(op.toList==([69,120,112,97,110,100]:List UInt8))=false)(g9:(op.toList==([84,114,97,110,115,112,111,115,101]:List UInt8))=false)(g10:(op.toList==([67,111,110,99,97,116]:List UInt8))=false)(g11:(op.toList==([83,108,105,99,101]:List UInt8))=false)(g12:(op.toList==([71,97,116,104,101,114]:List UInt8))=false)(g13:(op.toList==([80,97,100]:List UInt8))=false)(g14:(op.toList==([83,113,117,101,101,122,101]:List UInt8))=false)(g15:(op.toList==([85,110,115,113,117,101,101,122,101]:List UInt8))=false)(g16:(op.toList==([70,108,97,116,116,101,110]:List UInt8))=false)(g17:(op.toList==([83,111,102,116,109,97,120]:List UInt8))=false)(g18:(op.toList==([71,101,109,109]:List UInt8))=false)(g19:(op.toList==([67,111,110,118]:List UInt8))=false)(g20:(op.toList==([77,97,120,80,111,111,108]:List UInt8))=false)(g21:(op.toList==([65,118,101,114,97,103,101,80,111,111,108]:List UInt8))=false)(g22:(op.toList==([66,97,116,99,104,78,111,114,109,97,108,105,122,97,116,105,111,110]:List UInt8))=false)(g23:(op.toList==([67,111,110,115,116,97,110,116]:List UInt8))=true):Calls Tryz.prog 55 #[.string op] w (Hx ⟨0,0,[⟨⟨#[118,97,108,117,101]⟩,4,true⟩],true⟩ w):=by
 obtain⟨h1,hG,h2,hM⟩:=hp;go_enter Tryz.func55,Tryz.ntmps55
 go_wp2_with fail
 refine(AO op _).mono ?_;rintro e w1⟨rfl,B1⟩;have H1:=hid B1;clear B1;rw[h1];go_wp2_with fail
 refine(AW op _).mono ?_;rintro e w2⟨rfl,B2⟩;have H2:=hid (H1.out.trans (B2.mono H1.out.size));clear B2;rw[h2];go_wp2_with fail
 refine(Cf ⟨#[118,97,108,117,101]⟩ 4 _).mono ?_;rintro e w3⟨rfl,B⟩;have H3:=hid (H2.out.trans (B.mono H2.out.size));clear B;go_wp2_with fail
 refine bodyPost_ret (v:=.tuple #[.int .i64 0,.int .i64 0,.slice (some ⟨w3.heap.size,0,none⟩) 1 1,.bool true]) (by simp[results,Tryz.f55,go_sem]) rfl ?_;exact⟨H3.out.alloc H3.out.size _,_,rfl,BM w3 [⟨⟨#[118,97,108,117,101]⟩,4,true⟩] _ rfl 1 rfl (by simp) (by decide)⟩
theorem Y7(op:ByteArray)(w:World)(hp:Ch op)(g0:(op.toList==([87,104,101,114,101]:List UInt8))=false)(g1:(op.toList==([67,108,105,112]:List UInt8))=false)(g2:(op.toList==([67,97,115,116]:List UInt8))=false)(g3:(op.toList==([82,101,100,117,99,101,83,117,109]:List UInt8))=false)(g4:(op.toList==([82,101,100,117,99,101,77,97,120]:List UInt8))=false)(g5:(op.toList==([82,101,100,117,99,101,77,101,97,110]:List UInt8))=false)(g6:(op.toList==([65,114,103,77,97,120]:List UInt8))=false)(g7:(op.toList==([82,101,115,104,97,112,101]:List UInt8))=false)(g8:(op.toList==([69,120,112,97,110,100]:List UInt8))=false)(g9:(op.toList==([84,114,97,110,115,112,111,115,101]:List UInt8))=false)(g10:(op.toList==([67,111,110,99,97,116]:List UInt8))=false)(g11:(op.toList==([83,108,105,99,101]:List UInt8))=false)(g12:(op.toList==([71,97,116,104,101,114]:List UInt8))=false)(g13:(op.toList==([80,97,100]:List UInt8))=false)(g14:(op.toList==([83,113,117,101,101,122,101]:List UInt8))=false)(g15:(op.toList==([85,110,115,113,117,101,101,122,101]:List UInt8))=false)(g16:(op.toList==([70,108,97,116,116,101,110]:List UInt8))=false)(g17:(op.toList==([83,111,102,116,109,97,120]:List UInt8))=false)(g18:(op.toList==([71,101,109,109]:List UInt8))=false)(g19:(op.toList==([67,111,110,118]:List UInt8))=false)(g20:(op.toList==([77,97,120,80,111,111,108]:List UInt8))=false)(g21:(op.toList==([65,118,101,114,97,103,101,80,111,111,108]:List UInt8))=false)(g22:(op.toList==([66,97,116,99,104,78,111,114,109,97,108,105,122,97,116,105,111,110]:List UInt8))=false)(g23:(op.toList==([67,111,110,115,116,97,110,116]:List UInt8))=false):Calls Tryz.prog 55 #[.string op] w (Hx ⟨0,0,[],false⟩ w):=by
 obtain⟨h1,hG,h2,hM⟩:=hp;go_enter Tryz.func55,Tryz.ntmps55
 go_wp2_with fail
 refine(AO op _).mono ?_;rintro e w1⟨rfl,B1⟩;have H1:=hid B1;clear B1;rw[h1];go_wp2_with fail
 refine(AW op _).mono ?_;rintro e w2⟨rfl,B2⟩;have H2:=hid (H1.out.trans (B2.mono H1.out.size));clear B2;rw[h2];go_wp2_with fail
 refine bodyPost_ret (v:=.tuple #[.int .i64 0,.int .i64 0,.slice none 0 0,.bool false]) (by simp[results,Tryz.f55,go_sem]) rfl ?_;exact⟨H2.out,_,rfl,.empty⟩
theorem XI(op:ByteArray)(w:World):Calls Tryz.prog 55 #[.string op] w (Hx (Br op) w):=by
 cases h1:Cq op with
 | true=>
  rw[show Br op=⟨1,1,[],true⟩ by unfold Br;rw[if_pos (Or.inl h1)]];exact XF op w h1
 | false=>
 cases hG:(op.toList==([71,108,111,98,97,108,65,118,101,114,97,103,101,80,111,111,108]:List UInt8))with
 | true=>
  rw[show Br op=⟨1,1,[],true⟩ by unfold Br;rw[if_pos (Or.inr hG)]];exact XG op w h1 hG
 | false=>
 cases h2:Cu EJ op with
 | true=>
  rw[show Br op=⟨2,2,[],true⟩ by unfold Br;rw[if_neg (by simp[h1,hG]),if_pos (Or.inl h2)]];exact XH op w h1 hG h2
 | false=>
 cases hM:(op.toList==([77,97,116,77,117,108]:List UInt8))with
 | true=>
  rw[show Br op=⟨2,2,[],true⟩ by unfold Br;rw[if_neg (by simp[h1,hG]),if_pos (Or.inr hM)]];exact YR op w h1 hG h2 hM
 | false=>
 have hp:Ch op:=⟨h1,hG,h2,hM⟩;rw[hp.of];have l0:EK Ld op=EK Ld op:=rfl;cases g0:(op.toList==([87,104,101,114,101]:List UInt8))with
 | true=>
  rw[l0.trans (A1 g0)];exact aJ op w hp g0
 | false=>
 have l1:=l0.trans (AL g0);cases g1:(op.toList==([67,108,105,112]:List UInt8))with
 | true=>
  rw[l1.trans (A1 g1)];exact aK op w hp g0 g1
 | false=>
 have l2:=l1.trans (AL g1);cases g2:(op.toList==([67,97,115,116]:List UInt8))with
 | true=>
  rw[l2.trans (A1 g2)];exact aL op w hp g0 g1 g2
 | false=>
 have l3:=l2.trans (AL g2);cases g3:(op.toList==([82,101,100,117,99,101,83,117,109]:List UInt8))with
 | true=>
  rw[l3.trans (A1 g3)];exact aM op w hp g0 g1 g2 g3
 | false=>
 have l4:=l3.trans (AL g3);cases g4:(op.toList==([82,101,100,117,99,101,77,97,120]:List UInt8))with
 | true=>
  rw[l4.trans (A1 g4)];exact aN op w hp g0 g1 g2 g3 g4
 | false=>
 have l5:=l4.trans (AL g4);cases g5:(op.toList==([82,101,100,117,99,101,77,101,97,110]:List UInt8))with
 | true=>
  rw[l5.trans (A1 g5)];exact aO op w hp g0 g1 g2 g3 g4 g5
 | false=>
 have l6:=l5.trans (AL g5);cases g6:(op.toList==([65,114,103,77,97,120]:List UInt8))with
 | true=>
  rw[l6.trans (A1 g6)];exact aP op w hp g0 g1 g2 g3 g4 g5 g6
 | false=>
 have l7:=l6.trans (AL g6);cases g7:(op.toList==([82,101,115,104,97,112,101]:List UInt8))with
 | true=>
  rw[l7.trans (A1 g7)];exact aQ op w hp g0 g1 g2 g3 g4 g5 g6 g7
 | false=>
 have l8:=l7.trans (AL g7);cases g8:(op.toList==([69,120,112,97,110,100]:List UInt8))with
 | true=>
  rw[l8.trans (A1 g8)];exact aR op w hp g0 g1 g2 g3 g4 g5 g6 g7 g8
 | false=>
 have l9:=l8.trans (AL g8);cases g9:(op.toList==([84,114,97,110,115,112,111,115,101]:List UInt8))with
 | true=>
  rw[l9.trans (A1 g9)];exact aS op w hp g0 g1 g2 g3 g4 g5 g6 g7 g8 g9
 | false=>
 have l10:=l9.trans (AL g9);cases g10:(op.toList==([67,111,110,99,97,116]:List UInt8))with
 | true=>
  rw[l10.trans (A1 g10)];exact YS op w hp g0 g1 g2 g3 g4 g5 g6 g7 g8 g9 g10
 | false=>
 have l11:=l10.trans (AL g10);cases g11:(op.toList==([83,108,105,99,101]:List UInt8))with
 | true=>
  rw[l11.trans (A1 g11)];exact YT op w hp g0 g1 g2 g3 g4 g5 g6 g7 g8 g9 g10 g11
 | false=>
 have l12:=l11.trans (AL g11);cases g12:(op.toList==([71,97,116,104,101,114]:List UInt8))with
 | true=>
  rw[l12.trans (A1 g12)];exact YU op w hp g0 g1 g2 g3 g4 g5 g6 g7 g8 g9 g10 g11 g12
 | false=>
 have l13:=l12.trans (AL g12);cases g13:(op.toList==([80,97,100]:List UInt8))with
 | true=>
  rw[l13.trans (A1 g13)];exact YV op w hp g0 g1 g2 g3 g4 g5 g6 g7 g8 g9 g10 g11 g12 g13
 | false=>
 have l14:=l13.trans (AL g13);cases g14:(op.toList==([83,113,117,101,101,122,101]:List UInt8))with
 | true=>
  rw[l14.trans (A1 g14)];exact YW op w hp g0 g1 g2 g3 g4 g5 g6 g7 g8 g9 g10 g11 g12 g13 g14
 | false=>
 have l15:=l14.trans (AL g14);cases g15:(op.toList==([85,110,115,113,117,101,101,122,101]:List UInt8))with
 | true=>
  rw[l15.trans (A1 g15)];exact YX op w hp g0 g1 g2 g3 g4 g5 g6 g7 g8 g9 g10 g11 g12 g13 g14 g15
 | false=>
 have l16:=l15.trans (AL g15);cases g16:(op.toList==([70,108,97,116,116,101,110]:List UInt8))with
 | true=>
  rw[l16.trans (A1 g16)];exact YY op w hp g0 g1 g2 g3 g4 g5 g6 g7 g8 g9 g10 g11 g12 g13 g14 g15 g16
 | false=>
 have l17:=l16.trans (AL g16);cases g17:(op.toList==([83,111,102,116,109,97,120]:List UInt8))with
 | true=>
  rw[l17.trans (A1 g17)];exact YZ op w hp g0 g1 g2 g3 g4 g5 g6 g7 g8 g9 g10 g11 g12 g13 g14 g15 g16 g17
 | false=>
 have l18:=l17.trans (AL g17);cases g18:(op.toList==([71,101,109,109]:List UInt8))with
 | true=>
  rw[l18.trans (A1 g18)];exact Y1 op w hp g0 g1 g2 g3 g4 g5 g6 g7 g8 g9 g10 g11 g12 g13 g14 g15 g16 g17 g18
 | false=>
 have l19:=l18.trans (AL g18);cases g19:(op.toList==([67,111,110,118]:List UInt8))with
 | true=>
  rw[l19.trans (A1 g19)];exact Y2 op w hp g0 g1 g2 g3 g4 g5 g6 g7 g8 g9 g10 g11 g12 g13 g14 g15 g16 g17 g18 g19
 | false=>
 have l20:=l19.trans (AL g19);cases g20:(op.toList==([77,97,120,80,111,111,108]:List UInt8))with
 | true=>
  rw[l20.trans (A1 g20)];exact Y3 op w hp g0 g1 g2 g3 g4 g5 g6 g7 g8 g9 g10 g11 g12 g13 g14 g15 g16 g17 g18 g19 g20
 | false=>
 have l21:=l20.trans (AL g20);cases g21:(op.toList==([65,118,101,114,97,103,101,80,111,111,108]:List UInt8))with
 | true=>
  rw[l21.trans (A1 g21)];exact Y4 op w hp g0 g1 g2 g3 g4 g5 g6 g7 g8 g9 g10 g11 g12 g13 g14 g15 g16 g17 g18 g19 g20 g21
 | false=>
 have l22:=l21.trans (AL g21);cases g22:(op.toList==([66,97,116,99,104,78,111,114,109,97,108,105,122,97,116,105,111,110]:List UInt8))with
 | true=>
  rw[l22.trans (A1 g22)];exact Y5 op w hp g0 g1 g2 g3 g4 g5 g6 g7 g8 g9 g10 g11 g12 g13 g14 g15 g16 g17 g18 g19 g20 g21 g22
 | false=>
 have l23:=l22.trans (AL g22);cases g23:(op.toList==([67,111,110,115,116,97,110,116]:List UInt8))with
 | true=>
  rw[l23.trans (A1 g23)];exact Y6 op w hp g0 g1 g2 g3 g4 g5 g6 g7 g8 g9 g10 g11 g12 g13 g14 g15 g16 g17 g18 g19 g20 g21 g22 g23
 | false=>
 have l24:=l23.trans (AL g23);rw[l24.trans (show EK Rh op=none by unfold Rh EK;rfl)];exact Y7 op w hp g0 g1 g2 g3 g4 g5 g6 g7 g8 g9 g10 g11 g12 g13 g14 g15 g16 g17 g18 g19 g20 g21 g22 g23
end
end Go.Proofs.YtkkeehnldcdccaaGreatDoor
