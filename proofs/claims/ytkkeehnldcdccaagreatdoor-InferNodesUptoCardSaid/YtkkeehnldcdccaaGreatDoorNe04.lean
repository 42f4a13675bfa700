import Derived.Deep.RegionHeld3
import Derived.Test.YtkkeehnldcdccaaGreatDoorShelfin
import Derived.Test.YtkkeehnldcdccaaGreatDoorNe02
set_option linter.unusedVariables false
set_option linter.unusedSimpArgs false
set_option maxRecDepth 100000
set_option maxHeartbeats 4000000
namespace Go.Proofs.YtkkeehnldcdccaaGreatDoor
open Go.Lib (hid)
open Go.RowKit
def Lp(nm:ByteArray)(kd:Int):At→Bool:=fun a=>decide (a.name=nm)&&a.kind==kd
def Az(ats:List At)(nm:ByteArray)(kd:Int):Option At:=ats.find? (Lp nm kd)
theorem Ui:∀args w,(callFunc 155 args).run Tryz.prog w=.ok (.enter 155 args) w:=enters_of Tryz.func155 (by kernel_rfl) rfl
theorem NT(nm:ByteArray)(kd:Int)(x y:Addr)(w:World)(h1:w.cell? x=some (.string nm))(h2:w.cell? y=some (.int .i64 kd)):LS 155 #[.pointer (some x),.pointer (some y)] (Lp nm kd) w:=
 fun W a vd vx vi hB _=>P9 nm kd W x y ((hB.cell (Al h1)).trans h1) ((hB.cell (Al h2)).trans h2) a vd vx vi
def Ac(W:World)(b:Nat)(cs:Array Value)(t:TypeId):Prop:=W.heap[b]?=some (.cells cs t (0,0))
theorem Ac.new(W:World)(cs:Array Value)(t:TypeId):Ac (W.alloc (.cells cs t)) W.heap.size cs t:=World.alloc_heap_new W _
theorem Ac.lt{W:World}{b:Nat}{cs:Array Value}{t:TypeId}(h:Ac W b cs t):b<W.heap.size:=(Array.getElem?_eq_some_iff.1 h).1
theorem Ac.below{W W':World}{b:Nat}{cs:Array Value}{t:TypeId}(h:Ac W b cs t){n:Nat}(hb:b<n)(hB:Below n W W'):Ac W' b cs t:=(hB.block b hb).trans h
theorem Ac.below'{W W':World}{b:Nat}{cs:Array Value}{t:TypeId}(h:Ac W b cs t)(hB:Below W.heap.size W W'):Ac W' b cs t:=(hB.block b h.lt).trans h
theorem Ac.cell{W:World}{b:Nat}{cs:Array Value}{t:TypeId}(h:Ac W b cs t)(j:Nat){v:Value}(hv:cs[j]?=some v):W.cell? ⟨b,j,none⟩=some v:=by
 simp[World.cell?,show W.heap[b]?=_ from h,hv]
theorem Ac.frozen{W:World}{b:Nat}{cs:Array Value}{t:TypeId}(h:Ac W b cs t)(j:Nat):W.frozen? ⟨b,j,none⟩=false:=by simp[World.frozen?,show W.heap[b]?=_ from h]
theorem Ac.set{W:World}{b:Nat}{cs:Array Value}{t:TypeId}(h:Ac W b cs t)(j:Nat)(v:Value):Ac (W.setCell ⟨b,j,none⟩ v) b (cs.setIfInBounds j v) t:=by
 obtain⟨hlt,hk⟩:=Array.getElem?_eq_some_iff.1 h;show(W.heap.modify b _)[b]?=_;rw[Array.getElem?_eq_getElem (by rw[Array.size_modify];exact hlt),Array.getElem_modify_self,hk]
 rfl
theorem Ac.nine{W:World}{b:Nat}{x0 x1 x2 x3 x4 x5 x6 x7 x8:Value}{t:TypeId}(h:Ac W b #[x0,x1,x2,x3,x4,x5,x6,x7,x8] t):W.cell? ⟨b,0,none⟩=some x0∧W.cell? ⟨b,1,none⟩=some x1∧W.cell? ⟨b,2,none⟩=some x2∧W.cell? ⟨b,3,none⟩=some x3∧W.cell? ⟨b,4,none⟩=some x4∧W.cell? ⟨b,5,none⟩=some x5∧W.cell? ⟨b,6,none⟩=some x6∧W.cell? ⟨b,7,none⟩=some x7∧W.cell? ⟨b,8,none⟩=some x8:=
 ⟨h.cell 0 rfl,h.cell 1 rfl,h.cell 2 rfl,h.cell 3 rfl,h.cell 4 rfl,h.cell 5 rfl,h.cell 6 rfl,h.cell 7 rfl,h.cell 8 rfl⟩
theorem Ac.thaw9{W:World}{b:Nat}{x0 x1 x2 x3 x4 x5 x6 x7 x8:Value}{t:TypeId}(h:Ac W b #[x0,x1,x2,x3,x4,x5,x6,x7,x8] t):W.frozen? ⟨b,0,none⟩=false∧W.frozen? ⟨b,1,none⟩=false∧W.frozen? ⟨b,2,none⟩=false∧W.frozen? ⟨b,3,none⟩=false∧W.frozen? ⟨b,4,none⟩=false∧W.frozen? ⟨b,5,none⟩=false∧W.frozen? ⟨b,6,none⟩=false∧W.frozen? ⟨b,7,none⟩=false∧W.frozen? ⟨b,8,none⟩=false:=
 ⟨h.frozen 0,h.frozen 1,h.frozen 2,h.frozen 3,h.frozen 4,h.frozen 5,h.frozen 6,h.frozen 7,h.frozen 8⟩
def EZ(W:World)(b:Nat)(v0 v1 v2 v3 v4 v5 v6 v7 v8:Value):World:=
 ((((((((W.setCell ⟨b,0,none⟩ v0).setCell ⟨b,1,none⟩ v1).setCell ⟨b,2,none⟩ v2).setCell ⟨b,3,none⟩ v3).setCell ⟨b,4,none⟩ v4).setCell ⟨b,5,none⟩ v5).setCell ⟨b,6,none⟩ v6).setCell ⟨b,7,none⟩ v7).setCell ⟨b,8,none⟩ v8
theorem Ac.put{W:World}{b:Nat}{x0 x1 x2 x3 x4 x5 x6 x7 x8:Value}{t:TypeId}(h:Ac W b #[x0,x1,x2,x3,x4,x5,x6,x7,x8] t)(v0 v1 v2 v3 v4 v5 v6 v7 v8:Value):Ac (EZ W b v0 v1 v2 v3 v4 v5 v6 v7 v8) b #[v0,v1,v2,v3,v4,v5,v6,v7,v8] t:=by
 have h0:=h.set 0 v0;rw[show #[x0,x1,x2,x3,x4,x5,x6,x7,x8].setIfInBounds 0 v0=#[v0,x1,x2,x3,x4,x5,x6,x7,x8]from rfl]at h0;have h1:=h0.set 1 v1;rw[show #[v0,x1,x2,x3,x4,x5,x6,x7,x8].setIfInBounds 1 v1=#[v0,v1,x2,x3,x4,x5,x6,x7,x8]from rfl]at h1;have h2:=h1.set 2 v2;rw[show #[v0,v1,x2,x3,x4,x5,x6,x7,x8].setIfInBounds 2 v2=#[v0,v1,v2,x3,x4,x5,x6,x7,x8]from rfl]at h2;have h3:=h2.set 3 v3;rw[show #[v0,v1,v2,x3,x4,x5,x6,x7,x8].setIfInBounds 3 v3=#[v0,v1,v2,v3,x4,x5,x6,x7,x8]from rfl]at h3;have h4:=h3.set 4 v4;rw[show #[v0,v1,v2,v3,x4,x5,x6,x7,x8].setIfInBounds 4 v4=#[v0,v1,v2,v3,v4,x5,x6,x7,x8]from rfl]at h4;have h5:=h4.set 5 v5;rw[show #[v0,v1,v2,v3,v4,x5,x6,x7,x8].setIfInBounds 5 v5=#[v0,v1,v2,v3,v4,v5,x6,x7,x8]from rfl]at h5;have h6:=h5.set 6 v6;rw[show #[v0,v1,v2,v3,v4,v5,x6,x7,x8].setIfInBounds 6 v6=#[v0,v1,v2,v3,v4,v5,v6,x7,x8]from rfl]at h6;have h7:=h6.set 7 v7;rw[show #[v0,v1,v2,v3,v4,v5,v6,x7,x8].setIfInBounds 7 v7=#[v0,v1,v2,v3,v4,v5,v6,v7,x8]from rfl]at h7;have h8:=h7.set 8 v8;rw[show #[v0,v1,v2,v3,v4,v5,v6,v7,x8].setIfInBounds 8 v8=#[v0,v1,v2,v3,v4,v5,v6,v7,v8]from rfl]at h8;exact h8
theorem Ck{n:Nat}{A W:World}{b:Nat}{v0 v1 v2 v3 v4 v5 v6 v7 v8:Value}(h:Below n A W)(hb:n≤b):Below n A (EZ W b v0 v1 v2 v3 v4 v5 v6 v7 v8):=
 ((((((((h.setCell (p:=⟨b,0,none⟩) hb _).setCell (p:=⟨b,1,none⟩) hb _).setCell (p:=⟨b,2,none⟩) hb _).setCell (p:=⟨b,3,none⟩) hb _).setCell (p:=⟨b,4,none⟩) hb _).setCell (p:=⟨b,5,none⟩) hb _).setCell (p:=⟨b,6,none⟩) hb _).setCell (p:=⟨b,7,none⟩) hb _).setCell (p:=⟨b,8,none⟩) hb _
theorem Ga{w:World}{v:Value}{n:Nd}(h:Ba w v n)(nm:ByteArray)(kd:Int) :
  Calls Tryz.prog 37 #[v,.string nm,.int .i64 kd] w fun e w'=>Below w.heap.size w w'∧∃va,e=.returned (.tuple #[va,.bool (Az n.attrs nm kd).isSome])∧F7 w' va ((Az n.attrs nm kd).getD At.zero):=by
 obtain⟨vin,vat,rfl,hn⟩:=h;obtain⟨a1,c1,rfl⟩:=hn.is.form;obtain⟨a2,c2,rfl⟩:=hn.ia.form;have HN:=hid hn;clear hn;unfold Nd.val;go_enter Tryz.func37,Tryz.ntmps37
 go_wp2_with fail
 generalize hw1:(w.alloc (Obj.cells #[Value.string n.op,Value.string n.name,Value.slice a1 n.ins.length c1,Value.string n.out,Value.slice a2 n.attrs.length c2] 25)).alloc (Obj.cells #[Value.string ⟨#[]⟩,Value.int .i64 0,Value.int .i64 0,Value.int .i64 0,Value.string ⟨#[]⟩,Value.int .i64 0,Value.slice none 0 0,Value.slice none 0 0,Value.slice none 0 0] 43)=W1;have hB1:Hid (Below w.heap.size w W1):=hid (by rw[←hw1];exact((Below.refl _ w).alloc (Nat.le_refl _) _).alloc (by simp) _);have hX:Hid (Ac W1 w.heap.size #[Value.string n.op,Value.string n.name,Value.slice a1 n.ins.length c1,Value.string n.out,Value.slice a2 n.attrs.length c2] 25):=hid (by rw[←hw1];exact(Ac.new w _ _).below' ((Below.refl _ _).alloc (Nat.le_refl _) _));have hR:Hid (Ac W1 (w.heap.size+1) #[Value.string ⟨#[]⟩,Value.int .i64 0,Value.int .i64 0,Value.int .i64 0,Value.string ⟨#[]⟩,Value.int .i64 0,Value.slice none 0 0,Value.slice none 0 0,Value.slice none 0 0] 43):=hid (by rw[←hw1];simpa using Ac.new (w.alloc (Obj.cells #[Value.string n.op,Value.string n.name,Value.slice a1 n.ins.length c1,Value.string n.out,Value.slice a2 n.attrs.length c2] 25)) #[Value.string ⟨#[]⟩,Value.int .i64 0,Value.int .i64 0,Value.int .i64 0,Value.string ⟨#[]⟩,Value.int .i64 0,Value.slice none 0 0,Value.slice none 0 0,Value.slice none 0 0] 43);have hz:Hid (W1.heap.size=w.heap.size+2):=hid (by rw[←hw1];simp);clear hw1;have k4:W1.cell? ⟨w.heap.size,4,none⟩=some (.slice a2 n.attrs.length c2):=hX.out.cell 4 rfl;go_region_held3 (fun wz=>wz.cell? ⟨w.heap.size,4,none⟩=some (.slice a2 n.attrs.length c2)) (go_keep)
  (first|(go_at_call 94;refine(GY (HN.out.ia.below (hB1.out.trans (BB.out.mono (by have:=hz.out;omega)))) _ _ Ui _ (NT nm kd _ _ _ T1.out T2.out)).mono ?_;rintro e w3⟨rfl,B3⟩;have BC:=hid (BB.out.trans (B3.mono BB.out.size));have k6:w3.cell? ⟨w.heap.size,4,none⟩=some (.slice a2 n.attrs.length c2):=(hX.out.below' BC.out).cell 4 rfl;clear B3)|(go_at_call 95;refine(SF nm kd _).mono ?_;rintro e w2⟨rfl,B2,t1,t2⟩;have BB:Hid (Below W1.heap.size W1 w2):=hid ((Below.refl _ W1).drew.trans B2);have T1:Hid (w2.cell? ⟨W1.heap.size,0,none⟩=some (.string nm)):=hid t1;have T2:Hid (w2.cell? ⟨W1.heap.size+1,0,none⟩=some (.int .i64 kd)):=hid t2;have k5:w2.cell? ⟨w.heap.size,4,none⟩=some (.slice a2 n.attrs.length c2):=(hX.out.below' BB.out).cell 4 rfl;clear B2 t1 t2)|fail)
 have hbl:Hid (Below w.heap.size w w3):=hid (hB1.out.trans (BC.out.mono (by have:=hz.out;omega)));have hR3:=hR.out.below' BC.out;obtain⟨r0,r1,r2,r3,r4,r5,r6,r7,r8⟩:=hR3.nine;obtain⟨f0,f1,f2,f3,f4,f5,f6,f7,f8⟩:=hR3.thaw9;have HR3:=hid hR3;clear hR3;rcases Ix (p:=Lp nm kd) (zs:=n.attrs)with ⟨h1,h2⟩| ⟨k,a,h1,h2,h3,h4⟩
 ·have hf:Hid (Az n.attrs nm kd=none):=hid h1;rw[h2];clear h1 h2;go_wp2
  have hp:=HR3.out.put (.string ⟨#[]⟩) (.int .i64 0) (.int .i64 0) (.int .i64 0) (.string ⟨#[]⟩) (.int .i64 0) (.slice none 0 0) (.slice none 0 0) (.slice none 0 0);have hq:Below w.heap.size w (EZ w3 (w.heap.size+1) (.string ⟨#[]⟩) (.int .i64 0) (.int .i64 0) (.int .i64 0) (.string ⟨#[]⟩) (.int .i64 0) (.slice none 0 0) (.slice none 0 0) (.slice none 0 0)):=Ck hbl.out (by omega);obtain⟨c0,c1,c2,c3,c4,c5,c6,c7,c8⟩:=hp.nine;unfold EZ at c0 c1 c2 c3 c4 c5 c6 c7 c8 hq;refine bodyPost_ret (v:=.tuple #[.agg #[.string ⟨#[]⟩,.int .i64 0,.int .i64 0,.int .i64 0,.string ⟨#[]⟩,.int .i64 0,.slice none 0 0,.slice none 0 0,.slice none 0 0],.bool false]) (by simp[results,Tryz.f37,go_sem,c0,c1,c2,c3,c4,c5,c6,c7,c8]) rfl ?_;rw[hf.out];exact⟨hq,_,rfl,F7.zero _⟩
 ·rw[h3];have hf:Hid (Az n.attrs nm kd=some a):=hid h2;have hki:¬(k:Int)<0:=by omega
  obtain⟨b,off,cap,hv,hb,hrd⟩:=HN.out.ia.rows k a h1;obtain⟨rfl,_,rfl⟩:=Value.slice.inj hv;obtain⟨vd,vx,vi,hc9,hn9⟩:=hrd k a h1;obtain⟨c0,c1,c2,c3,c4,c5,c6,c7,c8⟩:=hc9.below hb hbl.out;obtain⟨ad,cd,rfl⟩:=hn9.id.shape;obtain⟨ax,cx,rfl⟩:=hn9.ix.shape;obtain⟨ai,ci,rfl⟩:=hn9.ii.shape;have HN9:=hid hn9;clear h1 h2 h3 hv hrd hc9 hn9;go_wp2
  have hp:=HR3.out.put (.string a.name) (.int .i64 a.kind) (.int .i64 a.f) (.int .i64 a.i) (.string a.s) (.int .i64 a.typ) (.slice ad a.dims.length cd) (.slice ax a.data.length cx) (.slice ai a.ints.length ci);have hq:Below w.heap.size w (EZ w3 (w.heap.size+1) (.string a.name) (.int .i64 a.kind) (.int .i64 a.f) (.int .i64 a.i) (.string a.s) (.int .i64 a.typ) (.slice ad a.dims.length cd) (.slice ax a.data.length cx) (.slice ai a.ints.length ci)):=Ck hbl.out (by omega);have hn9:Er (EZ w3 (w.heap.size+1) (.string a.name) (.int .i64 a.kind) (.int .i64 a.f) (.int .i64 a.i) (.string a.s) (.int .i64 a.typ) (.slice ad a.dims.length cd) (.slice ax a.data.length cx) (.slice ai a.ints.length ci)) a (.slice ad a.dims.length cd) (.slice ax a.data.length cx) (.slice ai a.ints.length ci):=HN9.out.below hq;clear c0 c1 c2 c3 c4 c5 c6 c7 c8;obtain⟨c0,c1,c2,c3,c4,c5,c6,c7,c8⟩:=hp.nine;unfold EZ at c0 c1 c2 c3 c4 c5 c6 c7 c8 hq hn9;refine bodyPost_ret (v:=.tuple #[.agg #[.string a.name,.int .i64 a.kind,.int .i64 a.f,.int .i64 a.i,.string a.s,.int .i64 a.typ,.slice ad a.dims.length cd,.slice ax a.data.length cx,.slice ai a.ints.length ci],.bool true]) (by simp[results,Tryz.f37,go_sem,c0,c1,c2,c3,c4,c5,c6,c7,c8]) rfl ?_;rw[hf.out];exact⟨hq,_,rfl,_,_,_,rfl,hn9⟩
section
def NU(g:Nat)(lb:Array Value)(p:ByteArray→Bool)(w:World):Prop:=
 ∀(W:World) (a:ByteArray),Below w.heap.size w W→Calls Tryz.prog g (#[.string a]++lb) W fun e w'=>e=.returned (.bool (p a))∧Below W.heap.size W w'
theorem Qa(b off cap:Nat)(ss:List ByteArray)(hlen:ss.length*16≤140737488351232)(w:World)(hb:b<w.heap.size)(hr:Hid (MM w b off ss))(g:Nat)(lb:Array Value)(eg:∀args w,(callFunc g args).run Tryz.prog w=.ok (.enter g args) w)(p:ByteArray→Bool)(hp:Hid (NU g lb p w)) :
  Calls Tryz.prog 84 #[.slice (some ⟨b,off,none⟩) ss.length cap,.func (.func g) #[] lb] w fun e w'=>e=.returned (.int .i64 (CX p ss))∧Below w.heap.size w w':=by
 go_enter Tryz.func84,Tryz.ntmps84
 go_wp2
 go_loopg [5,8] ss.length (fun gg _ s8 wr=>∃k:Nat,k≤ss.length∧ss.length-k≤gg∧s8=.int .i64 (k:Int)∧Hid (Below w.heap.size w wr)∧Hid ((ss.take k).any p=false))
 case atStart=>exact⟨0,Nat.zero_le _,by omega,rfl,hid (Below.refl _ _),hid (by simp)⟩
 case round=>
  obtain⟨k,hk,hg,rfl,hB,hany⟩:=hrel;by_cases hkl:k<ss.length
  ·have hki:(k:Int)<(ss.length:Int):=by omega
   obtain⟨a,ha⟩:∃a,ss[k]?=some a:=⟨_,List.getElem?_eq_getElem hkl⟩;have c0:wr.cell? ⟨b,off+k,none⟩=some (.string a):=(hB.out.cell (p:=⟨b,off+k,none⟩) hb).trans (hr.out k a ha);have hcall:=hid (hp.out _ a hB.out);have HA:=hid ha;clear ha;cases hq:p a with
   | true=>
    have e:=hid (Hz HA.out hany.out hq);rw[hq]at hcall;clear hq;go_wp2_with (go_at_fn g;refine hcall.out.mono ?_;rintro e w'⟨rfl,hB2⟩)
    go_ret
    exact⟨Ab (An e.out.symm),hB.out.trans (hB2.mono hB.out.size)⟩
   | false=>
    have e:=hid (CY HA.out hany.out hq);rw[hq]at hcall;clear hq;go_wp2_with (go_at_fn g;refine hcall.out.mono ?_;rintro e w'⟨rfl,hB2⟩)
    go_roundg (ss.length-(k+1))
    case measure=>omega
    case rel=>exact⟨k+1,by omega,by omega,by go_num,hid (hB.out.trans (hB2.mono hB.out.size)),e⟩
  ·have hki:¬(k:Int)<(ss.length:Int):=by omega
   obtain rfl:k=ss.length:=by omega
   have e:Hid (CX p ss=-1):=hid (El (by have:=hany.out;rwa [List.take_length]at this));go_wp2
   go_ret
   exact⟨Ab (An e.out.symm),hB.out⟩
theorem MS(a0:Option Addr)(cap:Nat)(fn:Value)(p:ByteArray→Bool)(w:World) :
  Calls Tryz.prog 84 #[.slice a0 0 cap,fn] w fun e w'=>e=.returned (.int .i64 (CX p []))∧Below w.heap.size w w':=by
 have e:CX p []=-1:=rfl;rw[e];go_enter Tryz.func84,Tryz.ntmps84
 go_wp2
 go_rounds 1
 go_ret
 exact⟨rfl,Below.refl _ _⟩
theorem J2{w:World}{v:Value}{ss:List ByteArray}(h:Bi w v ss)(g:Nat)(lb:Array Value)(eg:∀args w,(callFunc g args).run Tryz.prog w=.ok (.enter g args) w)(p:ByteArray→Bool)(hp:NU g lb p w) :
  Calls Tryz.prog 84 #[v,.func (.func g) #[] lb] w fun e w'=>e=.returned (.int .i64 (CX p ss))∧Below w.heap.size w w':=by
 cases h with
 | empty a0 cap=>exact MS a0 cap _ p w
 | row b off cap _ h0 hc hb hr hlen=>exact Qa b off cap ss hlen w hb (hid hr) g lb eg p (hid hp)
theorem GQ{w:World}{v:Value}{ss:List ByteArray}(h:Bi w v ss)(g:Nat)(lb:Array Value)(eg:∀args w,(callFunc g args).run Tryz.prog w=.ok (.enter g args) w)(p:ByteArray→Bool)(hp:NU g lb p w) :
  Calls Tryz.prog 92 #[v,.func (.func g) #[] lb] w fun e w'=>e=.returned (.bool (ss.any p))∧Below w.heap.size w w':=by
 have H:=hid (J2 h g lb eg p hp);have hg:=hid (H7 p ss);go_enter Tryz.func92,Tryz.ntmps92
 go_wp2_with (go_at_call 84;refine H.out.mono ?_;rintro e w'⟨rfl,hB⟩)
 go_ret
 refine⟨Ab (Ar ?_),hB⟩;have:=hg.out
 simpa using this
theorem NV:∀args w,(callFunc 93 args).run Tryz.prog w=.ok (.enter 93 args) w:=enters_of Tryz.func93 (by kernel_rfl) rfl
theorem SH(s:ByteArray){w:World}(hG:Eu w):Calls Tryz.prog 93 #[.string s] w fun e w'=>e=.returned (.bool (!Cq s))∧Below w.heap.size w w':=by
 have H:=hid (LT s hG);clear hG;go_enter Tryz.func93,Tryz.ntmps93
 go_wp2_with (go_at_call 81;refine H.out.mono ?_;rintro e w'⟨rfl,rfl⟩)
 go_ret
 exact⟨rfl,Below.refl _ _⟩
theorem J3{w:World}(hG:Eu w):NU 93 #[] (fun s=>!Cq s) w:=fun W s hB=>SH s (hG.below hB)
def Ct(s:ByteArray):List ByteArray:=Lib.splitB ⟨#[44]⟩ 0 (Lib.countB s ⟨#[44]⟩) s
theorem J7(s:ByteArray):(Ct s).length=Lib.countB s ⟨#[44]⟩+1:=Lib.splitB_all ⟨#[44]⟩ (by decide) 0 _ s rfl
theorem SI(s:ByteArray):(Ct s).length≤s.size+1:=by
 rw[J7];have:=Lib.countB_le ⟨#[44]⟩ (by decide) s.size s (Nat.le_refl _);omega
theorem LV(s:ByteArray){w:World}(hG:Eu w)(hs:s.size≤1048600) :
  Calls Tryz.prog 83 #[.string s,.string ⟨#[44]⟩] w fun e w'=>Below w.heap.size w w'∧∃v,e=.returned v∧Bi w' v (Ct s):=by
 obtain⟨m,hm⟩:=hG.max;refine(Tryz.strings_Split s ⟨#[44]⟩ m w (by omega) hm (by decide)).mono ?_;rintro e w'⟨rfl,rfl⟩;have hl:=J7 s;have hl2:=SI s;refine⟨(Below.refl _ w).alloc (Nat.le_refl _) _,_,rfl,?_⟩;have hn:=World.alloc_heap_new w (Obj.cells ((Ct s).map Value.string).toArray 9);have:=Bi.row (w:=w.alloc (Obj.cells ((Ct s).map Value.string).toArray 9)) w.heap.size 0 (Lib.countB s ⟨#[44]⟩+1) (Ct s) (by intro h;rw[h]at hl;simp at hl) (by omega) (by simp) (fun j t hj=>by
  rw[World.cell?,hn];simp[hj]) (by omega)
 rw[hl]at this
 exact_mod_cast this
def AU(ats:List At):List ByteArray×Int:=
 match Az ats ⟨#[116,104,101,110]⟩ 3 with
 | none=>([],0)
 | some a=>if(Ct a.s).any (fun s=>!Cq s)then([],4)else(Ct a.s,0)
theorem Ka{ats:List At}(h:Az ats ⟨#[116,104,101,110]⟩ 3=none):AU ats=([],0):=by unfold AU;rw[h]
theorem LW{ats:List At}{a:At}(h:Az ats ⟨#[116,104,101,110]⟩ 3=some a)(g:(Ct a.s).any (fun s=>!Cq s)=true):AU ats=([],4):=by
 unfold AU;rw[h];simp only[];rw[if_pos g]
theorem Kb{ats:List At}{a:At}(h:Az ats ⟨#[116,104,101,110]⟩ 3=some a)(g:(Ct a.s).any (fun s=>!Cq s)=false):AU ats=(Ct a.s,0):=by
 unfold AU;rw[h];simp only[];rw[if_neg (by rw[g];decide)]
attribute [local irreducible] AU Ct Az Cq
theorem NW{w:World}{v:Value}{n:Nd}(h:Ba w v n)(hG:Eu w) :
  Calls Tryz.prog 36 #[v] w fun e w'=>Below w.heap.size w w'∧∃v',e=.returned (.tuple #[v',.int .i64 (AU n.attrs).2])∧Bi w' v' (AU n.attrs).1:=by
 obtain⟨vin,vat,rfl,hn⟩:=h;obtain⟨a1,c1,rfl⟩:=hn.is.form;obtain⟨a2,c2,rfl⟩:=hn.ia.form;have hb0:Below w.heap.size w (w.alloc (Obj.cells #[Value.string n.op,Value.string n.name,Value.slice a1 n.ins.length c1,Value.string n.out,Value.slice a2 n.attrs.length c2] 25)):=(Below.refl _ w).alloc (Nat.le_refl _) _;have HF:=hid (Ga ⟨_,_,rfl,hn.below hb0⟩ ⟨#[116,104,101,110]⟩ 3);have HB0:=hid hb0;have HG:=hid hG;clear hn hG hb0;unfold Nd.val at HF⊢;go_enter Tryz.func36,Tryz.ntmps36
 go_wp2_with fail
 refine HF.out.mono ?_;rintro e w1⟨B1,va,rfl,vd,vx,vi,rfl,hna⟩;have HB1:=hid (HB0.out.trans (B1.mono HB0.out.size));obtain⟨ad,cd,rfl⟩:=hna.id.shape;obtain⟨ax,cx,rfl⟩:=hna.ix.shape;obtain⟨ai,ci,rfl⟩:=hna.ii.shape;have hzs:=hna.zs;unfold At.val;clear B1 hna HF;cases hf:Az n.attrs ⟨#[116,104,101,110]⟩ 3 with
 | none=>
  have HT:=hid (Ka hf);clear hf;simp only[Option.isSome_none,Option.getD_none];go_wp2_with fail
  go_ret2
  rw[HT.out];exact⟨HB1.out.alloc HB1.out.size _,_,rfl,.empty _ _⟩
 | some a=>
  rw[hf]at hzs;simp only[Option.isSome_some,Option.getD_some]at hzs⊢;have HFA:=hid hf;clear hf;have HG1:=hid ((HG.out.below HB1.out).below ((Below.refl _ w1).alloc (Nat.le_refl _) (Obj.cells #[.string a.name,.int .i64 a.kind,.int .i64 a.f,.int .i64 a.i,.string a.s,.int .i64 a.typ,.slice ad a.dims.length cd,.slice ax a.data.length cx,.slice ai a.ints.length ci] 43)));have HB2:=hid (HB1.out.alloc HB1.out.size (Obj.cells #[.string a.name,.int .i64 a.kind,.int .i64 a.f,.int .i64 a.i,.string a.s,.int .i64 a.typ,.slice ad a.dims.length cd,.slice ax a.data.length cx,.slice ai a.ints.length ci] 43));go_wp2_with fail
  refine(LV a.s HG1.out (by omega)).mono ?_;rintro e w2⟨B2,v2,rfl,hs2⟩;have HB3:=hid (HB2.out.trans (B2.mono HB2.out.size));have HG2:=hid (HG1.out.below B2);have HS2:=hid hs2;obtain⟨a3,c3,rfl⟩:=hs2.form;clear B2 hs2;cases hb:(Ct a.s).any (fun s=>!Cq s)
  ·have HT:=hid (Kb HFA.out hb);have HC:=GQ HS2.out _ _ NV _ (J3 HG2.out);rw[hb]at HC;have HC:=hid HC;clear hb;go_wp2_with fail
   refine HC.out.mono ?_;rintro e w3⟨rfl,B3⟩;have HS3:=hid (HS2.out.below B3);have HB4:=hid (HB3.out.trans (B3.mono HB3.out.size));clear B3;go_wp2_with fail
   go_ret2
   rw[HT.out];exact⟨HB4.out,_,rfl,HS3.out⟩
  ·have HT:=hid (LW HFA.out hb);have HC:=GQ HS2.out _ _ NV _ (J3 HG2.out);rw[hb]at HC;have HC:=hid HC;clear hb;go_wp2_with fail
   refine HC.out.mono ?_;rintro e w3⟨rfl,B3⟩;have HB4:=hid (HB3.out.trans (B3.mono HB3.out.size));clear B3;go_wp2_with fail
   go_ret2
   rw[HT.out];exact⟨HB4.out,_,rfl,.empty _ _⟩
end
def Cc(c:Int):Int:=if c=105 then 2 else if c=115 then 7 else if c=102 then 1 else if c=116 then 4 else 3
theorem Uj(c:Int)(w:World):Calls Tryz.prog 87 #[.int .u8 c] w fun e w'=>e=.returned (.int .i64 (Cc c))∧w=w':=by
 go_enter Tryz.func87,Tryz.ntmps87
 go_wp2
 all_goals (go_ret;refine⟨Ab (An ?_),rfl⟩)
 all_goals (unfold Cc;simp_all)
def Fp(nm:ByteArray)(s:ByteArray):Bool:=Lib.hasPrefix s.data.toList (nm.data.toList++[32])
theorem SJ:∀args w,(callFunc 85 args).run Tryz.prog w=.ok (.enter 85 args) w:=enters_of Tryz.func85 (by kernel_rfl) rfl
theorem SK:∀args w,(callFunc 89 args).run Tryz.prog w=.ok (.enter 89 args) w:=enters_of Tryz.func89 (by kernel_rfl) rfl
theorem Qb(s nm:ByteArray)(hn:nm.size≤1048576)(w:World)(b:Nat)(h1:w.cell? ⟨b,0,none⟩=some (.string nm)) :
  Calls Tryz.prog 85 #[.string s,.pointer (some ⟨b,0,none⟩)] w fun e w'=>e=.returned (.bool (Fp nm s))∧Below w.heap.size w w':=by
 have H:=hid (fun p=>Tryz.strings_HasPrefix s p w);go_enter Tryz.func85,Tryz.ntmps85
 go_wp2_with (go_at_call 86;refine(H.out _).mono ?_;rintro e w'⟨rfl,rfl⟩)
 go_ret
 exact⟨Ab (Ar rfl),Below.refl _ _⟩
theorem Qc(nm:ByteArray)(w:World)(b:Nat)(h1:w.cell? ⟨b,0,none⟩=some (.string nm))(a:At)(vd vx vi:Value) :
  Calls Tryz.prog 89 #[a.val vd vx vi,.pointer (some ⟨b,0,none⟩)] w fun e w'=>e=.returned (.bool (decide (a.name=nm)))∧Below w.heap.size w w':=by
 unfold At.val;have h3:=Aj h1 (.cells #[Value.string a.name,Value.int IntKind.i64 a.kind,Value.int IntKind.i64 a.f,Value.int IntKind.i64 a.i,Value.string a.s,Value.int IntKind.i64 a.typ,vd,vx,vi] 43);go_enter Tryz.func89,Tryz.ntmps89
 go_wp2_with fail
 go_ret
 refine⟨Ab (Ar ?_),(Below.refl _ _).alloc (Nat.le_refl _) _⟩;cases h:(a.name.toList==nm.toList)
 ·have:a.name≠nm:=fun e=>by rw[e]at h;simp at h
  simp[this]
 ·have:a.name=nm:=AP (by simpa using h);simp[this]
theorem NY(nm:ByteArray)(hn:nm.size≤1048576)(w:World)(b:Nat)(h1:w.cell? ⟨b,0,none⟩=some (.string nm)):NU 85 #[.pointer (some ⟨b,0,none⟩)] (Fp nm) w:=
 fun W s hB=>Qb s nm hn W b ((hB.cell (p:=⟨b,0,none⟩) (Al h1)).trans h1)
theorem NZ(nm:ByteArray)(w:World)(b:Nat)(h1:w.cell? ⟨b,0,none⟩=some (.string nm)):LS 89 #[.pointer (some ⟨b,0,none⟩)] (fun a=>decide (a.name=nm)) w:=
 fun W a vd vx vi hB _=>Qc nm W b ((hB.cell (p:=⟨b,0,none⟩) (Al h1)).trans h1) a vd vx vi
def ZI(x:Int):Bool:=decide (x/4294967296=0)&&(!(decide (bits .and .i64 x 2139095040=2139095040)&& !decide (bits .and .i64 x 8388607=0))||decide (x=2143289344))
def Cz(t x:Int):Bool:=
 if t=1 then ZI x else if t=6 then decide (-2147483648≤x∧x≤2147483647)else if t=9 then decide (x=0∨x=1)else decide (t=7)
theorem Gx(t x:Int)(h0:-9223372036854775808≤x)(h1:x≤9223372036854775807)(w:World) :
  Calls Tryz.prog 17 #[.int .i64 t,.int .i64 x] w fun e w'=>e=.returned (.bool (Cz t x))∧w=w':=by
 have HR:Hid (ZI x=(decide (x/4294967296=0)&&(!(decide (bits .and .i64 x 2139095040=2139095040)&& !decide (bits .and .i64 x 8388607=0))||decide (x=2143289344)))):=hid rfl;go_enter Tryz.func17,Tryz.ntmps17
 go_wp2
 all_goals (go_ret;go_light;refine⟨Ab (Ar ?_),rfl⟩)
 all_goals (have hr:=HR.out;clear HR;grind [Cz,wrap64,wrap32])
end Go.Proofs.YtkkeehnldcdccaaGreatDoor
