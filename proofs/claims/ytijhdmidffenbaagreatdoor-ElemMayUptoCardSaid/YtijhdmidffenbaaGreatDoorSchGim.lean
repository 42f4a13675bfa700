import Derived.Test.YtijhdmidffenbaaGreatDoorSchFim
import Derived.Deep.RegionHeld3
open Go.Lib (hid)
set_option linter.unusedVariables false
set_option linter.unusedSimpArgs false
namespace Go.Proofs.YtijhdmidffenbaaGreatDoor
open Go.RowKit
def isA (nm:ByteArray) (kd:Int):At→Bool:=fun a=>decide (a.name=nm)&&a.kind==kd
def findA (ats:List At) (nm:ByteArray) (kd:Int):Option At:=ats.find? (isA nm kd)
theorem eg_named:∀ args w,(callFunc 147 args).run Tryz.prog w=.ok (.enter 147 args) w:=enters_of Tryz.func147 (by kernel_rfl) rfl
theorem testA_named (nm:ByteArray) (kd:Int) (x y:Addr) (w:World) (h1:w.cell? x=some (.string nm)) (h2:w.cell? y=some (.int .i64 kd)):TestA 147 #[.pointer (some x),.pointer (some y)] (isA nm kd) w :=
 fun W a vd vx vi hB _=>named1_any nm kd W x y ((hB.cell (cell_in h1)).trans h1) ((hB.cell (cell_in h2)).trans h2) a vd vx vi
def BoxN (W:World) (b:Nat) (cs:Array Value) (t:TypeId):Prop:=W.heap[b]?=some (.cells cs t (0,0))
theorem BoxN.new (W:World) (cs:Array Value) (t:TypeId):BoxN (W.alloc (.cells cs t)) W.heap.size cs t:=World.alloc_heap_new W _
theorem BoxN.lt {W:World} {b:Nat} {cs:Array Value} {t:TypeId} (h:BoxN W b cs t):b < W.heap.size:=(Array.getElem?_eq_some_iff.1 h).1
theorem BoxN.below {W W':World} {b:Nat} {cs:Array Value} {t:TypeId} (h:BoxN W b cs t) {n:Nat} (hb:b < n) (hB:Below n W W'):BoxN W' b cs t:=(hB.block b hb).trans h
theorem BoxN.below' {W W':World} {b:Nat} {cs:Array Value} {t:TypeId} (h:BoxN W b cs t) (hB:Below W.heap.size W W'):BoxN W' b cs t:=(hB.block b h.lt).trans h
theorem BoxN.cell {W:World} {b:Nat} {cs:Array Value} {t:TypeId} (h:BoxN W b cs t) (j:Nat) {v:Value} (hv:cs[j]?=some v):W.cell? ⟨b,j,none⟩=some v:=by
 simp [World.cell?,show W.heap[b]?=_ from h,hv]
theorem BoxN.frozen {W:World} {b:Nat} {cs:Array Value} {t:TypeId} (h:BoxN W b cs t) (j:Nat):W.frozen? ⟨b,j,none⟩=false:=by simp [World.frozen?,show W.heap[b]?=_ from h]
theorem BoxN.set {W:World} {b:Nat} {cs:Array Value} {t:TypeId} (h:BoxN W b cs t) (j:Nat) (v:Value):BoxN (W.setCell ⟨b,j,none⟩ v) b (cs.setIfInBounds j v) t:=by
 obtain ⟨hlt,hk⟩:=Array.getElem?_eq_some_iff.1 h
 show (W.heap.modify b _)[b]?=_
 rw [Array.getElem?_eq_getElem (by rw [Array.size_modify];exact hlt),Array.getElem_modify_self,hk]
 rfl
theorem BoxN.nine {W:World} {b:Nat} {x0 x1 x2 x3 x4 x5 x6 x7 x8:Value} {t:TypeId} (h:BoxN W b #[x0,x1,x2,x3,x4,x5,x6,x7,x8] t):W.cell? ⟨b,0,none⟩=some x0∧W.cell? ⟨b,1,none⟩=some x1∧W.cell? ⟨b,2,none⟩=some x2∧W.cell? ⟨b,3,none⟩=some x3∧W.cell? ⟨b,4,none⟩=some x4∧W.cell? ⟨b,5,none⟩=some x5∧W.cell? ⟨b,6,none⟩=some x6∧W.cell? ⟨b,7,none⟩=some x7∧W.cell? ⟨b,8,none⟩=some x8 :=
 ⟨h.cell 0 rfl,h.cell 1 rfl,h.cell 2 rfl,h.cell 3 rfl,h.cell 4 rfl,h.cell 5 rfl,h.cell 6 rfl,h.cell 7 rfl,h.cell 8 rfl⟩
theorem BoxN.thaw9 {W:World} {b:Nat} {x0 x1 x2 x3 x4 x5 x6 x7 x8:Value} {t:TypeId} (h:BoxN W b #[x0,x1,x2,x3,x4,x5,x6,x7,x8] t):W.frozen? ⟨b,0,none⟩=false∧W.frozen? ⟨b,1,none⟩=false∧W.frozen? ⟨b,2,none⟩=false∧W.frozen? ⟨b,3,none⟩=false∧W.frozen? ⟨b,4,none⟩=false∧W.frozen? ⟨b,5,none⟩=false∧W.frozen? ⟨b,6,none⟩=false∧W.frozen? ⟨b,7,none⟩=false∧W.frozen? ⟨b,8,none⟩=false :=
 ⟨h.frozen 0,h.frozen 1,h.frozen 2,h.frozen 3,h.frozen 4,h.frozen 5,h.frozen 6,h.frozen 7,h.frozen 8⟩
def put9 (W:World) (b:Nat) (v0 v1 v2 v3 v4 v5 v6 v7 v8:Value):World :=
 ((((((((W.setCell ⟨b,0,none⟩ v0).setCell ⟨b,1,none⟩ v1).setCell ⟨b,2,none⟩ v2).setCell ⟨b,3,none⟩ v3).setCell ⟨b,4,none⟩ v4).setCell ⟨b,5,none⟩ v5).setCell ⟨b,6,none⟩ v6).setCell ⟨b,7,none⟩ v7).setCell ⟨b,8,none⟩ v8
theorem BoxN.put {W:World} {b:Nat} {x0 x1 x2 x3 x4 x5 x6 x7 x8:Value} {t:TypeId} (h:BoxN W b #[x0,x1,x2,x3,x4,x5,x6,x7,x8] t) (v0 v1 v2 v3 v4 v5 v6 v7 v8:Value):BoxN (put9 W b v0 v1 v2 v3 v4 v5 v6 v7 v8) b #[v0,v1,v2,v3,v4,v5,v6,v7,v8] t:=by
 have h0:=h.set 0 v0
 rw [show #[x0,x1,x2,x3,x4,x5,x6,x7,x8].setIfInBounds 0 v0=#[v0,x1,x2,x3,x4,x5,x6,x7,x8] from rfl] at h0
 have h1:=h0.set 1 v1
 rw [show #[v0,x1,x2,x3,x4,x5,x6,x7,x8].setIfInBounds 1 v1=#[v0,v1,x2,x3,x4,x5,x6,x7,x8] from rfl] at h1
 have h2:=h1.set 2 v2
 rw [show #[v0,v1,x2,x3,x4,x5,x6,x7,x8].setIfInBounds 2 v2=#[v0,v1,v2,x3,x4,x5,x6,x7,x8] from rfl] at h2
 have h3:=h2.set 3 v3
 rw [show #[v0,v1,v2,x3,x4,x5,x6,x7,x8].setIfInBounds 3 v3=#[v0,v1,v2,v3,x4,x5,x6,x7,x8] from rfl] at h3
 have h4:=h3.set 4 v4
 rw [show #[v0,v1,v2,v3,x4,x5,x6,x7,x8].setIfInBounds 4 v4=#[v0,v1,v2,v3,v4,x5,x6,x7,x8] from rfl] at h4
 have h5:=h4.set 5 v5
 rw [show #[v0,v1,v2,v3,v4,x5,x6,x7,x8].setIfInBounds 5 v5=#[v0,v1,v2,v3,v4,v5,x6,x7,x8] from rfl] at h5
 have h6:=h5.set 6 v6
 rw [show #[v0,v1,v2,v3,v4,v5,x6,x7,x8].setIfInBounds 6 v6=#[v0,v1,v2,v3,v4,v5,v6,x7,x8] from rfl] at h6
 have h7:=h6.set 7 v7
 rw [show #[v0,v1,v2,v3,v4,v5,v6,x7,x8].setIfInBounds 7 v7=#[v0,v1,v2,v3,v4,v5,v6,v7,x8] from rfl] at h7
 have h8:=h7.set 8 v8
 rw [show #[v0,v1,v2,v3,v4,v5,v6,v7,x8].setIfInBounds 8 v8=#[v0,v1,v2,v3,v4,v5,v6,v7,v8] from rfl] at h8
 exact h8
theorem below_put9 {n:Nat} {A W:World} {b:Nat} {v0 v1 v2 v3 v4 v5 v6 v7 v8:Value} (h:Below n A W) (hb:n≤b):Below n A (put9 W b v0 v1 v2 v3 v4 v5 v6 v7 v8) :=
 ((((((((h.setCell (p:=⟨b,0,none⟩) hb _).setCell (p:=⟨b,1,none⟩) hb _).setCell (p:=⟨b,2,none⟩) hb _).setCell (p:=⟨b,3,none⟩) hb _).setCell (p:=⟨b,4,none⟩) hb _).setCell (p:=⟨b,5,none⟩) hb _).setCell (p:=⟨b,6,none⟩) hb _).setCell (p:=⟨b,7,none⟩) hb _).setCell (p:=⟨b,8,none⟩) hb _
set_option maxRecDepth 100000 in
set_option maxHeartbeats 2000000 in
theorem find_any {w:World} {v:Value} {n:Nd} (h:NodeV w v n) (nm:ByteArray) (kd:Int) :
  Calls Tryz.prog 58 #[v,.string nm,.int .i64 kd] w fun e w'=>Below w.heap.size w w'∧∃ va,e=.returned (.tuple #[va,.bool (findA n.attrs nm kd).isSome])∧AttrV w' va ((findA n.attrs nm kd).getD At.zero):=by
 obtain ⟨vin,vat,rfl,hn⟩:=h
 obtain ⟨a1,c1,rfl⟩:=hn.is.form
 obtain ⟨a2,c2,rfl⟩:=hn.ia.form
 have HN:=hid hn
 clear hn
 unfold Nd.val
 go_enter Tryz.func58,Tryz.ntmps58
 go_wp2_with fail
 generalize hw1:(w.alloc (Obj.cells #[Value.string n.op,Value.string n.name,Value.slice a1 n.ins.length c1,Value.string n.out,Value.slice a2 n.attrs.length c2] 25)).alloc (Obj.cells #[Value.string ⟨#[]⟩,Value.int .i64 0,Value.int .i64 0,Value.int .i64 0,Value.string ⟨#[]⟩,Value.int .i64 0,Value.slice none 0 0,Value.slice none 0 0,Value.slice none 0 0] 69)=W1
 have hB1:Hid (Below w.heap.size w W1):=hid (by rw [←hw1];exact ((Below.refl _ w).alloc (Nat.le_refl _) _).alloc (by simp) _)
 have hX:Hid (BoxN W1 w.heap.size #[Value.string n.op,Value.string n.name,Value.slice a1 n.ins.length c1,Value.string n.out,Value.slice a2 n.attrs.length c2] 25):=hid (by rw [←hw1];exact (BoxN.new w _ _).below' ((Below.refl _ _).alloc (Nat.le_refl _) _))
 have hR:Hid (BoxN W1 (w.heap.size+1) #[Value.string ⟨#[]⟩,Value.int .i64 0,Value.int .i64 0,Value.int .i64 0,Value.string ⟨#[]⟩,Value.int .i64 0,Value.slice none 0 0,Value.slice none 0 0,Value.slice none 0 0] 69):=hid (by rw [←hw1];simpa using BoxN.new (w.alloc (Obj.cells #[Value.string n.op,Value.string n.name,Value.slice a1 n.ins.length c1,Value.string n.out,Value.slice a2 n.attrs.length c2] 25)) #[Value.string ⟨#[]⟩,Value.int .i64 0,Value.int .i64 0,Value.int .i64 0,Value.string ⟨#[]⟩,Value.int .i64 0,Value.slice none 0 0,Value.slice none 0 0,Value.slice none 0 0] 69)
 have hz:Hid (W1.heap.size=w.heap.size+2):=hid (by rw [←hw1];simp)
 clear hw1
 have k4:W1.cell? ⟨w.heap.size,4,none⟩=some (.slice a2 n.attrs.length c2):=hX.out.cell 4 rfl
 go_region_held3 (fun wz=>wz.cell? ⟨w.heap.size,4,none⟩=some (.slice a2 n.attrs.length c2)) (go_keep)
  (first | (go_at_call 106;refine (indexA_any (HN.out.ia.below (hB1.out.trans (BB.out.mono (by have:=hz.out;omega)))) _ _ eg_named _ (testA_named nm kd _ _ _ T1.out T2.out)).mono ?_;rintro e w3 ⟨rfl,B3⟩;have BC:=hid (BB.out.trans (B3.mono BB.out.size));have k6:w3.cell? ⟨w.heap.size,4,none⟩=some (.slice a2 n.attrs.length c2):=(hX.out.below' BC.out).cell 4 rfl;clear B3) | (go_at_call 107;refine (named_any nm kd _).mono ?_;rintro e w2 ⟨rfl,B2,t1,t2⟩;have BB:Hid (Below W1.heap.size W1 w2):=hid ((Below.refl _ W1).drew.trans B2);have T1:Hid (w2.cell? ⟨W1.heap.size,0,none⟩=some (.string nm)):=hid t1;have T2:Hid (w2.cell? ⟨W1.heap.size+1,0,none⟩=some (.int .i64 kd)):=hid t2;have k5:w2.cell? ⟨w.heap.size,4,none⟩=some (.slice a2 n.attrs.length c2):=(hX.out.below' BB.out).cell 4 rfl;clear B2 t1 t2) | fail)
 have hbl:Hid (Below w.heap.size w w3):=hid (hB1.out.trans (BC.out.mono (by have:=hz.out;omega)))
 have hR3:=hR.out.below' BC.out
 obtain ⟨r0,r1,r2,r3,r4,r5,r6,r7,r8⟩:=hR3.nine
 obtain ⟨f0,f1,f2,f3,f4,f5,f6,f7,f8⟩:=hR3.thaw9
 have HR3:=hid hR3
 clear hR3
 rcases gidx_find (p:=isA nm kd) (zs:=n.attrs) with ⟨h1,h2⟩ | ⟨k,a,h1,h2,h3,h4⟩
 ·have hf:Hid (findA n.attrs nm kd=none):=hid h1
  rw [h2]
  clear h1 h2
  go_wp2
  have hp:=HR3.out.put (.string ⟨#[]⟩) (.int .i64 0) (.int .i64 0) (.int .i64 0) (.string ⟨#[]⟩) (.int .i64 0) (.slice none 0 0) (.slice none 0 0) (.slice none 0 0)
  have hq:Below w.heap.size w (put9 w3 (w.heap.size+1) (.string ⟨#[]⟩) (.int .i64 0) (.int .i64 0) (.int .i64 0) (.string ⟨#[]⟩) (.int .i64 0) (.slice none 0 0) (.slice none 0 0) (.slice none 0 0)):=below_put9 hbl.out (by omega)
  obtain ⟨c0,c1,c2,c3,c4,c5,c6,c7,c8⟩:=hp.nine
  unfold put9 at c0 c1 c2 c3 c4 c5 c6 c7 c8 hq
  refine bodyPost_ret (v:=.tuple #[.agg #[.string ⟨#[]⟩,.int .i64 0,.int .i64 0,.int .i64 0,.string ⟨#[]⟩,.int .i64 0,.slice none 0 0,.slice none 0 0,.slice none 0 0],.bool false]) (by simp [results,Tryz.f58,go_sem,c0,c1,c2,c3,c4,c5,c6,c7,c8]) rfl ?_
  rw [hf.out]
  exact ⟨hq,_,rfl,AttrV.zero _⟩
 ·rw [h3]
  have hf:Hid (findA n.attrs nm kd=some a):=hid h2
  have hki:¬ (k:Int) < 0:=by omega
  obtain ⟨b,off,cap,hv,hb,hrd⟩:=HN.out.ia.rows k a h1
  obtain ⟨rfl,_,rfl⟩:=Value.slice.inj hv
  obtain ⟨vd,vx,vi,hc9,hn9⟩:=hrd k a h1
  obtain ⟨c0,c1,c2,c3,c4,c5,c6,c7,c8⟩:=hc9.below hb hbl.out
  obtain ⟨ad,cd,rfl⟩:=hn9.id.shape
  obtain ⟨ax,cx,rfl⟩:=hn9.ix.shape
  obtain ⟨ai,ci,rfl⟩:=hn9.ii.shape
  have HN9:=hid hn9
  clear h1 h2 h3 hv hrd hc9 hn9
  go_wp2
  have hp:=HR3.out.put (.string a.name) (.int .i64 a.kind) (.int .i64 a.f) (.int .i64 a.i) (.string a.s) (.int .i64 a.typ) (.slice ad a.dims.length cd) (.slice ax a.data.length cx) (.slice ai a.ints.length ci)
  have hq:Below w.heap.size w (put9 w3 (w.heap.size+1) (.string a.name) (.int .i64 a.kind) (.int .i64 a.f) (.int .i64 a.i) (.string a.s) (.int .i64 a.typ) (.slice ad a.dims.length cd) (.slice ax a.data.length cx) (.slice ai a.ints.length ci)):=below_put9 hbl.out (by omega)
  have hn9:AttrN (put9 w3 (w.heap.size+1) (.string a.name) (.int .i64 a.kind) (.int .i64 a.f) (.int .i64 a.i) (.string a.s) (.int .i64 a.typ) (.slice ad a.dims.length cd) (.slice ax a.data.length cx) (.slice ai a.ints.length ci)) a (.slice ad a.dims.length cd) (.slice ax a.data.length cx) (.slice ai a.ints.length ci):=HN9.out.below hq
  clear c0 c1 c2 c3 c4 c5 c6 c7 c8
  obtain ⟨c0,c1,c2,c3,c4,c5,c6,c7,c8⟩:=hp.nine
  unfold put9 at c0 c1 c2 c3 c4 c5 c6 c7 c8 hq hn9
  refine bodyPost_ret (v:=.tuple #[.agg #[.string a.name,.int .i64 a.kind,.int .i64 a.f,.int .i64 a.i,.string a.s,.int .i64 a.typ,.slice ad a.dims.length cd,.slice ax a.data.length cx,.slice ai a.ints.length ci],.bool true]) (by simp [results,Tryz.f58,go_sem,c0,c1,c2,c3,c4,c5,c6,c7,c8]) rfl ?_
  rw [hf.out]
  exact ⟨hq,_,rfl,_,_,_,rfl,hn9⟩
end Go.Proofs.YtijhdmidffenbaaGreatDoor
