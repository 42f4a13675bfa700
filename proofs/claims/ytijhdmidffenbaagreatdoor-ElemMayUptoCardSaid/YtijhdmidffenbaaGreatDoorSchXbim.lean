import Derived.Test.YtijhdmidffenbaaGreatDoorSchXnim
set_option linter.unusedVariables false
set_option linter.unusedSimpArgs false
set_option maxRecDepth 100000
namespace Go.Proofs.YtijhdmidffenbaaGreatDoor
open Go.RowKit Go.ChangeShapes Go.WideShapes Go.Deep
theorem SlIn.imp {α:Type} {sz:Nat} {R R':Rd α} {w:World} {v:Value} {xs:List α} (h:SlIn sz R w v xs) (hR:∀ cs x,R w cs x→R' w cs x):SlIn sz R' w v xs:=by
 cases h with
 | empty a0 cap=>exact .empty a0 cap
 | row b off cap _ h0 hc hb hr hlen =>
  refine .row b off cap xs h0 hc hb (fun j x hj=>?_) hlen
  obtain ⟨cs,h1,h2,h3⟩:=hr j x hj
  exact ⟨cs,h1,hR _ _ h2,h3⟩
theorem SlIn.each {α:Type} {sz:Nat} {R:Rd α} {w:World} {v:Value} {xs:List α} {P:α→Prop} (h:SlIn sz R w v xs) (hR:∀ cs x,R w cs x→P x):∀ x ∈ xs,P x:=fun x hx=>by
 obtain ⟨j,hj⟩:=List.getElem?_of_mem hx
 obtain ⟨b,off,cap,cs,h1,h2,h3,h4,h5,h6⟩:=h.rows j x hj
 exact hR cs x h5
def rdAttrB:Rd At:=fun w cs a=>rdAttr w cs a∧a.ints.length≤1048575
def rdNodeB:Rd Nd:=fun w cs n=>∃ vin vat,cs=[.string n.op,.string n.name,vin,.string n.out,vat]∧NodeN w n vin vat∧n.attrs.length≤1048575∧∀ a ∈ n.attrs,a.ints.length≤1048575
theorem fits_attrB:Fits Tryz.prog 69 9 rdAttrB:=by
 refine ⟨by kernel_rfl,fun {H} enc W fuel cs x h hlt hb=>?_⟩
 obtain ⟨xs,n,_,rfl,hl,hlen,hf⟩:=DataW.trod_struct Tryz.underlying69 h
 rw [show Tryz.prog.cellsOf 69 = 9 by kernel_rfl] at hl
 match cs,hl with
 | [c0,c1,c2,c3,c4,c5,c6,c7,c8],_ =>
  obtain ⟨a0,e0,i0⟩:=fits_field hf hlen hlt hb (i:=0) rfl fits_string
  obtain ⟨a1,e1,i1⟩:=fits_field hf hlen hlt hb (i:=1) rfl fits_i
  obtain ⟨a2,e2,i2⟩:=fits_field hf hlen hlt hb (i:=2) rfl fits_l
  obtain ⟨a3,e3,i3⟩:=fits_field hf hlen hlt hb (i:=3) rfl fits_l
  obtain ⟨a4,e4,i4⟩:=fits_field hf hlen hlt hb (i:=4) rfl fits_string
  obtain ⟨⟨t0,t1,t2⟩,vd,vx,e5,i5,i6,i7⟩:=fits_field hf hlen hlt hb (i:=5) rfl fits_tensor
  obtain ⟨a8,v8,e8,i8⟩:=fits_field hf hlen hlt hb (i:=6) rfl fits_data
  obtain rfl:=take1 e0
  obtain rfl:=take1 e1
  obtain rfl:=take1 e2
  obtain rfl:=take1 e3
  obtain rfl:=take1 e4
  obtain rfl:=take1 e8
  have e5':[c5,c6,c7]=[.int .i64 t0,vd,vx]:=e5
  obtain ⟨rfl,rfl,rfl⟩:c5=.int .i64 t0∧c6=vd∧c7=vx:=by simpa using e5'
  exact ⟨⟨a0,a1,a2,a3,a4,t0,t1,t2,a8⟩,⟨_,_,_,rfl,⟨i6,i7,IntsIn.of_sl i8,i1,i2,i3,i5,i0,i4⟩⟩,i8.len⟩
theorem fits_attrsB:Fits Tryz.prog 23 1 (rdSl 9 rdAttrB):=fits_slice Tryz.underlying23 (by kernel_rfl) (by decide) fits_attrB
theorem fits_nodeB:Fits Tryz.prog 25 5 rdNodeB:=by
 refine ⟨by kernel_rfl,fun {H} enc W fuel cs x h hlt hb=>?_⟩
 obtain ⟨xs,n,_,rfl,hl,hlen,hf⟩:=DataW.trod_struct Tryz.underlying25 h
 rw [show Tryz.prog.cellsOf 25 = 5 by kernel_rfl] at hl
 match cs,hl with
 | [c0,c1,c2,c3,c4],_ =>
  obtain ⟨a0,e0,i0⟩:=fits_field hf hlen hlt hb (i:=0) rfl fits_string
  obtain ⟨a1,e1,i1⟩:=fits_field hf hlen hlt hb (i:=1) rfl fits_string
  obtain ⟨a2,v2,e2,i2⟩:=fits_field hf hlen hlt hb (i:=2) rfl fits_strs
  obtain ⟨a3,e3,i3⟩:=fits_field hf hlen hlt hb (i:=3) rfl fits_string
  obtain ⟨a4,v4,e4,i4⟩:=fits_field hf hlen hlt hb (i:=4) rfl fits_attrsB
  obtain rfl:=take1 e0
  obtain rfl:=take1 e1
  obtain rfl:=take1 e2
  obtain rfl:=take1 e3
  obtain rfl:=take1 e4
  exact ⟨⟨a0,a1,a2,a3,a4⟩,_,_,rfl,⟨StrsIn.of_sl i2,AttrsIn.of_sl (i4.imp fun _ _ h=>h.1)⟩,i4.len,i4.each fun _ _ h=>h.2⟩
theorem open_nodeB {H:Type} {enc:TypeId × Value→H} {W:World} {r:Reach} {b0:Nat} {v:Value} {d:DataW H} {p:List MemPlace}
  (hv:Value.okWide Tryz.prog W r b0 25 v) (hd:DataW.Trod enc Tryz.prog W 0 (fun _=>true) true 25 v d p) (hlt:∀ y ∈ p,y.block < W.heap.size) (hb:Rows.uptoBulk d≤1048576):∃ n,NodeV W v n∧n.attrs.length≤1048575∧∀ a ∈ n.attrs,a.ints.length≤1048575:=by
 obtain ⟨cs,n,rfl,vin,vat,e,h,hl⟩:=open_arg Tryz.underlying25 fits_nodeB hv hd hlt hb
 refine ⟨n,⟨vin,vat,?_,h⟩,hl⟩
 unfold Nd.val
 congr 1
 rw [←Array.toList_inj,e]
end Go.Proofs.YtijhdmidffenbaaGreatDoor
