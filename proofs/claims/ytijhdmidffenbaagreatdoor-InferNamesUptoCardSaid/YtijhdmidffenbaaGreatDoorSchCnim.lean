import Derived.Test.YtijhdmidffenbaaGreatDoorSchNdim
import Derived.Test.YtijhdmidffenbaaGreatDoorSchCtim
import Derived.Deep.RegionLaw
import Derived.Deep.RegionHeld3
open Go.Lib (hid)
set_option linter.unusedVariables false
set_option linter.unusedSimpArgs false
namespace Go.Proofs.YtijhdmidffenbaaGreatDoor
open Go.RowKit
set_option maxRecDepth 100000 in
set_option maxHeartbeats 4000000 in
theorem copynode_core {w:World} {n:Nd} {vin0 vat0:Value} (hn:NodeN w n vin0 vat0) :
  Calls Tryz.prog 11 #[n.val vin0 vat0] w fun e w'=>∃ vin vat ts,e=.returned (n.val vin vat)∧NodeO w' w.heap.size n vin vat ts∧Below w.heap.size w w':=by
 obtain ⟨i0,hi,hz0,hz1,hz2⟩:=info_parts info_string
 obtain ⟨i2,hi2,hy0,hy1,hy2⟩:=info_parts info_int64
 obtain ⟨i3,hi3,hx0,hx1,hx2⟩:=info_parts info_attr
 obtain ⟨a1,c1,rfl⟩:=hn.is.form
 obtain ⟨a2,c2,rfl⟩:=hn.ia.form
 have hla:=hn.ia.len
 have HN:=hid hn
 clear hn
 unfold Nd.val
 go_enter Tryz.func11,Tryz.ntmps11
 have HB1:Hid (Below w.heap.size w (((w.alloc (Obj.cells #[.string n.op,.string n.name,.slice a1 n.ins.length c1,.string n.out,.slice a2 n.attrs.length c2] 25)).alloc (Obj.cells #[.string ⟨#[]⟩,.string ⟨#[]⟩,.slice none 0 0,.string ⟨#[]⟩,.slice none 0 0] 25)).alloc (Obj.cells #[.string n.op,.string n.name,.slice none 0 0,.string n.out,.slice none 0 0] 25))):=hid ((((Below.refl _ w).alloc (Nat.le_refl _) _).alloc (by simp) _).alloc (by simp;omega) _)
 have HA1:Hid (BoxN (((w.alloc (Obj.cells #[.string n.op,.string n.name,.slice a1 n.ins.length c1,.string n.out,.slice a2 n.attrs.length c2] 25)).alloc (Obj.cells #[.string ⟨#[]⟩,.string ⟨#[]⟩,.slice none 0 0,.string ⟨#[]⟩,.slice none 0 0] 25)).alloc (Obj.cells #[.string n.op,.string n.name,.slice none 0 0,.string n.out,.slice none 0 0] 25)) w.heap.size #[.string n.op,.string n.name,.slice a1 n.ins.length c1,.string n.out,.slice a2 n.attrs.length c2] 25):=hid (((BoxN.new w _ _).below' ((Below.refl _ _).alloc (Nat.le_refl _) _)).below' ((Below.refl _ _).alloc (Nat.le_refl _) _))
 have HR1:Hid (BoxN (((w.alloc (Obj.cells #[.string n.op,.string n.name,.slice a1 n.ins.length c1,.string n.out,.slice a2 n.attrs.length c2] 25)).alloc (Obj.cells #[.string ⟨#[]⟩,.string ⟨#[]⟩,.slice none 0 0,.string ⟨#[]⟩,.slice none 0 0] 25)).alloc (Obj.cells #[.string n.op,.string n.name,.slice none 0 0,.string n.out,.slice none 0 0] 25)) (w.heap.size+1) #[.string ⟨#[]⟩,.string ⟨#[]⟩,.slice none 0 0,.string ⟨#[]⟩,.slice none 0 0] 25):=hid (by
  have h:=BoxN.new (w.alloc (Obj.cells #[.string n.op,.string n.name,.slice a1 n.ins.length c1,.string n.out,.slice a2 n.attrs.length c2] 25)) #[.string ⟨#[]⟩,.string ⟨#[]⟩,.slice none 0 0,.string ⟨#[]⟩,.slice none 0 0] 25
  rw [World.size_alloc] at h
  exact h.below' ((Below.refl _ _).alloc (Nat.le_refl _) _))
 have HC1:Hid (BoxN (((w.alloc (Obj.cells #[.string n.op,.string n.name,.slice a1 n.ins.length c1,.string n.out,.slice a2 n.attrs.length c2] 25)).alloc (Obj.cells #[.string ⟨#[]⟩,.string ⟨#[]⟩,.slice none 0 0,.string ⟨#[]⟩,.slice none 0 0] 25)).alloc (Obj.cells #[.string n.op,.string n.name,.slice none 0 0,.string n.out,.slice none 0 0] 25)) (w.heap.size+1+1) #[.string n.op,.string n.name,.slice none 0 0,.string n.out,.slice none 0 0] 25):=hid (by
  have h:=BoxN.new ((w.alloc (Obj.cells #[.string n.op,.string n.name,.slice a1 n.ins.length c1,.string n.out,.slice a2 n.attrs.length c2] 25)).alloc (Obj.cells #[.string ⟨#[]⟩,.string ⟨#[]⟩,.slice none 0 0,.string ⟨#[]⟩,.slice none 0 0] 25)) #[.string n.op,.string n.name,.slice none 0 0,.string n.out,.slice none 0 0] 25
  rw [World.size_alloc,World.size_alloc] at h
  exact h)
 have HZ1:Hid ((((w.alloc (Obj.cells #[.string n.op,.string n.name,.slice a1 n.ins.length c1,.string n.out,.slice a2 n.attrs.length c2] 25)).alloc (Obj.cells #[.string ⟨#[]⟩,.string ⟨#[]⟩,.slice none 0 0,.string ⟨#[]⟩,.slice none 0 0] 25)).alloc (Obj.cells #[.string n.op,.string n.name,.slice none 0 0,.string n.out,.slice none 0 0] 25)).heap.size=w.heap.size+1+1+1):=hid (by simp)
 go_wp2_with (at_builtin;refine wpList_append_copy rfl _ _ 22 rfl Tryz.underlying22 hi hz0 hz1 hz2 rfl (by decide) rfl rfl ((HN.out.is.below HB1.out).news) ?_)
 intro vin w2 ho B2
 obtain ⟨av,cv,rfl⟩:=owns_form ho
 obtain ⟨B,hB⟩:∃ B,B=w.heap.size+1+1+1:=⟨_,rfl⟩
 rw [←HZ1.out] at B2
 have hBB:=hid hB
 have HV2:Hid (w2.ownsRow B 9 1 (.slice av n.ins.length cv) n.ins.length (n.ins.map Value.string)):=hid (by rw [hB];exact ho)
 have HB2:=hid (HB1.out.trans (B2.mono HB1.out.size))
 have HA2:=hid (HA1.out.below' B2)
 have HR2:=hid (HR1.out.below' B2)
 have HC2:=hid (HC1.out.below' B2)
 have HS2:Hid (B≤w2.heap.size):=hid (by have:=B2.size;rw [HZ1.out] at this;omega)
 clear ho B2 hB HZ1 HB1 HA1 HR1 HC1
 have c2f:=HC2.out.frozen 2
 have c2c:w2.cell? ⟨w.heap.size+1+1,2,none⟩=some (.slice none 0 0):=HC2.out.cell 2 rfl
 have hB3:Hid (Below w.heap.size w (w2.setCell ⟨w.heap.size+1+1,2,none⟩ (.slice av n.ins.length cv))):=hid (HB2.out.setCell (p:=⟨w.heap.size+1+1,2,none⟩) (by simp;omega) _)
 have hA3:Hid (BoxN (w2.setCell ⟨w.heap.size+1+1,2,none⟩ (.slice av n.ins.length cv)) w.heap.size #[.string n.op,.string n.name,.slice a1 n.ins.length c1,.string n.out,.slice a2 n.attrs.length c2] 25):=hid ((Below.heap_setCell _ _ _ _ (by simp;omega)).trans HA2.out)
 have hR3:Hid (BoxN (w2.setCell ⟨w.heap.size+1+1,2,none⟩ (.slice av n.ins.length cv)) (w.heap.size+1) #[.string ⟨#[]⟩,.string ⟨#[]⟩,.slice none 0 0,.string ⟨#[]⟩,.slice none 0 0] 25):=hid ((Below.heap_setCell _ _ _ _ (by simp)).trans HR2.out)
 have hC3:Hid (BoxN (w2.setCell ⟨w.heap.size+1+1,2,none⟩ (.slice av n.ins.length cv)) (w.heap.size+1+1) #[.string n.op,.string n.name,.slice av n.ins.length cv,.string n.out,.slice none 0 0] 25):=hid (HC2.out.set 2 (.slice av n.ins.length cv))
 have hV3:Hid ((w2.setCell ⟨w.heap.size+1+1,2,none⟩ (.slice av n.ins.length cv)).ownsRow B 9 1 (.slice av n.ins.length cv) n.ins.length (n.ins.map Value.string)):=hid (owns_heap HV2.out fun g hg=>Below.heap_setCell _ _ _ _ (by have:=(HV2.out.lt g hg).1;have:=hBB.out;simp;omega))
 have hS3:Hid (B≤(w2.setCell ⟨w.heap.size+1+1,2,none⟩ (.slice av n.ins.length cv)).heap.size):=hid (by show B≤(w2.heap.modify _ _).size;rw [Array.size_modify];exact HS2.out)
 go_wp2_with fail
 generalize w2.setCell ⟨w.heap.size+1+1,2,none⟩ (.slice av n.ins.length cv)=w3 at hB3 hA3 hR3 hC3 hV3 hS3 ⊢
 clear HV2 HB2 HA2 HR2 HC2 HS2 c2f c2c
 have kA4:w3.cell? ⟨w.heap.size,4,none⟩=some (.slice a2 n.attrs.length c2):=hA3.out.cell 4 rfl
 go_loopg [4] n.attrs.length (fun gg s4 wr=>∃ (k:Nat) (vat:Value) (ts:List Tri),k≤n.attrs.length∧n.attrs.length - k≤gg∧s4=.int .i64 (k:Int)∧Hid (BoxN wr (w.heap.size+1+1) #[.string n.op,.string n.name,.slice av n.ins.length cv,.string n.out,vat] 25)∧Hid (Below (w.heap.size+1+1) w3 wr)∧Hid (ts.length=k)∧Hid (wr.ownsRow B 9 1 (.slice av n.ins.length cv) n.ins.length (n.ins.map Value.string))∧Hid (wr.ownsRow B 69 9 vat k (rowC (n.attrs.take k) ts))∧Hid (∀ (j:Nat) a (t:Tri),n.attrs[j]?=some a→ts[j]?=some t→AttrO wr B a t.1 t.2.1 t.2.2))
 case atStart=>exact ⟨0,.slice none 0 0,[],Nat.zero_le _,by omega,rfl,hC3,hid (Below.refl _ _),hid rfl,hV3,hid (by simpa [rowC] using World.ownsRow_nil w3 B 69 9),hid (fun j a t _ h=>by simp at h)⟩
 case round =>
  obtain ⟨k,vat,ts,hk,hg,rfl,hC,hBl,hTL,hV,hRow,hAtt⟩:=hrel
  have hBw:Hid (Below w.heap.size w wr):=hid (hB3.out.trans (hBl.out.mono (by omega)))
  have hAr:Hid (BoxN wr w.heap.size #[.string n.op,.string n.name,.slice a1 n.ins.length c1,.string n.out,.slice a2 n.attrs.length c2] 25):=hid (hA3.out.below (by omega) hBl.out)
  have hRr:Hid (BoxN wr (w.heap.size+1) #[.string ⟨#[]⟩,.string ⟨#[]⟩,.slice none 0 0,.string ⟨#[]⟩,.slice none 0 0] 25):=hid (hR3.out.below (by omega) hBl.out)
  have rA4:wr.cell? ⟨w.heap.size,4,none⟩=some (.slice a2 n.attrs.length c2):=hAr.out.cell 4 rfl
  obtain ⟨aw,cw,rfl⟩:=owns_form hRow.out
  by_cases hkl:k < n.attrs.length
  ·have hki:(k:Int) < (n.attrs.length:Int):=by omega
   have hk0:(0:Int)≤(k:Int):=by omega
   obtain ⟨a,ha⟩:∃ a,n.attrs[k]?=some a:=⟨_,List.getElem?_eq_getElem hkl⟩
   obtain ⟨b,off,cap,hv,hb,hrd⟩:=HN.out.ia.rows k a ha
   obtain ⟨rfl,_,rfl⟩:=Value.slice.inj hv
   obtain ⟨vd,vx,vi,hc9,hn9⟩:=hrd k a ha
   obtain ⟨c0,c1',c2',c3',c4,c5,c6,c7,c8⟩:=hc9.below hb hBw.out
   obtain ⟨ad,cd,rfl⟩:=hn9.id.shape
   obtain ⟨ax,cx,rfl⟩:=hn9.ix.shape
   obtain ⟨ai,ci,rfl⟩:=hn9.ii.shape
   have HN9:=hid hn9
   have HC9:=hid hc9
   have HA:=hid ha
   have W2b:Hid (Below wr.heap.size wr (wr.alloc (Obj.cells #[.string a.name,.int .i64 a.kind,.int .i64 a.f,.int .i64 a.i,.string a.s,.int .i64 a.typ,.slice ad a.dims.length cd,.slice ax a.data.length cx,.slice ai a.ints.length ci] 69))):=hid ((Below.refl _ wr).alloc (Nat.le_refl _) _)
   obtain ⟨d0,d1,d2,d3,d4,d5,d6,d7,d8⟩:=hc9.below hb (hBw.out.trans (W2b.out.mono hBw.out.size))
   have dA4:(wr.alloc (Obj.cells #[.string a.name,.int .i64 a.kind,.int .i64 a.f,.int .i64 a.i,.string a.s,.int .i64 a.typ,.slice ad a.dims.length cd,.slice ax a.data.length cx,.slice ai a.ints.length ci] 69)).cell? ⟨w.heap.size,4,none⟩=some (.slice (some ⟨b,off,none⟩) n.attrs.length c2):=(hAr.out.below' W2b.out).cell 4 rfl
   clear hv hrd hc9 hn9 ha
   go_wp2_with fail
   obtain ⟨D,hD⟩:∃ D,D=wr.heap.size:=⟨_,rfl⟩
   have hX2:BoxN (wr.alloc (Obj.cells #[.string a.name,.int .i64 a.kind,.int .i64 a.f,.int .i64 a.i,.string a.s,.int .i64 a.typ,.slice ad a.dims.length cd,.slice ax a.data.length cx,.slice ai a.ints.length ci] 69)) D #[.string a.name,.int .i64 a.kind,.int .i64 a.f,.int .i64 a.i,.string a.s,.int .i64 a.typ,.slice ad a.dims.length cd,.slice ax a.data.length cx,.slice ai a.ints.length ci] 69:=by rw [hD];exact BoxN.new wr _ _
   rw [←hD]
   have W2c:=hid (hBw.out.trans (W2b.out.mono hBw.out.size))
   generalize wr.alloc (Obj.cells #[.string a.name,.int .i64 a.kind,.int .i64 a.f,.int .i64 a.i,.string a.s,.int .i64 a.typ,.slice ad a.dims.length cd,.slice ax a.data.length cx,.slice ai a.ints.length ci] 69)=W2 at hX2 W2b W2c ⊢
   clear c0 c1' c2' c3' c4 c5 c6 c7 c8 d0 d1 d2 d3 d4 d5 d6 d7 d8 dA4 rA4 kA4
   refine (ctensor_any a.typ a.dims a.data (HN9.out.id.below W2c.out) (HN9.out.ix.below W2c.out)).mono ?_
   rintro e w4 ⟨vd',vx',rfl,hod,hox,B4⟩
   obtain ⟨ad',cd',rfl⟩:=owns_form hod
   obtain ⟨ax',cx',rfl⟩:=owns_form hox
   have hDlt:D < W2.heap.size:=hX2.lt
   have hX4:=hX2.below' B4
   have W4b:=hid (W2b.out.trans (B4.mono W2b.out.size))
   have hne1:=owns_box hod hX4 (by decide)
   have hne2:=owns_box hox hX4 (by decide)
   have q5:w4.frozen? ⟨D,5,none⟩=false:=hX4.frozen 5
   have q6:w4.frozen? ⟨D,6,none⟩=false:=hX4.frozen 6
   have q7:w4.frozen? ⟨D,7,none⟩=false:=hX4.frozen 7
   have e5:w4.cell? ⟨D,5,none⟩=some (.int .i64 a.typ):=hX4.cell 5 rfl
   have e6:w4.cell? ⟨D,6,none⟩=some (.slice ad a.dims.length cd):=hX4.cell 6 rfl
   have e7:w4.cell? ⟨D,7,none⟩=some (.slice ax a.data.length cx):=hX4.cell 7 rfl
   have hX5:BoxN (((w4.setCell ⟨D,5,none⟩ (.int .i64 a.typ)).setCell ⟨D,6,none⟩ (.slice ad' a.dims.length cd')).setCell ⟨D,7,none⟩ (.slice ax' a.data.length cx')) D #[.string a.name,.int .i64 a.kind,.int .i64 a.f,.int .i64 a.i,.string a.s,.int .i64 a.typ,.slice ad' a.dims.length cd',.slice ax' a.data.length cx',.slice ai a.ints.length ci] 69:=((hX4.set 5 (.int .i64 a.typ)).set 6 (.slice ad' a.dims.length cd')).set 7 (.slice ax' a.data.length cx')
   have q8:(((w4.setCell ⟨D,5,none⟩ (.int .i64 a.typ)).setCell ⟨D,6,none⟩ (.slice ad' a.dims.length cd')).setCell ⟨D,7,none⟩ (.slice ax' a.data.length cx')).frozen? ⟨D,8,none⟩=false:=hX5.frozen 8
   have e8:(((w4.setCell ⟨D,5,none⟩ (.int .i64 a.typ)).setCell ⟨D,6,none⟩ (.slice ad' a.dims.length cd')).setCell ⟨D,7,none⟩ (.slice ax' a.data.length cx')).cell? ⟨D,8,none⟩=some (.slice ai a.ints.length ci):=hX5.cell 8 rfl
   have hX6:Hid (BoxN ((((w4.setCell ⟨D,5,none⟩ (.int .i64 a.typ)).setCell ⟨D,6,none⟩ (.slice ad' a.dims.length cd')).setCell ⟨D,7,none⟩ (.slice ax' a.data.length cx')).setCell ⟨D,8,none⟩ (.slice none 0 0)) D #[.string a.name,.int .i64 a.kind,.int .i64 a.f,.int .i64 a.i,.string a.s,.int .i64 a.typ,.slice ad' a.dims.length cd',.slice ax' a.data.length cx',.slice none 0 0] 69):=hid (hX5.set 8 (.slice none 0 0))
   have hod6:Hid (((((w4.setCell ⟨D,5,none⟩ (.int .i64 a.typ)).setCell ⟨D,6,none⟩ (.slice ad' a.dims.length cd')).setCell ⟨D,7,none⟩ (.slice ax' a.data.length cx')).setCell ⟨D,8,none⟩ (.slice none 0 0)).ownsRow B 3 1 (.slice ad' a.dims.length cd') a.dims.length (a.dims.map (Value.int .i64))):=hid (owns_base (owns_heap hod fun g hg=>by
    have:=hne1 g hg
    rw [Below.heap_setCell _ _ _ _ this,Below.heap_setCell _ _ _ _ this,Below.heap_setCell _ _ _ _ this,Below.heap_setCell _ _ _ _ this]) (by have:=hS3.out;have:=hBl.out.size;have:=W2b.out.size;omega))
   have hox6:Hid (((((w4.setCell ⟨D,5,none⟩ (.int .i64 a.typ)).setCell ⟨D,6,none⟩ (.slice ad' a.dims.length cd')).setCell ⟨D,7,none⟩ (.slice ax' a.data.length cx')).setCell ⟨D,8,none⟩ (.slice none 0 0)).ownsRow B 2 1 (.slice ax' a.data.length cx') a.data.length (a.data.map (Value.int .i64))):=hid (owns_base (owns_heap hox fun g hg=>by
    have:=hne2 g hg
    rw [Below.heap_setCell _ _ _ _ this,Below.heap_setCell _ _ _ _ this,Below.heap_setCell _ _ _ _ this,Below.heap_setCell _ _ _ _ this]) (by have:=hS3.out;have:=hBl.out.size;have:=W2b.out.size;omega))
   have W6b:Hid (Below wr.heap.size wr ((((w4.setCell ⟨D,5,none⟩ (.int .i64 a.typ)).setCell ⟨D,6,none⟩ (.slice ad' a.dims.length cd')).setCell ⟨D,7,none⟩ (.slice ax' a.data.length cx')).setCell ⟨D,8,none⟩ (.slice none 0 0))):=hid ((((W4b.out.setCell (p:=⟨D,5,none⟩) (by simp;omega) _).setCell (p:=⟨D,6,none⟩) (by simp;omega) _).setCell (p:=⟨D,7,none⟩) (by simp;omega) _).setCell (p:=⟨D,8,none⟩) (by simp;omega) _)
   have HD:=hid hD
   have hDB:B≤D:=by have:=hS3.out;have:=hBl.out.size;omega
   clear hX2 hX4 hX5 hne1 hne2 hod hox B4 hDlt hD
   go_wp2_with fail
   clear q5 q6 q7 e5 e6 e7 q8 e8
   generalize (((w4.setCell ⟨D,5,none⟩ (.int .i64 a.typ)).setCell ⟨D,6,none⟩ (.slice ad' a.dims.length cd')).setCell ⟨D,7,none⟩ (.slice ax' a.data.length cx')).setCell ⟨D,8,none⟩ (.slice none 0 0)=W6 at hX6 hod6 hox6 W6b ⊢
   have hd8:W6.cell? ⟨D,8,none⟩=some (.slice none 0 0):=hX6.out.cell 8 rfl
   have hAD:w.heap.size < D:=by have:=hBB.out;omega
   have W6w:=hid (hBw.out.trans (W6b.out.mono hBw.out.size))
   have HSk:Hid (∀ W',Below D W6 W'→W'.cell? ⟨w.heap.size,4,none⟩=some (.slice (some ⟨b,off,none⟩) n.attrs.length c2)∧W'.cell? ⟨b,off+k * 9+8,none⟩=some (.slice ai a.ints.length ci)):=hid fun W' hb'=>⟨(hb'.cell (p:=⟨w.heap.size,4,none⟩) hAD).trans ((hAr.out.below' W6b.out).cell 4 rfl),(hb'.cell (p:=⟨b,off+k * 9+8,none⟩) (by show b < D;omega)).trans (HC9.out.below hb W6w.out).c8⟩
   have B0:Hid (Below D W6 W6.drew):=hid (Below.refl _ _).drew
   have HII:=hid (HN9.out.ii.below (w':=W6.drew) W6w.out.drew)
   refine wp_region_held_drew (S:=fun w'=>w'.cell? ⟨w.heap.size,4,none⟩=some (.slice (some ⟨b,off,none⟩) n.attrs.length c2)∧w'.cell? ⟨b,off+k * 9+8,none⟩=some (.slice ai a.ints.length ci)) (by kernel_rfl) ?_ (fun hHeld=>?_)
   ·exact HSk.out _ B0.out
   refine wpAnyH_take (i:=0) (v:=?vv0) rfl (by kernel_rfl) (by kernel_rfl) (by kernel_rfl) (fun _ _ _ h=>h) (Or.inl ⟨by rfl,?hh0⟩) (by assumption) ?rr0
   case hh0=>(intro w' hSw;(try dsimp only at hSw);first | (go_simp;done) | (go_simp;with_reducible rfl))
   try simp only [Act.put,List.setIfInBounds_toArray,List.set_cons_zero,List.set_cons_succ]
   refine wpAnyH_take (i:=2) (v:=?vv1) rfl (by kernel_rfl) (by kernel_rfl) (by kernel_rfl) (fun _ _ _ h=>h) (Or.inl ⟨by rfl,?hh1⟩) (by assumption) ?rr1
   case hh1=>(intro w' hSw;(try dsimp only at hSw);first | (go_simp;done) | (go_simp;with_reducible rfl))
   try simp only [Act.put,List.setIfInBounds_toArray,List.set_cons_zero,List.set_cons_succ]
   refine wpAnyH_take (i:=3) (v:=?vv2) rfl (by kernel_rfl) (by kernel_rfl) (by kernel_rfl) (fun _ _ _ h=>h) (Or.inl ⟨by rfl,?hh2⟩) (by assumption) ?rr2
   case hh2=>(intro w' hSw;(try dsimp only at hSw);first | (go_simp;done) | (go_simp;with_reducible rfl))
   try simp only [Act.put,List.setIfInBounds_toArray,List.set_cons_zero,List.set_cons_succ]
   refine wpAnyH_take (i:=4) (v:=?vv3) rfl (by kernel_rfl) (by kernel_rfl) (by kernel_rfl) (fun _ _ _ h=>h) (Or.inl ⟨by rfl,?hh3⟩) (by assumption) ?rr3
   case hh3=>(intro w' hSw;(try dsimp only at hSw);first | (go_simp;done) | (go_simp;with_reducible rfl))
   try simp only [Act.put,List.setIfInBounds_toArray,List.set_cons_zero,List.set_cons_succ]
   refine wpAnyH_take (i:=5) (v:=?vv4) rfl (by kernel_rfl) (by kernel_rfl) (by kernel_rfl) (fun _ _ _ h=>h) (Or.inl ⟨by rfl,?hh4⟩) (by assumption) ?rr4
   case hh4=>(intro w' hSw;(try dsimp only at hSw);first | (go_simp;done) | (go_simp;with_reducible rfl))
   try simp only [Act.put,List.setIfInBounds_toArray,List.set_cons_zero,List.set_cons_succ]
   refine wpAnyH_take (i:=6) (v:=?vv5) rfl (by kernel_rfl) (by kernel_rfl) (by kernel_rfl) (fun _ _ _ h=>h) (Or.inl ⟨by rfl,?hh5⟩) (by assumption) ?rr5
   case hh5=>(intro w' hSw;(try dsimp only at hSw);first | (go_simp;done) | (go_simp;with_reducible rfl))
   try simp only [Act.put,List.setIfInBounds_toArray,List.set_cons_zero,List.set_cons_succ]
   refine wpAnyH_take (i:=7) (v:=?vv6) rfl (by kernel_rfl) (by kernel_rfl) (by kernel_rfl) (fun _ _ _ h=>h) (Or.inl ⟨by rfl,?hh6⟩) (by assumption) ?rr6
   case hh6=>(intro w' hSw;(try dsimp only at hSw);first | (go_simp;done) | (go_simp;with_reducible rfl))
   try simp only [Act.put,List.setIfInBounds_toArray,List.set_cons_zero,List.set_cons_succ]
   refine wpAnyH_ready (rs:=[1]) (by kernel_rfl) (by simp) ?_
   refine AllReadyH.cons rfl (fun K hK=>?_) AllReadyH.nil
   go_simp
   refine hK.out _ _ ?_ (fun hHeld2=>?_)
   ·exact HSk.out _ B0.out
   clear hK K
   try simp only [Act.put,List.setIfInBounds_toArray,List.set_cons_zero,List.set_cons_succ]
   refine wpAnyH_ready (rs:=[8]) (by kernel_rfl) (by simp) ?_
   refine AllReadyH.cons rfl (fun K hK=>?_) AllReadyH.nil
   refine step_append_copy (by rfl) _ _ _ (by rfl) Tryz.underlying44 hi2 hy0 hy1 hy2 rfl (by decide) (by rfl) (by rfl) HII.out.news ?_
   intro vi' w7 hoi B7
   obtain ⟨ai',ci',rfl⟩:=owns_form hoi
   have hDW:D < W6.heap.size:=hX6.out.lt
   have B2:Hid (Below D W6 w7):=hid (B0.out.trans (B7.mono (Nat.le_of_lt hDW)))
   have B7':Below W6.heap.size W6 w7:=(Below.refl _ _).drew.trans B7
   have hX7:=hX6.out.below' B7'
   have g8:w7.cell? ⟨D,8,none⟩=some (.slice none 0 0):=hX7.cell 8 rfl
   have f8:w7.frozen? ⟨D,8,none⟩=false:=hX7.frozen 8
   have B3:Hid (Below D W6 (w7.setCell ⟨D,8,none⟩ (.slice ai' a.ints.length ci'))):=hid (B2.out.setCell (p:=⟨D,8,none⟩) (Nat.le_refl _) _)
   have hX8:Hid (BoxN (w7.setCell ⟨D,8,none⟩ (.slice ai' a.ints.length ci')) D #[.string a.name,.int .i64 a.kind,.int .i64 a.f,.int .i64 a.i,.string a.s,.int .i64 a.typ,.slice ad' a.dims.length cd',.slice ax' a.data.length cx',.slice ai' a.ints.length ci'] 69):=hid (hX7.set 8 (.slice ai' a.ints.length ci'))
   have hod8:Hid ((w7.setCell ⟨D,8,none⟩ (.slice ai' a.ints.length ci')).ownsRow B 3 1 (.slice ad' a.dims.length cd') a.dims.length (a.dims.map (Value.int .i64))):=hid (owns_heap (owns_below hod6.out B7') fun g hg=>Below.heap_setCell _ _ _ _ (owns_box (owns_below hod6.out B7') hX7 (by decide) g hg))
   have hox8:Hid ((w7.setCell ⟨D,8,none⟩ (.slice ai' a.ints.length ci')).ownsRow B 2 1 (.slice ax' a.data.length cx') a.data.length (a.data.map (Value.int .i64))):=hid (owns_heap (owns_below hox6.out B7') fun g hg=>Below.heap_setCell _ _ _ _ (owns_box (owns_below hox6.out B7') hX7 (by decide) g hg))
   have hoi8:Hid ((w7.setCell ⟨D,8,none⟩ (.slice ai' a.ints.length ci')).ownsRow B 2 1 (.slice ai' a.ints.length ci') a.ints.length (a.ints.map (Value.int .i64))):=hid (owns_base (owns_heap hoi fun g hg=>Below.heap_setCell _ _ _ _ (owns_box hoi hX7 (by decide) g hg)) (by show B≤W6.heap.size;omega))
   have W8b:Hid (Below wr.heap.size wr (w7.setCell ⟨D,8,none⟩ (.slice ai' a.ints.length ci'))):=hid ((W6b.out.trans (B7'.mono W6b.out.size)).setCell (p:=⟨D,8,none⟩) (by have:=HD.out;simp;omega) _)
   clear hoi B7 hX7 B7'
   refine hK.out _ _ ?_ (fun hHeld2=>?_)
   ·exact HSk.out _ B2.out
   clear hK K
   try simp only [Act.put,List.setIfInBounds_toArray,List.set_cons_zero,List.set_cons_succ]
   refine wpAnyH_take (i:=9) (v:=?vv9) rfl (by kernel_rfl) (by kernel_rfl) (by kernel_rfl) (fun _ _ _ h=>h) (Or.inl ⟨by rfl,?hh9⟩) (by assumption) ?rr9
   case hh9=>(intro w' hSw;(try dsimp only at hSw);first | (go_simp;done) | (go_simp;with_reducible rfl))
   try simp only [Act.put,List.setIfInBounds_toArray,List.set_cons_zero,List.set_cons_succ]
   refine wpAnyH_ready (rs:=[10]) (by kernel_rfl) (by simp) ?_
   refine AllReadyH.cons rfl (fun K hK=>?_) AllReadyH.nil
   go_simp
   refine hK.out _ _ ?_ (fun hHeld2=>?_)
   ·exact HSk.out _ B3.out
   clear hK K
   try simp only [Act.put,List.setIfInBounds_toArray,List.set_cons_zero,List.set_cons_succ]
   refine wpAnyH_done (by kernel_rfl) ?_ _
   clear hod6 hox6 hX6 hHeld HSk B0 HII B2 g8 f8 B3 hd8 W6b W6w W4b W2b W2c
   generalize w7.setCell ⟨D,8,none⟩ (.slice ai' a.ints.length ci')=W8 at hX8 hod8 hox8 hoi8 W8b ⊢
   have hC8:Hid (BoxN W8 (w.heap.size+1+1) #[.string n.op,.string n.name,.slice av n.ins.length cv,.string n.out,.slice aw k cw] 25):=hid (hC.out.below' W8b.out)
   have z4:W8.cell? ⟨w.heap.size+1+1,4,none⟩=some (.slice aw k cw):=hC8.out.cell 4 rfl
   obtain ⟨y0,y1,y2,y3,y4,y5,y6,y7,y8⟩:=hX8.out.nine
   have hRow8:=hid (owns_below hRow.out W8b.out)
   have hV8:=hid (owns_below hV.out W8b.out)
   have hAtt8:Hid (∀ (j:Nat) a (t:Tri),n.attrs[j]?=some a→ts[j]?=some t→AttrO W8 B a t.1 t.2.1 t.2.2):=hid (fun j a t h1 h2=>(hAtt.out j a t h1 h2).below W8b.out)
   have hNew8:Hid (AttrO W8 B a (.slice ad' a.dims.length cd') (.slice ax' a.data.length cx') (.slice ai' a.ints.length ci')):=hid ⟨hod8.out,hox8.out,hoi8.out⟩
   have hBS:Hid (B≤W8.heap.size):=hid (by have:=hS3.out;have:=hBl.out.size;have:=W8b.out.size;omega)
   go_wp2_with (at_builtin;refine wpList_append_own _ rfl _ _ 23 rfl B 69 i3 (.agg #[.string ⟨#[]⟩,.int .i64 0,.int .i64 0,.int .i64 0,.string ⟨#[]⟩,.int .i64 0,.slice none 0 0,.slice none 0 0,.slice none 0 0]) 9 136 Tryz.underlying23 hi3 hx0 hx1 hx2 rfl (by decide) _ _ _ rfl (hRow8.out.alloc _) ⟨W8.heap.size,0,none⟩ 1 1 (#[.string a.name,.int .i64 a.kind,.int .i64 a.f,.int .i64 a.i,.string a.s,.int .i64 a.typ,.slice ad' a.dims.length cd',.slice ax' a.data.length cx',.slice ai' a.ints.length ci']:Array Value).toList rfl rfl (World.news_of_block (heap_alloc_new W8 _)) ?A2 ?A3 ?A4 ?A5 ?_)
   case A2=>exact ⟨rfl,rfl,rfl,rfl,rfl,rfl,rfl,rfl,rfl⟩
   case A3=>unfold maxLen;omega
   case A4=>omega
   case A5=>have:=hBS.out;simp;omega
   intro v' w9 hown hgrow _
   obtain ⟨a9,c9,rfl⟩:=owns_form hown
   have hrE:Hid (((W8.alloc (Obj.cells #[.string a.name,.int .i64 a.kind,.int .i64 a.f,.int .i64 a.i,.string a.s,.int .i64 a.typ,.slice ad' a.dims.length cd',.slice ax' a.data.length cx',.slice ai' a.ints.length ci'] 69))).ownsRow B 69 9 (.slice aw k cw) k (rowC (n.attrs.take k) ts)):=hid (hRow8.out.alloc _)
   have hBE:Below W8.heap.size W8 ((W8.alloc (Obj.cells #[.string a.name,.int .i64 a.kind,.int .i64 a.f,.int .i64 a.i,.string a.s,.int .i64 a.typ,.slice ad' a.dims.length cd',.slice ax' a.data.length cx',.slice ai' a.ints.length ci'] 69))):=(Below.refl _ _).alloc (Nat.le_refl _) _
   have hlow:∀ x,x < B→Value.ownBlock (.slice aw k cw)≠some x:=fun x hx e=>by have:=(hrE.out.lt x e).1;omega
   have hCB:w.heap.size+1+1 < B:=by have:=hBB.out;omega
   have hC9:BoxN w9 (w.heap.size+1+1) #[.string n.op,.string n.name,.slice av n.ins.length cv,.string n.out,.slice aw k cw] 25:=box_grown (hC8.out.below' hBE) hgrow (hlow _ hCB)
   have z5:w9.cell? ⟨w.heap.size+1+1,4,none⟩=some (.slice aw k cw):=hC9.cell 4 rfl
   have z6:w9.frozen? ⟨w.heap.size+1+1,4,none⟩=false:=hC9.frozen 4
   have hC10:Hid (BoxN (w9.setCell ⟨w.heap.size+1+1,4,none⟩ (.slice a9 (k+1) c9)) (w.heap.size+1+1) #[.string n.op,.string n.name,.slice av n.ins.length cv,.string n.out,.slice a9 (k+1) c9] 25):=hid (hC9.set 4 (.slice a9 (k+1) c9))
   have hup:∀ {e z m:_} {v:Value} {xs:List Value},w9.ownsRow B e z v m xs→(w9.setCell ⟨w.heap.size+1+1,4,none⟩ (.slice a9 (k+1) c9)).ownsRow B e z v m xs:=fun h=>owns_heap h fun g hg=>Below.heap_setCell _ _ _ _ (by have:=(h.lt g hg).1;simp;omega)
   have hV10:Hid ((w9.setCell ⟨w.heap.size+1+1,4,none⟩ (.slice a9 (k+1) c9)).ownsRow B 9 1 (.slice av n.ins.length cv) n.ins.length (n.ins.map Value.string)):=hid (hup ((owns_below hV8.out hBE).kept hgrow (owns_apart (owns_below hV8.out hBE) hrE.out (by decide))))
   have hRow10:Hid ((w9.setCell ⟨w.heap.size+1+1,4,none⟩ (.slice a9 (k+1) c9)).ownsRow B 69 9 (.slice a9 (k+1) c9) (k+1) (rowC (n.attrs.take (k+1)) (ts++[(.slice ad' a.dims.length cd',.slice ax' a.data.length cx',.slice ai' a.ints.length ci')]))):=hid (by
    have e:n.attrs.take (k+1)=n.attrs.take k++[a]:=by rw [List.take_add_one,HA.out];rfl
    rw [e,rowC_snoc _ _ (by rw [List.length_take,hTL.out];omega)]
    exact hup hown)
   have hAtt10:Hid (∀ (j:Nat) a2 (t:Tri),n.attrs[j]?=some a2→(ts++[(.slice ad' a.dims.length cd',.slice ax' a.data.length cx',.slice ai' a.ints.length ci')])[j]?=some t→AttrO (w9.setCell ⟨w.heap.size+1+1,4,none⟩ (.slice a9 (k+1) c9)) B a2 t.1 t.2.1 t.2.2):=hid (by
    intro j a2 t h1 h2
    by_cases hj:j < ts.length
    ·rw [List.getElem?_append_left hj] at h2
     exact (((hAtt8.out j a2 t h1 h2).below hBE).grown hrE.out hgrow).setCell hCB _
    ·rw [List.getElem?_append_right (by omega)] at h2
     have hj0:j - ts.length=0:=by
      rcases Nat.eq_zero_or_pos (j - ts.length) with h | h
      ·exact h
      ·rw [List.getElem?_eq_none (by simp;omega)] at h2;cases h2
     rw [hj0] at h2
     obtain rfl:=Option.some.inj h2
     have hjk:j=k:=by have:=hTL.out;omega
     subst hjk
     obtain rfl:=Option.some.inj (HA.out.symm.trans h1)
     exact ((hNew8.out.below hBE).grown hrE.out hgrow).setCell hCB _)
   have W10b:Hid (Below (w.heap.size+1+1) w3 (w9.setCell ⟨w.heap.size+1+1,4,none⟩ (.slice a9 (k+1) c9))):=hid (((((hBl.out.trans (W8b.out.mono (by have:=hBS.out;have:=hS3.out;have:=hBl.out.size;omega))).alloc (by have:=hBS.out;omega) _).grown hgrow (by have:=hBS.out;simp;omega) (fun g hg=>by have:=(hrE.out.lt g hg).1;omega)).setCell (p:=⟨w.heap.size+1+1,4,none⟩) (Nat.le_refl _) _))
   clear hown hgrow hrE hBE hlow hC9 hup y0 y1 y2 y3 y4 y5 y6 y7 y8 hC8 hRow8 hV8 hAtt8 hNew8
   go_wp2_with fail
   go_roundg (n.attrs.length - (k+1))
   case measure=>omega
   case rel=>exact ⟨k+1,.slice a9 (k+1) c9,ts++[(.slice ad' a.dims.length cd',.slice ax' a.data.length cx',.slice ai' a.ints.length ci')],by omega,by omega,by go_num,hC10,W10b,hid (by rw [List.length_append,hTL.out];rfl),hV10,hRow10,hAtt10⟩
  ·have hki:¬ (k:Int) < (n.attrs.length:Int):=by omega
   have z0:wr.cell? ⟨w.heap.size+1+1,0,none⟩=some (.string n.op):=hC.out.cell 0 rfl
   have z1:wr.cell? ⟨w.heap.size+1+1,1,none⟩=some (.string n.name):=hC.out.cell 1 rfl
   have z2:wr.cell? ⟨w.heap.size+1+1,2,none⟩=some (.slice av n.ins.length cv):=hC.out.cell 2 rfl
   have z3:wr.cell? ⟨w.heap.size+1+1,3,none⟩=some (.string n.out):=hC.out.cell 3 rfl
   have z4:wr.cell? ⟨w.heap.size+1+1,4,none⟩=some (.slice aw k cw):=hC.out.cell 4 rfl
   have r0:wr.cell? ⟨w.heap.size+1,0,none⟩=some (.string ⟨#[]⟩):=hRr.out.cell 0 rfl
   have f0:wr.frozen? ⟨w.heap.size+1,0,none⟩=false:=hRr.out.frozen 0
   have r1:wr.cell? ⟨w.heap.size+1,1,none⟩=some (.string ⟨#[]⟩):=hRr.out.cell 1 rfl
   have f1:wr.frozen? ⟨w.heap.size+1,1,none⟩=false:=hRr.out.frozen 1
   have r2:wr.cell? ⟨w.heap.size+1,2,none⟩=some (.slice none 0 0):=hRr.out.cell 2 rfl
   have f2:wr.frozen? ⟨w.heap.size+1,2,none⟩=false:=hRr.out.frozen 2
   have r3:wr.cell? ⟨w.heap.size+1,3,none⟩=some (.string ⟨#[]⟩):=hRr.out.cell 3 rfl
   have f3:wr.frozen? ⟨w.heap.size+1,3,none⟩=false:=hRr.out.frozen 3
   have r4:wr.cell? ⟨w.heap.size+1,4,none⟩=some (.slice none 0 0):=hRr.out.cell 4 rfl
   have f4:wr.frozen? ⟨w.heap.size+1,4,none⟩=false:=hRr.out.frozen 4
   have hP:BoxN (((((wr.setCell ⟨w.heap.size+1,0,none⟩ (.string n.op)).setCell ⟨w.heap.size+1,1,none⟩ (.string n.name)).setCell ⟨w.heap.size+1,2,none⟩ (.slice av n.ins.length cv)).setCell ⟨w.heap.size+1,3,none⟩ (.string n.out)).setCell ⟨w.heap.size+1,4,none⟩ (.slice aw k cw)) (w.heap.size+1) #[.string n.op,.string n.name,.slice av n.ins.length cv,.string n.out,.slice aw k cw] 25:=(((((hRr.out.set 0 (.string n.op)).set 1 (.string n.name)).set 2 (.slice av n.ins.length cv)).set 3 (.string n.out)).set 4 (.slice aw k cw))
   have s0:((((((wr.setCell ⟨w.heap.size+1,0,none⟩ (.string n.op)).setCell ⟨w.heap.size+1,1,none⟩ (.string n.name)).setCell ⟨w.heap.size+1,2,none⟩ (.slice av n.ins.length cv)).setCell ⟨w.heap.size+1,3,none⟩ (.string n.out)).setCell ⟨w.heap.size+1,4,none⟩ (.slice aw k cw))).cell? ⟨w.heap.size+1,0,none⟩=some (.string n.op):=hP.cell 0 rfl
   have s1:((((((wr.setCell ⟨w.heap.size+1,0,none⟩ (.string n.op)).setCell ⟨w.heap.size+1,1,none⟩ (.string n.name)).setCell ⟨w.heap.size+1,2,none⟩ (.slice av n.ins.length cv)).setCell ⟨w.heap.size+1,3,none⟩ (.string n.out)).setCell ⟨w.heap.size+1,4,none⟩ (.slice aw k cw))).cell? ⟨w.heap.size+1,1,none⟩=some (.string n.name):=hP.cell 1 rfl
   have s2:((((((wr.setCell ⟨w.heap.size+1,0,none⟩ (.string n.op)).setCell ⟨w.heap.size+1,1,none⟩ (.string n.name)).setCell ⟨w.heap.size+1,2,none⟩ (.slice av n.ins.length cv)).setCell ⟨w.heap.size+1,3,none⟩ (.string n.out)).setCell ⟨w.heap.size+1,4,none⟩ (.slice aw k cw))).cell? ⟨w.heap.size+1,2,none⟩=some (.slice av n.ins.length cv):=hP.cell 2 rfl
   have s3:((((((wr.setCell ⟨w.heap.size+1,0,none⟩ (.string n.op)).setCell ⟨w.heap.size+1,1,none⟩ (.string n.name)).setCell ⟨w.heap.size+1,2,none⟩ (.slice av n.ins.length cv)).setCell ⟨w.heap.size+1,3,none⟩ (.string n.out)).setCell ⟨w.heap.size+1,4,none⟩ (.slice aw k cw))).cell? ⟨w.heap.size+1,3,none⟩=some (.string n.out):=hP.cell 3 rfl
   have s4:((((((wr.setCell ⟨w.heap.size+1,0,none⟩ (.string n.op)).setCell ⟨w.heap.size+1,1,none⟩ (.string n.name)).setCell ⟨w.heap.size+1,2,none⟩ (.slice av n.ins.length cv)).setCell ⟨w.heap.size+1,3,none⟩ (.string n.out)).setCell ⟨w.heap.size+1,4,none⟩ (.slice aw k cw))).cell? ⟨w.heap.size+1,4,none⟩=some (.slice aw k cw):=hP.cell 4 rfl
   have hRB:w.heap.size+1 < B:=by have:=hBB.out;omega
   have hup:∀ {e z m:_} {v:Value} {xs:List Value},wr.ownsRow B e z v m xs→((((((wr.setCell ⟨w.heap.size+1,0,none⟩ (.string n.op)).setCell ⟨w.heap.size+1,1,none⟩ (.string n.name)).setCell ⟨w.heap.size+1,2,none⟩ (.slice av n.ins.length cv)).setCell ⟨w.heap.size+1,3,none⟩ (.string n.out)).setCell ⟨w.heap.size+1,4,none⟩ (.slice aw k cw))).ownsRow B e z v m xs:=fun h=>owns_heap h fun g hg=>by
    have h2:g≠w.heap.size+1:=by have:=(h.lt g hg).1;omega
    rw [Below.heap_setCell _ _ _ _ h2,Below.heap_setCell _ _ _ _ h2,Below.heap_setCell _ _ _ _ h2,Below.heap_setCell _ _ _ _ h2,Below.heap_setCell _ _ _ _ h2]
   have hkl2:k=n.attrs.length:=by omega
   have hO:Hid (NodeO (((((wr.setCell ⟨w.heap.size+1,0,none⟩ (.string n.op)).setCell ⟨w.heap.size+1,1,none⟩ (.string n.name)).setCell ⟨w.heap.size+1,2,none⟩ (.slice av n.ins.length cv)).setCell ⟨w.heap.size+1,3,none⟩ (.string n.out)).setCell ⟨w.heap.size+1,4,none⟩ (.slice aw k cw)) B n (.slice av n.ins.length cv) (.slice aw k cw) ts):=hid {
    ins:=hup hV.out
    len:=by rw [hTL.out];exact hkl2
    row:=by
     have h:=hup hRow.out
     rw [hkl2] at h ⊢
     rwa [List.take_length] at h
    att:=fun j a t h1 h2=>⟨hup (hAtt.out j a t h1 h2).od,hup (hAtt.out j a t h1 h2).ox,hup (hAtt.out j a t h1 h2).oi⟩ }
   have hFB:Hid (Below w.heap.size w (((((wr.setCell ⟨w.heap.size+1,0,none⟩ (.string n.op)).setCell ⟨w.heap.size+1,1,none⟩ (.string n.name)).setCell ⟨w.heap.size+1,2,none⟩ (.slice av n.ins.length cv)).setCell ⟨w.heap.size+1,3,none⟩ (.string n.out)).setCell ⟨w.heap.size+1,4,none⟩ (.slice aw k cw))):=hid (((((hBw.out.setCell (p:=⟨w.heap.size+1,0,none⟩) (by simp) _).setCell (p:=⟨w.heap.size+1,1,none⟩) (by simp) _).setCell (p:=⟨w.heap.size+1,2,none⟩) (by simp) _).setCell (p:=⟨w.heap.size+1,3,none⟩) (by simp) _).setCell (p:=⟨w.heap.size+1,4,none⟩) (by simp) _)
   have hBle:w.heap.size≤B:=by omega
   clear hup hP hkl2
   go_wp2_with fail
   refine bodyPost_ret (v:=.agg #[.string n.op,.string n.name,.slice av n.ins.length cv,.string n.out,.slice aw k cw]) (by simp [results,Tryz.f11,go_sem,s0,s1,s2,s3,s4]) rfl ?_
   exact ⟨_,_,rfl,⟨ts,hO.out.base hBle⟩,hFB.out⟩
end Go.Proofs.YtijhdmidffenbaaGreatDoor
