import Derived.Test.YtijhdmidffenbaaGreatDoorGrCim
import Derived.Test.YtijhdmidffenbaaGreatDoorSchCyim
import Derived.Test.YtijhdmidffenbaaGreatDoorRegim
open Go.Lib (hid)
set_option linter.unusedVariables false
set_option linter.unusedSimpArgs false
namespace Go.Proofs.YtijhdmidffenbaaGreatDoor
open Go.RowKit
theorem info_value:(Tryz.prog.info? 29).map (fun i=>(i.zero,i.size,i.bytes))=some (some (.agg #[.string ⟨#[]⟩,.int .i64 0,.slice none 0 0]),3,48):=by kernel_rfl
set_option maxRecDepth 100000 in
set_option maxHeartbeats 2000000 in
theorem copyvalues_any {w:World} {v:Value} {l:List Vl} (h:SlIn 3 rdValue w v l) :
  Calls Tryz.prog 12 #[v] w fun e w'=>∃ vv ds,e=.returned vv∧ValuesO w' w.heap.size l vv ds∧Below w.heap.size w w':=by
 obtain ⟨i0,hi,hz0,hz1,hz2⟩:=info_parts info_value
 have hll:=h.len
 obtain ⟨a1,c1,rfl⟩:=h.form
 have HN:=hid h
 clear h
 go_enter Tryz.func12,Tryz.ntmps12
 go_wp2
 go_loopw [3,4] (fun ov i wr=>∃ (k:Nat) (ds:List Value),k≤l.length∧i=.int .i64 (k:Int)∧Hid (ValuesO wr w.heap.size (l.take k) ov ds)∧Hid ((l.take k).length=k)∧Hid (Below w.heap.size w wr)) (fun _ i _=>l.length - (intOf i).toNat)
 case atStart=>exact ⟨0,[],Nat.zero_le _,rfl,hid ⟨rfl,World.ownsRow_nil _ _ _ _,by simp⟩,hid (by simp),hid (Below.refl _ _)⟩
 case round =>
  obtain ⟨k,ds,hk,rfl,hV,hL,hW⟩:=hrel
  by_cases hkl:k < l.length
  ·have hki:(k:Int) < (l.length:Int):=by omega
   obtain ⟨x,hx⟩:∃ x,l[k]?=some x:=⟨_,List.getElem?_eq_getElem hkl⟩
   obtain ⟨b,off,cap,vd,hv,hb,c0,c1',c2,h1,h2,h3⟩:=value_at HN.out hx
   obtain ⟨rfl,hle,rfl⟩:=Value.slice.inj hv
   clear hle hv
   have HX:=hid hx
   obtain ⟨ad,cd,rfl⟩:=h3.shape
   go_wp2_with fail
   have HS:Hid (∀ W',Below wr.heap.size wr W'→W'.cell? ⟨b,off+k * 3,none⟩=some (.string x.name)∧W'.cell? ⟨b,off+k * 3+1,none⟩=some (.int .i64 x.typ)∧W'.cell? ⟨b,off+k * 3+2,none⟩=some (.slice ad x.dims.length cd)):=hid fun W' h=>by
    have hB:=hW.out.trans (h.mono hW.out.size)
    exact ⟨(hB.cell (p:=⟨b,off+k * 3,none⟩) hb).trans c0,(hB.cell (p:=⟨b,off+k * 3+1,none⟩) hb).trans c1',(hB.cell (p:=⟨b,off+k * 3+2,none⟩) hb).trans c2⟩
   have HC:Hid (∀ W,Below wr.heap.size wr W→Calls Tryz.prog 37 #[.slice ad x.dims.length cd] W fun e w'=>∃ v',e=.returned v'∧w'.ownsRow W.heap.size 3 1 v' x.dims.length (x.dims.map (Value.int .i64))∧Below W.heap.size W w'):=hid fun W h=>rcopy_any (h3.below (hW.out.trans (h.mono hW.out.size)))
   refine wp_region_plan 19 [0,1,2,3,4,5,6,7,8,9,10,11,12,13,14,15,16,17,18] (fun W'=>Below wr.heap.size wr W') (by kernel_rfl) (by kernel_rfl) (fun _ d _ _ _ h=>by cases d<;>exact h) (Below.refl _ _).drew ?_
   have B0:Hid (Below wr.heap.size wr wr.drew):=hid (Below.refl _ _).drew
   generalize wr.drew=wD at B0 ⊢
   repeat
    refine plan_read (v:=?_) rfl rfl (Or.inl ⟨by rfl,?_⟩) ?_
    rotate_left
    ·intro w' hSw
     obtain ⟨s0,s1,s2⟩:=HS.out w' hSw
     go_simp
     try with_reducible rfl
    try simp only [Act.put,List.getElem_toArray,List.getElem_cons_zero,List.getElem_cons_succ,List.setIfInBounds_toArray,List.set_cons_zero,List.set_cons_succ]
   refine plan_act rfl rfl (fun K' hK=>?_)
   go_simp
   refine (HC.out _ B0.out).mono ?_
   rintro e w5 ⟨vd',rfl,ho5,B⟩
   obtain ⟨a5,c5,rfl⟩:=owns_form ho5
   have HO5:=hid ho5
   have B1:=hid (B0.out.trans (B.mono B0.out.size))
   refine hK.out _ _ B1.out ?_
   clear hK K' B ho5
   repeat
    refine plan_read (v:=?_) rfl rfl (Or.inl ⟨by rfl,?_⟩) ?_
    rotate_left
    ·intro w' hSw
     obtain ⟨s0,s1,s2⟩:=HS.out w' hSw
     go_simp
     try with_reducible rfl
    try simp only [Act.put,List.getElem_toArray,List.getElem_cons_zero,List.getElem_cons_succ,List.setIfInBounds_toArray,List.set_cons_zero,List.set_cons_succ]
   refine plan_act rfl rfl (fun K' hK=>?_)
   go_simp
   refine hK.out _ _ (B1.out.alloc B1.out.size _) ?_
   clear hK K'
   refine plan_tail rfl ?_
   simp only [List.toList_toArray,List.drop_succ_cons,List.drop_zero]
   have hlk:=hL.out
   have hs5:=B1.out.size
   have hsw:=hW.out.size
   have HV5:=hid (hV.out.below B1.out)
   go_wp2_with (at_builtin;refine wpList_append_own _ rfl _ _ 26 rfl w.heap.size 29 i0 (.agg #[.string ⟨#[]⟩,.int .i64 0,.slice none 0 0]) 3 48 Tryz.underlying26 hi hz0 hz1 hz2 rfl (by decide) _ _ _ rfl (HV5.out.row.alloc _) ⟨w5.heap.size,0,none⟩ 1 1 (#[.string x.name,.int .i64 x.typ,.slice a5 x.dims.length c5]:Array Value).toList rfl rfl (World.news_of_block (heap_alloc_new w5 _)) (by simp [Value.oneCell']) (by unfold maxLen;omega) (by omega) (by simp;omega) ?_)
   intro v' w6 hown' hgrow _
   obtain ⟨a6,c6,rfl⟩:=owns_form hown'
   have hx':=HX.out
   have hwD:=B0.out.size
   have hrE:Hid ((w5.alloc (.cells #[.string x.name,.int .i64 x.typ,.slice a5 x.dims.length c5] 29)).ownsRow w.heap.size 29 3 _ _ (rowV (l.take k) ds)):=hid (HV5.out.row.alloc _)
   have hBE:Below w5.heap.size w5 (w5.alloc (.cells #[.string x.name,.int .i64 x.typ,.slice a5 x.dims.length c5] 29)):=(Below.refl _ _).alloc (Nat.le_refl _) _
   have hT:l.take (k+1)=l.take k++[x]:=by rw [List.take_add_one,hx'];rfl
   have HV6:Hid (ValuesO w6 w.heap.size (l.take (k+1)) (.slice a6 (k+1) c6) (ds++[.slice a5 x.dims.length c5])):=hid {
    len:=by rw [hT,List.length_append,List.length_append,HV5.out.len];rfl
    row:=by
     rw [hT,rowV_snoc _ _ HV5.out.len.symm,List.length_append,hlk]
     exact hown'
    att:=fun j y d h1 h2=>by
     rw [hT] at h1
     by_cases hj:j < (l.take k).length
     ·rw [List.getElem?_append_left hj] at h1
      rw [List.getElem?_append_left (by rw [HV5.out.len];exact hj)] at h2
      exact (owns_below (HV5.out.att j y d h1 h2) hBE).kept hgrow (owns_apart (owns_below (HV5.out.att j y d h1 h2) hBE) hrE.out (by decide))
     ·rw [List.getElem?_append_right (by omega)] at h1
      rw [List.getElem?_append_right (by rw [HV5.out.len];omega),HV5.out.len] at h2
      have hj0:j - (l.take k).length=0:=by
       rcases Nat.eq_zero_or_pos (j - (l.take k).length) with h | h
       ·exact h
       ·rw [List.getElem?_eq_none (by simp;omega)] at h1;cases h1
      rw [hj0] at h1 h2
      obtain rfl:=Option.some.inj h1
      obtain rfl:=Option.some.inj h2
      have ho6:=owns_below (owns_base HO5.out (by omega:w.heap.size≤_)) hBE
      exact ho6.kept hgrow (owns_apart ho6 hrE.out (by decide)) }
   have HW6:Hid (Below w.heap.size w w6):=hid (((hW.out.trans (B1.out.mono hsw)).alloc (by omega) _).grown hgrow (by simp;omega) (fun g hg=>by have:=(hrE.out.lt g hg).1;omega))
   clear hown' hgrow hrE hBE hT
   go_wp2
   go_roundw
   case rel=>exact ⟨k+1,_,by omega,by go_num,HV6,hid (by rw [List.length_take];omega),HW6⟩
   case measure=>simp [intOf];omega
  ·have hki:¬ (k:Int) < (l.length:Int):=by omega
   obtain rfl:k=l.length:=by omega
   have HV:=hid (by have:=hV.out;rwa [List.take_length] at this:ValuesO wr w.heap.size l u3 ds)
   go_wp2
   go_ret
   exact ⟨_,rfl,⟨_,HV.out⟩,hW.out⟩
end Go.Proofs.YtijhdmidffenbaaGreatDoor
