import Derived.Test.YtijhdmidffenbaaGreatDoorInM2rm
open Go.Lib (hid)
set_option linter.unusedVariables false
set_option linter.unusedSimpArgs false
namespace Go.Proofs.YtijhdmidffenbaaGreatDoor
section
open Go.RowKit
set_option maxRecDepth 100000
theorem cntL_rng:∀ (l:List Int) (n:Int),1≤n→n≤65536→(∀ d ∈ l,1≤d)→0≤(cntLoop n l).1∧(cntLoop n l).1≤65536
 | [],n,h1,h2,_=>by unfold cntLoop;exact ⟨by omega,h2⟩
 | d :: l,n,h1,h2,h=>by
  unfold cntLoop;split
  ·decide
  ·rename_i g
   have hd:=h d (List.mem_cons_self ..);have:1≤n * d:=by
    have:=Int.mul_le_mul h1 hd (by decide) (by omega);omega
   exact cntL_rng l (n * d) this (by omega) (fun e he=>h e (List.mem_cons_of_mem _ he))
theorem cnt_rng (zs:List Int):0≤(cnt zs).1∧(cnt zs).1≤65536:=by
 unfold cnt;split
 ·decide
 ·rename_i g
  split
  ·decide
  ·refine cntL_rng zs 1 (by decide) (by decide) (fun d hd=>?_);have h2:¬ (decide (d < 1)=true):=fun c=>g (List.any_eq_true.2 ⟨d,hd,c⟩);simp at h2;omega
theorem cnt_inI (zs:List Int):InI (cnt zs).1:=by have:=cnt_rng zs;unfold InI;omega
attribute [local irreducible] cnt
set_option maxHeartbeats 1000000 in
theorem icount_any {w:World} {v:Value} {zs:List Int} (h:IntsIn w v zs) :
  Calls Tryz.prog 157 #[v] w fun e w'=>e=.returned (.int .i64 (cnt zs).1)∧Below w.heap.size w w':=by
 obtain ⟨a,c,rfl⟩:=h.shape;have HI:=hid h;clear h;go_enter Tryz.func157,Tryz.ntmps157
 go_wp2_with fail
 refine (count_any HI.out).mono ?_;rintro e w2 ⟨rfl,B2⟩;have HB2:=hid B2;clear B2;go_wp2
 go_ret
 exact ⟨rfl,HB2.out⟩
def flatP (n:Nd) (x:List Int):Option (List Int) :=
 if -(x.length:Int)≤intP n.attrs nmAxis 1∧intP n.attrs nmAxis 1≤(x.length:Int) then
  some [(cnt (x.take (if intP n.attrs nmAxis 1 < 0 then intP n.attrs nmAxis 1+x.length else intP n.attrs nmAxis 1).toNat)).1,(cnt (x.drop (if intP n.attrs nmAxis 1 < 0 then intP n.attrs nmAxis 1+x.length else intP n.attrs nmAxis 1).toNat)).1]
 else none
theorem flat_no {n:Nd} {x:List Int} {a:Int} (e:intP n.attrs nmAxis 1=a) (h:¬ (-(x.length:Int)≤a∧a≤(x.length:Int))):flatP n x=none:=by subst e;exact if_neg h
theorem flat_neg {n:Nd} {x:List Int} {a:Int} {k:Nat} (e:intP n.attrs nmAxis 1=a) (h:-(x.length:Int)≤a) (h0:a < 0) (hk:(k:Int)=a+x.length):flatP n x=some [(cnt (x.take k)).1,(cnt (x.drop k)).1]:=by
 subst e;unfold flatP;rw [if_pos ⟨h,by omega⟩,if_pos h0,←hk,Int.toNat_natCast]
theorem flat_pos {n:Nd} {x:List Int} {a:Int} {k:Nat} (e:intP n.attrs nmAxis 1=a) (h:a≤(x.length:Int)) (h0:¬ a < 0) (hk:(k:Int)=a):flatP n x=some [(cnt (x.take k)).1,(cnt (x.drop k)).1]:=by
 subst e;unfold flatP;rw [if_pos ⟨by omega,h⟩,if_neg h0,←hk,Int.toNat_natCast]
theorem ints_dropI {w:World} {a:Option Addr} {c k:Nat} {zs:List Int} (h:IntsIn w (.slice a zs.length c) zs) (hk:k≤zs.length):IntsIn w (.slice (if c=k then a else Option.map (fun x=>x.add k) a) (zs.length - k) (c - k)) (zs.drop k):=by
 generalize hv:Value.slice a zs.length c=v at h;cases h with
 | empty a0 cap=>simp only [List.drop_nil,List.length_nil,Nat.zero_sub];exact .empty _ _
 | row b off cap _ h0 hc hb hr hlen hw =>
  obtain ⟨rfl,-,rfl⟩:=Value.slice.inj hv;by_cases hkz:k=zs.length
  ·subst hkz;rw [List.drop_length,Nat.sub_self];exact .empty _ _
  ·have hne:c≠k:=by omega
   rw [if_neg hne,Option.map_some,add_some,show zs.length - k=(zs.drop k).length by rw [List.length_drop]];exact .row b (off+k) (c - k) (zs.drop k) (by intro e;have:=congrArg List.length e;simp at this;omega) (by rw [List.length_drop];omega) hb (fun j hj=>by
    rw [List.length_drop] at hj;have:=hr (k+j) (by omega);rw [←Nat.add_assoc] at this;rw [this];simp [List.getD,List.getElem?_drop]) (by rw [List.length_drop];omega) (fun z hz=>hw z (List.mem_of_mem_drop hz))
theorem row_box {W:World} {b B:Nat} {cs:Array Value} {zs:List Int} (h:BoxN W b cs 3) (hb:B≤b) (e:cs.toList=zs.map (Value.int .i64)) (hl:zs.length≤1000):RowI W B (.slice (some ⟨b,0,none⟩) zs.length zs.length) zs:=by
 have hs:cs.size=zs.length:=by rw [←Array.length_toList,e,List.length_map]
 refine ⟨by simp,.inr ⟨b,zs.length,cs,rfl,hb,h,Nat.le_refl _,?_,by omega,?_⟩⟩
 ·unfold maxLen;omega
 ·rw [e,Nat.mul_one,List.take_of_length_le (by simp)]
attribute [local irreducible] intP RowI flatP
set_option maxHeartbeats 4000000 in
theorem flatten_any {w:World} {v vx:Value} {n:Nd} {ins:List Vl} {x:List Int} (h:MkV w v n ins) (hx:IntsIn w vx x) :
  Calls Tryz.prog 134 #[v,vx] w fun e w'=>ResI w (flatP n x) e w':=by
 obtain ⟨i0,hi,hz0,hz1,hz2⟩:=info_parts info_int;obtain ⟨vin,vat,vv,rfl,hm⟩:=h;obtain ⟨a1,c1,rfl⟩:=hm.node.is.form;obtain ⟨a2,c2,rfl⟩:=hm.node.ia.form;obtain ⟨a3,c3,rfl⟩:=hm.ins.form;have HM:=hid hm;clear hm;obtain ⟨a4,c4,rfl⟩:=hx.shape;have hxl:=hx.wf.1;have hxc:=hx.capI.2;have HX:=hid hx;clear hx;have HY:=hid (fun (W:World)=>rule_yes W);have HNo:=hid (fun (W:World)=>rule_no W);have HB1:=hid ((Below.refl w.heap.size w).alloc (Nat.le_refl _) (Obj.cells #[.string n.op,.string n.name,.slice a1 n.ins.length c1,.string n.out,.slice a2 n.attrs.length c2,.slice a3 ins.length c3] 63));have HA1:=hid (BoxN.new w #[.string n.op,.string n.name,.slice a1 n.ins.length c1,.string n.out,.slice a2 n.attrs.length c2,.slice a3 ins.length c3] 63);go_enter Tryz.func134,Tryz.ntmps134
 go_wp2_with fail
 generalize World.alloc w (Obj.cells #[.string n.op,.string n.name,.slice a1 n.ins.length c1,.string n.out,.slice a2 n.attrs.length c2,.slice a3 ins.length c3] 63)=W1 at HB1 HA1 ⊢;refine (sint_any (n:=n) ⟨_,_,rfl,(HM.out.below HB1.out).node⟩ nmAxis 1).mono ?_;rintro e w2 ⟨rfl,B2⟩;have HB2:=hid (HB1.out.trans (B2.mono HB1.out.size));have hz:=int_okP (nm:=nmAxis) (other:=1) ⟨_,_,rfl,HM.out.node⟩ inI_one;obtain ⟨z,hze⟩:∃ z,intP n.attrs nmAxis 1=z:=⟨_,rfl⟩;rw [hze] at hz ⊢;have HZ:=hid hze;obtain ⟨y0,y1⟩:=hz;clear B2 hze HA1;by_cases h1:-(x.length:Int)≤z
 case neg =>
  have E:=hid (flat_no (x:=x) HZ.out (fun c=>h1 c.1));go_wp2_with fail
  refine (HNo.out _).mono ?_;rintro e w' ⟨rfl,rfl⟩;exact ⟨rfl,ResI.no E.out HB2.out⟩
 by_cases h2:z≤(x.length:Int)
 case neg =>
  have E:=hid (flat_no (x:=x) HZ.out (fun c=>h2 c.2));have hb:decide (z≤(x.length:Int))=false:=by simp;omega
  go_wp2_with fail
  refine (HNo.out _).mono ?_;rintro e w' ⟨rfl,rfl⟩;exact ⟨rfl,ResI.no E.out HB2.out⟩
 go_wp2_with fail
 refine (HY.out _).mono ?_;rintro e w' ⟨rfl,rfl⟩;by_cases h0:z < 0
 ·obtain ⟨k,hk⟩:∃ k:Nat,(k:Int)=z+x.length:=⟨(z+x.length).toNat,by omega⟩;have E:=hid (flat_neg HZ.out h1 h0 hk);have hkl:k≤x.length:=by omega
  have lk:k≤c4:=by omega
  go_wp2_with fail
  rw [←hk];clear hk h0 h1 h2 y0 y1 HZ;refine wp_region_plan 8 [0,1,2,4,5,6,3,7] (fun W'=>Below w'.heap.size w' W') (by kernel_rfl) (by kernel_rfl) (fun _ d _ _ _ h=>by cases d<;>exact h) (Below.refl _ _).drew ?_;have B0:Hid (Below w'.heap.size w' w'.drew):=hid (Below.refl _ _).drew;generalize w'.drew=wD at B0 ⊢
  repeat
   refine plan_read (v:=?_) rfl rfl (Or.inl ⟨by rfl,?_⟩) ?_;rotate_left
   ·intro W' hSw
    skip
    go_simp
    try with_reducible rfl
   try simp only [Act.put,List.getElem_toArray,List.getElem_cons_zero,List.getElem_cons_succ,List.setIfInBounds_toArray,List.set_cons_zero,List.set_cons_succ]
  refine plan_act rfl rfl (fun K' hK=>?_);go_simp
  have HBD:=hid (HB2.out.trans (B0.out.mono HB2.out.size));refine (icount_any ((HX.out.below HBD.out).take hkl)).mono ?_;rintro e w3 ⟨rfl,B3⟩;have HW3:=hid (B0.out.trans (B3.mono B0.out.size));clear B3;refine hK.out _ _ HW3.out ?_;clear hK K';refine plan_act rfl rfl (fun K' hK=>?_);go_simp
  have HBE:=hid (HB2.out.trans (HW3.out.mono HB2.out.size));refine (icount_any (ints_dropI (HX.out.below HBE.out) hkl)).mono ?_;rintro e w4 ⟨rfl,B4⟩;have HW4:=hid (HW3.out.trans (B4.mono HW3.out.size));clear B4;refine hK.out _ _ HW4.out ?_;clear hK K';have HBF:=hid (HB2.out.trans (HW4.out.mono HB2.out.size));generalize (cnt (x.take k)).1=q1 at *;generalize (cnt (x.drop k)).1=q2 at *;refine plan_tail rfl ?_;simp only [List.toList_toArray,List.drop_succ_cons,List.drop_zero];have HBG:=hid (HBF.out.alloc HBF.out.size (Obj.cells #[.int .i64 q1,.int .i64 q2] 3));have HRw:Hid (RowI (w4.alloc (Obj.cells #[.int .i64 q1,.int .i64 q2] 3)) w.heap.size (.slice (some ⟨w4.heap.size,0,none⟩) 2 2) [q1,q2]):=hid (row_box (zs:=[q1,q2]) (BoxN.new _ _ _) HBF.out.size rfl (by simp));go_wp2
  all_goals
   go_ret
   exact ResI.yes E.out HBG.out HRw.out
 ·obtain ⟨k,hk⟩:∃ k:Nat,(k:Int)=z:=⟨z.toNat,by omega⟩;have E:=hid (flat_pos HZ.out h2 h0 hk);have hkl:k≤x.length:=by omega
  have lk:k≤c4:=by omega
  have hb:decide (z < 0)=false:=by simp;omega
  go_wp2_with fail
  rw [←hk];clear hk h0 h1 h2 y0 y1 HZ hb;refine wp_region_plan 8 [0,1,2,4,5,6,3,7] (fun W'=>Below w'.heap.size w' W') (by kernel_rfl) (by kernel_rfl) (fun _ d _ _ _ h=>by cases d<;>exact h) (Below.refl _ _).drew ?_;have B0:Hid (Below w'.heap.size w' w'.drew):=hid (Below.refl _ _).drew;generalize w'.drew=wD at B0 ⊢
  repeat
   refine plan_read (v:=?_) rfl rfl (Or.inl ⟨by rfl,?_⟩) ?_;rotate_left
   ·intro W' hSw
    skip
    go_simp
    try with_reducible rfl
   try simp only [Act.put,List.getElem_toArray,List.getElem_cons_zero,List.getElem_cons_succ,List.setIfInBounds_toArray,List.set_cons_zero,List.set_cons_succ]
  refine plan_act rfl rfl (fun K' hK=>?_);go_simp
  have HBD:=hid (HB2.out.trans (B0.out.mono HB2.out.size));refine (icount_any ((HX.out.below HBD.out).take hkl)).mono ?_;rintro e w3 ⟨rfl,B3⟩;have HW3:=hid (B0.out.trans (B3.mono B0.out.size));clear B3;refine hK.out _ _ HW3.out ?_;clear hK K';refine plan_act rfl rfl (fun K' hK=>?_);go_simp
  have HBE:=hid (HB2.out.trans (HW3.out.mono HB2.out.size));refine (icount_any (ints_dropI (HX.out.below HBE.out) hkl)).mono ?_;rintro e w4 ⟨rfl,B4⟩;have HW4:=hid (HW3.out.trans (B4.mono HW3.out.size));clear B4;refine hK.out _ _ HW4.out ?_;clear hK K';have HBF:=hid (HB2.out.trans (HW4.out.mono HB2.out.size));generalize (cnt (x.take k)).1=q1 at *;generalize (cnt (x.drop k)).1=q2 at *;refine plan_tail rfl ?_;simp only [List.toList_toArray,List.drop_succ_cons,List.drop_zero];have HBG:=hid (HBF.out.alloc HBF.out.size (Obj.cells #[.int .i64 q1,.int .i64 q2] 3));have HRw:Hid (RowI (w4.alloc (Obj.cells #[.int .i64 q1,.int .i64 q2] 3)) w.heap.size (.slice (some ⟨w4.heap.size,0,none⟩) 2 2) [q1,q2]):=hid (row_box (zs:=[q1,q2]) (BoxN.new _ _ _) HBF.out.size rfl (by simp));go_wp2
  all_goals
   go_ret
   exact ResI.yes E.out HBG.out HRw.out
end
section
open Go.RowKit
set_option maxRecDepth 100000
def Sm (x:List Int):Prop:=x.length≤6∧∀ z ∈ x,1≤z∧z≤65536
theorem cntL_sm:∀ (l:List Int) (n:Int),1≤n→(∀ d ∈ l,1≤d)→(cntLoop n l).2=0→∀ d ∈ l,d≤65536
 | [],n,_,_,_,d,hd=>by cases hd
 | e :: l,n,h1,h,hz,d,hd=>by
  unfold cntLoop at hz;split at hz
  ·exact absurd hz (by decide)
  ·rename_i g
   have he:=h e (List.mem_cons_self ..);have hp:e≤n * e:=by
    have:=Int.mul_le_mul h1 (Int.le_refl e) (by omega) (by omega);omega
   rcases List.mem_cons.1 hd with rfl | hd
   ·omega
   ·exact cntL_sm l (n * e) (by omega) (fun x hx=>h x (List.mem_cons_of_mem _ hx)) hz d hd
theorem sm_of {x:List Int} (h:(cnt x).2=0):Sm x:=by
 unfold cnt at h;split at h
 ·exact absurd h (by decide)
 ·rename_i g
  split at h
  ·exact absurd h (by decide)
  ·rename_i gl
   have h1:∀ d ∈ x,1≤d:=fun d hd=>by
    have h2:¬ (decide (d < 1)=true):=fun c=>g (List.any_eq_true.2 ⟨d,hd,c⟩);simp at h2;omega
   exact ⟨by omega,fun d hd=>⟨h1 d hd,cntL_sm x 1 (by decide) h1 h d hd⟩⟩
theorem Sm.at {x:List Int} (h:Sm x) {k:Nat} (hk:k < x.length):1≤x.getD k 0∧x.getD k 0≤65536:=h.2 _ (getD_mem hk)
def nmPads:ByteArray:=⟨#[112,97,100,115]⟩
def padL (x p:List Int) (k:Nat):List Int:=(List.range x.length).map fun i=>if i < k then x.getD i 0+(p.getD i 0+p.getD (x.length+i) 0) else x.getD i 0
theorem padL_len (x p:List Int) (k:Nat):(padL x p k).length=x.length:=by simp [padL]
theorem padL_zero (x p:List Int):padL x p 0=x:=by
 unfold padL;apply List.ext_getElem (by simp);intro i h1 h2;simp [List.getD,List.getElem?_eq_getElem h2]
theorem padL_get {x p:List Int} {k:Nat} (hk:k < x.length):(padL x p k).getD k 0=x.getD k 0:=by
 unfold padL;simp [List.getD,hk]
theorem padL_next {x p:List Int} {k:Nat} (hk:k < x.length):(padL x p k).set k (x.getD k 0+(p.getD k 0+p.getD (x.length+k) 0))=padL x p (k+1):=by
 unfold padL;apply List.ext_getElem (by simp);intro i h1 h2;rw [List.getElem_set];simp only [List.getElem_map,List.getElem_range];by_cases e:k=i
 ·subst e;rw [if_pos rfl,if_pos (by omega)]
 ·rw [if_neg e];by_cases h:i < k
  ·rw [if_pos h,if_pos (by omega)]
  ·rw [if_neg h,if_neg (by omega)]
def padP (n:Nd) (x:List Int):Option (List Int):=match numsP (intsP n.attrs nmPads []) (2 * x.length) 0 65536 with | none=>none | some p=>some (padL x p x.length)
theorem pad_no {n:Nd} {x:List Int} (h:numsP (intsP n.attrs nmPads []) (2 * x.length) 0 65536=none):padP n x=none:=by unfold padP;rw [h]
theorem pad_yes {n:Nd} {x p:List Int} (h:numsP (intsP n.attrs nmPads []) (2 * x.length) 0 65536=some p):padP n x=some (padL x p x.length):=by unfold padP;rw [h]
theorem nums_props {l p:List Int} {count lo hi:Int} (h:numsP l count lo hi=some p):(p.length:Int)=count∧∀ z ∈ p,lo≤z∧z≤hi:=by
 unfold numsP at h;split at h
 ·rename_i g
  obtain rfl:=Option.some.inj h;refine ⟨g.2,fun z hz=>?_⟩;have:=List.all_eq_true.1 g.1 z hz
  simpa using this
 ·cases h
attribute [local irreducible] intsP numsP RowI padP padL
set_option maxHeartbeats 4000000 in
theorem pad_any {w:World} {v vx:Value} {n:Nd} {ins:List Vl} {x:List Int} (h:MkV w v n ins) (hx:IntsIn w vx x) (hsm:Sm x) :
  Calls Tryz.prog 131 #[v,vx] w fun e w'=>ResI w (padP n x) e w':=by
 obtain ⟨i0,hi,hz0,hz1,hz2⟩:=info_parts info_int;obtain ⟨vin,vat,vv,rfl,hm⟩:=h;obtain ⟨a1,c1,rfl⟩:=hm.node.is.form;obtain ⟨a2,c2,rfl⟩:=hm.node.ia.form;obtain ⟨a3,c3,rfl⟩:=hm.ins.form;have HM:=hid hm;clear hm;obtain ⟨a4,c4,rfl⟩:=hx.shape;have hxl:=hx.wf.1;have hxc:=hx.capI.2;have HX:=hid hx;clear hx;have HY:=hid (fun (W:World)=>rule_yes W);have HNo:=hid (fun (W:World)=>rule_no W);have HB1:=hid ((Below.refl w.heap.size w).alloc (Nat.le_refl _) (Obj.cells #[.string n.op,.string n.name,.slice a1 n.ins.length c1,.string n.out,.slice a2 n.attrs.length c2,.slice a3 ins.length c3] 63));have HA1:=hid (BoxN.new w #[.string n.op,.string n.name,.slice a1 n.ins.length c1,.string n.out,.slice a2 n.attrs.length c2,.slice a3 ins.length c3] 63);go_enter Tryz.func131,Tryz.ntmps131
 go_wp2_with fail
 generalize World.alloc w (Obj.cells #[.string n.op,.string n.name,.slice a1 n.ins.length c1,.string n.out,.slice a2 n.attrs.length c2,.slice a3 ins.length c3] 63)=W1 at HB1 HA1 ⊢;have hx6:=hsm.1;have HSm:=hid hsm;clear hsm HA1;refine (numbers_any (n:=n) ⟨_,_,rfl,(HM.out.below HB1.out).node⟩ nmPads (.empty none 0) _ 0 65536).mono ?_;rintro e w2 ⟨B2,hc⟩;have HB2:=hid (HB1.out.trans (B2.mono HB1.out.size));cases hp:numsP (intsP n.attrs nmPads []) (2 * x.length) 0 65536 with
 | none =>
  rw [hp] at hc;obtain rfl:e=brk 4:=hc;have E:=hid (pad_no hp);clear hp;exact ⟨rfl,ResI.no E.out HB2.out⟩
 | some p =>
  rw [hp] at hc;obtain ⟨v2,rfl,hr2⟩:∃ v,e=.returned v∧RowI w2 _ v p:=hc;have E:=hid (pad_yes hp);obtain ⟨hpl,hpr⟩:=nums_props hp;have HPr:=hid hpr;have hpl2:p.length=2 * x.length:=by omega
  have HI2:Hid (IntsIn w2 v2 p):=hid (hr2.ints (by omega) (fun z hz=>by have:=HPr.out z hz;unfold InI;omega));have HPL:=hid hpl2;obtain ⟨a5,c5,rfl⟩:=HI2.out.shape;clear hp hr2 hpr hpl hpl2 B2;go_wp2_with fail
  refine (Vb.clone_any (HX.out.below HB2.out)).mono ?_;rintro e w3 ⟨v3,rfl,hf3,B3⟩;have HB3:=hid (HB2.out.trans (B3.mono HB2.out.size));have HF3:=hid hf3;have HB23:=hid B3;have hsz:w.heap.size≤w2.heap.size:=HB2.out.size;obtain ⟨a6,c6,rfl⟩:=hf3.form;clear B3 hf3;go_wp2_with fail
  go_loopw [18] (fun i wr=>∃ (k:Nat),k≤x.length∧i=.int .i64 (k:Int)∧Hid (Vb.Fresh w2.heap.size wr (.slice a6 x.length c6) (padL x p k))∧Hid (Below w2.heap.size w2 wr)) (fun i _=>x.length - (intOf i).toNat)
  case atStart=>exact ⟨0,Nat.zero_le _,rfl,hid (by rw [padL_zero];exact HF3.out),HB23⟩
  case round =>
   obtain ⟨k,hk,rfl,hO,hW⟩:=hrel;by_cases hkz:k < x.length
   ·have hki:(k:Int) < (x.length:Int):=by omega
    have HNx:=hid (padL_next (p:=p) hkz);have hOD:=hO.out.below ((Below.refl wr.heap.size wr).drew);have hWD:Hid (Below w2.heap.size w2 wr.drew):=hid hW.out.drew;obtain ⟨g,hg,hgB,c0,z0,hst⟩:=hOD.at (padL_len x p k) hkz;subst hg;rw [padL_get hkz] at c0;have hx1:=HSm.out.at hkz;obtain ⟨bp,op',hbp,-,hbl,p0,-⟩:=ints_at (k:=k) HI2.out (by have:=HPL.out;omega);obtain ⟨bp',op'',hbp',-,-,p1,-⟩:=ints_at (k:=x.length+k) HI2.out (by have:=HPL.out;omega);subst hbp;obtain ⟨e1,e2⟩:bp=bp'∧op'=op'':=by simpa using hbp'
    subst e1 e2;clear hbp';have hp0:=HPr.out _ (getD_mem (zs:=p) (k:=k) (by have:=HPL.out;omega));have hp1:=HPr.out _ (getD_mem (zs:=p) (k:=x.length+k) (by have:=HPL.out;omega));have p0:=(hWD.out.cell (p:=⟨bp,op'+k,none⟩) hbl).trans p0;have p1:=(hWD.out.cell (p:=⟨bp,op'+(x.length+k),none⟩) hbl).trans p1;have hgl:g < wr.drew.heap.size:=cell_in c0;have hbl2:bp < wr.drew.heap.size:=cell_in p0;clear hOD;have HST:=hid (hst (x.getD k 0+(p.getD k 0+p.getD (x.length+k) 0)));clear hst;generalize x.getD k 0=q0 at *;generalize p.getD k 0=q1 at *;generalize p.getD (x.length+k) 0=q2 at *;rw [HNx.out] at HST;have hpl:p.length=2 * x.length:=HPL.out;rw [hpl];clear hpl;have w1:IntKind.i64.wrap ((x.length:Int)+(k:Int))=(x.length:Int)+(k:Int):=by rw [IntKind.wrap_i64];omega
    have w2':IntKind.i64.wrap (q1+q2)=q1+q2:=by rw [IntKind.wrap_i64];omega
    have w3':IntKind.i64.wrap (q0+(q1+q2))=q0+(q1+q2):=by rw [IntKind.wrap_i64];omega
    have b1:(0:Int)≤(k:Int)∧(k:Int) < (x.length:Int):=⟨by omega,by omega⟩;have b2:(0:Int)≤(k:Int)∧(k:Int) < 2 * (x.length:Int):=⟨by omega,by omega⟩;have b3:(0:Int)≤(x.length:Int)+(k:Int)∧(x.length:Int)+(k:Int) < 2 * (x.length:Int):=⟨by omega,by omega⟩;have tn:((x.length:Int)+(k:Int)).toNat=x.length+k:=by omega
    go_wp2_with fail
    refine wp_region_plan 17 [0,1,2,3,4,5,6,7,8,9,10,11,12,13,14,15,16] (fun W'=>Below wr.drew.heap.size wr.drew W') (by kernel_rfl) (by kernel_rfl) (fun _ d _ _ _ h=>by cases d<;>exact h) (Below.refl _ _) ?_;generalize wr.drew=wD at *
    repeat
     refine plan_read (v:=?_) rfl rfl (Or.inl ⟨by rfl,?_⟩) ?_;rotate_left
     ·intro W' hSw;have c0:=(hSw.cell (p:=⟨g,k,none⟩) hgl).trans c0;have p0:=(hSw.cell (p:=⟨bp,op'+k,none⟩) hbl2).trans p0;have p1:=(hSw.cell (p:=⟨bp,op'+(x.length+k),none⟩) hbl2).trans p1;go_simp
      try with_reducible rfl
     try simp only [Act.put,List.getElem_toArray,List.getElem_cons_zero,List.getElem_cons_succ,List.setIfInBounds_toArray,List.set_cons_zero,List.set_cons_succ]
    refine plan_tail rfl ?_;simp only [List.toList_toArray,List.drop_succ_cons,List.drop_zero];have hWS:Hid (Below w2.heap.size w2 (wD.setCell ⟨g,k,none⟩ (.int .i64 (q0+(q1+q2))))):=hid (hWD.out.setCell (p:=⟨g,k,none⟩) hgB _);go_wp2_with fail
    clear c0 p0 p1 z0;go_roundw
    case rel=>exact ⟨k+1,by omega,by go_num,HST,hWS⟩
    case measure=>simp [intOf];omega
   ·have hki:¬ (k:Int) < (x.length:Int):=by omega
    obtain rfl:k=x.length:=by omega
    have HBw:=hid (HB2.out.trans (hW.out.mono HB2.out.size));have HRw:Hid (RowI wr w.heap.size (.slice a6 x.length c6) (padL x p x.length)):=hid (by
     have h1:RowI wr w2.heap.size (.slice a6 x.length c6) (padL x p x.length):=by
      have:=hO.out;unfold RowI;exact this
     exact h1.base hsz)
    go_wp2
    go_ret
    exact ResI.yes E.out HBw.out HRw.out
end
section
open Go.RowKit
set_option maxRecDepth 100000
def turnP (n:Nd) (nm:ByteArray) (x:List Int):Option (List Int) :=
 if x.length=2∧(intP n.attrs nm 0=0∨intP n.attrs nm 0=1) then some (if intP n.attrs nm 0=1 then [x.getD 1 0,x.getD 0 0] else x) else none
theorem turn_no {n:Nd} {nm:ByteArray} {x:List Int} {z:Int} (e:intP n.attrs nm 0=z) (h:¬ (x.length=2∧(z=0∨z=1))):turnP n nm x=none:=by subst e;exact if_neg h
theorem turn_zero {n:Nd} {nm:ByteArray} {x:List Int} (e:intP n.attrs nm 0=0) (h:x.length=2):turnP n nm x=some x:=by
 unfold turnP;rw [e,if_pos ⟨h,Or.inl rfl⟩];rfl
theorem turn_one {n:Nd} {nm:ByteArray} {x:List Int} (e:intP n.attrs nm 0=1) (h:x.length=2):turnP n nm x=some [x.getD 1 0,x.getD 0 0]:=by
 unfold turnP;rw [e,if_pos ⟨h,Or.inr rfl⟩];rfl
theorem DimR.none {w w':World} {o:Option (List Int)} (h:o=none) (hB:Below w.heap.size w w'):DimR w (optO o) (brk 4) w':=by
 subst h;exact ⟨hB,Or.inl ⟨(show (4:Int)≠0 by decide),rfl⟩⟩
theorem DimR.some {w w':World} {o:Option (List Int)} {zs:List Int} {v:Value} (h:o=some zs) (hB:Below w.heap.size w w') (hi:IntsIn w' v zs):DimR w (optO o) (.returned v) w':=by
 subst h;exact ⟨hB,Or.inr ⟨rfl,v,rfl,hi⟩⟩
attribute [local irreducible] intP turnP
set_option maxHeartbeats 4000000 in
theorem turned_any {w:World} {v vx:Value} {n:Nd} {ins:List Vl} {x:List Int} (nm:ByteArray) (h:MkV w v n ins) (hx:IntsIn w vx x) :
  Calls Tryz.prog 123 #[v,.string nm,vx] w fun e w'=>DimR w (optO (turnP n nm x)) e w':=by
 obtain ⟨i0,hi,hz0,hz1,hz2⟩:=info_parts info_int;obtain ⟨vin,vat,vv,rfl,hm⟩:=h;obtain ⟨a1,c1,rfl⟩:=hm.node.is.form;obtain ⟨a2,c2,rfl⟩:=hm.node.ia.form;obtain ⟨a3,c3,rfl⟩:=hm.ins.form;have HM:=hid hm;clear hm;obtain ⟨a4,c4,rfl⟩:=hx.shape;have hxl:=hx.wf.1;have hxc:=hx.capI.2;have HX:=hid hx;clear hx;have HY:=hid (fun (W:World)=>rule_yes W);have HNo:=hid (fun (W:World)=>rule_no W);have HB1:=hid ((Below.refl w.heap.size w).alloc (Nat.le_refl _) (Obj.cells #[.string n.op,.string n.name,.slice a1 n.ins.length c1,.string n.out,.slice a2 n.attrs.length c2,.slice a3 ins.length c3] 63));have HA1:=hid (BoxN.new w #[.string n.op,.string n.name,.slice a1 n.ins.length c1,.string n.out,.slice a2 n.attrs.length c2,.slice a3 ins.length c3] 63);go_enter Tryz.func123,Tryz.ntmps123
 go_wp2_with fail
 generalize World.alloc w (Obj.cells #[.string n.op,.string n.name,.slice a1 n.ins.length c1,.string n.out,.slice a2 n.attrs.length c2,.slice a3 ins.length c3] 63)=W1 at HB1 HA1 ⊢;refine (sint_any (n:=n) ⟨_,_,rfl,(HM.out.below HB1.out).node⟩ nm 0).mono ?_;rintro e w2 ⟨rfl,B2⟩;have HB2:=hid (HB1.out.trans (B2.mono HB1.out.size));obtain ⟨z,hze⟩:∃ z,intP n.attrs nm 0=z:=⟨_,rfl⟩;rw [hze];have HZ:=hid hze;clear B2 hze HA1;by_cases h1:x.length=2
 case neg =>
  have E:=hid (turn_no (nm:=nm) (x:=x) HZ.out (fun c=>h1 c.1));have hb:((x.length:Int)==2)=false:=by simp;omega
  clear h1;go_wp2_with fail
  refine (HNo.out _).mono ?_;rintro e w' ⟨rfl,rfl⟩;exact ⟨rfl,DimR.none E.out HB2.out⟩
 have HL:=hid h1;have hb:((x.length:Int)==2)=true:=by simp;omega
 by_cases h0:z=0
 ·subst h0;have E:=hid (turn_zero (nm:=nm) (x:=x) HZ.out h1);clear h1;go_wp2_with fail
  refine (HY.out _).mono ?_;rintro e w' ⟨rfl,rfl⟩;go_wp2
  go_ret
  exact DimR.some E.out HB2.out (HX.out.below HB2.out)
 have hb0:(z==0)=false:=by simpa using h0
 by_cases hz1:z=1
 case neg =>
  have E:=hid (turn_no (nm:=nm) (x:=x) HZ.out (fun c=>c.2.elim h0 hz1));have hbb:(z==1)=false:=by simpa using hz1
  clear h1 hz1 h0;go_wp2_with fail
  refine (HNo.out _).mono ?_;rintro e w' ⟨rfl,rfl⟩;exact ⟨rfl,DimR.none E.out HB2.out⟩
 subst hz1;have E:=hid (turn_one (nm:=nm) (x:=x) HZ.out h1);obtain ⟨bx,ox,hax,-,hbx,x0,i0'⟩:=ints_at (k:=0) HX.out (by omega);subst hax;obtain ⟨bx',ox',e1,-,-,x1,i1'⟩:=ints_at (k:=1) HX.out (by omega);obtain ⟨e2,e3⟩:bx=bx'∧ox=ox':=by simpa using e1
 subst e2 e3;have HIn:=hid (And.intro i0' i1');clear e1 i0' i1';have x0:=(HB2.out.cell (p:=⟨bx,ox+0,none⟩) hbx).trans x0;have x1:=(HB2.out.cell (p:=⟨bx,ox+1,none⟩) hbx).trans x1;rw [Nat.add_zero] at x0;rw [h1];have hbx:bx < w2.heap.size:=cell_in x0;clear h1 hb h0;generalize x.getD 0 0=q0 at *;generalize x.getD 1 0=q1 at *;go_wp2_with fail
 refine (HY.out _).mono ?_;rintro e w' ⟨rfl,rfl⟩;go_wp2_with fail
 refine wp_region_plan 6 [0,1,2,3,4,5] (fun W'=>Below w'.heap.size w' W') (by kernel_rfl) (by kernel_rfl) (fun _ d _ _ _ h=>by cases d<;>exact h) (Below.refl _ _).drew ?_;have B0:Hid (Below w'.heap.size w' w'.drew):=hid (Below.refl _ _).drew;generalize w'.drew=wD at B0 ⊢
 repeat
  refine plan_read (v:=?_) rfl rfl (Or.inl ⟨by rfl,?_⟩) ?_;rotate_left
  ·intro W' hSw;have x0:=(hSw.cell (p:=⟨bx,ox,none⟩) hbx).trans x0;have x1:=(hSw.cell (p:=⟨bx,ox+1,none⟩) hbx).trans x1;go_simp
   try with_reducible rfl
  try simp only [Act.put,List.getElem_toArray,List.getElem_cons_zero,List.getElem_cons_succ,List.setIfInBounds_toArray,List.set_cons_zero,List.set_cons_succ]
 refine plan_tail rfl ?_;simp only [List.toList_toArray,List.drop_succ_cons,List.drop_zero];have HBD:=hid (HB2.out.trans (B0.out.mono HB2.out.size));have HBF:=hid (HBD.out.alloc HBD.out.size (Obj.cells #[.int .i64 q1,.int .i64 q0] 3));have HRw:Hid (IntsIn (wD.alloc (Obj.cells #[.int .i64 q1,.int .i64 q0] 3)) (.slice (some ⟨wD.heap.size,0,none⟩) 2 2) [q1,q0]):=hid ((row_box (zs:=[q1,q0]) (BoxN.new wD _ _) (Nat.le_refl _) rfl (by simp)).ints (by simp) (fun z hz=>by simp at hz;rcases hz with rfl | rfl;exact HIn.out.2;exact HIn.out.1));go_wp2
 go_ret
 exact DimR.some E.out HBF.out HRw.out
end
section
open Go.RowKit
set_option maxRecDepth 100000
theorem equalI_any {w:World} {u v:Value} {xs ys:List Int} (h1:IntsIn w u xs) (h2:IntsIn w v ys) :
  Calls Tryz.prog 73 #[u,v] w fun e w'=>e=.returned (.bool (decide (xs=ys)))∧Below w.heap.size w w':=by
 have hl1:=h1.wf.1;have hl2:=h2.wf.1;cases h1 with
 | empty a0 c0 =>
  obtain ⟨a3,c3,rfl⟩:=h2.form;refine (Tryz.slices_Equal_int_empty a0 a3 c0 ys.length c3 w (by omega)).mono ?_;rintro e w' ⟨rfl,rfl⟩;refine ⟨ret_val (bool_val ?_),Below.refl _ _⟩;cases ys<;>simp
 | row b1 o1 c1 _ n0 hc hb hr hlen hw =>
  cases h2 with
  | empty a0 c0 =>
   refine (Tryz.slices_Equal_int_lens (some ⟨b1,o1,none⟩) a0 xs.length c1 0 c0 w (by intro e;exact n0 (List.eq_nil_of_length_eq_zero e))).mono ?_;rintro e w' ⟨rfl,rfl⟩;exact ⟨ret_val (bool_val (decide_eq_false n0).symm),Below.refl _ _⟩
  | row b2 o2 c2 _ n0' hc' hb' hr' hlen' hw' =>
   refine (Tryz.slices_Equal_int b1 o1 xs.length c1 b2 o2 ys.length c2 xs ys w (Nat.le_refl _) (Nat.le_refl _) (by omega) (by omega) hr hr').mono ?_;rintro e w' ⟨rfl,q,rfl⟩;refine ⟨ret_val (bool_val ?_),below_drewN (Below.refl _ _) q⟩;rw [List.take_length,List.take_length];by_cases e:xs=ys
   ·simp [e]
   ·simp [e]
def nmTA:ByteArray:=⟨#[116,114,97,110,115,65]⟩
def nmTB:ByteArray:=⟨#[116,114,97,110,115,66]⟩
def gemmZ (o:Int × List Int) (z:Option (List Int)):Int × List Int :=
 if o.1≠0 then (o.1,[]) else match z with
  | none=>(0,o.2)
  | some c=>if (Vb.bcO c o.2).1≠0 then ((Vb.bcO c o.2).1,[]) else if (Vb.bcO c o.2).2=o.2 then (0,o.2) else (4,[])
def gemmO (n:Nd) (x y:List Int) (z:Option (List Int)):Int × List Int :=
 match turnP n nmTA x with
 | none=>(4,[])
 | some a=>match turnP n nmTB y with
  | none=>(4,[])
  | some b=>gemmZ (productP a b) z
theorem gemm_a {n:Nd} {x y:List Int} {z:Option (List Int)} (h:turnP n nmTA x=none):gemmO n x y z=(4,[]):=by unfold gemmO;rw [h]
theorem gemm_b {n:Nd} {x y a:List Int} {z:Option (List Int)} (h:turnP n nmTA x=some a) (g:turnP n nmTB y=none):gemmO n x y z=(4,[]):=by unfold gemmO;rw [h];simp only [];rw [g]
theorem gemm_p {n:Nd} {x y a b:List Int} {z:Option (List Int)} (h:turnP n nmTA x=some a) (g:turnP n nmTB y=some b):gemmO n x y z=gemmZ (productP a b) z:=by unfold gemmO;rw [h];simp only [];rw [g]
theorem zip_bad {o:Int × List Int} {z:Option (List Int)} (h:o.1≠0):gemmZ o z=(o.1,[]):=if_pos h
theorem zip_two {o:Int × List Int} (h:o.1=0):gemmZ o none=(0,o.2):=if_neg (fun c=>c h)
theorem zip_bc {o:Int × List Int} {c:List Int} (h:o.1=0) (g:(Vb.bcO c o.2).1≠0):gemmZ o (some c)=((Vb.bcO c o.2).1,[]):=by
 unfold gemmZ;rw [if_neg (fun c=>c h)];exact if_pos g
theorem zip_no {o:Int × List Int} {c:List Int} (h:o.1=0) (g:(Vb.bcO c o.2).1=0) (k:(Vb.bcO c o.2).2≠o.2):gemmZ o (some c)=(4,[]):=by
 unfold gemmZ;rw [if_neg (fun c=>c h)];simp only [];rw [if_neg (fun c=>c g)];exact if_neg k
theorem zip_yes {o:Int × List Int} {c:List Int} (h:o.1=0) (g:(Vb.bcO c o.2).1=0) (k:(Vb.bcO c o.2).2=o.2):gemmZ o (some c)=(0,o.2):=by
 unfold gemmZ;rw [if_neg (fun c=>c h)];simp only [];rw [if_neg (fun c=>c g)];exact if_pos k
theorem dim_at {w:World} {a:Option Addr} {c j:Nat} {x:Vl} {ins:List Vl} (h:SlIn 3 rdValue w (.slice a ins.length c) ins) (hi:ins[j]?=some x):∃ b off vd,a=some ⟨b,off,none⟩∧b < w.heap.size∧w.cell? ⟨b,off+j * 3+2,none⟩=some vd∧IntsIn w vd x.dims:=by
 obtain ⟨b,off,cap,vd,hv,hb,_,_,c2,_,_,hd⟩:=value_at h (j:=j) (x:=x) hi;obtain ⟨rfl,-,-⟩:=Value.slice.inj hv;exact ⟨b,off,vd,rfl,hb,c2,hd⟩
attribute [local irreducible] intP turnP productP Vb.bcO gemmO gemmZ RowI
set_option maxHeartbeats 16000000 in
theorem gemm_any {w:World} {v:Value} {n:Nd} {ins:List Vl} {x y:Vl} {z:Option Vl} (h:MkV w v n ins) (hx:ins[0]?=some x) (hy:ins[1]?=some y) (hz:ins[2]?=z) (hl:ins.length≤3) :
  Calls Tryz.prog 70 #[v] w fun e w'=>DimR w (gemmO n x.dims y.dims (z.map Vl.dims)) e w':=by
 obtain ⟨i0,hi,hz0,hz1,hz2⟩:=info_parts info_int;obtain ⟨vin,vat,vv,rfl,hm⟩:=h;obtain ⟨a1,c1,rfl⟩:=hm.node.is.form;obtain ⟨a2,c2,rfl⟩:=hm.node.ia.form;obtain ⟨a3,c3,rfl⟩:=hm.ins.form;have HM:=hid hm;clear hm;have HY:=hid (fun (W:World)=>rule_yes W);have HNo:=hid (fun (W:World)=>rule_no W);obtain ⟨bx,ox,vd,hax,hbx,x2,hd⟩:=dim_at HM.out.ins hx;subst hax;obtain ⟨by',oy,ve,hay,-,y2,he⟩:=dim_at HM.out.ins hy;obtain ⟨e1,e2⟩:bx=by'∧ox=oy:=by simpa using hay
 subst e1 e2;clear hay;rw [Nat.zero_mul,Nat.add_zero] at x2;rw [Nat.one_mul] at y2;have hlen:1 < ins.length:=(List.getElem?_eq_some_iff.1 hy).1;have hlen0:0 < ins.length:=by omega
 have hlen1:(1:Int) < (ins.length:Int):=by omega
 have HD:=hid hd;have HE:=hid he;have HZ:=hid hz;obtain ⟨ad,cd,rfl⟩:=hd.shape;obtain ⟨ae,ce,rfl⟩:=he.shape;clear hd he hx hy hz;have HB1:=hid ((Below.refl w.heap.size w).alloc (Nat.le_refl _) (Obj.cells #[.string n.op,.string n.name,.slice a1 n.ins.length c1,.string n.out,.slice a2 n.attrs.length c2,.slice (some ⟨bx,ox,none⟩) ins.length c3] 63));have HA1:=hid (BoxN.new w #[.string n.op,.string n.name,.slice a1 n.ins.length c1,.string n.out,.slice a2 n.attrs.length c2,.slice (some ⟨bx,ox,none⟩) ins.length c3] 63);go_enter Tryz.func70,Tryz.ntmps70
 go_wp2_with fail
 generalize World.alloc w (Obj.cells #[.string n.op,.string n.name,.slice a1 n.ins.length c1,.string n.out,.slice a2 n.attrs.length c2,.slice (some ⟨bx,ox,none⟩) ins.length c3] 63)=W1 at HB1 HA1 ⊢;refine wp_region_plan 14 [0,1,2,3,4,5,7,8,9,10,11,12,6,13] (fun W'=>Below W1.heap.size W1 W') (by kernel_rfl) (by kernel_rfl) (fun _ d _ _ _ h=>by cases d<;>exact h) (Below.refl _ _).drew ?_;have B0:Hid (Below W1.heap.size W1 W1.drew):=hid (Below.refl _ _).drew;generalize W1.drew=wD at B0 ⊢;have HF:Hid (∀ W',Below W1.heap.size W1 W'→BoxN W' w.heap.size #[.string n.op,.string n.name,.slice a1 n.ins.length c1,.string n.out,.slice a2 n.attrs.length c2,.slice (some ⟨bx,ox,none⟩) ins.length c3] 63 ∧ W'.cell? ⟨bx,ox+2,none⟩=some (.slice ad x.dims.length cd)∧W'.cell? ⟨bx,ox+3+2,none⟩=some (.slice ae y.dims.length ce)):=hid fun W' hB=>⟨HA1.out.below' hB,((HB1.out.trans (hB.mono HB1.out.size)).cell (p:=⟨bx,ox+2,none⟩) hbx).trans x2,((HB1.out.trans (hB.mono HB1.out.size)).cell (p:=⟨bx,ox+3+2,none⟩) hbx).trans y2⟩;have HMk:Hid (∀ W,Below W1.heap.size W1 W→MkV W (.agg #[.string n.op,.string n.name,.slice a1 n.ins.length c1,.string n.out,.slice a2 n.attrs.length c2,.slice (some ⟨bx,ox,none⟩) ins.length c3]) n ins):=hid fun W hB=>⟨_,_,_,rfl,HM.out.below (HB1.out.trans (hB.mono HB1.out.size))⟩;have HBw:Hid (∀ W,Below W1.heap.size W1 W→Below w.heap.size w W):=hid fun W hB=>HB1.out.trans (hB.mono HB1.out.size)
 repeat
  refine plan_read (v:=?_) rfl rfl (Or.inl ⟨by rfl,?_⟩) ?_;rotate_left
  ·intro W' hSw;obtain ⟨hb6,x2,y2⟩:=HF.out W' hSw;obtain ⟨k0,k1,k2,k3,k4,k5⟩:=hb6.six;go_simp
   try with_reducible rfl
  try simp only [Act.put,List.getElem_toArray,List.getElem_cons_zero,List.getElem_cons_succ,List.setIfInBounds_toArray,List.set_cons_zero,List.set_cons_succ]
 refine plan_act rfl rfl (fun K' hK=>?_);go_simp
 refine (turned_any nmTA (HMk.out _ B0.out) (HD.out.below (HBw.out _ B0.out))).mono ?_;rintro e w2 ⟨B2,hc⟩;have HB2:=hid (B0.out.trans (B2.mono B0.out.size));cases hta:turnP n nmTA x.dims with
 | none =>
  rw [hta] at hc;rcases hc with ⟨-,rfl⟩ | ⟨h0,-⟩
  ·exact ⟨rfl,HBw.out _ HB2.out,Or.inl ⟨by rw [gemm_a hta];decide,by rw [gemm_a hta];rfl⟩⟩
  ·exact absurd h0 (show ¬ ((4:Int)=0) by decide)
 | some pa =>
 rw [hta] at hc;rcases hc with ⟨h0,-⟩ | ⟨-,v2,rfl,hi2⟩
 ·exact absurd rfl h0
 have HTa:=hid hta;have HI2:Hid (IntsIn w2 v2 pa):=hid hi2;obtain ⟨a5,c5,rfl⟩:=HI2.out.shape;clear hta B2 hi2;refine hK.out _ _ HB2.out ?_;clear hK K';refine plan_act rfl rfl (fun K' hK=>?_);go_simp
 refine (turned_any nmTB (HMk.out _ HB2.out) (HE.out.below (HBw.out _ HB2.out))).mono ?_;rintro e w3 ⟨B3,hc⟩;have HB3:=hid (HB2.out.trans (B3.mono HB2.out.size));cases htb:turnP n nmTB y.dims with
 | none =>
  rw [htb] at hc;rcases hc with ⟨-,rfl⟩ | ⟨h0,-⟩
  ·exact ⟨rfl,HBw.out _ HB3.out,Or.inl ⟨by rw [gemm_b HTa.out htb];decide,by rw [gemm_b HTa.out htb];rfl⟩⟩
  ·exact absurd h0 (show ¬ ((4:Int)=0) by decide)
 | some pb =>
 rw [htb] at hc;rcases hc with ⟨h0,-⟩ | ⟨-,v3,rfl,hi3⟩
 ·exact absurd rfl h0
 have HG:=hid (gemm_p (z:=z.map Vl.dims) HTa.out htb);have HI3:Hid (IntsIn w3 v3 pb):=hid hi3;have HI23:=hid (HI2.out.below B3);obtain ⟨a6,c6,rfl⟩:=HI3.out.shape;clear htb B3 hi3 HI2;refine hK.out _ _ HB3.out ?_;clear hK K';refine plan_tail rfl ?_;simp only [List.toList_toArray,List.drop_succ_cons,List.drop_zero];go_wp2_with fail
 refine (product_any HI23.out HI3.out).mono ?_;rintro e w4 hR;have hX:DimR w3 (productP pa pb) e w4:=hR.dim (Below.refl _ _) (fun h0=>product_len h0 HI23.out.wf.1 HI3.out.wf.1) (product_inI HI23.out.wf.2 HI3.out.wf.2);obtain ⟨B4,hc⟩:=hX;clear hR;have HB4:=hid (HB3.out.trans (B4.mono HB3.out.size));rcases hc with ⟨h0,rfl⟩ | ⟨h0,v4,rfl,hi4⟩
 ·have E:=hid (HG.out.trans (zip_bad h0));exact ⟨rfl,HBw.out _ HB4.out,Or.inl ⟨by rw [E.out];exact h0,by rw [E.out]⟩⟩
 have HI4:=hid hi4;have HP0:=hid h0;obtain ⟨a7,c7,rfl⟩:=HI4.out.shape;clear B4 hi4 h0;obtain ⟨hb6,x2,y2⟩:=HF.out _ HB4.out;obtain ⟨k0,k1,k2,k3,k4,k5⟩:=hb6.six;cases z with
 | none =>
  have hl3:((ins.length:Int)==3)=false:=by
   have:=List.getElem?_eq_none_iff.1 HZ.out;simp;omega
  have E:=hid (HG.out.trans (zip_two HP0.out));go_wp2
  go_ret
  exact ⟨HBw.out _ HB4.out,Or.inr ⟨by rw [show (Option.map Vl.dims none:Option (List Int))=none from rfl] at E;rw [show (Option.map Vl.dims none:Option (List Int))=none from rfl,E.out],_,rfl,by rw [show (Option.map Vl.dims none:Option (List Int))=none from rfl] at E;rw [show (Option.map Vl.dims none:Option (List Int))=none from rfl,E.out];exact HI4.out⟩⟩
 | some zz =>
  have hl3':=(List.getElem?_eq_some_iff.1 HZ.out).1;have hl3:((ins.length:Int)==3)=true:=by simp;omega
  have hl4:2 < ins.length:=by omega
  obtain ⟨bz,oz,vz,haz,hbz,z2,hzd⟩:=dim_at HM.out.ins HZ.out;obtain ⟨e1,e2⟩:bx=bz∧ox=oz:=by simpa using haz
  subst e1 e2;have HZD:=hid (hzd.below (HBw.out _ HB4.out));have z2:=((HBw.out _ HB4.out).cell (p:=⟨bx,ox+2 * 3+2,none⟩) hbx).trans z2;obtain ⟨az,cz,rfl⟩:=hzd.shape;clear haz hzd x2 y2 hbz hl3';have HG:Hid (gemmO n x.dims y.dims (some zz.dims)=gemmZ (productP pa pb) (some zz.dims)):=HG;go_wp2_with fail
  clear k0 k1 k2 k3 k4 k5 z2;refine (spread_any HZD.out HI4.out).mono ?_;rintro e w5 hR;have hX:DimR w4 (Vb.bcO zz.dims (productP pa pb).2) e w5:=hR.dim (Below.refl _ _) (fun h0=>by have:=bc_len h0;have:=HZD.out.wf.1;have:=HI4.out.wf.1;omega) (bc_inI HZD.out.wf.2 HI4.out.wf.2);obtain ⟨B5,hc⟩:=hX;clear hR;have HB5:=hid (HB4.out.trans (B5.mono HB4.out.size));rcases hc with ⟨h0,rfl⟩ | ⟨h0,v5,rfl,hi5⟩
  ·have E:=hid (HG.out.trans (zip_bc HP0.out h0));exact ⟨rfl,HBw.out _ HB5.out,Or.inl ⟨by show (gemmO n x.dims y.dims (some zz.dims)).1≠0;rw [E.out];exact h0,by show _=brk (gemmO n x.dims y.dims (some zz.dims)).1;rw [E.out]⟩⟩
  have HI5:=hid hi5;have HI45:=hid (HI4.out.below B5);have HQ0:=hid h0;obtain ⟨a8,c8,rfl⟩:=HI5.out.shape;clear B5 hi5 h0;go_wp2_with fail
  refine (equalI_any HI5.out HI45.out).mono ?_;rintro e w6 ⟨rfl,B6⟩;have HB6:=hid (HB5.out.trans (B6.mono HB5.out.size));have HI46:=hid (HI45.out.below B6);clear B6;by_cases hq:(Vb.bcO zz.dims (productP pa pb).2).2=(productP pa pb).2
  ·have E:=hid (HG.out.trans (zip_yes HP0.out HQ0.out hq));rw [decide_eq_true hq];clear hq;go_wp2_with fail
   refine (HY.out _).mono ?_;rintro e w' ⟨rfl,rfl⟩;go_wp2
   go_ret
   exact ⟨HBw.out _ HB6.out,Or.inr ⟨by show (gemmO n x.dims y.dims (some zz.dims)).1=0;rw [E.out],_,rfl,by show IntsIn _ _ (gemmO n x.dims y.dims (some zz.dims)).2;rw [E.out];exact HI46.out⟩⟩
  ·have E:=hid (HG.out.trans (zip_no HP0.out HQ0.out hq));rw [decide_eq_false hq];clear hq;go_wp2_with fail
   refine (HNo.out _).mono ?_;rintro e w' ⟨rfl,rfl⟩;exact ⟨rfl,HBw.out _ HB6.out,Or.inl ⟨by show (gemmO n x.dims y.dims (some zz.dims)).1≠0;rw [E.out];decide,by show _=brk (gemmO n x.dims y.dims (some zz.dims)).1;rw [E.out]⟩⟩
end
section
open Go.RowKit
set_option maxRecDepth 100000
def sizeP (x k s p d:List Int) (i:Nat):Option Int :=
 if 0≤x.getD (2+i) 0+p.getD i 0+p.getD (2+i) 0 - d.getD i 0 * (k.getD i 0 - 1) - 1 then
  some ((x.getD (2+i) 0+p.getD i 0+p.getD (2+i) 0 - d.getD i 0 * (k.getD i 0 - 1) - 1) / s.getD i 0+1) else none
set_option maxHeartbeats 8000000 in
theorem size_any {w:World} {i:Nat} (hi:i < 2) {Ax Ap Ad Ak As:Addr} {vx vp vd vk vs:Value} {x p d k s:List Int}
  (cx:w.cell? Ax=some vx) (cp:w.cell? Ap=some vp) (cd:w.cell? Ad=some vd) (ck:w.cell? Ak=some vk) (cs:w.cell? As=some vs)
  (hx:IntsIn w vx x) (hp:IntsIn w vp p) (hd:IntsIn w vd d) (hk:IntsIn w vk k) (hs:IntsIn w vs s)
  (lx:x.length=4) (lp:p.length=4) (ld:d.length=2) (lk:k.length=2) (ls:s.length=2)
  (bx:∀ z ∈ x,1≤z∧z≤65536) (bp:∀ z ∈ p,0≤z∧z≤100) (bd:∀ z ∈ d,1≤z∧z≤100) (bk:∀ z ∈ k,1≤z∧z≤65536) (bs:∀ z ∈ s,1≤z∧z≤100) :
  Calls Tryz.prog 156 #[.int .i64 (i:Int),.pointer (some Ax),.pointer (some Ap),.pointer (some Ad),.pointer (some Ak),.pointer (some As)] w fun e w'=>AxisR (sizeP x k s p d i) e∧Below w.heap.size w w':=by
 have HY:=hid (fun (W:World)=>rule_yes W);have HNo:=hid (fun (W:World)=>rule_no W);obtain ⟨yx,cx',rfl⟩:=hx.shape;obtain ⟨bx',ox,hax,-,gx,ux,-⟩:=ints_at (k:=2+i) hx (by omega);subst hax;have rx:=bx _ (getD_mem (zs:=x) (k:=2+i) (by omega));obtain ⟨yp,cp',rfl⟩:=hp.shape;obtain ⟨bp',op,hap,-,gp,up,-⟩:=ints_at (k:=i) hp (by omega);subst hap;have rp:=bp _ (getD_mem (zs:=p) (k:=i) (by omega));obtain ⟨yd,cd',rfl⟩:=hd.shape;obtain ⟨bd',od,had,-,gd,ud,-⟩:=ints_at (k:=i) hd (by omega);subst had;have rd:=bd _ (getD_mem (zs:=d) (k:=i) (by omega));obtain ⟨yk,ck',rfl⟩:=hk.shape;obtain ⟨bk',ok,hak,-,gk,uk,-⟩:=ints_at (k:=i) hk (by omega);subst hak;have rk:=bk _ (getD_mem (zs:=k) (k:=i) (by omega));obtain ⟨ys,cs',rfl⟩:=hs.shape;obtain ⟨bs',os,has,-,gs,us,-⟩:=ints_at (k:=i) hs (by omega);subst has;have rs:=bs _ (getD_mem (zs:=s) (k:=i) (by omega));obtain ⟨bp'',op'',hap,-,-,up2,-⟩:=ints_at (k:=2+i) hp (by omega);obtain ⟨e1,e2⟩:bp'=bp''∧op=op'':=by simpa using hap
 subst e1 e2;clear hap;have rp2:=bp _ (getD_mem (zs:=p) (k:=2+i) (by omega));rw [lx] at cx;rw [lp] at cp;rw [ld] at cd;rw [lk] at ck;rw [ls] at cs;have E:Hid (sizeP x k s p d i=if 0≤x.getD (2+i) 0+p.getD i 0+p.getD (2+i) 0 - d.getD i 0 * (k.getD i 0 - 1) - 1 then
  some ((x.getD (2+i) 0+p.getD i 0+p.getD (2+i) 0 - d.getD i 0 * (k.getD i 0 - 1) - 1) / s.getD i 0+1) else none):=hid rfl
 have hm:0≤d.getD i 0 * (k.getD i 0 - 1)∧d.getD i 0 * (k.getD i 0 - 1)≤6553500:=by
  refine ⟨Int.mul_nonneg (by omega) (by omega),?_⟩;have:=Int.mul_le_mul rd.2 (show k.getD i 0 - 1≤65535 by omega) (by omega) (by omega);omega
 clear hx hp hd hk hs bx bp bd bk bs lx lp ld lk ls;generalize x.getD (2+i) 0=X at *;generalize p.getD i 0=P at *;generalize p.getD (2+i) 0=Q at *;generalize d.getD i 0=D at *;generalize k.getD i 0=K at *;generalize s.getD i 0=S at *;have wi:IntKind.i64.wrap (2+(i:Int))=2+(i:Int):=by rw [IntKind.wrap_i64];omega
 have ti:(2+(i:Int)).toNat=2+i:=by omega
 have b4:(0:Int)≤2+(i:Int)∧2+(i:Int) < 4:=⟨by omega,by omega⟩;have b2:(0:Int)≤(i:Int)∧(i:Int) < 2:=⟨by omega,by omega⟩;have b40:(0:Int)≤(i:Int)∧(i:Int) < 4:=⟨by omega,by omega⟩;have i2:(i:Int) < 2:=by omega
 have i4:(i:Int) < 4:=by omega
 have w1:IntKind.i64.wrap (X+P)=X+P:=by rw [IntKind.wrap_i64];omega
 have w2:IntKind.i64.wrap (X+P+Q)=X+P+Q:=by rw [IntKind.wrap_i64];omega
 have w3:IntKind.i64.wrap (K - 1)=K - 1:=by rw [IntKind.wrap_i64];omega
 have w4:IntKind.i64.wrap (D * (K - 1))=D * (K - 1):=by rw [IntKind.wrap_i64];omega
 have w5:IntKind.i64.wrap (X+P+Q - D * (K - 1))=X+P+Q - D * (K - 1):=by rw [IntKind.wrap_i64];omega
 have w6:IntKind.i64.wrap (X+P+Q - D * (K - 1) - 1)=X+P+Q - D * (K - 1) - 1:=by rw [IntKind.wrap_i64];omega
 have hAx:=cell_in cx;have hAp:=cell_in cp;have hAd:=cell_in cd;have hAk:=cell_in ck;have hAs:=cell_in cs;go_enter Tryz.func156,Tryz.ntmps156
 go_wp2_with fail
 refine wp_region_plan 28 [0,1,2,3,4,5,6,7,8,9,10,11,12,13,14,15,16,17,18,19,20,21,22,23,24,25,26,27] (fun W'=>Below w.heap.size w W') (by kernel_rfl) (by kernel_rfl) (fun _ d _ _ _ h=>by cases d<;>exact h) (Below.refl _ _).drew ?_;have B0:Hid (Below w.heap.size w w.drew):=hid (Below.refl _ _).drew;generalize w.drew=wD at B0 ⊢
 repeat
  refine plan_read (v:=?_) rfl rfl (Or.inl ⟨by rfl,?_⟩) ?_;rotate_left
  ·intro W' hSw;have cx:=(hSw.cell hAx).trans cx;have cp:=(hSw.cell hAp).trans cp;have cd:=(hSw.cell hAd).trans cd;have ck:=(hSw.cell hAk).trans ck;have ux:=(hSw.cell (p:=⟨bx',ox+(2+i),none⟩) gx).trans ux;have up:=(hSw.cell (p:=⟨bp',op+i,none⟩) gp).trans up;have up2:=(hSw.cell (p:=⟨bp',op+(2+i),none⟩) gp).trans up2;have ud:=(hSw.cell (p:=⟨bd',od+i,none⟩) gd).trans ud;have uk:=(hSw.cell (p:=⟨bk',ok+i,none⟩) gk).trans uk;clear hSw;go_simp
   try with_reducible rfl
  try simp only [Act.put,List.getElem_toArray,List.getElem_cons_zero,List.getElem_cons_succ,List.setIfInBounds_toArray,List.set_cons_zero,List.set_cons_succ]
 refine plan_tail rfl ?_;simp only [List.toList_toArray,List.drop_succ_cons,List.drop_zero];clear wi ti b4 w1 w2 w3 w4 w5 w6 cx cp cd ck ux up up2 ud uk;have hR0:X+P+Q - D * (K - 1) - 1≤200000:=by omega
 obtain ⟨R,hR⟩:∃ R,X+P+Q - D * (K - 1) - 1=R:=⟨_,rfl⟩;rw [hR] at E hR0 ⊢;clear hR hm;have us:=(B0.out.cell (p:=⟨bs',os+i,none⟩) gs).trans us;have cs:=(B0.out.cell hAs).trans cs;by_cases h0:0≤R
 ·have E:=hid (E.out.trans (if_pos h0));have hS:¬ S=0:=by omega
  have hS1:1≤S:=rs.1;have hq:0≤R / S∧R / S≤200000:=⟨Int.ediv_nonneg h0 (by omega),by
   have:=Int.ediv_le_self S h0;omega⟩
  go_wp2_with fail
  refine (HY.out _).mono ?_;rintro e w' ⟨rfl,rfl⟩;go_wp2
  go_ret
  exact ⟨AxisR.yes E.out,B0.out⟩
 ·have E:=hid (E.out.trans (if_neg h0));go_wp2_with fail
  refine (HNo.out _).mono ?_;rintro e w' ⟨rfl,rfl⟩;exact ⟨rfl,AxisR.no E.out,B0.out⟩
end
section
open Go.RowKit
set_option maxRecDepth 100000
def nmStr:ByteArray:=⟨#[115,116,114,105,100,101,115]⟩
def nmDil:ByteArray:=⟨#[100,105,108,97,116,105,111,110,115]⟩
def sizesP (x k s p d:List Int):Option (Int × Int):=match sizeP x k s p d 0 with | none=>none | some h=>match sizeP x k s p d 1 with | none=>none | some v=>some (h,v)
def windowP (n:Nd) (x k:List Int):Option (Int × Int) :=
 match numsP (intsP n.attrs nmStr [1,1]) 2 1 100 with
 | none=>none
 | some s=>match numsP (intsP n.attrs nmPads [0,0,0,0]) 4 0 100 with
  | none=>none
  | some p=>match numsP (intsP n.attrs nmDil [1,1]) 2 1 100 with
   | none=>none
   | some d=>sizesP x k s p d
theorem win_s {n:Nd} {x k:List Int} (h:numsP (intsP n.attrs nmStr [1,1]) 2 1 100=none):windowP n x k=none:=by unfold windowP;rw [h]
theorem win_p {n:Nd} {x k s:List Int} (h:numsP (intsP n.attrs nmStr [1,1]) 2 1 100=some s) (g:numsP (intsP n.attrs nmPads [0,0,0,0]) 4 0 100=none):windowP n x k=none:=by unfold windowP;rw [h];simp only [];rw [g]
theorem win_d {n:Nd} {x k s p:List Int} (h:numsP (intsP n.attrs nmStr [1,1]) 2 1 100=some s) (g:numsP (intsP n.attrs nmPads [0,0,0,0]) 4 0 100=some p) (f:numsP (intsP n.attrs nmDil [1,1]) 2 1 100=none):windowP n x k=none:=by unfold windowP;rw [h];simp only [];rw [g];simp only [];rw [f]
theorem win_all {n:Nd} {x k s p d:List Int} (h:numsP (intsP n.attrs nmStr [1,1]) 2 1 100=some s) (g:numsP (intsP n.attrs nmPads [0,0,0,0]) 4 0 100=some p) (f:numsP (intsP n.attrs nmDil [1,1]) 2 1 100=some d):windowP n x k=sizesP x k s p d:=by unfold windowP;rw [h];simp only [];rw [g];simp only [];rw [f]
theorem sizes_h {x k s p d:List Int} (h:sizeP x k s p d 0=none):sizesP x k s p d=none:=by unfold sizesP;rw [h]
theorem sizes_v {x k s p d:List Int} {a:Int} (h:sizeP x k s p d 0=some a) (g:sizeP x k s p d 1=none):sizesP x k s p d=none:=by unfold sizesP;rw [h];simp only [];rw [g]
theorem sizes_all {x k s p d:List Int} {a b:Int} (h:sizeP x k s p d 0=some a) (g:sizeP x k s p d 1=some b):sizesP x k s p d=some (a,b):=by unfold sizesP;rw [h];simp only [];rw [g]
def WinR (o:Option (Int × Int)) (e:Ending):Prop:=match o with | none=>e=brk 4 | some (a,b)=>e=.returned (.tuple #[.int .i64 a,.int .i64 b])
theorem WinR.no {o:Option (Int × Int)} (h:o=none):WinR o (brk 4):=by subst h;rfl
theorem WinR.yes {o:Option (Int × Int)} {a b:Int} (h:o=some (a,b)):WinR o (.returned (.tuple #[.int .i64 a,.int .i64 b])):=by subst h;rfl
theorem ints_boxL {W:World} {b:Nat} {cs:Array Value} {t:TypeId} {zs:List Int} (h:BoxN W b cs t) (e:cs.toList=zs.map (Value.int .i64)) (h0:zs≠[]) (hl:zs.length≤1000) (hi:∀ z ∈ zs,InI z):IntsIn W (.slice (some ⟨b,0,none⟩) zs.length zs.length) zs:=by
 refine .row b 0 zs.length zs h0 (Nat.le_refl _) h.lt (fun j hj=>?_) (by omega) hi;have:cs[j]?=some (.int .i64 (zs.getD j 0)):=by
  rw [←Array.getElem?_toList,e,List.getElem?_map,List.getElem?_eq_getElem hj];simp [List.getD,List.getElem?_eq_getElem hj]
 simpa using h.cell j this
theorem boxn_newW {W:World} {b:Nat} {cs:Array Value} {t:TypeId} (h:b=W.heap.size):BoxN (W.alloc (.cells cs t)) b cs t:=by subst h;exact BoxN.new _ _ _
attribute [local irreducible] intsP numsP sizeP windowP sizesP RowI
set_option maxHeartbeats 16000000 in
theorem window_any {w:World} {v vx vk:Value} {n:Nd} {ins:List Vl} {x k:List Int} (h:MkV w v n ins) (hx:IntsIn w vx x) (hk:IntsIn w vk k)
  (lx:x.length=4) (lk:k.length=2) (bx:∀ z ∈ x,1≤z∧z≤65536) (bk:∀ z ∈ k,1≤z∧z≤65536) :
  Calls Tryz.prog 124 #[v,vx,vk] w fun e w'=>WinR (windowP n x k) e∧Below w.heap.size w w':=by
 have hmf:∀ (fn:Fn) (first cap:Array Value) (w:World),(Instr.makeFunc fn first cap).run Tryz.prog w=.ok (.func fn first cap) w:=fun _ _ _ _=>rfl;obtain ⟨vin,vat,vv,rfl,hm⟩:=h;obtain ⟨a1,c1,rfl⟩:=hm.node.is.form;obtain ⟨a2,c2,rfl⟩:=hm.node.ia.form;obtain ⟨a3,c3,rfl⟩:=hm.ins.form;obtain ⟨a4,c4,rfl⟩:=hx.shape;obtain ⟨a5,c5,rfl⟩:=hk.shape;have HM:=hid hm;have HX:=hid hx;have HK:=hid hk;have HLX:=hid lx;have HLK:=hid lk;have HBX:=hid bx;have HBK:=hid bk;clear hm hx hk bx bk lx lk;go_enter Tryz.func124,Tryz.ntmps124
 go_wp2_with fail
 have HB4:Hid (Below w.heap.size w ((((w.alloc (Obj.cells #[.string n.op,.string n.name,.slice a1 n.ins.length c1,.string n.out,.slice a2 n.attrs.length c2,.slice a3 ins.length c3] 63)).alloc (Obj.cells #[.slice a4 x.length c4] 27)).alloc (Obj.cells #[.slice a5 k.length c5] 27)).alloc (Obj.cells #[.int .i64 1,.int .i64 1] 2))):=hid (((((Below.refl _ w).alloc (Nat.le_refl _) _).alloc (by simp) _).alloc (by simp<;>omega) _).alloc (by simp<;>omega) _);have D0:Hid (BoxN ((((w.alloc (Obj.cells #[.string n.op,.string n.name,.slice a1 n.ins.length c1,.string n.out,.slice a2 n.attrs.length c2,.slice a3 ins.length c3] 63)).alloc (Obj.cells #[.slice a4 x.length c4] 27)).alloc (Obj.cells #[.slice a5 k.length c5] 27)).alloc (Obj.cells #[.int .i64 1,.int .i64 1] 2)) w.heap.size #[.string n.op,.string n.name,.slice a1 n.ins.length c1,.string n.out,.slice a2 n.attrs.length c2,.slice a3 ins.length c3] 63):=hid ((boxn_newW rfl).below' ((((Below.refl _ _).alloc (Nat.le_refl _) _).alloc (by simp) _).alloc (by simp<;>omega) _));have D1:Hid (BoxN ((((w.alloc (Obj.cells #[.string n.op,.string n.name,.slice a1 n.ins.length c1,.string n.out,.slice a2 n.attrs.length c2,.slice a3 ins.length c3] 63)).alloc (Obj.cells #[.slice a4 x.length c4] 27)).alloc (Obj.cells #[.slice a5 k.length c5] 27)).alloc (Obj.cells #[.int .i64 1,.int .i64 1] 2)) (w.heap.size+1) #[.slice a4 x.length c4] 27):=hid ((boxn_newW (by simp)).below' (((Below.refl _ _).alloc (Nat.le_refl _) _).alloc (by simp) _));have D2:Hid (BoxN ((((w.alloc (Obj.cells #[.string n.op,.string n.name,.slice a1 n.ins.length c1,.string n.out,.slice a2 n.attrs.length c2,.slice a3 ins.length c3] 63)).alloc (Obj.cells #[.slice a4 x.length c4] 27)).alloc (Obj.cells #[.slice a5 k.length c5] 27)).alloc (Obj.cells #[.int .i64 1,.int .i64 1] 2)) (w.heap.size+1+1) #[.slice a5 k.length c5] 27):=hid ((boxn_newW (by simp)).below' ((Below.refl _ _).alloc (Nat.le_refl _) _));have DL:Hid (BoxN ((((w.alloc (Obj.cells #[.string n.op,.string n.name,.slice a1 n.ins.length c1,.string n.out,.slice a2 n.attrs.length c2,.slice a3 ins.length c3] 63)).alloc (Obj.cells #[.slice a4 x.length c4] 27)).alloc (Obj.cells #[.slice a5 k.length c5] 27)).alloc (Obj.cells #[.int .i64 1,.int .i64 1] 2)) (w.heap.size+1+1+1) #[.int .i64 1,.int .i64 1] 2):=hid (boxn_newW (by simp));generalize World.alloc (World.alloc (World.alloc (World.alloc w _) _) _) _=W4 at HB4 D0 D1 D2 DL ⊢;have HW4:Hid (Below W4.heap.size W4 W4):=hid (Below.refl _ _);have HBw:Hid (∀ W,Below W4.heap.size W4 W→Below w.heap.size w W):=hid fun W hB=>HB4.out.trans (hB.mono HB4.out.size);have hIL1:∀ z ∈ ([1,1]:List Int),InI z:=by intro z hz;simp at hz;subst hz;exact inI_one
 have hIL0:∀ z ∈ ([0,0,0,0]:List Int),InI z:=by intro z hz;simp at hz;subst hz;exact inI_0
 have HIL1:=hid hIL1;have HIL0:=hid hIL0;clear hIL1 hIL0;refine (numbers_any (n:=n) ⟨_,_,rfl,(HM.out.below (HBw.out _ HW4.out)).node⟩ nmStr (ints_boxL (zs:=[1,1]) DL.out rfl (by simp) (by simp) HIL1.out) 2 1 100).mono ?_;rintro e w5 ⟨B5,hc⟩;have Hw5:=hid (HW4.out.trans (B5.mono HW4.out.size));cases hNs:numsP (intsP n.attrs nmStr [1,1]) 2 1 100 with
 | none =>
  rw [hNs] at hc;obtain rfl:e=brk 4:=hc;have E:=hid (win_s (x:=x) (k:=k)  hNs);clear hNs;exact ⟨rfl,WinR.no E.out,HBw.out _ Hw5.out⟩
 | some s =>
 rw [hNs] at hc;obtain ⟨vs,rfl,hrs⟩:∃ v,e=.returned v∧RowI w5 _ v s:=hc;have HNs:=hid hNs;obtain ⟨hls,hps⟩:=nums_props hNs;have hls':s.length=2:=by omega
 have HIs:Hid (IntsIn w5 vs s):=hid (hrs.ints (by omega) (fun z hz=>by have:=hps z hz;unfold InI;omega));have HRs:=hid hps;have HLs:=hid hls';obtain ⟨As,Cs,rfl⟩:=HIs.out.shape;have BBw5:=hid B5;clear hNs hrs hps hls hls' B5;obtain ⟨k0,k1,k2,k3,k4,k5⟩:=(D0.out.below' Hw5.out).six;have k0:=cell_alloc k0 (Obj.cells #[.slice As s.length Cs] 27);have k1:=cell_alloc k1 (Obj.cells #[.slice As s.length Cs] 27);have k2:=cell_alloc k2 (Obj.cells #[.slice As s.length Cs] 27);have k3:=cell_alloc k3 (Obj.cells #[.slice As s.length Cs] 27);have k4:=cell_alloc k4 (Obj.cells #[.slice As s.length Cs] 27);go_wp2_with fail
 clear k0 k1 k2 k3 k4 k5;have hBw7:Below w5.heap.size w5 ((w5.alloc (Obj.cells #[.slice As s.length Cs] 27)).alloc (Obj.cells #[.int .i64 0,.int .i64 0,.int .i64 0,.int .i64 0] 2)):=((Below.refl _ _).alloc (Nat.le_refl _) _).alloc (by simp) _;have Hw7:Hid (Below W4.heap.size W4 ((w5.alloc (Obj.cells #[.slice As s.length Cs] 27)).alloc (Obj.cells #[.int .i64 0,.int .i64 0,.int .i64 0,.int .i64 0] 2))):=hid (Hw5.out.trans (hBw7.mono Hw5.out.size));have HXs:Hid (BoxN ((w5.alloc (Obj.cells #[.slice As s.length Cs] 27)).alloc (Obj.cells #[.int .i64 0,.int .i64 0,.int .i64 0,.int .i64 0] 2)) w5.heap.size #[.slice As s.length Cs] 27):=hid ((boxn_newW rfl).below' ((Below.refl _ _).alloc (Nat.le_refl _) _));have DL:Hid (BoxN ((w5.alloc (Obj.cells #[.slice As s.length Cs] 27)).alloc (Obj.cells #[.int .i64 0,.int .i64 0,.int .i64 0,.int .i64 0] 2)) (w5.heap.size+1) #[.int .i64 0,.int .i64 0,.int .i64 0,.int .i64 0] 2):=hid (boxn_newW (by simp));have HIs:=hid (HIs.out.below hBw7);have Tw7:Hid (Below W4.heap.size W4 ((w5.alloc (Obj.cells #[.slice As s.length Cs] 27)).alloc (Obj.cells #[.int .i64 0,.int .i64 0,.int .i64 0,.int .i64 0] 2))):=hid (BBw5.out.trans (hBw7.mono BBw5.out.size));clear hBw7 BBw5;generalize World.alloc (World.alloc w5 _) _=w7 at Hw7 HXs DL HIs Tw7 ⊢;refine (numbers_any (n:=n) ⟨_,_,rfl,(HM.out.below (HBw.out _ Hw7.out)).node⟩ nmPads (ints_boxL (zs:=[0,0,0,0]) DL.out rfl (by simp) (by simp) HIL0.out) 4 0 100).mono ?_;rintro e w8 ⟨B5,hc⟩;have Hw8:=hid (Hw7.out.trans (B5.mono Hw7.out.size));cases hNp:numsP (intsP n.attrs nmPads [0,0,0,0]) 4 0 100 with
 | none =>
  rw [hNp] at hc;obtain rfl:e=brk 4:=hc;have E:=hid (win_p (x:=x) (k:=k) HNs.out hNp);clear hNp;exact ⟨rfl,WinR.no E.out,HBw.out _ Hw8.out⟩
 | some p =>
 rw [hNp] at hc;obtain ⟨vp,rfl,hrp⟩:∃ v,e=.returned v∧RowI w8 _ v p:=hc;have HNp:=hid hNp;obtain ⟨hlp,hpp⟩:=nums_props hNp;have hlp':p.length=4:=by omega
 have HIp:Hid (IntsIn w8 vp p):=hid (hrp.ints (by omega) (fun z hz=>by have:=hpp z hz;unfold InI;omega));have HRp:=hid hpp;have HLp:=hid hlp';obtain ⟨Ap,Cp,rfl⟩:=HIp.out.shape;have BBw8:=hid B5;clear hNp hrp hpp hlp hlp' B5;obtain ⟨k0,k1,k2,k3,k4,k5⟩:=(D0.out.below' Hw8.out).six;have k0:=cell_alloc k0 (Obj.cells #[.slice Ap p.length Cp] 27);have k1:=cell_alloc k1 (Obj.cells #[.slice Ap p.length Cp] 27);have k2:=cell_alloc k2 (Obj.cells #[.slice Ap p.length Cp] 27);have k3:=cell_alloc k3 (Obj.cells #[.slice Ap p.length Cp] 27);have k4:=cell_alloc k4 (Obj.cells #[.slice Ap p.length Cp] 27);go_wp2_with fail
 clear k0 k1 k2 k3 k4 k5;have hBw10:Below w8.heap.size w8 ((w8.alloc (Obj.cells #[.slice Ap p.length Cp] 27)).alloc (Obj.cells #[.int .i64 1,.int .i64 1] 2)):=((Below.refl _ _).alloc (Nat.le_refl _) _).alloc (by simp) _;have Hw10:Hid (Below W4.heap.size W4 ((w8.alloc (Obj.cells #[.slice Ap p.length Cp] 27)).alloc (Obj.cells #[.int .i64 1,.int .i64 1] 2))):=hid (Hw8.out.trans (hBw10.mono Hw8.out.size));have HXp:Hid (BoxN ((w8.alloc (Obj.cells #[.slice Ap p.length Cp] 27)).alloc (Obj.cells #[.int .i64 1,.int .i64 1] 2)) w8.heap.size #[.slice Ap p.length Cp] 27):=hid ((boxn_newW rfl).below' ((Below.refl _ _).alloc (Nat.le_refl _) _));have DL:Hid (BoxN ((w8.alloc (Obj.cells #[.slice Ap p.length Cp] 27)).alloc (Obj.cells #[.int .i64 1,.int .i64 1] 2)) (w8.heap.size+1) #[.int .i64 1,.int .i64 1] 2):=hid (boxn_newW (by simp));have HIp:=hid (HIp.out.below hBw10);have Tw10:Hid (Below w7.heap.size w7 ((w8.alloc (Obj.cells #[.slice Ap p.length Cp] 27)).alloc (Obj.cells #[.int .i64 1,.int .i64 1] 2))):=hid (BBw8.out.trans (hBw10.mono BBw8.out.size));clear hBw10 BBw8;generalize World.alloc (World.alloc w8 _) _=w10 at Hw10 HXp DL HIp Tw10 ⊢;refine (numbers_any (n:=n) ⟨_,_,rfl,(HM.out.below (HBw.out _ Hw10.out)).node⟩ nmDil (ints_boxL (zs:=[1,1]) DL.out rfl (by simp) (by simp) HIL1.out) 2 1 100).mono ?_;rintro e w11 ⟨B5,hc⟩;have Hw11:=hid (Hw10.out.trans (B5.mono Hw10.out.size));cases hNd:numsP (intsP n.attrs nmDil [1,1]) 2 1 100 with
 | none =>
  rw [hNd] at hc;obtain rfl:e=brk 4:=hc;have E:=hid (win_d (x:=x) (k:=k) HNs.out HNp.out hNd);clear hNd;exact ⟨rfl,WinR.no E.out,HBw.out _ Hw11.out⟩
 | some d =>
 rw [hNd] at hc;obtain ⟨vd,rfl,hrd⟩:∃ v,e=.returned v∧RowI w11 _ v d:=hc;have HNd:=hid hNd;obtain ⟨hld,hpd⟩:=nums_props hNd;have hld':d.length=2:=by omega
 have HId:Hid (IntsIn w11 vd d):=hid (hrd.ints (by omega) (fun z hz=>by have:=hpd z hz;unfold InI;omega));have HRd:=hid hpd;have HLd:=hid hld';obtain ⟨Ad,Cd,rfl⟩:=HId.out.shape;have BBw11:=hid B5;clear hNd hrd hpd hld hld' B5;go_wp2_with fail
 have hBw12:Below w11.heap.size w11 (w11.alloc (Obj.cells #[.slice Ad d.length Cd] 27)):=(Below.refl _ _).alloc (Nat.le_refl _) _;have Hw12:Hid (Below W4.heap.size W4 (w11.alloc (Obj.cells #[.slice Ad d.length Cd] 27))):=hid (Hw11.out.trans (hBw12.mono Hw11.out.size));have HXd:=hid (BoxN.new w11 #[.slice Ad d.length Cd] 27);have HId:=hid (HId.out.below hBw12);have Tw12:Hid (Below w10.heap.size w10 (w11.alloc (Obj.cells #[.slice Ad d.length Cd] 27))):=hid (BBw11.out.trans (hBw12.mono BBw11.out.size));clear hBw12 BBw11;generalize World.alloc w11 _=w12 at Hw12 HXd HId Tw12 ⊢;have HXs:=hid ((HXs.out.below' Tw10.out).below' Tw12.out);have HIs:=hid ((HIs.out.below Tw10.out).below Tw12.out);have HXp:=hid (HXp.out.below' Tw12.out);have HIp:=hid (HIp.out.below Tw12.out);have HX1:=hid (D1.out.below' Hw12.out);have HX2:=hid (D2.out.below' Hw12.out);have HIx:=hid (HX.out.below (HBw.out _ Hw12.out));have HIk:=hid (HK.out.below (HBw.out _ Hw12.out));have HWn:=hid (win_all (x:=x) (k:=k) HNs.out HNp.out HNd.out);clear Tw7 Tw10 Tw12 D0 D1 D2 DL HX HK HM HIL0 HIL1;refine (size_any (i:=0) (by decide) (HX1.out.cell 0 rfl) (HXp.out.cell 0 rfl) (HXd.out.cell 0 rfl) (HX2.out.cell 0 rfl) (HXs.out.cell 0 rfl) HIx.out HIp.out HId.out HIk.out HIs.out HLX.out HLp.out HLd.out HLK.out HLs.out HBX.out HRp.out HRd.out HBK.out HRs.out).mono ?_;rintro e w13 ⟨hc,B13⟩;have Hw13:=hid (Hw12.out.trans (B13.mono Hw12.out.size));cases h0:sizeP x k s p d 0 with
 | none =>
  rw [h0] at hc;obtain rfl:e=brk 4:=hc;have E:=hid (HWn.out.trans (sizes_h h0));exact ⟨rfl,WinR.no E.out,HBw.out _ Hw13.out⟩
 | some q0 =>
 rw [h0] at hc;obtain rfl:e=.returned (.int .i64 q0):=hc;have H0:=hid h0;have B13:=hid B13;clear h0;go_wp2_with fail
 refine (size_any (i:=1) (by decide) ((HX1.out.below' B13.out).cell 0 rfl) ((HXp.out.below' B13.out).cell 0 rfl) ((HXd.out.below' B13.out).cell 0 rfl) ((HX2.out.below' B13.out).cell 0 rfl) ((HXs.out.below' B13.out).cell 0 rfl) (HIx.out.below B13.out) (HIp.out.below B13.out) (HId.out.below B13.out) (HIk.out.below B13.out) (HIs.out.below B13.out) HLX.out HLp.out HLd.out HLK.out HLs.out HBX.out HRp.out HRd.out HBK.out HRs.out).mono ?_;rintro e w14 ⟨hc,B14⟩;have Hw14:=hid (Hw13.out.trans (B14.mono Hw13.out.size));cases h1:sizeP x k s p d 1 with
 | none =>
  rw [h1] at hc;obtain rfl:e=brk 4:=hc;have E:=hid (HWn.out.trans (sizes_v H0.out h1));exact ⟨rfl,WinR.no E.out,HBw.out _ Hw14.out⟩
 | some q1 =>
 rw [h1] at hc;obtain rfl:e=.returned (.int .i64 q1):=hc;have E:=hid (HWn.out.trans (sizes_all H0.out h1));clear h1;go_wp2
 go_ret2
 exact ⟨WinR.yes E.out,HBw.out _ Hw14.out⟩
end
section
open Go.RowKit
set_option maxRecDepth 100000
theorem size_rng {x k s p d:List Int} {i:Nat} {q:Int} (h:sizeP x k s p d i=some q) (hi:i < 2) (lx:x.length=4) (lp:p.length=4) (ld:d.length=2) (lk:k.length=2) (ls:s.length=2)
  (bx:∀ z ∈ x,1≤z∧z≤65536) (bp:∀ z ∈ p,0≤z∧z≤100) (bd:∀ z ∈ d,1≤z∧z≤100) (bk:∀ z ∈ k,1≤z∧z≤65536) (bs:∀ z ∈ s,1≤z∧z≤100):InI q:=by
 have r1:=bx _ (getD_mem (zs:=x) (k:=2+i) (by omega));have r2:=bp _ (getD_mem (zs:=p) (k:=i) (by omega));have r3:=bp _ (getD_mem (zs:=p) (k:=2+i) (by omega));have r4:=bd _ (getD_mem (zs:=d) (k:=i) (by omega));have r5:=bk _ (getD_mem (zs:=k) (k:=i) (by omega));have r6:=bs _ (getD_mem (zs:=s) (k:=i) (by omega));have hm:0≤d.getD i 0 * (k.getD i 0 - 1):=Int.mul_nonneg (by omega) (by omega);unfold sizeP at h;generalize x.getD (2+i) 0=X at *;generalize p.getD i 0=P at *;generalize p.getD (2+i) 0=Q at *;generalize d.getD i 0 * (k.getD i 0 - 1)=M at *;generalize s.getD i 0=S at *;split at h
 ·rename_i h0
  obtain rfl:=Option.some.inj h;have h1:=Int.ediv_nonneg h0 (show 0≤S by omega);have h2:=Int.ediv_le_self S h0;unfold InI;omega
 ·cases h
theorem window_rng {n:Nd} {x k:List Int} {a b:Int} (h:windowP n x k=some (a,b)) (lx:x.length=4) (lk:k.length=2) (bx:∀ z ∈ x,1≤z∧z≤65536) (bk:∀ z ∈ k,1≤z∧z≤65536):InI a∧InI b:=by
 unfold windowP at h;split at h
 ·cases h
 rename_i s hs
 split at h
 ·cases h
 rename_i p hp
 split at h
 ·cases h
 rename_i d hd
 obtain ⟨ls,bs⟩:=nums_props hs;obtain ⟨lp,bp⟩:=nums_props hp;obtain ⟨ld,bd⟩:=nums_props hd;unfold sizesP at h;split at h
 ·cases h
 rename_i u hu
 split at h
 ·cases h
 rename_i v hv
 obtain ⟨rfl,rfl⟩:u=a∧v=b:=by simpa using h
 exact ⟨size_rng hu (by decide) lx (by omega) (by omega) lk (by omega) bx bp bd bk bs,size_rng hv (by decide) lx (by omega) (by omega) lk (by omega) bx bp bd bk bs⟩
def nmKer:ByteArray:=⟨#[107,101,114,110,101,108,95,115,104,97,112,101]⟩
def padsB (l k:List Int) (m:Nat):Bool:=(List.range m).all fun i=>decide (l.getD i 0 < k.getD (i % 2) 0)
theorem pads_next {l k:List Int} {m:Nat} (h:padsB l k m=true) (g:l.getD m 0 < k.getD (m % 2) 0):padsB l k (m+1)=true:=by
 unfold padsB at *;rw [List.range_succ,List.all_append,h];simpa using g
theorem pads_bad {l k:List Int} {m:Nat} (hm:m < l.length) (g:¬ l.getD m 0 < k.getD (m % 2) 0):padsB l k l.length=false:=by
 unfold padsB;refine List.all_eq_false.2 ⟨m,List.mem_range.2 hm,?_⟩
 simpa using g
def poolP (n:Nd) (x:List Int):Option (List Int) :=
 match numsP (intsP n.attrs nmKer []) 2 1 100 with
 | none=>none
 | some k=>if x.length=4 then (match windowP n x k with
  | none=>none
  | some (h,v)=>if padsB (intsP n.attrs nmPads []) k (intsP n.attrs nmPads []).length=true then some [x.getD 0 0,x.getD 1 0,h,v] else none) else none
theorem pool_k {n:Nd} {x:List Int} (h:numsP (intsP n.attrs nmKer []) 2 1 100=none):poolP n x=none:=by unfold poolP;rw [h]
theorem pool_l {n:Nd} {x k:List Int} (h:numsP (intsP n.attrs nmKer []) 2 1 100=some k) (g:¬ x.length=4):poolP n x=none:=by unfold poolP;rw [h];exact if_neg g
theorem pool_w {n:Nd} {x k:List Int} (h:numsP (intsP n.attrs nmKer []) 2 1 100=some k) (g:x.length=4) (f:windowP n x k=none):poolP n x=none:=by unfold poolP;rw [h];simp only [];rw [if_pos g,f]
theorem pool_p {n:Nd} {x k l:List Int} {a b:Int} (h:numsP (intsP n.attrs nmKer []) 2 1 100=some k) (g:x.length=4) (f:windowP n x k=some (a,b)) (e:intsP n.attrs nmPads []=l) (p:padsB l k l.length=false):poolP n x=none:=by
 subst e;unfold poolP;rw [h];simp only [];rw [if_pos g,f];exact if_neg (by rw [p];decide)
theorem pool_all {n:Nd} {x k l:List Int} {a b:Int} (h:numsP (intsP n.attrs nmKer []) 2 1 100=some k) (g:x.length=4) (f:windowP n x k=some (a,b)) (e:intsP n.attrs nmPads []=l) (p:padsB l k l.length=true):poolP n x=some [x.getD 0 0,x.getD 1 0,a,b]:=by
 subst e;unfold poolP;rw [h];simp only [];rw [if_pos g,f];exact if_pos p
attribute [local irreducible] intsP numsP windowP poolP padsB RowI
set_option maxHeartbeats 8000000 in
theorem pool_any {w:World} {v vx:Value} {n:Nd} {ins:List Vl} {x:List Int} (h:MkV w v n ins) (hx:IntsIn w vx x) (hsm:Sm x) :
  Calls Tryz.prog 72 #[v,vx] w fun e w'=>ResI w (poolP n x) e w':=by
 obtain ⟨i0,hi,hz0,hz1,hz2⟩:=info_parts info_int;obtain ⟨vin,vat,vv,rfl,hm⟩:=h;obtain ⟨a1,c1,rfl⟩:=hm.node.is.form;obtain ⟨a2,c2,rfl⟩:=hm.node.ia.form;obtain ⟨a3,c3,rfl⟩:=hm.ins.form;have HM:=hid hm;clear hm;obtain ⟨a4,c4,rfl⟩:=hx.shape;have hxl:=hx.wf.1;have hxc:=hx.capI.2;have HX:=hid hx;clear hx;have HY:=hid (fun (W:World)=>rule_yes W);have HNo:=hid (fun (W:World)=>rule_no W);have HB1:=hid ((Below.refl w.heap.size w).alloc (Nat.le_refl _) (Obj.cells #[.string n.op,.string n.name,.slice a1 n.ins.length c1,.string n.out,.slice a2 n.attrs.length c2,.slice a3 ins.length c3] 63));have HA1:=hid (BoxN.new w #[.string n.op,.string n.name,.slice a1 n.ins.length c1,.string n.out,.slice a2 n.attrs.length c2,.slice a3 ins.length c3] 63);have HSm:=hid hsm;clear hsm;go_enter Tryz.func72,Tryz.ntmps72
 go_wp2_with fail
 generalize World.alloc w (Obj.cells #[.string n.op,.string n.name,.slice a1 n.ins.length c1,.string n.out,.slice a2 n.attrs.length c2,.slice a3 ins.length c3] 63)=W1 at HB1 HA1 ⊢;have HMk:Hid (∀ W,Below W1.heap.size W1 W→MkV W (.agg #[.string n.op,.string n.name,.slice a1 n.ins.length c1,.string n.out,.slice a2 n.attrs.length c2,.slice a3 ins.length c3]) n ins):=hid fun W hB=>⟨_,_,_,rfl,HM.out.below (HB1.out.trans (hB.mono HB1.out.size))⟩;have HBw:Hid (∀ W,Below W1.heap.size W1 W→Below w.heap.size w W):=hid fun W hB=>HB1.out.trans (hB.mono HB1.out.size);refine (numbers_any (n:=n) ⟨_,_,rfl,(HM.out.below HB1.out).node⟩ nmKer (.empty none 0) 2 1 100).mono ?_;rintro e w2 ⟨B2,hc⟩;have HW2:Hid (Below W1.heap.size W1 w2):=hid B2;cases hk:numsP (intsP n.attrs nmKer []) 2 1 100 with
 | none =>
  rw [hk] at hc;obtain rfl:e=brk 4:=hc;exact ⟨rfl,ResI.no (pool_k hk) (HBw.out _ HW2.out)⟩
 | some k =>
 rw [hk] at hc;obtain ⟨v2,rfl,hr2⟩:∃ v,e=.returned v∧RowI w2 _ v k:=hc;have HKe:=hid hk;obtain ⟨hkl,hkp⟩:=nums_props hk;have hkl':k.length=2:=by omega
 have HI2:Hid (IntsIn w2 v2 k):=hid (hr2.ints (by omega) (fun z hz=>by have:=hkp z hz;unfold InI;omega));have HKP:=hid hkp;have HKL:=hid hkl';obtain ⟨a5,c5,rfl⟩:=HI2.out.shape;clear hk hr2 hkp hkl hkl' B2;by_cases hl:x.length=4
 case neg =>
  have E:=hid (pool_l HKe.out hl);have hb:((x.length:Int)==4)=false:=by simp;omega
  clear hl;go_wp2_with fail
  refine (HNo.out _).mono ?_;rintro e w' ⟨rfl,rfl⟩;exact ⟨rfl,ResI.no E.out (HBw.out _ HW2.out)⟩
 have HL:=hid hl;have hb:((x.length:Int)==4)=true:=by simp;omega
 clear hl;obtain ⟨k0,k1,k2,k3,k4,k5⟩:=(HA1.out.below' HW2.out).six;go_wp2_with fail
 refine (HY.out _).mono ?_;rintro e w' ⟨rfl,rfl⟩;go_wp2_with fail
 clear k0 k1 k2 k3 k4 k5 hb;refine (window_any (HMk.out _ HW2.out) (HX.out.below (HBw.out _ HW2.out)) HI2.out HL.out HKL.out HSm.out.2 (fun z hz=>by have:=HKP.out z hz;omega)).mono ?_;rintro e w3 ⟨hc,B3⟩;have HW3:=hid (HW2.out.trans (B3.mono HW2.out.size));have HI3:=hid (HI2.out.below B3);clear B3 HI2 HW2;cases hw:windowP n x k with
 | none =>
  rw [hw] at hc;obtain rfl:e=brk 4:=hc;exact ⟨rfl,ResI.no (pool_w HKe.out HL.out hw) (HBw.out _ HW3.out)⟩
 | some ab =>
 obtain ⟨qh,qv⟩:=ab;rw [hw] at hc;obtain rfl:e=.returned (.tuple #[.int .i64 qh,.int .i64 qv]):=hc;have HWn:=hid hw;have HQ:=hid (window_rng hw HL.out HKL.out HSm.out.2 (fun z hz=>by have:=HKP.out z hz;omega));clear hw;obtain ⟨k0,k1,k2,k3,k4,k5⟩:=(HA1.out.below' HW3.out).six;go_wp2_with fail
 clear k0 k1 k2 k3 k4 k5;refine (sints_any (n:=n) ⟨_,_,rfl,(HM.out.below (HBw.out _ HW3.out)).node⟩ nmPads (.empty none 0)).mono ?_;rintro e w4 ⟨v4,rfl,hr4,B4⟩;have HW4:=hid (HW3.out.trans (B4.mono HW3.out.size));have HI4:=hid (HI3.out.below B4);have hok:=ints_okP (nm:=nmPads) (other:=[]) (v:=.agg #[.string n.op,.string n.name,.slice a1 n.ins.length c1,.string n.out,.slice a2 n.attrs.length c2]) ⟨_,_,rfl,HM.out.node⟩ (by simp) (by simp);obtain ⟨l,hle⟩:∃ l,intsP n.attrs nmPads []=l:=⟨_,rfl⟩;rw [hle] at hr4 hok;have HLe:=hid hle;have HPd:Hid (IntsIn w4 v4 l):=hid (RowL.ints (B:=w3.heap.size) (by unfold RowL;exact hr4) hok.1 hok.2);have hll:=hok.1;have HOk:=hid hok.2;obtain ⟨a6,c6,rfl⟩:=HPd.out.shape;clear hle hr4 hok B4 HI3 HW3 HMk HA1;go_wp2_with fail
 go_loopw [28] (fun i wr=>∃ (m:Nat),m≤l.length∧i=.int .i64 (m:Int)∧Hid (padsB l k m=true)∧Hid (Below w4.heap.size w4 wr)) (fun i _=>l.length - (intOf i).toNat)
 case atStart=>exact ⟨0,Nat.zero_le _,rfl,hid (by unfold padsB;rfl),hid (Below.refl _ _)⟩
 case round =>
  obtain ⟨m,hm,rfl,hT,hW⟩:=hrel;have HBr:=hid (HBw.out _ (HW4.out.trans (hW.out.mono HW4.out.size)));by_cases hml:m < l.length
  ·have hki:(m:Int) < (l.length:Int):=by omega
   obtain ⟨bl,ol,hal,-,gl,ul,-⟩:=ints_at HPd.out hml;subst hal;have ul:=(hW.out.cell (p:=⟨bl,ol+m,none⟩) gl).trans ul;obtain ⟨bk,ok',hak,-,gk,uk,-⟩:=ints_at (k:=m % 2) HI4.out (by have:=HKL.out;omega);subst hak;have uk:=(hW.out.cell (p:=⟨bk,ok'+m % 2,none⟩) gk).trans uk;rw [HKL.out];have F1:=hid (fun h=>pads_next (l:=l) (k:=k) (m:=m) hT.out h);have F2:=hid (fun h=>pads_bad (k:=k) hml h);have hm2:m % 2 < 2:=Nat.mod_lt _ (by decide);have tm:((m:Int) % 2).toNat=m % 2:=by omega
   have bm:(m:Int) % 2 < 2:=by omega
   have bm0:0≤(m:Int) % 2:=by omega
   generalize l.getD m 0=q1 at *;generalize k.getD (m % 2) 0=q2 at *;by_cases hq:q1 < q2
   ·have hN:=hid (F1.out hq);have hqb:decide (q1 < q2)=true:=by simpa using hq
    go_wp2_with fail
    refine (HY.out _).mono ?_;rintro e w' ⟨rfl,rfl⟩;go_wp2
    go_roundw
    case rel=>exact ⟨m+1,by omega,by go_num,hN,hW⟩
    case measure=>simp [intOf];omega
   ·have hN:=hid (F2.out hq);have hqb:decide (q1 < q2)=false:=by simpa using hq
    go_wp2_with fail
    refine (HNo.out _).mono ?_;rintro e w' ⟨rfl,rfl⟩;exact ⟨rfl,ResI.no (pool_p HKe.out HL.out HWn.out HLe.out hN.out) HBr.out⟩
  ·have hki:¬ (m:Int) < (l.length:Int):=by omega
   obtain rfl:m=l.length:=by omega
   have E:=hid (pool_all HKe.out HL.out HWn.out HLe.out hT.out);obtain ⟨bx,ox,hax,-,gx,u0,i0'⟩:=ints_at (k:=0) HX.out (by have:=HL.out;omega);subst hax;obtain ⟨bx',ox',hax,-,-,u1,i1'⟩:=ints_at (k:=1) HX.out (by have:=HL.out;omega);obtain ⟨e1,e2⟩:bx=bx'∧ox=ox':=by simpa using hax
   subst e1 e2;clear hax;rw [Nat.add_zero] at u0;have u0:=(HBr.out.cell (p:=⟨bx,ox,none⟩) gx).trans u0;have u1:=(HBr.out.cell (p:=⟨bx,ox+1,none⟩) gx).trans u1;have gx:bx < wr.heap.size:=cell_in u0;have hLx:=HL.out;rw [hLx];clear hLx hxl hxc;generalize x.getD 0 0=q0 at *;generalize x.getD 1 0=q1 at *;go_wp2_with fail
   refine wp_region_plan 8 [0,1,2,3,4,5,6,7] (fun W'=>Below wr.heap.size wr W') (by kernel_rfl) (by kernel_rfl) (fun _ d _ _ _ h=>by cases d<;>exact h) (Below.refl _ _).drew ?_;have B0:Hid (Below wr.heap.size wr wr.drew):=hid (Below.refl _ _).drew;generalize wr.drew=wD at B0 ⊢
   repeat
    refine plan_read (v:=?_) rfl rfl (Or.inl ⟨by rfl,?_⟩) ?_;rotate_left
    ·intro W' hSw;have u0:=(hSw.cell (p:=⟨bx,ox,none⟩) gx).trans u0;have u1:=(hSw.cell (p:=⟨bx,ox+1,none⟩) gx).trans u1;go_simp
     try with_reducible rfl
    try simp only [Act.put,List.getElem_toArray,List.getElem_cons_zero,List.getElem_cons_succ,List.setIfInBounds_toArray,List.set_cons_zero,List.set_cons_succ]
   refine plan_tail rfl ?_;simp only [List.toList_toArray,List.drop_succ_cons,List.drop_zero];have HBD:=hid (HBr.out.trans (B0.out.mono HBr.out.size));have HBF:=hid (HBD.out.alloc HBD.out.size (Obj.cells #[.int .i64 q0,.int .i64 q1,.int .i64 qh,.int .i64 qv] 3));have HRw:Hid (RowI (wD.alloc (Obj.cells #[.int .i64 q0,.int .i64 q1,.int .i64 qh,.int .i64 qv] 3)) w.heap.size (.slice (some ⟨wD.heap.size,0,none⟩) 4 4) [q0,q1,qh,qv]):=hid (row_box (zs:=[q0,q1,qh,qv]) (BoxN.new wD _ _) HBD.out.size rfl (by simp));go_wp2
   go_ret
   exact ResI.yes E.out HBF.out HRw.out
end
section
open Go.RowKit
set_option maxRecDepth 100000
def nmGrp:ByteArray:=⟨#[103,114,111,117,112]⟩
def convA (x k:List Int) (g:Int):Prop:=x.length=4∧k.length=4∧1≤g∧g≤65536
def convB (x k:List Int) (g:Int):Prop:=(x.getD 1 0).tmod g=0∧(k.getD 0 0).tmod g=0∧k.getD 1 0=(x.getD 1 0).tdiv g
instance (x k:List Int) (g:Int):Decidable (convA x k g):=by unfold convA;infer_instance
instance (x k:List Int) (g:Int):Decidable (convB x k g):=by unfold convB;infer_instance
def convW (n:Nd) (x k:List Int):Option (List Int):=match windowP n x (k.drop 2) with | none=>none | some (h,v)=>some [x.getD 0 0,k.getD 0 0,h,v]
def convP (n:Nd) (x k:List Int) (z:Option (List Int)):Option (List Int) :=
 if convA x k (intP n.attrs nmGrp 1) then (if convB x k (intP n.attrs nmGrp 1) then (if z=none∨z=some (k.take 1) then convW n x k else none) else none) else none
theorem conv_a {n:Nd} {x k:List Int} {z:Option (List Int)} {g:Int} (e:intP n.attrs nmGrp 1=g) (h:¬ convA x k g):convP n x k z=none:=by subst e;exact if_neg h
theorem conv_b {n:Nd} {x k:List Int} {z:Option (List Int)} {g:Int} (e:intP n.attrs nmGrp 1=g) (h:convA x k g) (f:¬ convB x k g):convP n x k z=none:=by subst e;unfold convP;rw [if_pos h,if_neg f]
theorem conv_z {n:Nd} {x k:List Int} {z:Option (List Int)} {g:Int} (e:intP n.attrs nmGrp 1=g) (h:convA x k g) (f:convB x k g) (d:¬ (z=none∨z=some (k.take 1))):convP n x k z=none:=by subst e;unfold convP;rw [if_pos h,if_pos f,if_neg d]
theorem conv_w {n:Nd} {x k:List Int} {z:Option (List Int)} {g:Int} (e:intP n.attrs nmGrp 1=g) (h:convA x k g) (f:convB x k g) (d:z=none∨z=some (k.take 1)):convP n x k z=convW n x k:=by subst e;unfold convP;rw [if_pos h,if_pos f,if_pos d]
theorem convW_no {n:Nd} {x k:List Int} (h:windowP n x (k.drop 2)=none):convW n x k=none:=by unfold convW;rw [h]
theorem convW_yes {n:Nd} {x k:List Int} {a b:Int} (h:windowP n x (k.drop 2)=some (a,b)):convW n x k=some [x.getD 0 0,k.getD 0 0,a,b]:=by unfold convW;rw [h]
attribute [local irreducible] intP windowP convP RowI
set_option maxHeartbeats 16000000 in
theorem conv_any {w:World} {v vx:Value} {n:Nd} {ins:List Vl} {x:List Int} {y:Vl} {z:Option Vl} (h:MkV w v n ins) (hx:IntsIn w vx x) (hsm:Sm x) (hy:ins[1]?=some y) (hym:Sm y.dims) (hz:ins[2]?=z) (hl:ins.length≤3) :
  Calls Tryz.prog 71 #[v,vx] w fun e w'=>ResI w (convP n x y.dims (z.map Vl.dims)) e w':=by
 obtain ⟨i0,hi,hz0,hz1,hz2⟩:=info_parts info_int;obtain ⟨vin,vat,vv,rfl,hm⟩:=h;obtain ⟨a1,c1,rfl⟩:=hm.node.is.form;obtain ⟨a2,c2,rfl⟩:=hm.node.ia.form;obtain ⟨a3,c3,rfl⟩:=hm.ins.form;have HM:=hid hm;clear hm;obtain ⟨a4,c4,rfl⟩:=hx.shape;have hxl:=hx.wf.1;have hxc:=hx.capI.2;have HX:=hid hx;clear hx;have HY:=hid (fun (W:World)=>rule_yes W);have HNo:=hid (fun (W:World)=>rule_no W);have HSm:=hid hsm;have HYm:=hid hym;have HZ:=hid hz;obtain ⟨bi,oi,vd,hai,hbi,y2,hd⟩:=dim_at HM.out.ins hy;subst hai;rw [Nat.one_mul] at y2;have hlen:1 < ins.length:=(List.getElem?_eq_some_iff.1 hy).1;have hlen1:(1:Int) < (ins.length:Int):=by omega
 have HD:=hid hd;have hyl:=hd.wf.1;have hycA:∀ a c,vd=.slice a y.dims.length c→y.dims.length≤c:=fun a c e=>by subst e;exact hd.capI.2
 obtain ⟨ad,cd,rfl⟩:=hd.shape;have hyc:=hycA _ _ rfl;clear hycA;obtain ⟨k,hke⟩:∃ k,y.dims=k:=⟨_,rfl⟩;have HKe:=hid hke;rw [hke] at HD hyl hyc y2 HYm;clear hd hy hz hsm hym hke;have HB1:=hid ((Below.refl w.heap.size w).alloc (Nat.le_refl _) (Obj.cells #[.string n.op,.string n.name,.slice a1 n.ins.length c1,.string n.out,.slice a2 n.attrs.length c2,.slice (some ⟨bi,oi,none⟩) ins.length c3] 63));have HA1:=hid (BoxN.new w #[.string n.op,.string n.name,.slice a1 n.ins.length c1,.string n.out,.slice a2 n.attrs.length c2,.slice (some ⟨bi,oi,none⟩) ins.length c3] 63);go_enter Tryz.func71,Tryz.ntmps71
 have y2a:=cell_alloc y2 (Obj.cells #[.string n.op,.string n.name,.slice a1 n.ins.length c1,.string n.out,.slice a2 n.attrs.length c2,.slice (some ⟨bi,oi,none⟩) ins.length c3] 63);go_wp2_with fail
 generalize World.alloc w (Obj.cells #[.string n.op,.string n.name,.slice a1 n.ins.length c1,.string n.out,.slice a2 n.attrs.length c2,.slice (some ⟨bi,oi,none⟩) ins.length c3] 63)=W1 at HB1 HA1 y2a ⊢;have HMk:Hid (∀ W,Below W1.heap.size W1 W→MkV W (.agg #[.string n.op,.string n.name,.slice a1 n.ins.length c1,.string n.out,.slice a2 n.attrs.length c2,.slice (some ⟨bi,oi,none⟩) ins.length c3]) n ins):=hid fun W hB=>⟨_,_,_,rfl,HM.out.below (HB1.out.trans (hB.mono HB1.out.size))⟩;have HBw:Hid (∀ W,Below W1.heap.size W1 W→Below w.heap.size w W):=hid fun W hB=>HB1.out.trans (hB.mono HB1.out.size);clear y2a;refine (sint_any (n:=n) ⟨_,_,rfl,(HM.out.below HB1.out).node⟩ nmGrp 1).mono ?_;rintro e w2 ⟨rfl,B2⟩;have HW2:Hid (Below W1.heap.size W1 w2):=hid B2;obtain ⟨g,hge⟩:∃ g,intP n.attrs nmGrp 1=g:=⟨_,rfl⟩;rw [hge];have HG:=hid hge;clear hge B2;by_cases h1:x.length=4
 case neg =>
  have E:=hid (conv_a (k:=k) (z:=z.map Vl.dims) HG.out (fun c=>h1 c.1));have hb:((x.length:Int)==4)=false:=by simp;omega
  clear h1;go_wp2_with fail
  refine (HNo.out _).mono ?_;rintro e w' ⟨rfl,rfl⟩;exact ⟨rfl,ResI.no (by rw [HKe.out];exact E.out) (HBw.out _ HW2.out)⟩
 have hb1:((x.length:Int)==4)=true:=by simp;omega
 by_cases h2:k.length=4
 case neg =>
  have E:=hid (conv_a (x:=x) (z:=z.map Vl.dims) HG.out (fun c=>h2 c.2.1));have hb:((k.length:Int)==4)=false:=by simp;omega
  clear h1 h2;go_wp2_with fail
  refine (HNo.out _).mono ?_;rintro e w' ⟨rfl,rfl⟩;exact ⟨rfl,ResI.no (by rw [HKe.out];exact E.out) (HBw.out _ HW2.out)⟩
 have hb2:((k.length:Int)==4)=true:=by simp;omega
 by_cases h3:1≤g
 case neg =>
  have E:=hid (conv_a (x:=x) (k:=k) (z:=z.map Vl.dims) HG.out (fun c=>h3 c.2.2.1));have hb:decide (1≤g)=false:=by simpa using h3
  clear h1 h2;go_wp2_with fail
  refine (HNo.out _).mono ?_;rintro e w' ⟨rfl,rfl⟩;exact ⟨rfl,ResI.no (by rw [HKe.out];exact E.out) (HBw.out _ HW2.out)⟩
 have hb3:decide (1≤g)=true:=by simpa using h3
 by_cases h4:g≤65536
 case neg =>
  have E:=hid (conv_a (x:=x) (k:=k) (z:=z.map Vl.dims) HG.out (fun c=>h4 c.2.2.2));have hb:decide (g≤65536)=false:=by simpa using h4
  clear h1 h2;go_wp2_with fail
  refine (HNo.out _).mono ?_;rintro e w' ⟨rfl,rfl⟩;exact ⟨rfl,ResI.no (by rw [HKe.out];exact E.out) (HBw.out _ HW2.out)⟩
 have hb4:decide (g≤65536)=true:=by simpa using h4
 have HA:=hid (show convA x k g from ⟨h1,h2,h3,h4⟩);have HLX:=hid h1;have HLK:=hid h2;obtain ⟨bx,ox,hax,-,gx,x0,i0'⟩:=ints_at (k:=0) HX.out (by omega);subst hax;obtain ⟨bx',ox',hax,-,-,x1,i1'⟩:=ints_at (k:=1) HX.out (by omega);obtain ⟨e1,e2⟩:bx=bx'∧ox=ox':=by simpa using hax
 subst e1 e2;obtain ⟨bk,ok',hak,-,gk,u0,-⟩:=ints_at (k:=0) HD.out (by omega);subst hak;obtain ⟨bk',ok'',hak,-,-,u1,-⟩:=ints_at (k:=1) HD.out (by omega);obtain ⟨e1,e2⟩:bk=bk'∧ok'=ok'':=by simpa using hak
 subst e1 e2;clear hax hak i0' i1';rw [Nat.add_zero] at x0 u0;have rx0:=HSm.out.at (k:=0) (by omega);have rx1:=HSm.out.at (k:=1) (by omega);have rk0:=HYm.out.at (k:=0) (by omega);have rk1:=HYm.out.at (k:=1) (by omega);have HCB:Hid (convB x k g=((x.getD 1 0).tmod g=0∧(k.getD 0 0).tmod g=0∧k.getD 1 0=(x.getD 1 0).tdiv g)):=hid rfl;have HFin:Hid (∀ a b,windowP n x (k.drop 2)=some (a,b)→convW n x k=some [x.getD 0 0,k.getD 0 0,a,b]):=hid fun a b h=>convW_yes h;rw [h1,h2];rw [h1] at hxl hxc;rw [h2] at hyl hyc;generalize x.getD 0 0=X0 at *;generalize x.getD 1 0=X1 at *;generalize k.getD 0 0=K0 at *;generalize k.getD 1 0=K1 at *;clear h1 h2 hb1 hb2 hb3 hb4;have hG0:¬ g=0:=by omega
 have hG0b:(g==0)=false:=by simpa using hG0
 have hG1:¬ g=-1:=by omega
 have tX:0≤X1.tmod g∧X1.tmod g≤65536:=by
  rw [Int.tmod_eq_emod_of_nonneg (by omega)];have:=Int.emod_lt_of_pos X1 (show 0 < g by omega);have:=Int.emod_nonneg X1 hG0;omega
 have tK:0≤K0.tmod g∧K0.tmod g≤65536:=by
  rw [Int.tmod_eq_emod_of_nonneg (by omega)];have:=Int.emod_lt_of_pos K0 (show 0 < g by omega);have:=Int.emod_nonneg K0 hG0;omega
 have tD:0≤X1.tdiv g∧X1.tdiv g≤65536:=by
  rw [Int.tdiv_eq_ediv_of_nonneg (by omega)];have h1:=Int.ediv_nonneg (show 0≤X1 by omega) (show 0≤g by omega);have h2:=Int.ediv_le_self g (show 0≤X1 by omega);omega
 have wX:IntKind.i64.wrap (X1.tmod g)=X1.tmod g:=by rw [IntKind.wrap_i64];omega
 have wK:IntKind.i64.wrap (K0.tmod g)=K0.tmod g:=by rw [IntKind.wrap_i64];omega
 have wD:IntKind.i64.wrap (X1.tdiv g)=X1.tdiv g:=by rw [IntKind.wrap_i64];omega
 have X0c:=hid x0;have U0c:=hid u0;have gx2:bx < w2.heap.size:=Nat.lt_of_lt_of_le gx (HBw.out _ HW2.out).size;have gk2:bk < w2.heap.size:=Nat.lt_of_lt_of_le gk (HBw.out _ HW2.out).size;have x0:=((HBw.out _ HW2.out).cell (p:=⟨bx,ox,none⟩) gx).trans x0;have x1:=((HBw.out _ HW2.out).cell (p:=⟨bx,ox+1,none⟩) gx).trans x1;have u0:=((HBw.out _ HW2.out).cell (p:=⟨bk,ok',none⟩) gk).trans u0;have u1:=((HBw.out _ HW2.out).cell (p:=⟨bk,ok'+1,none⟩) gk).trans u1;go_wp2_with fail
 refine (HY.out _).mono ?_;rintro e w' ⟨rfl,rfl⟩;go_wp2_with fail
 by_cases q1:X1.tmod g=0
 case neg =>
  have E:=hid (conv_b (z:=z.map Vl.dims) HG.out HA.out (fun c=>q1 (HCB.out ▸ c).1));have qb1:(X1.tmod g==0)=false:=by simpa using q1
  refine wp_region_plan 25 [0,1,2,3,4,5,6,7,8,9,10,11,12,13,14,15,16,17,18,19,20,21,22,23,24] (fun W'=>Below w'.heap.size w' W') (by kernel_rfl) (by kernel_rfl) (fun _ d _ _ _ h=>by cases d<;>exact h) (Below.refl _ _).drew ?_;have B0:Hid (Below w'.heap.size w' w'.drew):=hid (Below.refl _ _).drew;generalize w'.drew=wD' at B0 ⊢
  repeat first
   |refine plan_read (v:=?_) rfl rfl (Or.inl ⟨by rfl,?_⟩) ?_
    rotate_left
    ·intro W' hSw;have x0:=(hSw.cell (p:=⟨bx,ox,none⟩) gx2).trans x0;have x1:=(hSw.cell (p:=⟨bx,ox+1,none⟩) gx2).trans x1;have u0:=(hSw.cell (p:=⟨bk,ok',none⟩) gk2).trans u0;have u1:=(hSw.cell (p:=⟨bk,ok'+1,none⟩) gk2).trans u1;go_simp
     try with_reducible rfl
    try simp only [Act.put,List.getElem_toArray,List.getElem_cons_zero,List.getElem_cons_succ,List.setIfInBounds_toArray,List.set_cons_zero,List.set_cons_succ]
   |refine plan_read (v:=undef) rfl rfl (Or.inr ⟨by rfl,rfl⟩) ?_
    try simp only [Act.put,List.getElem_toArray,List.getElem_cons_zero,List.getElem_cons_succ,List.setIfInBounds_toArray,List.set_cons_zero,List.set_cons_succ]
  refine plan_tail rfl ?_;simp only [List.toList_toArray,List.drop_succ_cons,List.drop_zero];have HBD:=hid ((HBw.out _ HW2.out).trans (B0.out.mono (HBw.out _ HW2.out).size));go_wp2_with fail
  refine (HNo.out _).mono ?_;rintro e w3 ⟨rfl,rfl⟩;exact ⟨rfl,ResI.no (by rw [HKe.out];exact E.out) HBD.out⟩
 have qb1:(X1.tmod g==0)=true:=by simpa using q1
 by_cases q2:K0.tmod g=0
 case neg =>
  have E:=hid (conv_b (z:=z.map Vl.dims) HG.out HA.out (fun c=>q2 (HCB.out ▸ c).2.1));have qb2:(K0.tmod g==0)=false:=by simpa using q2
  refine wp_region_plan 25 [0,1,2,3,4,5,6,7,8,9,10,11,12,13,14,15,16,17,18,19,20,21,22,23,24] (fun W'=>Below w'.heap.size w' W') (by kernel_rfl) (by kernel_rfl) (fun _ d _ _ _ h=>by cases d<;>exact h) (Below.refl _ _).drew ?_;have B0:Hid (Below w'.heap.size w' w'.drew):=hid (Below.refl _ _).drew;generalize w'.drew=wD' at B0 ⊢
  repeat first
   |refine plan_read (v:=?_) rfl rfl (Or.inl ⟨by rfl,?_⟩) ?_
    rotate_left
    ·intro W' hSw;have x0:=(hSw.cell (p:=⟨bx,ox,none⟩) gx2).trans x0;have x1:=(hSw.cell (p:=⟨bx,ox+1,none⟩) gx2).trans x1;have u0:=(hSw.cell (p:=⟨bk,ok',none⟩) gk2).trans u0;have u1:=(hSw.cell (p:=⟨bk,ok'+1,none⟩) gk2).trans u1;go_simp
     try with_reducible rfl
    try simp only [Act.put,List.getElem_toArray,List.getElem_cons_zero,List.getElem_cons_succ,List.setIfInBounds_toArray,List.set_cons_zero,List.set_cons_succ]
   |refine plan_read (v:=undef) rfl rfl (Or.inr ⟨by rfl,rfl⟩) ?_
    try simp only [Act.put,List.getElem_toArray,List.getElem_cons_zero,List.getElem_cons_succ,List.setIfInBounds_toArray,List.set_cons_zero,List.set_cons_succ]
  refine plan_tail rfl ?_;simp only [List.toList_toArray,List.drop_succ_cons,List.drop_zero];have HBD:=hid ((HBw.out _ HW2.out).trans (B0.out.mono (HBw.out _ HW2.out).size));go_wp2_with fail
  refine (HNo.out _).mono ?_;rintro e w3 ⟨rfl,rfl⟩;exact ⟨rfl,ResI.no (by rw [HKe.out];exact E.out) HBD.out⟩
 have qb2:(K0.tmod g==0)=true:=by simpa using q2
 by_cases q3:K1=X1.tdiv g
 case neg =>
  have E:=hid (conv_b (z:=z.map Vl.dims) HG.out HA.out (fun c=>q3 (HCB.out ▸ c).2.2));have qb3:(K1==X1.tdiv g)=false:=by simpa using q3
  refine wp_region_plan 25 [0,1,2,3,4,5,6,7,8,9,10,11,12,13,14,15,16,17,18,19,20,21,22,23,24] (fun W'=>Below w'.heap.size w' W') (by kernel_rfl) (by kernel_rfl) (fun _ d _ _ _ h=>by cases d<;>exact h) (Below.refl _ _).drew ?_;have B0:Hid (Below w'.heap.size w' w'.drew):=hid (Below.refl _ _).drew;generalize w'.drew=wD' at B0 ⊢
  repeat first
   |refine plan_read (v:=?_) rfl rfl (Or.inl ⟨by rfl,?_⟩) ?_
    rotate_left
    ·intro W' hSw;have x0:=(hSw.cell (p:=⟨bx,ox,none⟩) gx2).trans x0;have x1:=(hSw.cell (p:=⟨bx,ox+1,none⟩) gx2).trans x1;have u0:=(hSw.cell (p:=⟨bk,ok',none⟩) gk2).trans u0;have u1:=(hSw.cell (p:=⟨bk,ok'+1,none⟩) gk2).trans u1;go_simp
     try with_reducible rfl
    try simp only [Act.put,List.getElem_toArray,List.getElem_cons_zero,List.getElem_cons_succ,List.setIfInBounds_toArray,List.set_cons_zero,List.set_cons_succ]
   |refine plan_read (v:=undef) rfl rfl (Or.inr ⟨by rfl,rfl⟩) ?_
    try simp only [Act.put,List.getElem_toArray,List.getElem_cons_zero,List.getElem_cons_succ,List.setIfInBounds_toArray,List.set_cons_zero,List.set_cons_succ]
  refine plan_tail rfl ?_;simp only [List.toList_toArray,List.drop_succ_cons,List.drop_zero];have HBD:=hid ((HBw.out _ HW2.out).trans (B0.out.mono (HBw.out _ HW2.out).size));go_wp2_with fail
  refine (HNo.out _).mono ?_;rintro e w3 ⟨rfl,rfl⟩;exact ⟨rfl,ResI.no (by rw [HKe.out];exact E.out) HBD.out⟩
 have qb3:(K1==X1.tdiv g)=true:=by simpa using q3
 have HB:Hid (convB x k g):=hid (by rw [HCB.out];exact ⟨q1,q2,q3⟩);refine wp_region_plan 25 [0,1,2,3,4,5,6,7,8,9,10,11,12,13,14,15,16,17,18,19,20,21,22,23,24] (fun W'=>Below w'.heap.size w' W') (by kernel_rfl) (by kernel_rfl) (fun _ d _ _ _ h=>by cases d<;>exact h) (Below.refl _ _).drew ?_;have B0:Hid (Below w'.heap.size w' w'.drew):=hid (Below.refl _ _).drew;generalize w'.drew=wD' at B0 ⊢
 repeat first
  |refine plan_read (v:=?_) rfl rfl (Or.inl ⟨by rfl,?_⟩) ?_
   rotate_left
   ·intro W' hSw;have x0:=(hSw.cell (p:=⟨bx,ox,none⟩) gx2).trans x0;have x1:=(hSw.cell (p:=⟨bx,ox+1,none⟩) gx2).trans x1;have u0:=(hSw.cell (p:=⟨bk,ok',none⟩) gk2).trans u0;have u1:=(hSw.cell (p:=⟨bk,ok'+1,none⟩) gk2).trans u1;go_simp
    try with_reducible rfl
   try simp only [Act.put,List.getElem_toArray,List.getElem_cons_zero,List.getElem_cons_succ,List.setIfInBounds_toArray,List.set_cons_zero,List.set_cons_succ]
  |refine plan_read (v:=undef) rfl rfl (Or.inr ⟨by rfl,rfl⟩) ?_
   try simp only [Act.put,List.getElem_toArray,List.getElem_cons_zero,List.getElem_cons_succ,List.setIfInBounds_toArray,List.set_cons_zero,List.set_cons_succ]
 refine plan_tail rfl ?_;simp only [List.toList_toArray,List.drop_succ_cons,List.drop_zero];have HBD:=hid ((HBw.out _ HW2.out).trans (B0.out.mono (HBw.out _ HW2.out).size));clear q1 q2 q3 qb1 qb2 qb3 wX wK wD tX tK tD hG0 hG0b hG1;go_wp2_with fail
 refine (HY.out _).mono ?_;rintro e w3 ⟨rfl,rfl⟩;have HW3:=hid (HW2.out.trans (B0.out.mono HW2.out.size));have x0:=(B0.out.cell (p:=⟨bx,ox,none⟩) gx2).trans x0;have u0:=(B0.out.cell (p:=⟨bk,ok',none⟩) gk2).trans u0;have gx3:bx < w3.heap.size:=cell_in x0;have gk3:bk < w3.heap.size:=cell_in u0;clear B0 HBD x1 u1 gx2 gk2;have hcd2:¬ cd=2:=by omega
 have hcd2':2≤cd:=by omega
 have hcd1:1≤cd:=by omega
 have hcd1i:(1:Int)≤(cd:Int):=by omega
 have HDr:Hid (∀ W,Below W1.heap.size W1 W→IntsIn W (.slice (some ⟨bk,ok'+2,none⟩) 2 (cd - 2)) (k.drop 2)):=hid fun W hB=>by
  have:=ints_dropI (k:=2) (zs:=k) (c:=cd) (a:=some ⟨bk,ok',none⟩) (HD.out.below (HBw.out _ hB)) (by rw [HLK.out];decide);rw [if_neg hcd2,HLK.out,Option.map_some,add_some] at this;exact this
 have HTk:Hid (∀ W,Below W1.heap.size W1 W→IntsIn W (.slice (some ⟨bk,ok',none⟩) 1 cd) (k.take 1)):=hid fun W hB=>(HD.out.below (HBw.out _ hB)).take (by rw [HLK.out];decide);have HWin:Hid (∀ W,Below W1.heap.size W1 W→Calls Tryz.prog 124 #[.agg #[.string n.op,.string n.name,.slice a1 n.ins.length c1,.string n.out,.slice a2 n.attrs.length c2,.slice (some ⟨bi,oi,none⟩) ins.length c3],.slice (some ⟨bx,ox,none⟩) 4 c4,.slice (some ⟨bk,ok'+2,none⟩) 2 (cd - 2)] W fun e w'=>WinR (windowP n x (k.drop 2)) e∧Below W.heap.size W w'):=hid fun W hB=>window_any (HMk.out _ hB) (show IntsIn W (.slice (some ⟨bx,ox,none⟩) 4 c4) x by have:=HX.out.below (HBw.out _ hB);rwa [HLX.out] at this) (HDr.out _ hB) HLX.out (by rw [List.length_drop,HLK.out]) HSm.out.2 (fun z hz=>HYm.out.2 z (List.mem_of_mem_drop hz));have HWr:Hid (∀ a b,windowP n x (k.drop 2)=some (a,b)→InI a∧InI b):=hid fun a b h=>window_rng h HLX.out (by rw [List.length_drop,HLK.out]) HSm.out.2 (fun z hz=>HYm.out.2 z (List.mem_of_mem_drop hz));go_wp2_with fail
 cases z with
 | none =>
  have hl3:(ins.length:Int) < 3:=by
   have:=List.getElem?_eq_none_iff.1 HZ.out;omega
  have E:=hid (conv_w (z:=none) HG.out HA.out HB.out (Or.inl rfl));refine wp_region_plan 14 [0,1,2,3,4,5,6,7,8,9,10,11,12,13] (fun W'=>Below w3.heap.size w3 W') (by kernel_rfl) (by kernel_rfl) (fun _ d _ _ _ h=>by cases d<;>exact h) (Below.refl _ _).drew ?_;have B3:Hid (Below w3.heap.size w3 w3.drew):=hid (Below.refl _ _).drew;generalize w3.drew=wC at B3 ⊢
  repeat first
   |refine plan_read (v:=?_) rfl rfl (Or.inl ⟨by rfl,?_⟩) ?_
    rotate_left
    ·intro W' hSw;obtain ⟨k0,k1,k2,k3,k4,k5⟩:=(HA1.out.below' (HW3.out.trans (hSw.mono HW3.out.size))).six;go_simp
     try with_reducible rfl
    try simp only [Act.put,List.getElem_toArray,List.getElem_cons_zero,List.getElem_cons_succ,List.setIfInBounds_toArray,List.set_cons_zero,List.set_cons_succ]
   |refine plan_read (v:=undef) rfl rfl (Or.inr ⟨by rfl,rfl⟩) ?_
    try simp only [Act.put,List.getElem_toArray,List.getElem_cons_zero,List.getElem_cons_succ,List.setIfInBounds_toArray,List.set_cons_zero,List.set_cons_succ]
  refine plan_act rfl rfl (fun K' hK=>?_);go_simp
  refine hK.out _ _ B3.out ?_;clear hK K'
  repeat
   refine plan_read (v:=?_) rfl rfl (Or.inl ⟨by rfl,?_⟩) ?_;rotate_left
   ·intro W' hSw
    skip
    go_simp
    try with_reducible rfl
   try simp only [Act.put,List.getElem_toArray,List.getElem_cons_zero,List.getElem_cons_succ,List.setIfInBounds_toArray,List.set_cons_zero,List.set_cons_succ]
  refine plan_tail rfl ?_;simp only [List.toList_toArray,List.drop_succ_cons,List.drop_zero];go_wp2_with fail
  refine (HY.out _).mono ?_;rintro e w4 ⟨rfl,rfl⟩;have HW4:=hid (HW3.out.trans (B3.out.mono HW3.out.size));clear B3;go_wp2_with fail
  refine wp_region_plan 9 [0,1,2,3,4,5,6,7,8] (fun W'=>Below w4.heap.size w4 W') (by kernel_rfl) (by kernel_rfl) (fun _ d _ _ _ h=>by cases d<;>exact h) (Below.refl _ _).drew ?_;have B4:Hid (Below w4.heap.size w4 w4.drew):=hid (Below.refl _ _).drew;generalize w4.drew=wE at B4 ⊢
  repeat
   refine plan_read (v:=?_) rfl rfl (Or.inl ⟨by rfl,?_⟩) ?_;rotate_left
   ·intro W' hSw;obtain ⟨k0,k1,k2,k3,k4,k5⟩:=(HA1.out.below' (HW4.out.trans (hSw.mono HW4.out.size))).six;go_simp
    try with_reducible rfl
   try simp only [Act.put,List.getElem_toArray,List.getElem_cons_zero,List.getElem_cons_succ,List.setIfInBounds_toArray,List.set_cons_zero,List.set_cons_succ]
  have HWE:=hid (HW4.out.trans (B4.out.mono HW4.out.size));refine plan_act rfl rfl (fun K' hK=>?_);go_simp
  refine (HWin.out _ HWE.out).mono ?_;rintro e w5 ⟨hc,B5⟩;have HW5:=hid (HWE.out.trans (B5.mono HWE.out.size));have HW45:=hid (B4.out.trans (B5.mono B4.out.size));cases hw:windowP n x (k.drop 2) with
  | none =>
   rw [hw] at hc;obtain rfl:e=brk 4:=hc;exact ⟨rfl,ResI.no (by rw [HKe.out];exact E.out.trans (convW_no hw)) (HBw.out _ HW5.out)⟩
  | some ab =>
  obtain ⟨qh,qv⟩:=ab;rw [hw] at hc;obtain rfl:e=.returned (.tuple #[.int .i64 qh,.int .i64 qv]):=hc;have F:=hid (E.out.trans (HFin.out qh qv hw));clear hw B5;refine hK.out _ _ HW45.out ?_;clear hK K'
  repeat
   refine plan_read (v:=?_) rfl rfl (Or.inl ⟨by rfl,?_⟩) ?_;rotate_left
   ·intro W' hSw
    skip
    go_simp
    try with_reducible rfl
   try simp only [Act.put,List.getElem_toArray,List.getElem_cons_zero,List.getElem_cons_succ,List.setIfInBounds_toArray,List.set_cons_zero,List.set_cons_succ]
  refine plan_tail rfl ?_;simp only [List.toList_toArray,List.drop_succ_cons,List.drop_zero];have x0:=((HBw.out _ HW5.out).cell (p:=⟨bx,ox,none⟩) gx).trans X0c.out;have u0:=((HBw.out _ HW5.out).cell (p:=⟨bk,ok',none⟩) gk).trans U0c.out;have gx5:bx < w5.heap.size:=cell_in x0;have gk5:bk < w5.heap.size:=cell_in u0;go_wp2_with fail
  refine wp_region_plan 8 [0,1,2,3,4,5,6,7] (fun W'=>Below w5.heap.size w5 W') (by kernel_rfl) (by kernel_rfl) (fun _ d _ _ _ h=>by cases d<;>exact h) (Below.refl _ _).drew ?_;have B6:Hid (Below w5.heap.size w5 w5.drew):=hid (Below.refl _ _).drew;generalize w5.drew=wF at B6 ⊢
  repeat
   refine plan_read (v:=?_) rfl rfl (Or.inl ⟨by rfl,?_⟩) ?_;rotate_left
   ·intro W' hSw;have x0:=(hSw.cell (p:=⟨bx,ox,none⟩) gx5).trans x0;have u0:=(hSw.cell (p:=⟨bk,ok',none⟩) gk5).trans u0;go_simp
    try with_reducible rfl
   try simp only [Act.put,List.getElem_toArray,List.getElem_cons_zero,List.getElem_cons_succ,List.setIfInBounds_toArray,List.set_cons_zero,List.set_cons_succ]
  refine plan_tail rfl ?_;simp only [List.toList_toArray,List.drop_succ_cons,List.drop_zero];have HBF:=hid ((HBw.out _ HW5.out).trans (B6.out.mono (HBw.out _ HW5.out).size));have HBG:=hid (HBF.out.alloc HBF.out.size (Obj.cells #[.int .i64 X0,.int .i64 K0,.int .i64 qh,.int .i64 qv] 3));have HRw:Hid (RowI (wF.alloc (Obj.cells #[.int .i64 X0,.int .i64 K0,.int .i64 qh,.int .i64 qv] 3)) w.heap.size (.slice (some ⟨wF.heap.size,0,none⟩) 4 4) [X0,K0,qh,qv]):=hid (row_box (zs:=[X0,K0,qh,qv]) (BoxN.new wF _ _) HBF.out.size rfl (by simp));go_wp2
  go_ret
  exact ResI.yes (by rw [HKe.out];exact F.out) HBG.out HRw.out
 | some zz =>
  have hl3':=(List.getElem?_eq_some_iff.1 HZ.out).1;have hl3:¬ (ins.length:Int) < 3:=by omega
  have hl4:(2:Int) < (ins.length:Int):=by omega
  obtain ⟨bz,oz,vz,haz,hbz,z2,hzd⟩:=dim_at HM.out.ins HZ.out;obtain ⟨e1,e2⟩:bi=bz∧oi=oz:=by simpa using haz
  subst e1 e2;obtain ⟨az,cz,rfl⟩:=hzd.shape;have HZD:=hid hzd;have z2:w3.cell? ⟨bi,oi+6+2,none⟩=_:=((HBw.out _ HW3.out).cell (p:=⟨bi,oi+2 * 3+2,none⟩) hbz).trans z2;have gz:bi < w3.heap.size:=cell_in z2;clear haz hzd hbz hl3';refine wp_region_plan 14 [0,1,2,3,4,5,6,7,8,9,10,11,12,13] (fun W'=>Below w3.heap.size w3 W') (by kernel_rfl) (by kernel_rfl) (fun _ d _ _ _ h=>by cases d<;>exact h) (Below.refl _ _).drew ?_;have B3:Hid (Below w3.heap.size w3 w3.drew):=hid (Below.refl _ _).drew;generalize w3.drew=wC at B3 ⊢
  repeat first
   |refine plan_read (v:=?_) rfl rfl (Or.inl ⟨by rfl,?_⟩) ?_
    rotate_left
    ·intro W' hSw;obtain ⟨k0,k1,k2,k3,k4,k5⟩:=(HA1.out.below' (HW3.out.trans (hSw.mono HW3.out.size))).six;have z2:=(hSw.cell (p:=⟨bi,oi+6+2,none⟩) gz).trans z2;go_simp
     try with_reducible rfl
    try simp only [Act.put,List.getElem_toArray,List.getElem_cons_zero,List.getElem_cons_succ,List.setIfInBounds_toArray,List.set_cons_zero,List.set_cons_succ]
   |refine plan_read (v:=undef) rfl rfl (Or.inr ⟨by rfl,rfl⟩) ?_
    try simp only [Act.put,List.getElem_toArray,List.getElem_cons_zero,List.getElem_cons_succ,List.setIfInBounds_toArray,List.set_cons_zero,List.set_cons_succ]
  refine plan_act rfl rfl (fun K' hK=>?_);go_simp
  have HWC:=hid (HW3.out.trans (B3.out.mono HW3.out.size));refine (equalI_any (HZD.out.below (HBw.out _ HWC.out)) (HTk.out _ HWC.out)).mono ?_;rintro e w4 ⟨rfl,B4e⟩;have HW34:=hid (B3.out.trans (B4e.mono B3.out.size));have HW4:=hid (HW3.out.trans (HW34.out.mono HW3.out.size));refine hK.out _ _ HW34.out ?_;clear hK K' B3 HWC B4e;by_cases hq:zz.dims=k.take 1
  ·have E:=hid (conv_w (z:=some zz.dims) HG.out HA.out HB.out (Or.inr (by rw [hq])));rw [decide_eq_true hq];clear hq
   repeat
    refine plan_read (v:=?_) rfl rfl (Or.inl ⟨by rfl,?_⟩) ?_;rotate_left
    ·intro W' hSw
     skip
     go_simp
     try with_reducible rfl
    try simp only [Act.put,List.getElem_toArray,List.getElem_cons_zero,List.getElem_cons_succ,List.setIfInBounds_toArray,List.set_cons_zero,List.set_cons_succ]
   refine plan_tail rfl ?_;simp only [List.toList_toArray,List.drop_succ_cons,List.drop_zero];go_wp2_with fail
   refine (HY.out _).mono ?_;rintro e w4 ⟨rfl,rfl⟩;go_wp2_with fail
   refine wp_region_plan 9 [0,1,2,3,4,5,6,7,8] (fun W'=>Below w4.heap.size w4 W') (by kernel_rfl) (by kernel_rfl) (fun _ d _ _ _ h=>by cases d<;>exact h) (Below.refl _ _).drew ?_;have B4:Hid (Below w4.heap.size w4 w4.drew):=hid (Below.refl _ _).drew;generalize w4.drew=wE at B4 ⊢
   repeat
    refine plan_read (v:=?_) rfl rfl (Or.inl ⟨by rfl,?_⟩) ?_;rotate_left
    ·intro W' hSw;obtain ⟨k0,k1,k2,k3,k4,k5⟩:=(HA1.out.below' (HW4.out.trans (hSw.mono HW4.out.size))).six;go_simp
     try with_reducible rfl
    try simp only [Act.put,List.getElem_toArray,List.getElem_cons_zero,List.getElem_cons_succ,List.setIfInBounds_toArray,List.set_cons_zero,List.set_cons_succ]
   have HWE:=hid (HW4.out.trans (B4.out.mono HW4.out.size));refine plan_act rfl rfl (fun K' hK=>?_);go_simp
   refine (HWin.out _ HWE.out).mono ?_;rintro e w5 ⟨hc,B5⟩;have HW5:=hid (HWE.out.trans (B5.mono HWE.out.size));have HW45:=hid (B4.out.trans (B5.mono B4.out.size));cases hw:windowP n x (k.drop 2) with
   | none =>
    rw [hw] at hc;obtain rfl:e=brk 4:=hc;exact ⟨rfl,ResI.no (by rw [HKe.out];exact E.out.trans (convW_no hw)) (HBw.out _ HW5.out)⟩
   | some ab =>
   obtain ⟨qh,qv⟩:=ab;rw [hw] at hc;obtain rfl:e=.returned (.tuple #[.int .i64 qh,.int .i64 qv]):=hc;have F:=hid (E.out.trans (HFin.out qh qv hw));clear hw B5;refine hK.out _ _ HW45.out ?_;clear hK K'
   repeat
    refine plan_read (v:=?_) rfl rfl (Or.inl ⟨by rfl,?_⟩) ?_;rotate_left
    ·intro W' hSw
     skip
     go_simp
     try with_reducible rfl
    try simp only [Act.put,List.getElem_toArray,List.getElem_cons_zero,List.getElem_cons_succ,List.setIfInBounds_toArray,List.set_cons_zero,List.set_cons_succ]
   refine plan_tail rfl ?_;simp only [List.toList_toArray,List.drop_succ_cons,List.drop_zero];have x0:=((HBw.out _ HW5.out).cell (p:=⟨bx,ox,none⟩) gx).trans X0c.out;have u0:=((HBw.out _ HW5.out).cell (p:=⟨bk,ok',none⟩) gk).trans U0c.out;have gx5:bx < w5.heap.size:=cell_in x0;have gk5:bk < w5.heap.size:=cell_in u0;go_wp2_with fail
   refine wp_region_plan 8 [0,1,2,3,4,5,6,7] (fun W'=>Below w5.heap.size w5 W') (by kernel_rfl) (by kernel_rfl) (fun _ d _ _ _ h=>by cases d<;>exact h) (Below.refl _ _).drew ?_;have B6:Hid (Below w5.heap.size w5 w5.drew):=hid (Below.refl _ _).drew;generalize w5.drew=wF at B6 ⊢
   repeat
    refine plan_read (v:=?_) rfl rfl (Or.inl ⟨by rfl,?_⟩) ?_;rotate_left
    ·intro W' hSw;have x0:=(hSw.cell (p:=⟨bx,ox,none⟩) gx5).trans x0;have u0:=(hSw.cell (p:=⟨bk,ok',none⟩) gk5).trans u0;go_simp
     try with_reducible rfl
    try simp only [Act.put,List.getElem_toArray,List.getElem_cons_zero,List.getElem_cons_succ,List.setIfInBounds_toArray,List.set_cons_zero,List.set_cons_succ]
   refine plan_tail rfl ?_;simp only [List.toList_toArray,List.drop_succ_cons,List.drop_zero];have HBF:=hid ((HBw.out _ HW5.out).trans (B6.out.mono (HBw.out _ HW5.out).size));have HBG:=hid (HBF.out.alloc HBF.out.size (Obj.cells #[.int .i64 X0,.int .i64 K0,.int .i64 qh,.int .i64 qv] 3));have HRw:Hid (RowI (wF.alloc (Obj.cells #[.int .i64 X0,.int .i64 K0,.int .i64 qh,.int .i64 qv] 3)) w.heap.size (.slice (some ⟨wF.heap.size,0,none⟩) 4 4) [X0,K0,qh,qv]):=hid (row_box (zs:=[X0,K0,qh,qv]) (BoxN.new wF _ _) HBF.out.size rfl (by simp));go_wp2
   go_ret
   exact ResI.yes (by rw [HKe.out];exact F.out) HBG.out HRw.out
  ·have E:=hid (conv_z (z:=some zz.dims) HG.out HA.out HB.out (fun c=>hq (by rcases c with c | c;cases c;exact Option.some.inj c)));rw [decide_eq_false hq];clear hq
   repeat
    refine plan_read (v:=?_) rfl rfl (Or.inl ⟨by rfl,?_⟩) ?_;rotate_left
    ·intro W' hSw
     skip
     go_simp
     try with_reducible rfl
    try simp only [Act.put,List.getElem_toArray,List.getElem_cons_zero,List.getElem_cons_succ,List.setIfInBounds_toArray,List.set_cons_zero,List.set_cons_succ]
   refine plan_tail rfl ?_;simp only [List.toList_toArray,List.drop_succ_cons,List.drop_zero];go_wp2_with fail
   refine (HNo.out _).mono ?_;rintro e w' ⟨rfl,rfl⟩;exact ⟨rfl,ResI.no (by rw [HKe.out];exact E.out) (HBw.out _ HW4.out)⟩
end
section
open Go.RowKit
set_option maxRecDepth 100000
def nmShape:ByteArray:=⟨#[115,104,97,112,101]⟩
def resS (x:List Int) (i:Nat) (left d:Int):Int × Int:=if d=-1∧left < 0 then ((i:Int),1) else if d=0∧i < x.length then (left,x.getD i 0) else (left,d)
def resF (x:List Int):Nat→Int→Int→List Int→List Int→Option (Int × Int × List Int)
 | _,left,prod,out,[]=>some (left,prod,out)
 | i,left,prod,out,d :: l =>
  if 1≤(resS x i left d).2∧(resS x i left d).2≤65536 then (if prod * (resS x i left d).2≤65536 then resF x (i+1) (resS x i left d).1 (prod * (resS x i left d).2) (out++[(resS x i left d).2]) l else none) else none
def resE (x:List Int) (r:Int × Int × List Int):Option (List Int) :=
 if 0≤r.1 then (if ((cnt x).1).tmod r.2.1=0 then some (r.2.2.set r.1.toNat (((cnt x).1).tdiv r.2.1)) else none) else if (cnt x).1=r.2.1 then some r.2.2 else none
def reshapeP (n:Nd) (x:List Int):Option (List Int):=match resF x 0 (-1) 1 [] (intsP n.attrs nmShape []) with | none=>none | some r=>resE x r
theorem res_end {x l:List Int} {k i:Nat} {left prod:Int} {out:List Int} (h:¬ k < l.length):resF x i left prod out (l.drop k)=some (left,prod,out):=by
 rw [List.drop_eq_nil_of_le (by omega),resF]
theorem res_bad {x l:List Int} {k:Nat} {left prod q p:Int} {out:List Int} (hk:k < l.length) (hs:resS x k left (l.getD k 0)=(q,p)) (h:¬ (1≤p∧p≤65536)):resF x k left prod out (l.drop k)=none:=by
 rw [drop_next hk,resF,hs];exact if_neg h
theorem res_big {x l:List Int} {k:Nat} {left prod q p:Int} {out:List Int} (hk:k < l.length) (hs:resS x k left (l.getD k 0)=(q,p)) (h:1≤p∧p≤65536) (g:¬ prod * p≤65536):resF x k left prod out (l.drop k)=none:=by
 rw [drop_next hk,resF,hs];simp only [];rw [if_pos h,if_neg g]
theorem res_next {x l:List Int} {k:Nat} {left prod q p:Int} {out:List Int} (hk:k < l.length) (hs:resS x k left (l.getD k 0)=(q,p)) (h:1≤p∧p≤65536) (g:prod * p≤65536):resF x k left prod out (l.drop k)=resF x (k+1) q (prod * p) (out++[p]) (l.drop (k+1)):=by
 rw [drop_next hk,resF,hs];simp only [];rw [if_pos h,if_pos g]
theorem resh_no {n:Nd} {x l:List Int} (e:intsP n.attrs nmShape []=l) (h:resF x 0 (-1) 1 [] l=none):reshapeP n x=none:=by subst e;unfold reshapeP;rw [h]
theorem resh_all {n:Nd} {x l:List Int} {r:Int × Int × List Int} (e:intsP n.attrs nmShape []=l) (h:resF x 0 (-1) 1 [] l=some r):reshapeP n x=resE x r:=by subst e;unfold reshapeP;rw [h]
attribute [local irreducible] intsP resF resS reshapeP resE cnt RowI
set_option maxHeartbeats 16000000 in
theorem reshape_any {w:World} {v vx:Value} {n:Nd} {ins:List Vl} {x:List Int} (h:MkV w v n ins) (hx:IntsIn w vx x) (hsm:Sm x) :
  Calls Tryz.prog 126 #[v,vx] w fun e w'=>ResI w (reshapeP n x) e w':=by
 obtain ⟨i0,hi,hz0,hz1,hz2⟩:=info_parts info_int;obtain ⟨vin,vat,vv,rfl,hm⟩:=h;obtain ⟨a1,c1,rfl⟩:=hm.node.is.form;obtain ⟨a2,c2,rfl⟩:=hm.node.ia.form;obtain ⟨a3,c3,rfl⟩:=hm.ins.form;have HM:=hid hm;clear hm;obtain ⟨a4,c4,rfl⟩:=hx.shape;have hxl:=hx.wf.1;have hxc:=hx.capI.2;have HX:=hid hx;clear hx;have HY:=hid (fun (W:World)=>rule_yes W);have HNo:=hid (fun (W:World)=>rule_no W);have HB1:=hid ((Below.refl w.heap.size w).alloc (Nat.le_refl _) (Obj.cells #[.string n.op,.string n.name,.slice a1 n.ins.length c1,.string n.out,.slice a2 n.attrs.length c2,.slice a3 ins.length c3] 63));have HA1:=hid (BoxN.new w #[.string n.op,.string n.name,.slice a1 n.ins.length c1,.string n.out,.slice a2 n.attrs.length c2,.slice a3 ins.length c3] 63);have HSm:=hid hsm;clear hsm;go_enter Tryz.func126,Tryz.ntmps126
 go_wp2_with fail
 generalize World.alloc w (Obj.cells #[.string n.op,.string n.name,.slice a1 n.ins.length c1,.string n.out,.slice a2 n.attrs.length c2,.slice a3 ins.length c3] 63)=W1 at HB1 HA1 ⊢;refine (sints_any (n:=n) ⟨_,_,rfl,(HM.out.below HB1.out).node⟩ nmShape (.empty none 0)).mono ?_;rintro e w3 ⟨v3,rfl,hr3,B3⟩;have HB3:=hid (HB1.out.trans (B3.mono HB1.out.size));have hok:=ints_okP (nm:=nmShape) (other:=[]) (v:=.agg #[.string n.op,.string n.name,.slice a1 n.ins.length c1,.string n.out,.slice a2 n.attrs.length c2]) ⟨_,_,rfl,HM.out.node⟩ (by simp) (by simp);obtain ⟨l,hle⟩:∃ l,intsP n.attrs nmShape []=l:=⟨_,rfl⟩;rw [hle] at hr3 hok;have HLe:=hid hle;have HI3:Hid (IntsIn w3 v3 l):=hid (RowL.ints (B:=W1.heap.size) (by unfold RowL;exact hr3) hok.1 hok.2);have hll:=hok.1;have HOk:=hid hok.2;obtain ⟨a6,c6,rfl⟩:=HI3.out.shape;clear hle hr3 hok B3 HA1;go_wp2_with fail
 go_loopw [5,6,7,15] (fun lv pv ov i wr=>∃ (k:Nat) (left prod:Int) (out:List Int),k≤l.length∧i=.int .i64 (k:Int)∧lv=.int .i64 left∧pv=.int .i64 prod ∧ -1≤left∧left < (k:Int)∧1≤prod∧prod≤65536∧out.length=k∧Hid (resF x 0 (-1) 1 [] l=resF x k left prod out (l.drop k))∧Hid (RowI wr w3.heap.size ov out)∧Hid (Below w3.heap.size w3 wr)) (fun _ _ _ i _=>l.length - (intOf i).toNat)
 case atStart=>exact ⟨0,-1,1,[],Nat.zero_le _,rfl,rfl,rfl,by omega,by omega,by omega,by omega,rfl,hid rfl,hid (RowI.nil _ _),hid (Below.refl _ _)⟩
 case round =>
  obtain ⟨k,left,prod,out,hk,rfl,rfl,rfl,hl0,hl1,hp0,hp1,hol,hF,hO,hW⟩:=hrel;have HBr:=hid (HB3.out.trans (hW.out.mono HB3.out.size));obtain ⟨ao,co,hov⟩:=hO.out.form;subst hov;have hsw:=hW.out.size;have HOL:=hid hol;rw [hol];have holk:out.length≤k:=by omega
  clear hol;by_cases hkl:k < l.length
  ·have hki:(k:Int) < (l.length:Int):=by omega
   obtain ⟨bl,ol,hal,-,gl,ul,-⟩:=ints_at HI3.out hkl;subst hal;have ul:=(hW.out.cell (p:=⟨bl,ol+k,none⟩) gl).trans ul;have F1:=hid (fun q p h1 h2=>res_bad (x:=x) (left:=left) (prod:=prod) (out:=out) (q:=q) (p:=p) hkl h1 h2);have F2:=hid (fun q p h1 h2 h3=>res_big (x:=x) (left:=left) (prod:=prod) (out:=out) (q:=q) (p:=p) hkl h1 h2 h3);have F3:=hid (fun q p h1 h2 h3=>res_next (x:=x) (left:=left) (prod:=prod) (out:=out) (q:=q) (p:=p) hkl h1 h2 h3);have FS:=hid (show resS x k left (l.getD k 0)=if l.getD k 0=-1∧left < 0 then ((k:Int),1) else if l.getD k 0=0∧k < x.length then (left,x.getD k 0) else (left,l.getD k 0) by unfold resS;rfl);generalize l.getD k 0=d at *;have hOo:Hid (wr.ownsRow w3.heap.size 3 1 (.slice ao k co) k (out.map (Value.int .i64))):=hid (by have:=hO.out.own;rw [HOL.out] at this;exact this);have hO:Hid (RowI wr w3.heap.size (.slice ao k co) out):=hid (by have:=hO.out;rw [HOL.out] at this;exact this);by_cases c1:d=-1∧left < 0
   ·have hrs:=FS.out.trans (if_pos c1);obtain ⟨c1a,c1b⟩:=c1;subst c1a;have G:=hid (hF.out.trans (F3.out _ _ hrs ⟨by decide,by decide⟩ (by omega)));have hlb:decide (left < 0)=true:=by simpa using c1b
    rw [Int.mul_one] at G;clear hrs F1 F2 F3 FS;go_wp2_with fail
    refine (HY.out _).mono ?_;rintro e w' ⟨rfl,rfl⟩;go_wp2_with fail
    refine (HY.out _).mono ?_;rintro e w' ⟨rfl,rfl⟩;go_wp2_with (at_builtin;refine wpList_append_own _ rfl _ _ 27 rfl w3.heap.size 3 i0 (.int .i64 0) 1 8 Tryz.underlying27 hi hz0 hz1 hz2 rfl (by decide) _ _ _ rfl (hOo.out.alloc _) ⟨w'.heap.size,0,none⟩ 1 1 (#[.int .i64 1]:Array Value).toList rfl rfl (World.news_of_block (heap_alloc_new w' _)) (by simp [Value.oneCell']) ?A3 ?A4 ?A5 ?_)
    case A3=>unfold maxLen;omega
    case A4=>omega
    case A5=>first | (simp;omega) | omega
    intro v' w4 hown' hgrow _;have hb4:Hid (Below w3.heap.size w3 w4):=hid ((hW.out.alloc hsw _).grown hgrow (by simp;omega) fun g hg=>(hOo.out.lt g hg).1);have ho4:Hid (RowI w4 w3.heap.size v' (out++[1])):=hid (RowI.push (zs:=out) hO.out (by rw [HOL.out];exact hown'));have hl4:Hid ((out++[1]).length=k+1):=hid (by rw [List.length_append,HOL.out];rfl);clear hown' hgrow;go_wp2_with fail
    go_roundw
    case rel=>exact ⟨k+1,(k:Int),prod,out++[1],by omega,by go_num,by first | rfl | go_num,by first | rfl | go_num,by omega,by omega,by omega,by omega,hl4.out,G,ho4,hb4⟩
    case measure=>simp [intOf];omega
   by_cases c2:d=0∧k < x.length
   ·have hrs:=hid (FS.out.trans ((if_neg c1).trans (if_pos c2)));obtain ⟨c2a,c2b⟩:=c2;subst c2a;have rp:=HSm.out.at c2b;obtain ⟨bx,ox,hax,-,gx,ux,-⟩:=ints_at HX.out c2b;subst hax;have ux:=(HBr.out.cell (p:=⟨bx,ox+k,none⟩) gx).trans ux;have hkx:(k:Int) < (x.length:Int):=by omega
    clear c1;generalize x.getD k 0=p at *;obtain ⟨rp1,rp2⟩:=rp;have wpq:0≤prod * p∧prod * p≤4294967296:=by
     have h1:=Int.mul_nonneg (show 0≤prod by omega) (show 0≤p by omega);have h2:=Int.mul_le_mul (show prod≤65536 by omega) (show p≤65536 by omega) (by omega) (by omega);omega
    have wpq1:1≤prod * p:=by
     have:=Int.mul_le_mul (show (1:Int)≤prod by omega) (show (1:Int)≤p by omega) (by omega) (by omega);omega
    go_wp2_with fail
    refine (HY.out _).mono ?_;rintro e w' ⟨rfl,rfl⟩;go_wp2_with fail
    have hwr:wrap64 (prod * p)=prod * p:=by unfold wrap64;omega
    try rw [hwr]
    clear hwr;by_cases c9:prod * p≤65536
    ·have G:=hid (hF.out.trans (F3.out _ _ hrs.out ⟨by omega,by omega⟩ c9));have c9b:decide (prod * p≤65536)=true:=by simpa using c9
     clear F1 F2 F3 FS;generalize prod * p=pr at *;rw [c9b];refine (HY.out _).mono ?_;rintro e w' ⟨rfl,rfl⟩;go_wp2_with (at_builtin;refine wpList_append_own _ rfl _ _ 27 rfl w3.heap.size 3 i0 (.int .i64 0) 1 8 Tryz.underlying27 hi hz0 hz1 hz2 rfl (by decide) _ _ _ rfl (hOo.out.alloc _) ⟨w'.heap.size,0,none⟩ 1 1 (#[.int .i64 p]:Array Value).toList rfl rfl (World.news_of_block (heap_alloc_new w' _)) (by simp [Value.oneCell']) ?A3 ?A4 ?A5 ?_)
     case A3=>unfold maxLen;omega
     case A4=>omega
     case A5=>first | (simp;omega) | omega
     intro v' w4 hown' hgrow _;have hb4:Hid (Below w3.heap.size w3 w4):=hid ((hW.out.alloc hsw _).grown hgrow (by simp;omega) fun g hg=>(hOo.out.lt g hg).1);have ho4:Hid (RowI w4 w3.heap.size v' (out++[p])):=hid (RowI.push (zs:=out) hO.out (by rw [HOL.out];exact hown'));have hl4:Hid ((out++[p]).length=k+1):=hid (by rw [List.length_append,HOL.out];rfl);clear hown' hgrow;go_wp2_with fail
     go_roundw
     case rel=>exact ⟨k+1,left,pr,out++[p],by omega,by go_num,by first | rfl | go_num,by first | rfl | go_num,by omega,by omega,by omega,by omega,hl4.out,G,ho4,hb4⟩
     case measure=>simp [intOf];omega
    ·have G:=hid (hF.out.trans (F2.out _ _ hrs.out ⟨by omega,by omega⟩ (by omega)));have c9b:decide (prod * p≤65536)=false:=by simpa using c9
     clear F1 F2 F3 FS;generalize prod * p=pr at *;rw [c9b];refine (HNo.out _).mono ?_;rintro e w' ⟨rfl,rfl⟩;exact ⟨rfl,ResI.no (resh_no HLe.out G.out) HBr.out⟩
   have hrs:=hid (FS.out.trans ((if_neg c1).trans (if_neg c2)));by_cases d1:d=-1
   ·subst d1;have hlb:decide (left < 0)=false:=by
     have:¬ left < 0:=fun c=>c1 ⟨rfl,c⟩
     simpa using this
    clear c1 c2;clear F2 F3 FS;go_wp2_with fail
    refine (HNo.out _).mono ?_;rintro e w' ⟨rfl,rfl⟩;exact ⟨rfl,ResI.no (resh_no HLe.out (hF.out.trans (F1.out _ _ hrs.out (by omega)))) HBr.out⟩
   by_cases d0:d=0
   ·subst d0;have hkx:¬ (k:Int) < (x.length:Int):=by
     have:¬ k < x.length:=fun c=>c2 ⟨rfl,c⟩;omega
    clear c1 c2;clear F2 F3 FS;go_wp2_with fail
    refine (HNo.out _).mono ?_;rintro e w' ⟨rfl,rfl⟩;exact ⟨rfl,ResI.no (resh_no HLe.out (hF.out.trans (F1.out _ _ hrs.out (by omega)))) HBr.out⟩
   have d1b:(d == -1)=false:=by simpa using d1
   have d0b:(d==0)=false:=by simpa using d0
   clear c1 c2;by_cases r1:1≤d
   case neg =>
    have r1b:decide (1≤d)=false:=by simpa using r1
    clear F2 F3 FS;go_wp2_with fail
    refine (HNo.out _).mono ?_;rintro e w' ⟨rfl,rfl⟩;exact ⟨rfl,ResI.no (resh_no HLe.out (hF.out.trans (F1.out _ _ hrs.out (by omega)))) HBr.out⟩
   by_cases r2:d≤65536
   case neg =>
    have r2b:decide (d≤65536)=false:=by simpa using r2
    clear F2 F3 FS;go_wp2_with fail
    refine (HNo.out _).mono ?_;rintro e w' ⟨rfl,rfl⟩;exact ⟨rfl,ResI.no (resh_no HLe.out (hF.out.trans (F1.out _ _ hrs.out (by omega)))) HBr.out⟩
   have wpq:0≤prod * d∧prod * d≤4294967296:=by
    have h1:=Int.mul_nonneg (show 0≤prod by omega) (show 0≤d by omega);have h2:=Int.mul_le_mul (show prod≤65536 by omega) (show d≤65536 by omega) (by omega) (by omega);omega
   have wpq1:1≤prod * d:=by
    have:=Int.mul_le_mul (show (1:Int)≤prod by omega) (show (1:Int)≤d by omega) (by omega) (by omega);omega
   go_wp2_with fail
   refine (HY.out _).mono ?_;rintro e w' ⟨rfl,rfl⟩;go_wp2_with fail
   have hwr:wrap64 (prod * d)=prod * d:=by unfold wrap64;omega
   try rw [hwr]
   clear hwr;by_cases c9:prod * d≤65536
   ·have G:=hid (hF.out.trans (F3.out _ _ hrs.out ⟨by omega,by omega⟩ c9));have c9b:decide (prod * d≤65536)=true:=by simpa using c9
    clear F1 F2 F3 FS;generalize prod * d=pr at *;rw [c9b];refine (HY.out _).mono ?_;rintro e w' ⟨rfl,rfl⟩;go_wp2_with (at_builtin;refine wpList_append_own _ rfl _ _ 27 rfl w3.heap.size 3 i0 (.int .i64 0) 1 8 Tryz.underlying27 hi hz0 hz1 hz2 rfl (by decide) _ _ _ rfl (hOo.out.alloc _) ⟨w'.heap.size,0,none⟩ 1 1 (#[.int .i64 d]:Array Value).toList rfl rfl (World.news_of_block (heap_alloc_new w' _)) (by simp [Value.oneCell']) ?A3 ?A4 ?A5 ?_)
    case A3=>unfold maxLen;omega
    case A4=>omega
    case A5=>first | (simp;omega) | omega
    intro v' w4 hown' hgrow _;have hb4:Hid (Below w3.heap.size w3 w4):=hid ((hW.out.alloc hsw _).grown hgrow (by simp;omega) fun g hg=>(hOo.out.lt g hg).1);have ho4:Hid (RowI w4 w3.heap.size v' (out++[d])):=hid (RowI.push (zs:=out) hO.out (by rw [HOL.out];exact hown'));have hl4:Hid ((out++[d]).length=k+1):=hid (by rw [List.length_append,HOL.out];rfl);clear hown' hgrow;go_wp2_with fail
    go_roundw
    case rel=>exact ⟨k+1,left,pr,out++[d],by omega,by go_num,by first | rfl | go_num,by first | rfl | go_num,by omega,by omega,by omega,by omega,hl4.out,G,ho4,hb4⟩
    case measure=>simp [intOf];omega
   ·have G:=hid (hF.out.trans (F2.out _ _ hrs.out ⟨by omega,by omega⟩ (by omega)));have c9b:decide (prod * d≤65536)=false:=by simpa using c9
    clear F1 F2 F3 FS;generalize prod * d=pr at *;rw [c9b];refine (HNo.out _).mono ?_;rintro e w' ⟨rfl,rfl⟩;exact ⟨rfl,ResI.no (resh_no HLe.out G.out) HBr.out⟩
  ·have hki:¬ (k:Int) < (l.length:Int):=by omega
   obtain rfl:k=l.length:=by omega
   have HF:=hid (resh_all HLe.out (hF.out.trans (res_end (Nat.lt_irrefl _))));have hL:=hid (And.intro hl0 hl1);have hO:Hid (RowI wr w3.heap.size (.slice ao l.length co) out):=hid (by have:=hO.out;rw [HOL.out] at this;exact this);have hcr:=cnt_rng x;go_wp2_with fail
   refine (icount_any (HX.out.below HBr.out)).mono ?_;rintro e w4 ⟨rfl,B4⟩;have HB4:=hid (HBr.out.trans (B4.mono HBr.out.size));have hO4:=hid (hO.out.below B4);have HE:Hid (resE x (left,prod,out)=if 0≤left then (if ((cnt x).1).tmod prod=0 then some (out.set left.toNat (((cnt x).1).tdiv prod)) else none) else if (cnt x).1=prod then some out else none):=hid (by unfold resE;rfl);clear B4;generalize (cnt x).1=q at *;have hp00:¬ prod=0:=by omega
   have hpm:¬ prod=-1:=by omega
   by_cases c0:0≤left
   ·have c0b:decide (0≤left)=true:=by simpa using c0
    have tq:0≤q.tmod prod∧q.tmod prod≤65536:=by
     rw [Int.tmod_eq_emod_of_nonneg (by omega)];have:=Int.emod_lt_of_pos q (show 0 < prod by omega);have:=Int.emod_nonneg q hp00;omega
    have td:0≤q.tdiv prod∧q.tdiv prod≤65536:=by
     rw [Int.tdiv_eq_ediv_of_nonneg (by omega)];have h1:=Int.ediv_nonneg (show 0≤q by omega) (show 0≤prod by omega);have h2:=Int.ediv_le_self prod (show 0≤q by omega);omega
    by_cases c1:q.tmod prod=0
    ·have F:=hid (HF.out.trans (HE.out.trans ((if_pos c0).trans (if_pos c1))));obtain ⟨j,hj⟩:∃ j:Nat,(j:Int)=left:=⟨left.toNat,by omega⟩;have hjt:left.toNat=j:=by omega
     rw [hjt] at F;subst hj;obtain ⟨g,hg,hgB,cg,zg,hst⟩:=(show Vb.Fresh w3.heap.size w4 (.slice ao l.length co) out from by have:=hO4.out;unfold RowI at this;exact this).at HOL.out (by omega:j < l.length);subst hg;have HST:=hid (hst (q.tdiv prod));have c1b:(q.tmod prod==0)=true:=by simpa using c1
     have c1c:q % prod=0:=by rw [Int.tmod_eq_emod_of_nonneg (by omega)] at c1;exact c1
     have tde:q.tdiv prod=q / prod:=Int.tdiv_eq_ediv_of_nonneg (by omega);rw [tde] at HST F td;have hji:(j:Int) < (l.length:Int):=by omega
     have HRz:Hid (RowI (w4.setCell ⟨g,j,none⟩ (.int .i64 (q / prod))) w.heap.size (.slice (some ⟨g,0,none⟩) l.length co) (out.set j (q / prod))):=hid (by
      have h1:RowI (w4.setCell ⟨g,j,none⟩ (.int .i64 (q / prod))) w3.heap.size (.slice (some ⟨g,0,none⟩) l.length co) (out.set j (q / prod)):=by unfold RowI;exact HST.out
      exact h1.base HB3.out.size)
     have HBz:=hid (HB4.out.setCell (p:=⟨g,j,none⟩) (Nat.le_trans HB3.out.size hgB) (.int .i64 (q / prod)));clear hst c1 tq tde;go_wp2_with fail
     refine (HY.out _).mono ?_;rintro e w' ⟨rfl,rfl⟩;go_wp2
     go_ret
     exact ResI.yes F.out HBz.out HRz.out
    ·have F:=hid (HF.out.trans (HE.out.trans ((if_pos c0).trans (if_neg c1))));have c1b:(q.tmod prod==0)=false:=by simpa using c1
     have c1c:¬ q % prod=0:=by rw [Int.tmod_eq_emod_of_nonneg (by omega)] at c1;exact c1
     have c1d:(q % prod==0)=false:=by simpa using c1c
     clear c1 c1c;go_wp2_with fail
     refine (HNo.out _).mono ?_;rintro e w' ⟨rfl,rfl⟩;exact ⟨rfl,ResI.no F.out HB4.out⟩
   ·have c0b:decide (0≤left)=false:=by simpa using c0
    by_cases c1:q=prod
    ·have F:=hid (HF.out.trans (HE.out.trans ((if_neg c0).trans (if_pos c1))));have c1b:(q==prod)=true:=by simpa using c1
     clear c1;go_wp2_with fail
     refine (HY.out _).mono ?_;rintro e w' ⟨rfl,rfl⟩;go_wp2
     go_ret
     exact ResI.yes F.out HB4.out (hO4.out.base HB3.out.size)
    ·have F:=hid (HF.out.trans (HE.out.trans ((if_neg c0).trans (if_neg c1))));have c1b:(q==prod)=false:=by simpa using c1
     clear c1;go_wp2_with fail
     refine (HNo.out _).mono ?_;rintro e w' ⟨rfl,rfl⟩;exact ⟨rfl,ResI.no F.out HB4.out⟩
end
section
open Go.RowKit
set_option maxRecDepth 100000
def boundP (a d:Int):Int:=max 0 (min (if a < 0 then a+d else a) d)
theorem bound_rng {a d:Int} (hd:1≤d∧d≤65536):0≤boundP a d∧boundP a d≤65536:=by unfold boundP;omega
set_option maxHeartbeats 2000000 in
theorem bound_any (a d:Int) (ha:InI a) (hd:1≤d∧d≤65536) (w:World):Calls Tryz.prog 159 #[.int .i64 a,.int .i64 d] w fun e w'=>e=.returned (.int .i64 (boundP a d))∧w'=w:=by
 obtain ⟨y0,y1⟩:=ha;obtain ⟨d0,d1⟩:=hd;by_cases h:a < 0
 ·have E:Hid (boundP a d=max 0 (min (a+d) d)):=hid (by unfold boundP;rw [if_pos h]);go_enter Tryz.func159,Tryz.ntmps159
  go_wp2
  go_ret
  exact ⟨ret_val (by rw [E.out];rfl),rfl⟩
 ·have E:Hid (boundP a d=max 0 (min a d)):=hid (by unfold boundP;rw [if_neg h]);go_enter Tryz.func159,Tryz.ntmps159
  go_wp2
  go_ret
  exact ⟨ret_val (by rw [E.out];rfl),rfl⟩
def nmSt:ByteArray:=⟨#[115,116,97,114,116,115]⟩
def nmEn:ByteArray:=⟨#[101,110,100,115]⟩
def slF (x s e:List Int):Nat→List Int→List Int→Option (List Int)
 | _,out,[]=>some out
 | i,out,k :: l =>
  if 0 < boundP (e.getD i 0) (x.getD k.toNat 0) - boundP (s.getD i 0) (x.getD k.toNat 0) then slF x s e (i+1) (out.set k.toNat (boundP (e.getD i 0) (x.getD k.toNat 0) - boundP (s.getD i 0) (x.getD k.toNat 0))) l else none
theorem sl_end {x s e out l:List Int} {k i:Nat} (h:¬ k < l.length):slF x s e i out (l.drop k)=some out:=by rw [List.drop_eq_nil_of_le (by omega),slF]
theorem sl_bad {x s e out l:List Int} {k j:Nat} {v:Int} (hk:k < l.length) (hj:(l.getD k 0).toNat=j) (hv:boundP (e.getD k 0) (x.getD j 0) - boundP (s.getD k 0) (x.getD j 0)=v) (h:¬ 0 < v):slF x s e k out (l.drop k)=none:=by
 subst hj hv;rw [drop_next hk,slF];exact if_neg h
theorem sl_next {x s e out l:List Int} {k j:Nat} {v:Int} (hk:k < l.length) (hj:(l.getD k 0).toNat=j) (hv:boundP (e.getD k 0) (x.getD j 0) - boundP (s.getD k 0) (x.getD j 0)=v) (h:0 < v):slF x s e k out (l.drop k)=slF x s e (k+1) (out.set j v) (l.drop (k+1)):=by
 subst hj hv;rw [drop_next hk,slF];exact if_pos h
def sliceP (n:Nd) (x:List Int):Option (List Int) :=
 match axesP (intsP n.attrs nmAxes (upL (intsP n.attrs nmSt []).length)) x.length with
 | none=>none
 | some l=>if (intsP n.attrs nmSt []).length=(intsP n.attrs nmEn []).length∧(intsP n.attrs nmSt []).length=l.length then slF x (intsP n.attrs nmSt []) (intsP n.attrs nmEn []) 0 x l else none
theorem slice_no {n:Nd} {x s:List Int} (es:intsP n.attrs nmSt []=s) (h:axesP (intsP n.attrs nmAxes (upL s.length)) x.length=none):sliceP n x=none:=by subst es;unfold sliceP;rw [h]
theorem slice_len {n:Nd} {x s t l:List Int} (es:intsP n.attrs nmSt []=s) (et:intsP n.attrs nmEn []=t) (h:axesP (intsP n.attrs nmAxes (upL s.length)) x.length=some l) (g:¬ (s.length=t.length∧s.length=l.length)):sliceP n x=none:=by subst es et;unfold sliceP;rw [h];exact if_neg g
theorem slice_all {n:Nd} {x s t l:List Int} (es:intsP n.attrs nmSt []=s) (et:intsP n.attrs nmEn []=t) (h:axesP (intsP n.attrs nmAxes (upL s.length)) x.length=some l) (g:s.length=t.length∧s.length=l.length):sliceP n x=slF x s t 0 x l:=by subst es et;unfold sliceP;rw [h];exact if_pos g
attribute [local irreducible] intsP axesP upL boundP slF sliceP RowI RowL
set_option maxHeartbeats 16000000 in
theorem slice_any {w:World} {v vx:Value} {n:Nd} {ins:List Vl} {x:List Int} (h:MkV w v n ins) (hx:IntsIn w vx x) (hsm:Sm x) :
  Calls Tryz.prog 129 #[v,vx] w fun e w'=>ResI w (sliceP n x) e w':=by
 obtain ⟨i0,hi,hz0,hz1,hz2⟩:=info_parts info_int;obtain ⟨vin,vat,vv,rfl,hm⟩:=h;obtain ⟨a1,c1,rfl⟩:=hm.node.is.form;obtain ⟨a2,c2,rfl⟩:=hm.node.ia.form;obtain ⟨a3,c3,rfl⟩:=hm.ins.form;have HM:=hid hm;clear hm;obtain ⟨a4,c4,rfl⟩:=hx.shape;have hxl:=hx.wf.1;have hxc:=hx.capI.2;have HX:=hid hx;clear hx;have HY:=hid (fun (W:World)=>rule_yes W);have HNo:=hid (fun (W:World)=>rule_no W);have HB1:=hid ((Below.refl w.heap.size w).alloc (Nat.le_refl _) (Obj.cells #[.string n.op,.string n.name,.slice a1 n.ins.length c1,.string n.out,.slice a2 n.attrs.length c2,.slice a3 ins.length c3] 63));have HA1:=hid (BoxN.new w #[.string n.op,.string n.name,.slice a1 n.ins.length c1,.string n.out,.slice a2 n.attrs.length c2,.slice a3 ins.length c3] 63);have HSm:=hid hsm;have hx6:=hsm.1;clear hsm;go_enter Tryz.func129,Tryz.ntmps129
 go_wp2_with fail
 generalize World.alloc w (Obj.cells #[.string n.op,.string n.name,.slice a1 n.ins.length c1,.string n.out,.slice a2 n.attrs.length c2,.slice a3 ins.length c3] 63)=W1 at HB1 HA1 ⊢;have HBw:Hid (∀ W,Below W1.heap.size W1 W→Below w.heap.size w W):=hid fun W hB=>HB1.out.trans (hB.mono HB1.out.size);have HU:=hid (fun (W:World) (m:Nat) (h:m * 8≤140737488351232)=>upTo_any m h W);have HAx:=hid (fun (W:World) (u:Value) (L:List Int) (h:IntsIn W u L)=>axes_any (r:=x.length) h h.wf.1 (by omega));refine wp_region_plan 6 [0,1,3,4,2,5] (fun W'=>Below W1.heap.size W1 W') (by kernel_rfl) (by kernel_rfl) (fun _ d _ _ _ h=>by cases d<;>exact h) (Below.refl _ _).drew ?_;have B0:Hid (Below W1.heap.size W1 W1.drew):=hid (Below.refl _ _).drew;generalize W1.drew=wD at B0 ⊢
 repeat
  refine plan_read (v:=?_) rfl rfl (Or.inl ⟨by rfl,?_⟩) ?_;rotate_left
  ·intro W' hSw;obtain ⟨k0,k1,k2,k3,k4,k5⟩:=(HA1.out.below' hSw).six;go_simp
   try with_reducible rfl
  try simp only [Act.put,List.getElem_toArray,List.getElem_cons_zero,List.getElem_cons_succ,List.setIfInBounds_toArray,List.set_cons_zero,List.set_cons_succ]
 refine plan_act rfl rfl (fun K' hK=>?_);go_simp
 refine (sints_any (n:=n) ⟨_,_,rfl,(HM.out.below (HBw.out _ B0.out)).node⟩ nmSt (.empty none 0)).mono ?_;rintro e w2 ⟨v2,rfl,hr,B⟩;have HWw2:=hid (B0.out.trans (B.mono B0.out.size));have hok:=ints_okP (nm:=nmSt) (other:=[]) (v:=(.agg #[.string n.op,.string n.name,.slice a1 n.ins.length c1,.string n.out,.slice a2 n.attrs.length c2])) ⟨_,_,rfl,HM.out.node⟩ (by simp) (by simp);obtain ⟨s,hse⟩:∃ s,intsP n.attrs nmSt []=s:=⟨_,rfl⟩;rw [hse] at hr hok;have HSe:=hid hse;have HIs:Hid (IntsIn w2 v2 s):=hid (RowL.ints (B:=wD.heap.size) (by unfold RowL;exact hr) hok.1 hok.2);have hsl:=hok.1;obtain ⟨as',cs',rfl⟩:=HIs.out.shape;clear hse hr hok B;refine hK.out _ _ HWw2.out ?_;clear hK K';refine plan_act rfl rfl (fun K' hK=>?_);go_simp
 refine (sints_any (n:=n) ⟨_,_,rfl,(HM.out.below (HBw.out _ HWw2.out)).node⟩ nmEn (.empty none 0)).mono ?_;rintro e w3 ⟨v3,rfl,hr,B⟩;have HWw3:=hid (HWw2.out.trans (B.mono HWw2.out.size));have hok:=ints_okP (nm:=nmEn) (other:=[]) (v:=(.agg #[.string n.op,.string n.name,.slice a1 n.ins.length c1,.string n.out,.slice a2 n.attrs.length c2])) ⟨_,_,rfl,HM.out.node⟩ (by simp) (by simp);obtain ⟨t,hte⟩:∃ t,intsP n.attrs nmEn []=t:=⟨_,rfl⟩;rw [hte] at hr hok;have HTe:=hid hte;have HIt:Hid (IntsIn w3 v3 t):=hid (RowL.ints (B:=w2.heap.size) (by unfold RowL;exact hr) hok.1 hok.2);have htl:=hok.1;have HIs:=hid (HIs.out.below B);obtain ⟨at',ct',rfl⟩:=HIt.out.shape;clear hte hr hok B;refine hK.out _ _ HWw3.out ?_;clear hK K';refine plan_tail rfl ?_;simp only [List.toList_toArray,List.drop_succ_cons,List.drop_zero];go_wp2_with fail
 refine wp_region_plan 9 [0,1,2,3,6,7,4,5,8] (fun W'=>Below w3.heap.size w3 W') (by kernel_rfl) (by kernel_rfl) (fun _ d _ _ _ h=>by cases d<;>exact h) (Below.refl _ _).drew ?_;have B0:Hid (Below w3.heap.size w3 w3.drew):=hid (Below.refl _ _).drew;generalize w3.drew=wE at B0 ⊢
 repeat
  refine plan_read (v:=?_) rfl rfl (Or.inl ⟨by rfl,?_⟩) ?_;rotate_left
  ·intro W' hSw;obtain ⟨k0,k1,k2,k3,k4,k5⟩:=(HA1.out.below' (HWw3.out.trans (hSw.mono HWw3.out.size))).six;go_simp
   try with_reducible rfl
  try simp only [Act.put,List.getElem_toArray,List.getElem_cons_zero,List.getElem_cons_succ,List.setIfInBounds_toArray,List.set_cons_zero,List.set_cons_succ]
 refine plan_act rfl rfl (fun K' hK=>?_);go_simp
 refine (HU.out _ _ hsl).mono ?_;rintro e w4 ⟨B4,v4,rfl,hr4⟩;have HB34:=hid (B0.out.trans (B4.mono B0.out.size));have HW4:=hid (HWw3.out.trans (HB34.out.mono HWw3.out.size));have HU4:Hid (IntsIn w4 v4 (upL s.length)):=hid (hr4.ints (by rw [upL_len];exact hsl) (upL_in _ (by omega)));refine hK.out _ _ HB34.out ?_;clear hK K' B4 hr4;refine plan_act rfl rfl (fun K' hK=>?_);go_simp
 refine (sints_any (n:=n) ⟨_,_,rfl,(HM.out.below (HBw.out _ HW4.out)).node⟩ nmAxes HU4.out).mono ?_;rintro e w5 ⟨v5,rfl,hr,B⟩;have HWw5:=hid (HW4.out.trans (B.mono HW4.out.size));have hok:=ints_okP (nm:=nmAxes) (other:=(upL s.length)) (v:=(.agg #[.string n.op,.string n.name,.slice a1 n.ins.length c1,.string n.out,.slice a2 n.attrs.length c2])) ⟨_,_,rfl,HM.out.node⟩ (by rw [upL_len];exact hsl) (upL_in _ (by omega));have HB35:=hid (HB34.out.trans (B.mono HB34.out.size));have HI5:Hid (IntsIn w5 v5 (intsP n.attrs nmAxes (upL s.length))):=hid (RowL.ints (B:=w4.heap.size) (by unfold RowL;exact hr) hok.1 hok.2);have HN1:=hid (fun h=>slice_no (x:=x) HSe.out h);have HN2:=hid (fun l h g=>slice_len (x:=x) (l:=l) HSe.out HTe.out h g);have HN3:=hid (fun l h g=>slice_all (x:=x) (l:=l) HSe.out HTe.out h g);clear hr hok B HU4;generalize intsP n.attrs nmAxes (upL s.length)=L at *;obtain ⟨a5,c5,rfl⟩:=HI5.out.shape;refine hK.out _ _ HB35.out ?_;clear hK K';refine plan_act rfl rfl (fun K' hK=>?_);go_simp
 refine (HAx.out _ _ _ HI5.out).mono ?_;rintro e w6 ⟨B6,hc⟩;have HB36:=hid (HB35.out.trans (B6.mono HB35.out.size));have HW6:=hid (HWw3.out.trans (HB36.out.mono HWw3.out.size));have HLL:Hid (L.length * 8≤140737488351232):=hid HI5.out.wf.1;cases hax:axesP L x.length with
 | none =>
  rw [hax] at hc;obtain rfl:e=brk 4:=hc;exact ⟨rfl,ResI.no (HN1.out hax) (HBw.out _ HW6.out)⟩
 | some l =>
 rw [hax] at hc;obtain ⟨v6,rfl,hr6⟩:∃ v,e=.returned v∧RowI w6 _ v l:=hc;obtain ⟨hpl,hpn⟩:=axesP_props hax;have HP:=hid hpl;have HN2:=hid (fun g=>HN2.out l hax g);have HN3:=hid (fun g=>HN3.out l hax g);have HI6:Hid (IntsIn w6 v6 l):=hid (hr6.ints (by rw [hpn];exact HLL.out) (fun z hz=>inI_low (hpl z hz) (by omega)));obtain ⟨a6,c6,rfl⟩:=HI6.out.shape;have HIs:=hid (HIs.out.below HB36.out);have HIt:=hid (HIt.out.below HB36.out);have hll:=HI6.out.wf.1;clear hax hr6 hpl hpn B6 HI5;refine hK.out _ _ HB36.out ?_;clear hK K';refine plan_tail rfl ?_;simp only [List.toList_toArray,List.drop_succ_cons,List.drop_zero];by_cases h1:s.length=t.length
 case neg =>
  have E:=hid (HN2.out (fun c=>h1 c.1));have hb:((s.length:Int)==(t.length:Int))=false:=by simp;omega
  clear h1;go_wp2_with fail
  refine (HNo.out _).mono ?_;rintro e w' ⟨rfl,rfl⟩;exact ⟨rfl,ResI.no E.out (HBw.out _ HW6.out)⟩
 have hb1:((s.length:Int)==(t.length:Int))=true:=by simp;omega
 by_cases h2:s.length=l.length
 case neg =>
  have E:=hid (HN2.out (fun c=>h2 c.2));have hb:((s.length:Int)==(l.length:Int))=false:=by simp;omega
  clear h1 h2;go_wp2_with fail
  refine (HNo.out _).mono ?_;rintro e w' ⟨rfl,rfl⟩;exact ⟨rfl,ResI.no E.out (HBw.out _ HW6.out)⟩
 have hb2:((s.length:Int)==(l.length:Int))=true:=by simp;omega
 have E:=hid (HN3.out ⟨h1,h2⟩);have HL1:=hid h1;have HL2:=hid h2;clear h1 h2;go_wp2_with fail
 refine (HY.out _).mono ?_;rintro e w' ⟨rfl,rfl⟩;go_wp2_with fail
 clear hb1 hb2;refine (Vb.clone_any (HX.out.below (HBw.out _ HW6.out))).mono ?_;rintro e w7 ⟨v7,rfl,hf7,B7⟩;have HF7:=hid hf7;have HB67:=hid B7;obtain ⟨a7,c7,rfl⟩:=hf7.form;clear hf7 B7;go_wp2_with fail
 go_loopw [43] (fun i wr=>∃ (k:Nat) (out:List Int),k≤l.length∧i=.int .i64 (k:Int)∧out.length=x.length∧Hid (slF x s t 0 x l=slF x s t k out (l.drop k))∧Hid (Vb.Fresh w'.heap.size wr (.slice a7 x.length c7) out)∧Hid (Below w'.heap.size w' wr)) (fun i _=>l.length - (intOf i).toNat)
 case atStart=>exact ⟨0,x,Nat.zero_le _,rfl,rfl,hid rfl,HF7,HB67⟩
 case round =>
  obtain ⟨k,out,hk,rfl,hol,hF,hO,hW⟩:=hrel;have HWr:=hid (HW6.out.trans (hW.out.mono HW6.out.size));have HBr:=hid (HBw.out _ HWr.out);have HOL:=hid hol;clear hol;by_cases hkl:k < l.length
  ·have hki:(k:Int) < (l.length:Int):=by omega
   have hzr:=HP.out _ (getD_mem (zs:=l) hkl);obtain ⟨j,hj⟩:∃ j:Nat,l.getD k 0=(j:Int):=⟨(l.getD k 0).toNat,by omega⟩;have hjx:j < x.length:=by omega
   have hji:(j:Int) < (x.length:Int):=by omega
   obtain ⟨bl,ol,hal,-,gl,ul,-⟩:=ints_at HI6.out hkl;subst hal;have ul:=(hW.out.cell (p:=⟨bl,ol+k,none⟩) gl).trans ul;rw [hj] at ul;have hjt:(l.getD k 0).toNat=j:=by rw [hj];rfl
   have F1:=hid (fun v h1 h2=>sl_bad (x:=x) (s:=s) (e:=t) (out:=out) (v:=v) hkl hjt h1 h2);have F2:=hid (fun v h1 h2=>sl_next (x:=x) (s:=s) (e:=t) (out:=out) (v:=v) hkl hjt h1 h2);clear hj hjt hzr;have hOD:=hO.out.below ((Below.refl wr.heap.size wr).drew);have HWD:Hid (Below w'.heap.size w' wr.drew):=hid hW.out.drew;have HBD:Hid (Below w.heap.size w wr.drew):=hid HBr.out.drew;obtain ⟨g,hg,hgB,c0,z0,hst⟩:=hOD.at HOL.out hjx;subst hg;obtain ⟨bx,ox,hax,-,gx,ux,-⟩:=ints_at HX.out hjx;subst hax;have ux:=(HBD.out.cell (p:=⟨bx,ox+j,none⟩) gx).trans ux;obtain ⟨bs,os,has,-,gs,us,is0⟩:=ints_at (k:=k) HIs.out (by have:=HL2.out;omega);subst has;have us:=(HWD.out.cell (p:=⟨bs,os+k,none⟩) gs).trans us;obtain ⟨bt,ot,hat,-,gt,ut,it0⟩:=ints_at (k:=k) HIt.out (by have:=HL1.out;have:=HL2.out;omega);subst hat
   have ut:=(HWD.out.cell (p:=⟨bt,ot+k,none⟩) gt).trans ut;have rx:=HSm.out.at hjx;have hks:(k:Int) < (s.length:Int):=by have:=HL2.out;omega
   have hkt:(k:Int) < (t.length:Int):=by have:=HL1.out;have:=HL2.out;omega
   have gxD:bx < wr.drew.heap.size:=cell_in ux;have gsD:bs < wr.drew.heap.size:=cell_in us;have gtD:bt < wr.drew.heap.size:=cell_in ut;have ggD:g < wr.drew.heap.size:=cell_in c0;have HB1':=hid (fun (W:World)=>bound_any (t.getD k 0) (x.getD j 0) it0 rx W);have HB2':=hid (fun (W:World)=>bound_any (s.getD k 0) (x.getD j 0) is0 rx W);have r1:=bound_rng (a:=t.getD k 0) rx;have r2:=bound_rng (a:=s.getD k 0) rx;have HST:=hid (hst (boundP (t.getD k 0) (x.getD j 0) - boundP (s.getD k 0) (x.getD j 0)));have F1:=hid (fun h=>F1.out _ rfl h);have F2:=hid (fun h=>F2.out _ rfl h);clear hst hOD is0 it0;generalize boundP (t.getD k 0) (x.getD j 0)=q1 at *;generalize boundP (s.getD k 0) (x.getD j 0)=q2 at *;generalize x.getD j 0=xj at *;generalize t.getD k 0=tk at *;generalize s.getD k 0=sk at *;have wq:IntKind.i64.wrap (q1 - q2)=q1 - q2:=by rw [IntKind.wrap_i64];omega
   have bk:(0:Int)≤(k:Int)∧(k:Int) < (s.length:Int):=⟨by omega,hks⟩;have bk':(0:Int)≤(k:Int)∧(k:Int) < (t.length:Int):=⟨by omega,hkt⟩;have bj:(0:Int)≤(j:Int)∧(j:Int) < (x.length:Int):=⟨by omega,hji⟩;go_wp2_with fail
   refine wp_region_plan 21 [0,1,2,3,4,5,6,7,8,9,11,12,13,14,15,16,17,18,10,19,20] (fun W'=>W'=wr.drew) (by kernel_rfl) (by kernel_rfl) (fun _ d _ _ _ h=>by cases d<;>exact h) rfl ?_;generalize wr.drew=wD at *
   repeat
    refine plan_read (v:=?_) rfl rfl (Or.inl ⟨by rfl,?_⟩) ?_;rotate_left
    ·rintro W' rfl;go_simp
     try with_reducible rfl
    try simp only [Act.put,List.getElem_toArray,List.getElem_cons_zero,List.getElem_cons_succ,List.setIfInBounds_toArray,List.set_cons_zero,List.set_cons_succ]
   refine plan_act rfl rfl (fun K' hK=>?_);go_simp
   refine (HB1'.out _).mono ?_;rintro e w9 ⟨rfl,rfl⟩;refine hK.out _ _ rfl ?_;clear hK K';refine plan_act rfl rfl (fun K' hK=>?_);go_simp
   refine (HB2'.out _).mono ?_;rintro e w9 ⟨rfl,rfl⟩;refine hK.out _ _ rfl ?_;clear hK K'
   repeat
    refine plan_read (v:=?_) rfl rfl (Or.inl ⟨by rfl,?_⟩) ?_;rotate_left
    ·rintro W' rfl;go_simp
     try with_reducible rfl
    try simp only [Act.put,List.getElem_toArray,List.getElem_cons_zero,List.getElem_cons_succ,List.setIfInBounds_toArray,List.set_cons_zero,List.set_cons_succ]
   refine plan_tail rfl ?_;simp only [List.toList_toArray,List.drop_succ_cons,List.drop_zero];have HWS:Hid (Below w'.heap.size w' (w9.setCell ⟨g,j,none⟩ (.int .i64 (q1 - q2)))):=hid (HWD.out.setCell (p:=⟨g,j,none⟩) hgB _);have HBS:=hid (HBD.out.setCell (p:=⟨g,j,none⟩) (Nat.le_trans (HBw.out _ HW6.out).size hgB) (.int .i64 (q1 - q2)));have cs2:(w9.setCell ⟨g,j,none⟩ (.int .i64 (q1 - q2))).cell? ⟨g,j,none⟩=some (.int .i64 (q1 - q2)):=by simp [go_sem,c0]
   by_cases hq:0 < q1 - q2
   ·have G:=hid (hF.out.trans (F2.out hq));have hqb:decide (q2 < q1)=true:=by simp;omega
    clear F1 F2;go_wp2_with fail
    refine (HY.out _).mono ?_;rintro e w10 ⟨rfl,rfl⟩;go_wp2
    go_roundw
    case rel=>exact ⟨k+1,out.set j (q1 - q2),by omega,by go_num,(by rw [List.length_set];exact HOL.out),G,HST,HWS⟩
    case measure=>simp [intOf];omega
   ·have G:=hid (hF.out.trans (F1.out (by omega)));have hqb:decide (q2 < q1)=false:=by simp;omega
    clear F1 F2;go_wp2_with fail
    refine (HNo.out _).mono ?_;rintro e w10 ⟨rfl,rfl⟩;exact ⟨rfl,ResI.no (E.out.trans G.out) HBS.out⟩
  ·have hki:¬ (k:Int) < (l.length:Int):=by omega
   obtain rfl:k=l.length:=by omega
   have F:=hid (E.out.trans (hF.out.trans (sl_end (Nat.lt_irrefl _))));have HRw:Hid (RowI wr w.heap.size (.slice a7 x.length c7) out):=hid (by
    have h1:RowI wr w'.heap.size (.slice a7 out.length c7) out:=by
     have:=hO.out;rw [←HOL.out] at this;unfold RowI;exact this
    rw [HOL.out] at h1;exact h1.base (HBw.out _ HW6.out).size)
   go_wp2
   go_ret
   exact ResI.yes F.out HBr.out HRw.out
end
section
open Go.RowKit
set_option maxRecDepth 100000
theorem dim_atK {w:World} {a:Option Addr} {c j:Nat} {x:Vl} {ins:List Vl} (h:SlIn 3 rdValue w (.slice a ins.length c) ins) (hi:ins[j]?=some x):∃ b off vd,a=some ⟨b,off,none⟩∧b < w.heap.size∧w.cell? ⟨b,off+j * 3+2,none⟩=some vd∧IntsIn w vd x.dims:=by
 obtain ⟨b,off,cap,vd,hv,hb,_,_,c2,_,_,hd⟩:=value_at h (j:=j) (x:=x) hi;obtain ⟨rfl,-,-⟩:=Value.slice.inj hv;exact ⟨b,off,vd,rfl,hb,c2,hd⟩
def okB (x d:List Int) (a m:Nat):Bool:=(List.range m).all fun i=>decide (i=a) || decide (d.getD i 0=x.getD i 0)
theorem ok_next {x d:List Int} {a m:Nat} (h:okB x d a m=true) (g:m=a∨d.getD m 0=x.getD m 0):okB x d a (m+1)=true:=by
 unfold okB at *;rw [List.range_succ,List.all_append,h];simpa using g
theorem ok_bad {x d:List Int} {a m k:Nat} (hm:m < k) (g:¬ (m=a∨d.getD m 0=x.getD m 0)):okB x d a k=false:=by
 unfold okB;refine List.all_eq_false.2 ⟨m,List.mem_range.2 hm,?_⟩
 simpa using g
def ccF (x:List Int) (a:Nat):List Int→List Vl→Option (List Int)
 | out,[]=>some out
 | out,v :: l=>if v.dims.length=x.length∧okB x v.dims a x.length=true then ccF x a (out.set a (out.getD a 0+v.dims.getD a 0)) l else none
def concatP (n:Nd) (x:List Int) (rest:List Vl):Option (List Int):=match axisP (intP n.attrs nmAxis 0) x.length with | none=>none | some a=>ccF x a.toNat x rest
theorem cc_end {x out:List Int} {a:Nat}:ccF x a out []=some out:=rfl
theorem cc_bad {x out:List Int} {a:Nat} {v:Vl} {l:List Vl} (h:¬ (v.dims.length=x.length∧okB x v.dims a x.length=true)):ccF x a out (v :: l)=none:=by rw [ccF];exact if_neg h
theorem cc_next {x out:List Int} {a:Nat} {v:Vl} {l:List Vl} (h:v.dims.length=x.length) (g:okB x v.dims a x.length=true):ccF x a out (v :: l)=ccF x a (out.set a (out.getD a 0+v.dims.getD a 0)) l:=by rw [ccF];exact if_pos ⟨h,g⟩
theorem concat_no {n:Nd} {x:List Int} {rest:List Vl} (h:axisP (intP n.attrs nmAxis 0) x.length=none):concatP n x rest=none:=by unfold concatP;rw [h]
theorem concat_all {n:Nd} {x:List Int} {rest:List Vl} {a:Nat} (h:axisP (intP n.attrs nmAxis 0) x.length=some (a:Int)):concatP n x rest=ccF x a x rest:=by unfold concatP;rw [h];rfl
def outJ (out d:List Int) (a j:Nat):List Int:=if a < j then out.set a (out.getD a 0+d.getD a 0) else out
theorem outJ_len (out d:List Int) (a j:Nat):(outJ out d a j).length=out.length:=by unfold outJ;split<;>simp
theorem outJ_zero (out d:List Int) (a:Nat):outJ out d a 0=out:=if_neg (by omega)
theorem outJ_skip {out d:List Int} {a j:Nat} (h:j≠a):outJ out d a (j+1)=outJ out d a j:=by
 unfold outJ;by_cases g:a < j
 ·rw [if_pos g,if_pos (by omega)]
 ·rw [if_neg g,if_neg (by omega)]
theorem outJ_hit {out d:List Int} {a:Nat}:outJ out d a (a+1)=(outJ out d a a).set a (out.getD a 0+d.getD a 0):=by
 unfold outJ;rw [if_pos (by omega),if_neg (by omega)]
theorem outJ_get {out d:List Int} {a:Nat}:(outJ out d a a).getD a 0=out.getD a 0:=by unfold outJ;rw [if_neg (by omega)]
theorem outJ_all {out d:List Int} {a j:Nat} (h:a < j):outJ out d a j=out.set a (out.getD a 0+d.getD a 0):=if_pos h
attribute [local irreducible] intP axisP okB ccF concatP outJ RowI
set_option maxHeartbeats 16000000 in
theorem concat_any {w:World} {v vx:Value} {n:Nd} {ins:List Vl} {x:List Int} (h:MkV w v n ins) (hx:IntsIn w vx x) (hsm:Sm x) (hi0:0 < ins.length) (hall:∀ v ∈ ins,Sm v.dims) :
  Calls Tryz.prog 128 #[v,vx] w fun e w'=>ResI w (concatP n x (ins.drop 1)) e w':=by
 obtain ⟨i0,hi,hz0,hz1,hz2⟩:=info_parts info_int;obtain ⟨vin,vat,vv,rfl,hm⟩:=h;obtain ⟨a1,c1,rfl⟩:=hm.node.is.form;obtain ⟨a2,c2,rfl⟩:=hm.node.ia.form;obtain ⟨a3,c3,rfl⟩:=hm.ins.form;have HM:=hid hm;clear hm;obtain ⟨a4,c4,rfl⟩:=hx.shape;have hxl:=hx.wf.1;have hxc:=hx.capI.2;have HX:=hid hx;clear hx;have HY:=hid (fun (W:World)=>rule_yes W);have HNo:=hid (fun (W:World)=>rule_no W);have HSm:=hid hsm;have hx6:=hsm.1;have HAll:=hid hall;have hil:=HM.out.ins.len;have hic:=HM.out.ins.cap;obtain ⟨x00,hx00⟩:∃ x00,ins[0]?=some x00:=⟨_,List.getElem?_eq_getElem hi0⟩;obtain ⟨bi,oi,vd0,hai,hbi,-,-⟩:=dim_atK HM.out.ins hx00;subst hai;clear hsm hall hx00;have HB1:=hid ((Below.refl w.heap.size w).alloc (Nat.le_refl _) (Obj.cells #[.string n.op,.string n.name,.slice a1 n.ins.length c1,.string n.out,.slice a2 n.attrs.length c2,.slice (some ⟨bi,oi,none⟩) ins.length c3] 63));have HA1:=hid (BoxN.new w #[.string n.op,.string n.name,.slice a1 n.ins.length c1,.string n.out,.slice a2 n.attrs.length c2,.slice (some ⟨bi,oi,none⟩) ins.length c3] 63);go_enter Tryz.func128,Tryz.ntmps128
 go_wp2_with fail
 generalize World.alloc w (Obj.cells #[.string n.op,.string n.name,.slice a1 n.ins.length c1,.string n.out,.slice a2 n.attrs.length c2,.slice (some ⟨bi,oi,none⟩) ins.length c3] 63)=W1 at HB1 HA1 ⊢;have HBw:Hid (∀ W,Below W1.heap.size W1 W→Below w.heap.size w W):=hid fun W hB=>HB1.out.trans (hB.mono HB1.out.size);refine (sint_any (n:=n) ⟨_,_,rfl,(HM.out.below HB1.out).node⟩ nmAxis 0).mono ?_;rintro e w2 ⟨rfl,B2⟩;have HW2:Hid (Below W1.heap.size W1 w2):=hid B2;have hz:=int_okP (nm:=nmAxis) (other:=0) (v:=(.agg #[.string n.op,.string n.name,.slice a1 n.ins.length c1,.string n.out,.slice a2 n.attrs.length c2])) ⟨_,_,rfl,HM.out.node⟩ inI_0;have HN1:=hid (fun h=>concat_no (n:=n) (x:=x) (rest:=ins.drop 1) h);have HN2:=hid (fun a h=>concat_all (n:=n) (x:=x) (rest:=ins.drop 1) (a:=a) h);generalize intP n.attrs nmAxis 0=z at *;have HAx:=hid (axis_any z x.length hz (by omega) w2);clear B2 hz;go_wp2_with fail
 refine HAx.out.mono ?_;rintro e w3 ⟨hr,rfl⟩;cases ha:axisP z x.length with
 | none =>
  rw [ha] at hr;obtain rfl:e=brk 4:=hr;exact ⟨rfl,ResI.no (HN1.out ha) (HBw.out _ HW2.out)⟩
 | some q =>
 rw [ha] at hr;obtain rfl:e=.returned (.int .i64 q):=hr;have hq:=axis_lt ha;obtain ⟨a,haq⟩:∃ a:Nat,q=(a:Int):=⟨q.toNat,by omega⟩;subst haq;have E:=hid (HN2.out a ha);have hax:a < x.length:=by omega
 clear ha HN1 HN2 hq HAx;go_wp2_with fail
 refine (Vb.clone_any (HX.out.below (HBw.out _ HW2.out))).mono ?_;rintro e w7 ⟨v7,rfl,hf7,B7⟩;have HF7:=hid hf7;have HB67:=hid B7;have HW7:=hid (HW2.out.trans (B7.mono HW2.out.size));obtain ⟨a7,c7,rfl⟩:=hf7.form;clear hf7 B7;obtain ⟨k0,k1,k2,k3,k4,k5⟩:=(HA1.out.below' HW7.out).six;have hi1:1≤ins.length:=by omega
 have hi1i:(1:Int)≤(ins.length:Int):=by omega
 go_wp2_with fail
 case inl =>
  have hcz:ins.length=1:=by omega
  go_loopw [23] (fun i wr=>∃ (k:Nat) (out:List Int),k≤ins.length - 1∧i=.int .i64 (k:Int)∧out.length=x.length∧Hid (0≤out.getD a 0∧out.getD a 0≤65536 * ((k:Int)+1))∧Hid (ccF x a x (ins.drop 1)=ccF x a out (ins.drop (k+1)))∧Hid (Vb.Fresh w3.heap.size wr (.slice a7 x.length c7) out)∧Hid (Below w3.heap.size w3 wr)) (fun i _=>ins.length - 1 - (intOf i).toNat)
  case atStart=>exact ⟨0,x,Nat.zero_le _,rfl,rfl,hid (by have:=HSm.out.at hax;omega),hid rfl,HF7,HB67⟩
  case round =>
   obtain ⟨k,out,hk,rfl,hol,hA,hF,hO,hW⟩:=hrel;have HWr:=hid (HW2.out.trans (hW.out.mono HW2.out.size));have HBr:=hid (HBw.out _ HWr.out);have HOL:=hid hol;clear hol;by_cases hkl:k < ins.length - 1
   ·exfalso;omega
   ·have hki:¬ (k:Int) < ((ins.length - 1:Nat):Int):=by omega
    obtain rfl:k=ins.length - 1:=by omega
    have F:Hid (concatP n x (ins.drop 1)=some out):=hid (by
     have h1:=E.out.trans hF.out;have hd:ins.drop (ins.length - 1+1)=[]:=List.drop_eq_nil_of_le (by omega);rw [hd] at h1;exact h1.trans cc_end)
    have HRw:Hid (RowI wr w.heap.size (.slice a7 x.length c7) out):=hid (by
     have h1:RowI wr w3.heap.size (.slice a7 out.length c7) out:=by
      have:=hO.out;rw [←HOL.out] at this;unfold RowI;exact this
     rw [HOL.out] at h1;exact h1.base (HBw.out _ HW2.out).size)
    go_wp2
    go_ret
    exact ResI.yes (by first | exact F.out | (rw [←List.drop_one];exact F.out)) HBr.out HRw.out
 case inr =>
  go_loopw [23] (fun i wr=>∃ (k:Nat) (out:List Int),k≤ins.length - 1∧i=.int .i64 (k:Int)∧out.length=x.length∧Hid (0≤out.getD a 0∧out.getD a 0≤65536 * ((k:Int)+1))∧Hid (ccF x a x (ins.drop 1)=ccF x a out (ins.drop (k+1)))∧Hid (Vb.Fresh w3.heap.size wr (.slice a7 x.length c7) out)∧Hid (Below w3.heap.size w3 wr)) (fun i _=>ins.length - 1 - (intOf i).toNat)
  case atStart=>exact ⟨0,x,Nat.zero_le _,rfl,rfl,hid (by have:=HSm.out.at hax;omega),hid rfl,HF7,HB67⟩
  case round =>
   obtain ⟨k,out,hk,rfl,hol,hA,hF,hO,hW⟩:=hrel;have HWr:=hid (HW2.out.trans (hW.out.mono HW2.out.size));have HBr:=hid (HBw.out _ HWr.out);have HOL:=hid hol;clear hol;by_cases hkl:k < ins.length - 1
   ·skip
    have hki:(k:Int) < ((ins.length - 1:Nat):Int):=by omega
    obtain ⟨v,hv⟩:=gAt ins (k+1) (by omega);obtain ⟨b',o',cap',vd,hvs,hb',u0,u1,u2,-,-,hd⟩:=value_at HM.out.ins hv;obtain ⟨e1,-,-⟩:=Value.slice.inj hvs;obtain ⟨e1,e2⟩:bi=b'∧oi=o':=by simpa using e1
    subst e1 e2;have hof:oi+(k+1) * 3=oi+3+k * 3:=by omega
    rw [hof] at u0 u1 u2;have u0:=(HBr.out.cell (p:=⟨bi,oi+3+k * 3,none⟩) hb').trans u0;have u1:=(HBr.out.cell (p:=⟨bi,oi+3+k * 3+1,none⟩) hb').trans u1;have u2:=(HBr.out.cell (p:=⟨bi,oi+3+k * 3+2,none⟩) hb').trans u2;have HD:=hid (hd.below HBr.out);have HD0:=hid hd;obtain ⟨ad,cd,rfl⟩:=hd.shape;have HDs:=hid (HAll.out v (List.mem_of_getElem? hv));have hdr:ins.drop (k+1)=v :: ins.drop (k+2):=by
     obtain ⟨hlt,rfl⟩:=List.getElem?_eq_some_iff.1 hv;exact List.drop_eq_getElem_cons hlt
    rw [hdr] at hF;have F1:=hid (fun h=>cc_bad (x:=x) (out:=out) (a:=a) (v:=v) (l:=ins.drop (k+2)) h);have F2:=hid (fun h g=>cc_next (x:=x) (out:=out) (a:=a) (v:=v) (l:=ins.drop (k+2)) h g);clear hdr hof hv hvs hd;go_wp2_with fail
    have hB8:Below wr.heap.size wr (wr.alloc (Obj.cells #[.string v.name,.int .i64 v.typ,.slice ad v.dims.length cd] 29)):=(Below.refl _ _).alloc (Nat.le_refl _) _;have HP8:=hid (BoxN.new wr #[.string v.name,.int .i64 v.typ,.slice ad v.dims.length cd] 29);have HB38:Hid (Below w3.heap.size w3 (wr.alloc (Obj.cells #[.string v.name,.int .i64 v.typ,.slice ad v.dims.length cd] 29))):=hid (hW.out.trans (hB8.mono hW.out.size));have HD8:=hid (HD.out.below hB8);have HO8:=hid (hO.out.below hB8);clear u0 u1 u2 hB8 HD hO;generalize wr.alloc _=w8 at HP8 HB38 HD8 HO8 ⊢;generalize wr.heap.size=P8 at HP8 ⊢;have HB8:=hid (HBw.out _ (HW2.out.trans (HB38.out.mono HW2.out.size)));by_cases hvl:v.dims.length=x.length
    case neg =>
     have HH:=hid (E.out.trans (hF.out.trans (F1.out (fun c=>hvl c.1))));have hb:((v.dims.length:Int)==(x.length:Int))=false:=by simp;omega
     rw [hb];clear hvl;refine (HNo.out _).mono ?_;rintro e w' ⟨rfl,rfl⟩;exact ⟨rfl,ResI.no (by first | exact HH.out | (rw [←List.drop_one];exact HH.out)) HB8.out⟩
    have hb:((v.dims.length:Int)==(x.length:Int))=true:=by simp;omega
    have HVL:=hid hvl;have F2:=hid (fun g=>F2.out hvl g);rw [hvl];rw [hvl] at HP8 HD8 HD0;clear hvl hb;have p2:=HP8.out.cell 2 rfl;rw [show ((x.length:Int)==(x.length:Int))=true by simp];refine (HY.out _).mono ?_;rintro e w8' ⟨rfl,rfl⟩;go_wp2_with fail
    clear p2;go_loopw [37] (fun i wq=>∃ (j:Nat),j≤x.length∧i=.int .i64 (j:Int)∧Hid (okB x v.dims a j=true)∧Hid (Vb.Fresh w3.heap.size wq (.slice a7 x.length c7) (outJ out v.dims a j))∧Hid (Below w3.heap.size w3 wq)∧Hid (IntsIn wq (.slice ad x.length cd) v.dims)) (fun i _=>x.length - (intOf i).toNat)
    case atStart=>exact ⟨0,Nat.zero_le _,rfl,hid (by unfold okB;rfl),hid (by rw [outJ_zero];exact HO8.out),HB38,HD8⟩
    case round =>
     obtain ⟨j,hj,rfl,hK,hP,hV,hDq⟩:=hrel;have HWq:=hid (HW2.out.trans (hV.out.mono HW2.out.size));have HBq:=hid (HBw.out _ HWq.out);by_cases hjl:j < x.length
     ·have hji:(j:Int) < (x.length:Int):=by omega
      obtain ⟨bd,od,had,-,gd,ud,-⟩:=ints_at (k:=j) hDq.out (by have:=HVL.out;omega);subst had;obtain ⟨bx,ox,hax',-,gx,ux,-⟩:=ints_at HX.out hjl;subst hax';have ux:=(HBq.out.cell (p:=⟨bx,ox+j,none⟩) gx).trans ux;have rd:=HDs.out.2 _ (getD_mem (zs:=v.dims) (k:=j) (by have:=HVL.out;omega));have hgl:=cell_in ud;by_cases hja:j=a
      ·subst hja;have hjb:((j:Int)==(j:Int))=true:=by simp
       have hKn:=hid (ok_next hK.out (Or.inl rfl));obtain ⟨g,hg,hgB,c0,z0,hst⟩:=hP.out.at ((outJ_len _ _ _ _).trans HOL.out) hjl;subst hg;rw [outJ_get] at c0;have hA':=hA.out;have HST:=hid (hst (out.getD j 0+v.dims.getD j 0));rw [←outJ_hit] at HST;have HVS:Hid (Below w3.heap.size w3 (wr.setCell ⟨g,j,none⟩ (.int .i64 (out.getD j 0+v.dims.getD j 0)))):=hid (hV.out.setCell (p:=⟨g,j,none⟩) hgB _);have HVI:Hid (IntsIn (wr.setCell ⟨g,j,none⟩ (.int .i64 (out.getD j 0+v.dims.getD j 0))) (.slice (some ⟨bd,od,none⟩) x.length cd) v.dims):=hid (HD0.out.below (HBw.out _ (HW2.out.trans (HVS.out.mono HW2.out.size))));clear hst hK ux;generalize out.getD j 0=qa at *;generalize v.dims.getD j 0=qd at *;go_wp2_with fail
       go_roundw
       case rel=>exact ⟨j+1,by omega,by go_num,hKn,HST,HVS,HVI⟩
       case measure=>simp [intOf];omega
      ·have hjb:((j:Int)==(a:Int))=false:=by simp;omega
       have hPn:Hid (Vb.Fresh w3.heap.size wr (.slice a7 x.length c7) (outJ out v.dims a (j+1))):=hid (by rw [outJ_skip hja];exact hP.out);by_cases hdx:v.dims.getD j 0=x.getD j 0
       ·have hKn:=hid (ok_next (a:=a) hK.out (Or.inr hdx));have hdb:(v.dims.getD j 0==x.getD j 0)=true:=by simpa using hdx
        clear hK hdx;generalize v.dims.getD j 0=dj at *;generalize x.getD j 0=xj at *;go_wp2_with fail
        refine (HY.out _).mono ?_;rintro e w' ⟨rfl,rfl⟩;go_wp2
        go_roundw
        case rel=>exact ⟨j+1,by omega,by go_num,hKn,hPn,hV,hDq⟩
        case measure=>simp [intOf];omega
       ·have hKn:=hid (ok_bad (a:=a) hjl (fun c=>c.elim hja hdx));have HH:=hid (E.out.trans (hF.out.trans (F1.out (fun c=>by have:=hKn.out;rw [this] at c;exact absurd c.2 (by decide)))));have hdb:(v.dims.getD j 0==x.getD j 0)=false:=by simpa using hdx
        clear hK hdx hKn;generalize v.dims.getD j 0=dj at *;generalize x.getD j 0=xj at *;go_wp2_with fail
        refine (HNo.out _).mono ?_;rintro e w' ⟨rfl,rfl⟩;exact ⟨rfl,ResI.no (by first | exact HH.out | (rw [←List.drop_one];exact HH.out)) HBq.out⟩
     ·have hji:¬ (j:Int) < (x.length:Int):=by omega
      obtain rfl:j=x.length:=by omega
      have hFn:=hid (hF.out.trans (F2.out hK.out));have hPn:Hid (Vb.Fresh w3.heap.size wr (.slice a7 x.length c7) (out.set a (out.getD a 0+v.dims.getD a 0))):=hid (by have:=hP.out;rw [outJ_all hax] at this;exact this);have hAn:Hid (0≤(out.set a (out.getD a 0+v.dims.getD a 0)).getD a 0∧(out.set a (out.getD a 0+v.dims.getD a 0)).getD a 0≤65536 * (((k+1:Nat):Int)+1)):=hid (by
       have h1:=HDs.out.2 _ (getD_mem (zs:=v.dims) (k:=a) (by have:=HVL.out;omega));have h2:=hA.out;rw [show (out.set a (out.getD a 0+v.dims.getD a 0)).getD a 0=out.getD a 0+v.dims.getD a 0 by simp [List.getD,HOL.out,hax]]
       push_cast
       omega)
      go_wp2
      go_roundw
      case rel=>exact ⟨k+1,out.set a (out.getD a 0+v.dims.getD a 0),by omega,by go_num,(by rw [List.length_set];exact HOL.out),hAn,hFn,hPn,hV⟩
      case measure=>simp [intOf];omega
   ·have hki:¬ (k:Int) < ((ins.length - 1:Nat):Int):=by omega
    obtain rfl:k=ins.length - 1:=by omega
    have F:Hid (concatP n x (ins.drop 1)=some out):=hid (by
     have h1:=E.out.trans hF.out;have hd:ins.drop (ins.length - 1+1)=[]:=List.drop_eq_nil_of_le (by omega);rw [hd] at h1;exact h1.trans cc_end)
    have HRw:Hid (RowI wr w.heap.size (.slice a7 x.length c7) out):=hid (by
     have h1:RowI wr w3.heap.size (.slice a7 out.length c7) out:=by
      have:=hO.out;rw [←HOL.out] at this;unfold RowI;exact this
     rw [HOL.out] at h1;exact h1.base (HBw.out _ HW2.out).size)
    go_wp2
    go_ret
    exact ResI.yes (by first | exact F.out | (rw [←List.drop_one];exact F.out)) HBr.out HRw.out
end
end Go.Proofs.YtijhdmidffenbaaGreatDoor
