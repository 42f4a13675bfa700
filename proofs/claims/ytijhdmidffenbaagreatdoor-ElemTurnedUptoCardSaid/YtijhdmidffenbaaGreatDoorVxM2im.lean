import Derived.Test.YtijhdmidffenbaaGreatDoorVxMim
import Derived.Test.YtijhdmidffenbaaGreatDoorShelfim
open Go.Lib (hid)
set_option linter.unusedVariables false
set_option linter.unusedSimpArgs false
namespace Go.Proofs.YtijhdmidffenbaaGreatDoor.Vx
open Go.RowKit Vw
def Box3 (W:World) (b:Nat) (x y z:Value):Prop:=W.heap[b]?=some (.cells #[x,y,z] 78 (0,0))
theorem Box3.frozen {W:World} {b:Nat} {x y z:Value} (h:Box3 W b x y z) (j:Nat):W.frozen? ⟨b,j,none⟩=false:=by simp [World.frozen?,show W.heap[b]?=_ from h]
theorem Box3.c0 {W:World} {b:Nat} {x y z:Value} (h:Box3 W b x y z):W.cell? ⟨b,0,none⟩=some x:=by simp [World.cell?,show W.heap[b]?=_ from h]
theorem Box3.c1 {W:World} {b:Nat} {x y z:Value} (h:Box3 W b x y z):W.cell? ⟨b,1,none⟩=some y:=by simp [World.cell?,show W.heap[b]?=_ from h]
theorem Box3.c2 {W:World} {b:Nat} {x y z:Value} (h:Box3 W b x y z):W.cell? ⟨b,2,none⟩=some z:=by simp [World.cell?,show W.heap[b]?=_ from h]
theorem Box3.modify {W:World} {b:Nat} {x y z:Value} (h:Box3 W b x y z) (j:Nat) (v:Value):(W.setCell ⟨b,j,none⟩ v).heap[b]?=some (.cells (#[x,y,z].setIfInBounds j v) 78 (0,0)):=by
 obtain ⟨hlt,hk⟩:=Array.getElem?_eq_some_iff.1 h
 show (W.heap.modify b _)[b]?=_
 rw [Array.getElem?_eq_getElem (by rw [Array.size_modify];exact hlt),Array.getElem_modify_self,hk]
 rfl
theorem Box3.set0 {W:World} {b:Nat} {x y z:Value} (h:Box3 W b x y z) (v:Value):Box3 (W.setCell ⟨b,0,none⟩ v) b v y z:=h.modify 0 v
theorem Box3.set1 {W:World} {b:Nat} {x y z:Value} (h:Box3 W b x y z) (v:Value):Box3 (W.setCell ⟨b,1,none⟩ v) b x v z:=h.modify 1 v
theorem Box3.set2 {W:World} {b:Nat} {x y z:Value} (h:Box3 W b x y z) (v:Value):Box3 (W.setCell ⟨b,2,none⟩ v) b x y v:=h.modify 2 v
theorem Box3.new (W:World) (x y z:Value):Box3 (W.alloc (.cells #[x,y,z] 78)) W.heap.size x y z:=World.alloc_heap_new W _
theorem Box3.lt {W:World} {b:Nat} {x y z:Value} (h:Box3 W b x y z):b < W.heap.size:=(Array.getElem?_eq_some_iff.1 h).1
theorem Box3.below {W W':World} {b:Nat} {x y z:Value} (h:Box3 W b x y z) (hb:Below W.heap.size W W'):Box3 W' b x y z:=(hb.block b h.lt).trans h
def put3 (W:World) (b:Nat) (x y z:Value):World:=((W.setCell ⟨b,0,none⟩ x).setCell ⟨b,1,none⟩ y).setCell ⟨b,2,none⟩ z
theorem Box3.put {W:World} {b:Nat} {x y z:Value} (h:Box3 W b x y z) (x' y' z':Value):Box3 (put3 W b x' y' z') b x' y' z':=((h.set0 x').set1 y').set2 z'
theorem below_put {n:Nat} {A W:World} {b:Nat} {x y z:Value} (h:Below n A W) (hb:n≤b):Below n A (put3 W b x y z) :=
 ((h.setCell (p:=⟨b,0,none⟩) hb _).setCell (p:=⟨b,1,none⟩) hb _).setCell (p:=⟨b,2,none⟩) hb _
theorem put_other {W:World} {b k:Nat} {x y z:Value} (h:k≠b):(put3 W b x y z).heap[k]?=W.heap[k]? :=
 (Below.heap_setCell _ _ _ k h).trans ((Below.heap_setCell _ _ _ k h).trans (Below.heap_setCell _ _ _ k h))
theorem Fresh.put {B B':Nat} {w:World} {v:Value} {zs:List Int} {b:Nat} {x y z:Value} (h:Fresh B w v zs) (hb:b < B) (hB:B'≤B):Fresh B' (put3 w b x y z) v zs:=by
 rcases h with h | ⟨g,cap,cur,e,hg,hh,r⟩
 ·exact Or.inl h
 ·exact Or.inr ⟨g,cap,cur,e,by omega,(put_other (by omega)).trans hh,r⟩
def ViewOut (w:World) (o:Int × Int × List Int × List Int) (e:Ending) (w':World):Prop :=
 Below w.heap.size w w'∧((o.1≠0∧e=.returned (.tuple #[.agg #[.int .i64 0,.slice none 0 0,.slice none 0 0],.int .i64 o.1])) ∨
  (o.1=0∧∃ d s,e=.returned (.tuple #[.agg #[.int .i64 o.2.1,d,s],.int .i64 0])∧Fresh w.heap.size w' d o.2.2.1∧Fresh w.heap.size w' s o.2.2.2))
def wholeO (zs:List Int):Int × Int × List Int × List Int:=if (cnt zs).2=0 then (0,0,zs,strd zs) else ((cnt zs).2,0,[],[])
attribute [local irreducible] cnt strd
set_option maxHeartbeats 1000000 in
theorem whole_any {w:World} {v:Value} {zs:List Int} (h:IntsIn w v zs):Calls Tryz.prog 41 #[v] w (ViewOut w (wholeO zs)):=by
 obtain ⟨a1,c1,rfl⟩:=h.form
 have hA:Below w.heap.size w (w.alloc (.cells #[.int .i64 0,.slice none 0 0,.slice none 0 0] 78)):=(Below.refl _ w).alloc (Nat.le_refl _) _
 have HS:=hid (strides_any (h.below hA))
 have hbox:Hid ((w.alloc (.cells #[.int .i64 0,.slice none 0 0,.slice none 0 0] 78)).heap[w.heap.size]?=some (.cells #[.int .i64 0,.slice none 0 0,.slice none 0 0] 78 (0,0))):=hid (World.alloc_heap_new w _)
 have HA:=hid hA
 have HI:=hid (h.below hA)
 clear hA
 go_enter Tryz.func41,Tryz.ntmps41
 go_wp2_with fail
 refine HS.out.mono ?_
 rintro e w1 ⟨hB1,(⟨hne,rfl⟩ | ⟨he,s,rfl,hf⟩)⟩
 ·have hb1:Box3 w1 w.heap.size (.int .i64 0) (.slice none 0 0) (.slice none 0 0):=(Box3.new w _ _ _).below hB1
  have k0:=hb1.c0
  have k1:=hb1.c1
  have k2:=hb1.c2
  have f0:=hb1.frozen 0
  have f1:=hb1.frozen 1
  have f2:=hb1.frozen 2
  generalize hcc:(cnt zs).2=cc at *
  have hO:Hid (wholeO zs=(cc,0,[],[])):=hid (by unfold wholeO;rw [hcc,if_neg hne])
  have hp:Hid (Box3 (put3 w1 w.heap.size (.int .i64 0) (.slice none 0 0) (.slice none 0 0)) w.heap.size (.int .i64 0) (.slice none 0 0) (.slice none 0 0)):=hid (hb1.put _ _ _)
  have hbl:Hid (Below w.heap.size w (put3 w1 w.heap.size (.int .i64 0) (.slice none 0 0) (.slice none 0 0))):=hid (below_put (HA.out.trans (hB1.mono (by simp))) (Nat.le_refl _))
  have hNE:=hid hne
  clear hb1 hcc
  have hcb:(cc != 0)=true:=by simpa using hne
  go_wp2
  have c0:=hp.out.c0
  have c1':=hp.out.c1
  have c2:=hp.out.c2
  unfold put3 at c0 c1' c2
  exact bodyPost_ret (v:=.tuple #[.agg #[.int .i64 0,.slice none 0 0,.slice none 0 0],.int .i64 cc]) (by simp [results,Tryz.f41,go_sem,c0,c1',c2]) rfl ⟨hbl.out,by rw [hO.out];exact Or.inl ⟨hNE.out,rfl⟩⟩
 ·have hO:Hid (wholeO zs=(0,0,zs,strd zs)):=hid (by unfold wholeO;rw [if_pos he])
  have HC:=hid (clone_any (HI.out.below hB1))
  have hb1:=hid ((Box3.new w (.int .i64 0) (.slice none 0 0) (.slice none 0 0)).below hB1)
  have hF:=hid hf
  obtain ⟨av,cs,rfl⟩:=hf.form
  have HB1:=hid hB1
  clear hf hB1 he
  go_wp2_with fail
  refine HC.out.mono ?_
  rintro e w2 ⟨d,rfl,hfd,hB2⟩
  obtain ⟨ad,cd,rfl⟩:=hfd.form
  have hb2:=hb1.out.below hB2
  have k0:=hb2.c0
  have k1:=hb2.c1
  have k2:=hb2.c2
  have f0:=hb2.frozen 0
  have f1:=hb2.frozen 1
  have f2:=hb2.frozen 2
  have hp:Hid (Box3 (put3 w2 w.heap.size (.int .i64 0) (.slice ad zs.length cd) (.slice av (strd zs).length cs)) w.heap.size (.int .i64 0) (.slice ad zs.length cd) (.slice av (strd zs).length cs)):=hid (hb2.put _ _ _)
  have hz1:w.heap.size < w1.heap.size:=by have:=HB1.out.size;simp at this;omega
  have hz2:w1.heap.size≤w2.heap.size:=hB2.size
  have hbl:Hid (Below w.heap.size w (put3 w2 w.heap.size (.int .i64 0) (.slice ad zs.length cd) (.slice av (strd zs).length cs))):=hid (below_put ((HA.out.trans (HB1.out.mono (by simp))).trans (hB2.mono (by omega))) (Nat.le_refl _))
  have hd2:Hid (Fresh w.heap.size (put3 w2 w.heap.size (.int .i64 0) (.slice ad zs.length cd) (.slice av (strd zs).length cs)) (.slice ad zs.length cd) zs):=hid (hfd.put (by omega) (by omega))
  have hs2:Hid (Fresh w.heap.size (put3 w2 w.heap.size (.int .i64 0) (.slice ad zs.length cd) (.slice av (strd zs).length cs)) (.slice av (strd zs).length cs) (strd zs)):=hid ((hF.out.below hB2).put (B':=w.heap.size) (by simp) (by simp))
  clear hb2 hfd hB2
  go_wp2
  have c0:=hp.out.c0
  have c1':=hp.out.c1
  have c2:=hp.out.c2
  have hbl2:=hbl.out
  have hd3:=hd2.out
  have hs3:=hs2.out
  unfold put3 at c0 c1' c2 hbl2 hd3 hs3
  exact bodyPost_ret (v:=.tuple #[.agg #[.int .i64 0,.slice ad zs.length cd,.slice av (strd zs).length cs],.int .i64 0]) (by simp [results,Tryz.f41,go_sem,c0,c1',c2]) rfl ⟨hbl2,by rw [hO.out];exact Or.inr ⟨rfl,_,_,rfl,hd3,hs3⟩⟩
end Go.Proofs.YtijhdmidffenbaaGreatDoor.Vx
namespace Go.Proofs.YtijhdmidffenbaaGreatDoor.Vx
open Go.RowKit Vw Vb
theorem box3_cells {W:World} {b:Nat} {x y z:Value} (h:Box3 W b x y z):W.cell? ⟨b,0,none⟩=some x∧W.cell? ⟨b,1,none⟩=some y∧W.cell? ⟨b,2,none⟩=some z:=⟨h.c0,h.c1,h.c2⟩
theorem equal_any {w:World} {u v:Value} {xs ys:List Int} (h1:IntsIn w u xs) (h2:IntsIn w v ys) :
  Calls Tryz.prog 73 #[u,v] w fun e w'=>e=.returned (.bool (decide (xs=ys)))∧Below w.heap.size w w':=by
 have hl1:=h1.wf.1
 have hl2:=h2.wf.1
 cases h1 with
 | empty a0 c0 =>
  obtain ⟨a3,c3,rfl⟩:=h2.form
  refine (Tryz.slices_Equal_int_empty a0 a3 c0 ys.length c3 w (by omega)).mono ?_
  rintro e w' ⟨rfl,rfl⟩
  refine ⟨ret_val (bool_val ?_),Below.refl _ _⟩
  cases ys<;>simp
 | row b1 o1 c1 _ n0 hc hb hr hlen hw =>
  cases h2 with
  | empty a0 c0 =>
   refine (Tryz.slices_Equal_int_lens (some ⟨b1,o1,none⟩) a0 xs.length c1 0 c0 w (by intro e;exact n0 (List.eq_nil_of_length_eq_zero e))).mono ?_
   rintro e w' ⟨rfl,rfl⟩
   exact ⟨ret_val (bool_val (decide_eq_false n0).symm),Below.refl _ _⟩
  | row b2 o2 c2 _ n0' hc' hb' hr' hlen' hw' =>
   refine (Tryz.slices_Equal_int b1 o1 xs.length c1 b2 o2 ys.length c2 xs ys w (Nat.le_refl _) (Nat.le_refl _) (by omega) (by omega) hr hr').mono ?_
   rintro e w' ⟨rfl,q,rfl⟩
   refine ⟨ret_val (bool_val ?_),below_drewN (Below.refl _ _) q⟩
   rw [List.take_length,List.take_length]
   by_cases e:xs=ys
   ·simp [e]
   ·simp [e]
def spA (ds ss W:List Int) (j:Nat):Int:=if W.length - ds.length≤j∧ds.getD (j - (W.length - ds.length)) 0=W.getD j 0 then ss.getD (j - (W.length - ds.length)) 0 else 0
def spS (ds ss W:List Int):List Int:=(List.range W.length).map (spA ds ss W)
theorem spS_length (ds ss W:List Int):(spS ds ss W).length=W.length:=by simp [spS]
theorem spS_get {ds ss W:List Int} {j:Nat} (h:j < W.length):(spS ds ss W).getD j 0=spA ds ss W j:=by simp [spS,List.getD,h]
def spO (off:Int) (ds ss W:List Int):Int × Int × List Int × List Int :=
 if mayV off ds ss=false then (1,0,[],[]) else if (bcO ds W).1≠0 then ((bcO ds W).1,0,[],[]) else if (bcO ds W).2≠W then (4,0,[],[]) else (0,off,W,spS ds ss W)
theorem bc_good {a b:List Int} (h:(bcO a b).1=0):(cnt a).2=0∧(cnt b).2=0∧Co a b (max a.length b.length)∧(bcO a b).2=outL a b∧(cnt (outL a b)).2=0:=by
 unfold bcO at h ⊢
 by_cases h1:(cnt a).2≠0
 ·rw [if_pos h1] at h;exact absurd h h1
 rw [if_neg h1] at h ⊢
 by_cases h2:(cnt b).2≠0
 ·rw [if_pos h2] at h;exact absurd h h2
 rw [if_neg h2] at h ⊢
 by_cases h3:Co a b (max a.length b.length)
 ·rw [if_pos h3] at h ⊢
  by_cases h4:(cnt (outL a b)).2≠0
  ·rw [if_pos h4] at h;exact absurd h h4
  ·rw [if_neg h4];exact ⟨by simpa using h1,by simpa using h2,h3,rfl,by simpa using h4⟩
 ·rw [if_neg h3] at h;exact absurd h (by decide)
def SpTo (ds ss W:List Int) (i:Nat) (xs:List Int):Prop:=xs.length=W.length∧(∀ j,j < W.length - ds.length+i→j < W.length→xs.getD j 0=spA ds ss W j)∧(∀ j,W.length - ds.length+i≤j→xs.getD j 0=0)
theorem SpTo.len {ds ss W xs:List Int} {i:Nat} (h:SpTo ds ss W i xs):xs.length=W.length:=h.1
theorem SpTo.zero (ds ss W:List Int):SpTo ds ss W 0 (List.replicate W.length 0):=by
 have hz:∀ j,(List.replicate W.length (0:Int)).getD j 0=0:=fun j=>by
  by_cases h:j < W.length
  ·simp [List.getD,h]
  ·simp [List.getD,h]
 refine ⟨by simp,fun j hj _=>?_,fun j _=>hz j⟩
 rw [hz];unfold spA;rw [if_neg (by omega)]
theorem SpTo.put {ds ss W xs:List Int} {i:Nat} (h:SpTo ds ss W i xs) (hl:ds.length≤W.length) (hi:i < ds.length) (e:ds.getD i 0=W.getD (W.length - ds.length+i) 0):SpTo ds ss W (i+1) (xs.set (W.length - ds.length+i) (ss.getD i 0)):=by
 refine ⟨by rw [List.length_set];exact h.1,fun j hj hjW=>?_,fun j hj=>?_⟩
 ·by_cases ej:j=W.length - ds.length+i
  ·subst ej
   have hlt:W.length - ds.length+i < xs.length:=by rw [h.1];exact hjW
   unfold spA
   rw [if_pos ⟨by omega,by rw [show W.length - ds.length+i - (W.length - ds.length)=i by omega];exact e⟩,show W.length - ds.length+i - (W.length - ds.length)=i by omega]
   simp [List.getD,hlt]
  ·have:(xs.set (W.length - ds.length+i) (ss.getD i 0)).getD j 0=xs.getD j 0:=by simp [List.getD,List.getElem?_set_ne (Ne.symm ej)]
   rw [this];exact h.2.1 j (by omega) hjW
 ·have:(xs.set (W.length - ds.length+i) (ss.getD i 0)).getD j 0=xs.getD j 0:=by simp [List.getD,List.getElem?_set_ne (show W.length - ds.length+i≠j by omega)]
  rw [this];exact h.2.2 j (by omega)
theorem SpTo.stay {ds ss W xs:List Int} {i:Nat} (h:SpTo ds ss W i xs) (hl:ds.length≤W.length) (hi:i < ds.length) (e:ds.getD i 0≠W.getD (W.length - ds.length+i) 0):SpTo ds ss W (i+1) xs:=by
 refine ⟨h.1,fun j hj hjW=>?_,fun j hj=>h.2.2 j (by omega)⟩
 by_cases ej:j=W.length - ds.length+i
 ·subst ej
  rw [h.2.2 _ (Nat.le_refl _)]
  unfold spA
  rw [if_neg]
  rintro ⟨_,g⟩
  rw [show W.length - ds.length+i - (W.length - ds.length)=i by omega] at g
  exact e g
 ·exact h.2.1 j (by omega) hjW
theorem SpTo.all {ds ss W xs:List Int} (h:SpTo ds ss W ds.length xs) (hl:ds.length≤W.length):xs=spS ds ss W:=by
 refine List.ext_getElem (by rw [h.1,spS_length]) fun j h1 h2=>?_
 have hj:j < W.length:=by rw [←h.1];exact h1
 have:=h.2.1 j (by omega) hj
 rw [←spS_get hj] at this
 simpa [List.getD,List.getElem?_eq_getElem h1,List.getElem?_eq_getElem h2] using this
attribute [local irreducible] cnt mayV bcO outL spS spA SpTo spO
set_option maxRecDepth 100000 in
set_option maxHeartbeats 4000000 in
theorem spread_any {w:World} {off:Int} {d s pv:Value} {ds ss ps:List Int} (hd0:IntsIn w d ds) (hs0:IntsIn w s ss) (hp0:IntsIn w pv ps) :
  Calls Tryz.prog 42 #[.agg #[.int .i64 off,d,s],pv] w (ViewOut w (spO off ds ss ps)):=by
 have hd:=hid hd0
 have hs:=hid hs0
 have hp:=hid hp0
 clear hd0 hs0 hp0
 obtain ⟨a1,c1,rfl⟩:=hd.out.form
 obtain ⟨a2,c2,rfl⟩:=hs.out.form
 obtain ⟨a3,c3,rfl⟩:=hp.out.form
 obtain ⟨WA,hWA⟩:∃ WA,(w.alloc (.cells #[.int .i64 off,.slice a1 ds.length c1,.slice a2 ss.length c2] 78)).alloc (.cells #[.int .i64 0,.slice none 0 0,.slice none 0 0] 78)=WA:=⟨_,rfl⟩
 have bA:Below w.heap.size w WA:=by rw [←hWA];exact ((Below.refl _ w).alloc (Nat.le_refl _) _).alloc (by simp) _
 have zA:WA.heap.size=w.heap.size+2:=by rw [←hWA];simp
 have p1:Box3 WA w.heap.size (.int .i64 off) (.slice a1 ds.length c1) (.slice a2 ss.length c2):=by rw [←hWA];exact (Below.heap_alloc _ _ _ (by simp)).trans (Box3.new w _ _ _)
 have p2:Box3 WA (w.heap.size+1) (.int .i64 0) (.slice none 0 0) (.slice none 0 0):=by
  rw [←hWA]
  have:=Box3.new (w.alloc (.cells #[.int .i64 off,.slice a1 ds.length c1,.slice a2 ss.length c2] 78)) (.int .i64 0) (.slice none 0 0) (.slice none 0 0)
  rwa [World.size_alloc] at this
 have q0:=p1.c0
 have q1:=p1.c1
 have q2:=p1.c2
 have P1:=hid p1
 have P2:=hid p2
 have BA:=hid bA
 have ZA:=hid zA
 have HF:=hid (fine_any (off:=off) (hd.out.below bA) (hs.out.below bA))
 clear p1 p2 bA zA
 have E1:Hid (mayV off ds ss=false→spO off ds ss ps=(1,0,[],[])):=hid fun h=>by unfold spO;rw [if_pos h]
 have E2:Hid (mayV off ds ss=true→(bcO ds ps).1≠0→spO off ds ss ps=((bcO ds ps).1,0,[],[])):=hid fun h g=>by unfold spO;rw [if_neg (by rw [h];decide),if_pos g]
 have E3:Hid (mayV off ds ss=true→(bcO ds ps).1=0→(bcO ds ps).2≠ps→spO off ds ss ps=(4,0,[],[])):=hid fun h g k=>by unfold spO;rw [if_neg (by rw [h];decide),if_neg (by rw [g];decide),if_pos k]
 have E4:Hid (mayV off ds ss=true→(bcO ds ps).1=0→(bcO ds ps).2=ps→spO off ds ss ps=(0,off,ps,spS ds ss ps)):=hid fun h g k=>by unfold spO;rw [if_neg (by rw [h];decide),if_neg (by rw [g];decide),if_neg (by rw [k];simp)]
 generalize spO off ds ss ps=O at *
 have HR1:=hid hd.out.rowsV.2
 have HR2:=hid hs.out.rowsV.2
 go_enter Tryz.func42,Tryz.ntmps42
 go_wp2_with fail
 refine HF.out.mono ?_
 rintro e w1 ⟨rfl,B1⟩
 have z1:Hid (w.heap.size+2≤w1.heap.size):=hid (by have:=ZA.out;have:=B1.size;omega)
 have b1:=hid (BA.out.trans (B1.mono BA.out.size))
 have P3:=hid (P1.out.below B1)
 have P4:=hid (P2.out.below B1)
 clear B1 q0 q1 q2
 cases hm:mayV off ds ss
 ·have NX:=hid (E1.out hm)
  clear hm
  have f0:=P4.out.frozen 0
  have f1:=P4.out.frozen 1
  have f2:=P4.out.frozen 2
  have k0:=P4.out.c0
  have k1:=P4.out.c1
  have k2:=P4.out.c2
  have hend:Hid (Box3 (put3 w1 (w.heap.size+1) (.int .i64 0) (.slice none 0 0) (.slice none 0 0)) (w.heap.size+1) (.int .i64 0) (.slice none 0 0) (.slice none 0 0)∧Below w.heap.size w (put3 w1 (w.heap.size+1) (.int .i64 0) (.slice none 0 0) (.slice none 0 0))):=hid ⟨P4.out.put _ _ _,below_put b1.out (by omega)⟩
  go_wp2_with fail
  obtain ⟨h1,h2⟩:=hend.out
  obtain ⟨x0,x1',x2'⟩:=box3_cells h1
  unfold put3 at x0 x1' x2' h2
  exact bodyPost_ret (v:=.tuple #[.agg #[.int .i64 0,.slice none 0 0,.slice none 0 0],.int .i64 1]) (by simp [results,Tryz.f42,go_sem,x0,x1',x2']) rfl (by rw [NX.out];exact ⟨h2,Or.inl ⟨by decide,rfl⟩⟩)
 have HM:=hid hm
 have hmg:=may_good hm
 have hn6:=hmg.2.1
 have hsl:Hid (ss.length=ds.length):=hid hmg.2.2.2.2.1
 clear hm hmg
 obtain ⟨y0,y1,y2⟩:=box3_cells P3.out
 go_wp2_with fail
 refine (Vb.broadcast_any (hd.out.below b1.out) (hp.out.below b1.out)).mono ?_
 rintro e w2 ⟨B2,h2⟩
 have z2:Hid (w1.heap.size≤w2.heap.size):=hid B2.size
 have b2:=hid (b1.out.trans (B2.mono b1.out.size))
 have P5:=hid (P3.out.below B2)
 have P6:=hid (P4.out.below B2)
 clear B2 y0 y1 y2
 rcases h2 with ⟨hne,rfl⟩ | ⟨h0,v,rfl,hf⟩
 ·have NX:=hid (E2.out HM.out hne)
  generalize (bcO ds ps).1=ce at *
  have hb1:(ce != 0)=true:=by simpa using hne
  have HNE:=hid hne
  clear hne
  have f0:=P6.out.frozen 0
  have f1:=P6.out.frozen 1
  have f2:=P6.out.frozen 2
  have k0:=P6.out.c0
  have k1:=P6.out.c1
  have k2:=P6.out.c2
  have hend:Hid (Box3 (put3 w2 (w.heap.size+1) (.int .i64 0) (.slice none 0 0) (.slice none 0 0)) (w.heap.size+1) (.int .i64 0) (.slice none 0 0) (.slice none 0 0)∧Below w.heap.size w (put3 w2 (w.heap.size+1) (.int .i64 0) (.slice none 0 0) (.slice none 0 0))):=hid ⟨P6.out.put _ _ _,below_put b2.out (by omega)⟩
  go_wp2_with fail
  obtain ⟨h1,h2⟩:=hend.out
  obtain ⟨x0,x1',x2'⟩:=box3_cells h1
  unfold put3 at x0 x1' x2' h2
  exact bodyPost_ret (v:=.tuple #[.agg #[.int .i64 0,.slice none 0 0,.slice none 0 0],.int .i64 ce]) (by simp [results,Tryz.f42,go_sem,x0,x1',x2']) rfl (by rw [NX.out];exact ⟨h2,Or.inl ⟨HNE.out,rfl⟩⟩)
 have hf:=Fresh.of_owns hf
 have HB0:=hid h0
 have hbg:=bc_good h0
 have hbe:=hbg.2.2.2.1
 have hcp:=(cnt_good hbg.2.1).2.1
 have hol:Hid ((outL ds ps).length=max ds.length ps.length):=hid (outL_length ds ps)
 have hoi:Hid (∀ z ∈ outL ds ps,InI z):=hid (outL_inI hd.out.wf.2 hp.out.wf.2)
 have HE3:=hid (E3.out HM.out h0)
 have HE4:=hid (E4.out HM.out h0)
 rw [hbe] at hf HE3 HE4
 have iv:=hid (hf.ints (by rw [hol.out];omega) hoi.out)
 have hF:=hid hf
 obtain ⟨a4,c4,rfl⟩:=hf.form
 clear hf h0 hbg hbe
 go_wp2_with fail
 refine (equal_any iv.out (hp.out.below b2.out)).mono ?_
 rintro e w3 ⟨rfl,B3⟩
 have z3:Hid (w2.heap.size≤w3.heap.size):=hid B3.size
 have b3:=hid (b2.out.trans (B3.mono b2.out.size))
 have P7:=hid (P5.out.below B3)
 have P8:=hid (P6.out.below B3)
 have hF3:=hid (hF.out.below B3)
 clear B3
 by_cases hq:outL ds ps=ps
 rotate_left
 ·have NX:=hid (HE3.out hq)
  rw [decide_eq_false hq]
  clear hq
  have f0:=P8.out.frozen 0
  have f1:=P8.out.frozen 1
  have f2:=P8.out.frozen 2
  have k0:=P8.out.c0
  have k1:=P8.out.c1
  have k2:=P8.out.c2
  have hend:Hid (Box3 (put3 w3 (w.heap.size+1) (.int .i64 0) (.slice none 0 0) (.slice none 0 0)) (w.heap.size+1) (.int .i64 0) (.slice none 0 0) (.slice none 0 0)∧Below w.heap.size w (put3 w3 (w.heap.size+1) (.int .i64 0) (.slice none 0 0) (.slice none 0 0))):=hid ⟨P8.out.put _ _ _,below_put b3.out (by omega)⟩
  go_wp2_with fail
  obtain ⟨h1,h2⟩:=hend.out
  obtain ⟨x0,x1',x2'⟩:=box3_cells h1
  unfold put3 at x0 x1' x2' h2
  exact bodyPost_ret (v:=.tuple #[.agg #[.int .i64 0,.slice none 0 0,.slice none 0 0],.int .i64 4]) (by simp [results,Tryz.f42,go_sem,x0,x1',x2']) rfl (by rw [NX.out];exact ⟨h2,Or.inl ⟨by decide,rfl⟩⟩)
 have NX:=hid (HE4.out hq)
 rw [decide_eq_true hq]
 rw [hq] at hF3 hol ⊢
 have hle:ds.length≤ps.length:=by have:=hol.out;omega
 clear hq HE3 HE4 E1 E2 E3 E4 iv hF hoi
 have iv3:=hid (hF3.out.ints hp.out.wf.1 hp.out.wf.2)
 have HR4:=hid iv3.out.rowsV.2
 obtain ⟨ah,hah⟩:∃ ah:Nat,ah=ps.length - ds.length:=⟨_,rfl⟩
 have hsub:(ps.length:Int) - (ds.length:Int)=(ah:Int):=by omega
 have HAH:=hid hah
 clear hah
 have hmk:=run_make_ints w3 ps.length (by omega)
 have hrow:Hid (RowAt (w3.alloc (.cells (intCells (List.replicate ps.length 0)) 3)) w3.heap.size (List.replicate ps.length 0)):=hid (RowAt.new w3 _)
 have hbel:Hid (Below w3.heap.size w3 (w3.alloc (.cells (intCells (List.replicate ps.length 0)) 3))):=hid ((Below.refl _ w3).alloc (Nat.le_refl _) _)
 have HSZ:Hid (SpTo ds ss ps 0 (List.replicate ps.length 0)):=hid (SpTo.zero ds ss ps)
 have P9:=hid (P7.out.below hbel.out)
 obtain ⟨y0,y1,y2⟩:=box3_cells P9.out
 go_wp2_with fail
 go_loopw [40] (fun i wr=>∃ k:Nat,k≤ds.length∧i=.int .i64 (k:Int)∧Hid (∃ xs,RowAt wr w3.heap.size xs∧SpTo ds ss ps k xs)∧Hid (Below w3.heap.size w3 wr)) (fun i _=>ds.length - (intOf i).toNat)
 case atStart=>exact ⟨0,Nat.zero_le _,rfl,hid ⟨_,hrow.out,HSZ.out⟩,hbel⟩
 case round =>
  obtain ⟨k,hk,rfl,hx,hb⟩:=hrel
  obtain ⟨xs,hr,hsp⟩:=hx.out
  have PV:=hid (P7.out.below hb.out)
  clear y0 y1 y2
  obtain ⟨y0,y1,y2⟩:=box3_cells PV.out
  have bw:=hid (b3.out.trans (hb.out.mono b3.out.size))
  by_cases hkl:k < ds.length
  ·have hki:(k:Int) < (ds.length:Int):=by omega
   have hki2:(k:Int) < (ss.length:Int):=by rw [hsl.out];exact hki
   obtain ⟨p,hpp⟩:∃ p:Nat,p=ah+k:=⟨_,rfl⟩
   have hpi:(ah:Int)+(k:Int)=(p:Int):=by omega
   have hpe:ps.length - ds.length+k=p:=by rw [←HAH.out,hpp]
   have hpL:p < ps.length:=by omega
   have hpl:(p:Int) < (ps.length:Int):=by omega
   have hput:=hsp.put hle hkl
   have hstay:=hsp.stay hle hkl
   rw [hpe] at hput hstay
   obtain ⟨b1',o1',rfl,hb1,hr1⟩:=HR1.out k hkl
   obtain ⟨b2',o2',rfl,hb2,hr2⟩:=HR2.out k (by rw [hsl.out];exact hkl)
   obtain ⟨b4',o4',rfl,hb4,hr4⟩:=HR4.out p hpL
   have x1:=(bw.out.cell (p:=⟨b1',o1'+k,none⟩) hb1).trans (hr1 k hkl)
   have x2:=(bw.out.cell (p:=⟨b2',o2'+k,none⟩) hb2).trans (hr2 k (by rw [hsl.out];exact hkl))
   have x4:=(hb.out.cell (p:=⟨b4',o4'+p,none⟩) hb4).trans (hr4 p hpL)
   have hcell:=hr.cell (j:=p) (by rw [hsp.len];exact hpL)
   have hfz:=hr.frozen p
   have hset:=hr.set p (ss.getD k 0)
   clear hpp hpe
   generalize ds.getD k 0=d1 at *
   generalize ss.getD k 0=s1 at *
   generalize ps.getD p 0=q1 at *
   by_cases he:d1=q1
   ·have HPT:=hid (hput he)
    have HST:=hid hset
    have hbs:Hid (Below w3.heap.size w3 (wr.setCell ⟨w3.heap.size,p,none⟩ (.int .i64 s1))):=hid (hb.out.setCell (p:=⟨w3.heap.size,p,none⟩) (Nat.le_refl _) _)
    clear hput hstay hset hr hsp hx
    subst he
    go_wp2_with fail
    go_roundw
    case rel=>exact ⟨k+1,by omega,by go_num,hid ⟨_,HST.out,HPT.out⟩,hbs⟩
    case measure=>simp [intOf];omega
   ·have HPT:=hid (hstay he)
    have HST:=hid hr
    have hb1':(d1==q1)=false:=by simpa using he
    clear hput hstay hset hr hsp hx he
    go_wp2_with fail
    go_roundw
    case rel=>exact ⟨k+1,by omega,by go_num,hid ⟨_,HST.out,HPT.out⟩,hb⟩
    case measure=>simp [intOf];omega
  ·obtain rfl:k=ds.length:=by omega
   have hxe:=hsp.all hle
   subst hxe
   have hFS:Hid (Fresh w3.heap.size wr (.slice (some ⟨w3.heap.size,0,none⟩) ps.length ps.length) (spS ds ss ps)):=hid (Fresh.row hr (Nat.le_refl _) (spS_length ds ss ps).symm)
   have hFD:=hid (hF3.out.below hb.out)
   have P10:=hid (P8.out.below hb.out)
   have zz:Hid (w.heap.size+2≤w1.heap.size∧w1.heap.size≤w3.heap.size):=hid ⟨z1.out,Nat.le_trans z2.out z3.out⟩
   have f0:=P10.out.frozen 0
   have f1:=P10.out.frozen 1
   have f2:=P10.out.frozen 2
   have k0:=P10.out.c0
   have k1:=P10.out.c1
   have k2:=P10.out.c2
   clear hr hsp hx
   have hend:Hid (Box3 (put3 wr (w.heap.size+1) (.int .i64 off) (.slice a4 ps.length c4) (.slice (some ⟨w3.heap.size,0,none⟩) ps.length ps.length)) (w.heap.size+1) (.int .i64 off) (.slice a4 ps.length c4) (.slice (some ⟨w3.heap.size,0,none⟩) ps.length ps.length)∧Below w.heap.size w (put3 wr (w.heap.size+1) (.int .i64 off) (.slice a4 ps.length c4) (.slice (some ⟨w3.heap.size,0,none⟩) ps.length ps.length))∧Fresh w.heap.size (put3 wr (w.heap.size+1) (.int .i64 off) (.slice a4 ps.length c4) (.slice (some ⟨w3.heap.size,0,none⟩) ps.length ps.length)) (.slice a4 ps.length c4) ps∧Fresh w.heap.size (put3 wr (w.heap.size+1) (.int .i64 off) (.slice a4 ps.length c4) (.slice (some ⟨w3.heap.size,0,none⟩) ps.length ps.length)) (.slice (some ⟨w3.heap.size,0,none⟩) ps.length ps.length) (spS ds ss ps)):=hid ⟨P10.out.put _ _ _,below_put bw.out (by omega),hFD.out.put (by have:=zz.out;omega) (by have:=zz.out;omega),hFS.out.put (by have:=zz.out;omega) (by have:=zz.out;omega)⟩
   go_wp2_with fail
   obtain ⟨h1,h2,h3,h4⟩:=hend.out
   obtain ⟨x0,x1',x2'⟩:=box3_cells h1
   unfold put3 at x0 x1' x2' h2 h3 h4
   exact bodyPost_ret (v:=.tuple #[.agg #[.int .i64 off,.slice a4 ps.length c4,.slice (some ⟨w3.heap.size,0,none⟩) ps.length ps.length],.int .i64 0]) (by simp [results,Tryz.f42,go_sem,x0,x1',x2']) rfl (by rw [NX.out];exact ⟨h2,Or.inr ⟨rfl,_,_,rfl,h3,h4⟩⟩)
end Go.Proofs.YtijhdmidffenbaaGreatDoor.Vx
namespace Go.Proofs.YtijhdmidffenbaaGreatDoor.Vx
open Go.RowKit Vw Vb
theorem co1_if (a b:List Int) (i:Nat):Co1 a b i↔(bk a i=bk b i∨bk a i=1∨bk b i=1):=Iff.rfl
theorem strd_le:∀ {zs:List Int},(∀ d ∈ zs,1≤d∧d≤65536)→pr zs≤65536→∀ z ∈ strd zs,1≤z∧z≤65536
 | [],_,_,z,hz=>by simp [strd] at hz
 | d :: ds,h,g,z,hz=>by
  have hp:Pos ds:=fun x hx=>(h x (List.mem_cons_of_mem _ hx)).1
  have h1:=pr_pos hp
  have hd:=(h d (List.mem_cons_self ..)).1
  rw [pr] at g
  have h2:pr ds≤65536:=by
   have:=Int.mul_le_mul_of_nonneg_right hd (by omega:0≤pr ds)
   rw [Int.one_mul] at this
   omega
  rw [strd] at hz
  rcases List.mem_cons.1 hz with rfl | hz
  ·exact ⟨h1,h2⟩
  ·exact strd_le (fun x hx=>h x (List.mem_cons_of_mem _ hx)) h2 z hz
def Val:List Int→List Int→Prop
 | [],[]=>True
 | d :: ds,c :: cs=>(0≤c∧c < d)∧Val ds cs
 | _,_=>False
theorem val_plc:∀ {ds cs:List Int},Pos ds→Val ds cs→(0≤plc (strd ds) cs∧plc (strd ds) cs < pr ds)∧crd ds (plc (strd ds) cs)=cs
 | [],[],_,_=>by simp [strd,plc,pr,crd]
 | [],_ :: _,_,h=>h.elim
 | _ :: _,[],_,h=>h.elim
 | d :: ds,c :: cs,hp,h=>by
  obtain ⟨⟨h1,h2⟩,h3⟩:=h
  obtain ⟨⟨i1,i2⟩,i3⟩:=val_plc hp.tail h3
  have hpp:=pr_pos hp.tail
  simp only [strd,plc,pr,crd]
  generalize plc (strd ds) cs=r at *
  generalize pr ds=P at *
  have m1:0≤c * P:=Int.mul_nonneg h1 (by omega)
  have m2:(c+1) * P≤d * P:=Int.mul_le_mul_of_nonneg_right (by omega) (by omega)
  rw [Int.add_mul,Int.one_mul] at m2
  have e1:(c * P+r) / P=c:=by
   rw [Int.add_comm,Int.add_mul_ediv_right _ _ (by omega),Int.ediv_eq_zero_of_lt i1 i2];omega
  have e2:(c * P+r) % P=r:=by
   rw [Int.add_comm,Int.add_mul_emod_self_right,Int.emod_eq_of_lt i1 i2]
  rw [e1,e2,i3]
  exact ⟨⟨by omega,by omega⟩,rfl⟩
theorem crd_val:∀ {ds:List Int} {k:Int},Pos ds→0≤k→k < pr ds→Val ds (crd ds k)
 | [],k,_,_,_=>trivial
 | d :: ds,k,hp,h0,h1=>by
  have hpp:=pr_pos hp.tail
  simp only [pr] at h1
  refine ⟨⟨Int.ediv_nonneg h0 (by omega),Int.ediv_lt_of_lt_mul (by omega) h1⟩,?_⟩
  exact crd_val hp.tail (Int.emod_nonneg k (by omega)) (Int.emod_lt_of_pos k (by omega))
theorem val_drop:∀ {ds cs:List Int} (k:Nat),Val ds cs→Val (ds.drop k) (cs.drop k)
 | ds,cs,0,h=>h
 | [],[],k+1,h=>by simpa using h
 | [],_ :: _,_,h=>h.elim
 | _ :: _,[],_,h=>h.elim
 | d :: ds,c :: cs,k+1,h=>val_drop k h.2
def ownc:List Int→List Int→List Int
 | d :: ds,c :: cs=>(if d=1 then 0 else c) :: ownc ds cs
 | _,_=>[]
def zw:List Int→List Int→List Int→List Int
 | d :: ds,s :: ss,w :: ws=>(if d=w then s else 0) :: zw ds ss ws
 | _,_,_=>[]
def Cmp:List Int→List Int→Prop
 | [],[]=>True
 | d :: ds,w :: ws=>(d=w∨d=1)∧Cmp ds ws
 | _,_=>False
theorem zw_length:∀ {ds ss ws:List Int},ss.length=ds.length→ws.length=ds.length→(zw ds ss ws).length=ds.length
 | [],[],[],_,_=>rfl
 | d :: ds,s :: ss,w :: ws,h1,h2=>by
  simp only [zw,List.length_cons]
  rw [zw_length (by simpa using h1) (by simpa using h2)]
theorem zw_get:∀ {ds ss ws:List Int} {j:Nat},ss.length=ds.length→ws.length=ds.length→j < ds.length→(zw ds ss ws).getD j 0=if ds.getD j 0=ws.getD j 0 then ss.getD j 0 else 0
 | [],_,_,_,_,_,h=>by simp at h
 | d :: ds,s :: ss,w :: ws,0,_,_,_=>by simp [zw]
 | d :: ds,s :: ss,w :: ws,j+1,h1,h2,h3=>by
  simp only [zw,List.getD_cons_succ]
  exact zw_get (by simpa using h1) (by simpa using h2) (by simpa using h3)
theorem list_getD {xs ys:List Int} (hl:xs.length=ys.length) (h:∀ j,j < ys.length→xs.getD j 0=ys.getD j 0):xs=ys:=by
 refine List.ext_getElem hl fun j h1 h2=>?_
 have:=h j h2
 simpa [List.getD,List.getElem?_eq_getElem h1,List.getElem?_eq_getElem h2] using this
theorem getD_drop {xs:List Int} {a j:Nat}:(xs.drop a).getD j 0=xs.getD (a+j) 0:=by simp [List.getD,List.getElem?_drop]
theorem spS_eq {ds ss W:List Int} (hl:ds.length≤W.length) (hs:ss.length=ds.length):spS ds ss W=List.replicate (W.length - ds.length) 0++zw ds ss (W.drop (W.length - ds.length)):=by
 have hw:(W.drop (W.length - ds.length)).length=ds.length:=by simp;omega
 have hz:=zw_length (ws:=W.drop (W.length - ds.length)) hs hw
 refine (list_getD (by rw [spS_length];simp;omega) fun j hj=>?_).symm
 rw [spS_length] at hj
 rw [spS_get hj]
 unfold spA
 by_cases h:W.length - ds.length≤j
 ·have e:(List.replicate (W.length - ds.length) (0:Int)++zw ds ss (W.drop (W.length - ds.length))).getD j 0=(zw ds ss (W.drop (W.length - ds.length))).getD (j - (W.length - ds.length)) 0:=by
   simp [List.getD,List.getElem?_append_right,h]
  rw [e,zw_get hs hw (by omega),getD_drop,show W.length - ds.length+(j - (W.length - ds.length))=j by omega]
  by_cases g:ds.getD (j - (W.length - ds.length)) 0=W.getD j 0
  ·rw [if_pos g,if_pos ⟨h,g⟩]
  ·rw [if_neg g,if_neg (fun q=>g q.2)]
 ·rw [if_neg (fun q=>h q.1)]
  simp [List.getD,List.getElem?_append_left,show j < W.length - ds.length by omega]
theorem plc_rep:∀ {a:Nat} {S C:List Int},a≤C.length→plc (List.replicate a 0++S) C=plc S (C.drop a)
 | 0,_,_,_=>by simp
 | a+1,_,[],h=>by simp at h
 | a+1,S,c :: C,h=>by
  have:=plc_rep (a:=a) (S:=S) (C:=C) (by simpa using h)
  simp only [List.replicate_succ,List.cons_append,plc,List.drop_succ_cons]
  rw [this];omega
theorem zw_plc:∀ {ds ss ws cs:List Int},Cmp ds ws→Val ws cs→ss.length=ds.length→plc (zw ds ss ws) cs=plc ss (ownc ds cs)
 | [],[],[],[],_,_,_=>rfl
 | d :: ds,s :: ss,w :: ws,c :: cs,h1,h2,h3=>by
  have ih:=zw_plc h1.2 h2.2 (by simpa using h3)
  simp only [zw,ownc,plc]
  rw [ih]
  congr 1
  obtain ⟨g1,g2⟩:=h2.1
  by_cases e:d=w
  ·rw [if_pos e]
   by_cases f:d=1
   ·rw [if_pos f,show c=0 by omega]
   ·rw [if_neg f]
  ·have f:d=1:=h1.1.resolve_left e
   rw [if_neg e,if_pos f];simp
 | [],_,_ :: _,_,h,_,_=>h.elim
 | _ :: _,_,[],_,h,_,_=>h.elim
 | _,_,_ :: _,[],_,h,_=>h.elim
 | _,_,[],_ :: _,_,h,_=>h.elim
 | [],_ :: _,_,_,_,_,h=>by simp at h
 | _ :: _,[],_,_,_,_,h=>by simp at h
theorem ownc_val:∀ {ds ws cs:List Int},Cmp ds ws→Val ws cs→Val ds (ownc ds cs)
 | [],[],[],_,_=>trivial
 | d :: ds,w :: ws,c :: cs,h1,h2=>by
  refine ⟨?_,ownc_val h1.2 h2.2⟩
  obtain ⟨g1,g2⟩:=h2.1
  by_cases f:d=1
  ·rw [if_pos f];omega
  ·rw [if_neg f]
   have:=h1.1.resolve_right f
   omega
 | [],_ :: _,_,h,_=>h.elim
 | _ :: _,[],_,h,_=>h.elim
 | _,_ :: _,[],_,h=>h.elim
 | _,[],_ :: _,_,h=>h.elim
theorem cmp_of:∀ {ds ws:List Int},ws.length=ds.length→(∀ i,i < ds.length→ds.getD i 0=ws.getD i 0∨ds.getD i 0=1)→Cmp ds ws
 | [],[],_,_=>trivial
 | [],_ :: _,h,_=>by simp at h
 | _ :: _,[],h,_=>by simp at h
 | d :: ds,w :: ws,h,g=>⟨by simpa using g 0 (by simp),cmp_of (by simpa using h) fun i hi=>by simpa using g (i+1) (by simpa using hi)⟩
theorem spread_cmp {ds W:List Int} (h1:(bcO ds W).1=0) (h2:(bcO ds W).2=W):ds.length≤W.length∧Cmp ds (W.drop (W.length - ds.length)):=by
 obtain ⟨g1,g2,g3,g4,g5⟩:=bc_good h1
 rw [g4] at h2
 have hl:ds.length≤W.length:=by
  have:=congrArg List.length h2
  rw [outL_length] at this;omega
 refine ⟨hl,cmp_of (by simp;omega) fun i hi=>?_⟩
 have hp:=bc_pair (L:=W) (S:=ds) hl hi
 rw [outL_comm,h2] at hp
 have hc:=hp.2.1 ((g3.comm) (ds.length - 1 - i) (by omega))
 have d1:=cnt_pos g1 _ (getD_mem hi)
 rw [getD_drop]
 have:=hp.1
 omega
def spP (ds W:List Int) (k:Nat):Nat:=(plc (strd ds) (ownc ds ((crd W (k:Int)).drop (W.length - ds.length)))).toNat
def spL (ds W data:List Int):List Int:=(List.range (pr W).toNat).map fun k=>data.getD (spP ds W k) 0
theorem spL_length (ds W data:List Int):(spL ds W data).length=(pr W).toNat:=by simp [spL]
theorem spL_get {ds W data:List Int} {k:Nat} (h:k < (pr W).toNat):(spL ds W data).getD k 0=data.getD (spP ds W k) 0:=by simp [spL,List.getD,h]
theorem spP_lt {ds W:List Int} (hc:(cnt ds).2=0) (hW:(cnt W).2=0) (h1:(bcO ds W).1=0) (h2:(bcO ds W).2=W) {k:Nat} (hk:k < (pr W).toNat) :
  0≤plc (strd ds) (ownc ds ((crd W (k:Int)).drop (W.length - ds.length)))∧(spP ds W k:Int) < pr ds∧plc (spS ds (strd ds) W) (crd W (k:Int))=(spP ds W k:Int):=by
 obtain ⟨hl,hcm⟩:=spread_cmp h1 h2
 have hp:=cnt_pos hc
 have hpW:=cnt_pos hW
 have hv0:Val (W.drop (W.length - ds.length)) ((crd W (k:Int)).drop (W.length - ds.length)):=val_drop _ (crd_val hpW (by omega) (by omega))
 have hval:Val ds (ownc ds ((crd W (k:Int)).drop (W.length - ds.length))):=ownc_val hcm hv0
 have h3:=(val_plc hp hval).1
 have hpl:plc (spS ds (strd ds) W) (crd W (k:Int))=plc (strd ds) (ownc ds ((crd W (k:Int)).drop (W.length - ds.length))):=by
  rw [spS_eq hl strd_length,plc_rep (by rw [crd_length];omega)]
  exact zw_plc hcm hv0 strd_length
 refine ⟨h3.1,?_,?_⟩
 ·unfold spP;omega
 ·rw [hpl];unfold spP;omega
theorem whole_may {ds:List Int} (h:(cnt ds).2=0):mayV 0 ds (strd ds)=true:=by
 obtain ⟨h1,-,-,h4⟩:=cnt_good h
 have hfar:(strd ds).any farS=false:=by
  rw [List.any_eq_false]
  intro s hs
  have:=strd_le h1 h4 s hs
  simp only [farS,decide_eq_true_eq]
  omega
 simp [mayV,h,strd_length,hfar]
theorem spread_read {ds W data:List Int} (hc:(cnt ds).2=0) (hd:(data.length:Int)=pr ds) (hW:(cnt W).2=0) (h1:(bcO ds W).1=0) (h2:(bcO ds W).2=W) :
  (spO 0 ds (strd ds) W).1=0∧readL 0 W (spS ds (strd ds) W) data=some (spL ds W data):=by
 constructor
 ·unfold spO
  rw [if_neg (by rw [whole_may hc];decide),if_neg (fun c=>c h1),if_neg (fun c=>c h2)]
 have hp:=cnt_pos hc
 have hfar:(spS ds (strd ds) W).any farS=false:=by
  rw [List.any_eq_false]
  intro s hs
  obtain ⟨j,_,rfl⟩:=List.mem_map.1 hs
  have hb:∀ i,0≤(strd ds).getD i 0∧(strd ds).getD i 0≤65536:=fun i=>by
   by_cases hi:i < (strd ds).length
   ·have:=strd_le (cnt_good hc).1 (cnt_good hc).2.2.2 _ (getD_mem hi)
    omega
   ·rw [List.getD,List.getElem?_eq_none (by omega)];decide
  simp only [farS,decide_eq_true_eq]
  unfold spA
  by_cases h:W.length - ds.length≤j∧ds.getD (j - (W.length - ds.length)) 0=W.getD j 0
  ·rw [if_pos h];have:=hb (j - (W.length - ds.length));omega
  ·rw [if_neg h];omega
 have hmay:mayV 0 W (spS ds (strd ds) W)=true:=by simp [mayV,hW,spS_length,hfar]
 have hall:∀ p ∈ places 0 W (spS ds (strd ds) W) (pr W).toNat,p < (data.length:Int):=fun p hp=>by
  unfold places at hp
  obtain ⟨k,hk,rfl⟩:=List.mem_map.1 hp
  have h3:=spP_lt hc hW h1 h2 (List.mem_range.1 hk)
  rw [h3.2.2];omega
 unfold readL
 rw [if_pos ⟨hmay,hall⟩]
 unfold spL places
 rw [List.map_map]
 congr 1
 refine List.map_congr_left fun k hk=>?_
 have h3:=spP_lt hc hW h1 h2 (List.mem_range.1 hk)
 show data.getD (0+plc (spS ds (strd ds) W) (crd W (k:Int))).toNat 0=_
 rw [h3.2.2,Int.zero_add,Int.toNat_natCast]
theorem bc_left {a b:List Int} (h:(bcO a b).1=0):(bcO a (bcO a b).2).1=0∧(bcO a (bcO a b).2).2=(bcO a b).2∧(cnt (bcO a b).2).2=0∧(bcO a b).2=outL a b:=by
 obtain ⟨g1,g2,g3,g4,g5⟩:=bc_good h
 have hbk:∀ i,bk (outL a b) i=max (bk a i) (bk b i):=fun i=>by
  by_cases hi:i < max a.length b.length
  ·rw [bk_in (by rw [outL_length];exact hi),outL_length,outL_get (by omega)]
   rw [show max a.length b.length - 1 - (max a.length b.length - 1 - i)=i by omega]
  ·rw [bk_out (by rw [outL_length];omega),bk_out (by omega),bk_out (by omega)];rfl
 have pa:=cnt_pos g1
 have pb:=cnt_pos g2
 have ho:outL a (outL a b)=outL a b:=by
  refine list_getD (by rw [outL_length,outL_length];omega) fun j hj=>?_
  rw [outL_length] at hj
  rw [outL_get (by rw [outL_length];omega),outL_get hj,outL_length]
  rw [show max a.length (max a.length b.length) - 1 - j=max a.length b.length - 1 - j by omega,hbk]
  omega
 have hco:Co a (outL a b) (max a.length (outL a b).length):=fun i hi=>by
  rw [co1_if,hbk]
  rw [outL_length] at hi
  have h3:=(co1_if a b i).1 (g3 i (by omega))
  have h4:=bk_pos pa i
  have h5:=bk_pos pb i
  omega
 rw [g4]
 have e:bcO a (outL a b)=(0,outL a b):=by
  unfold bcO
  rw [if_neg (fun c=>c g1),if_neg (fun c=>c g5),if_pos hco,ho,if_neg (fun c=>c g5)]
 rw [e]
 exact ⟨rfl,rfl,g5,rfl⟩
theorem bc_right {a b:List Int} (h:(bcO a b).1=0):(bcO b (bcO a b).2).1=0∧(bcO b (bcO a b).2).2=(bcO a b).2:=by
 obtain ⟨g1,g2,g3,g4,g5⟩:=bc_good h
 have h':bcO b a=(0,outL b a):=by
  unfold bcO
  rw [if_neg (fun c=>c g2),if_neg (fun c=>c g1),if_pos (by rw [Nat.max_comm];exact g3.comm),outL_comm b a,if_neg (fun c=>c g5)]
 have:=bc_left (a:=b) (b:=a) (by rw [h'])
 rw [h',outL_comm b a] at this
 rw [g4]
 exact ⟨this.1,this.2.1⟩
theorem spL_mem {ds W data:List Int} {k:Nat} (hc:(cnt ds).2=0) (hd:(data.length:Int)=pr ds) (hW:(cnt W).2=0) (h1:(bcO ds W).1=0) (h2:(bcO ds W).2=W) (hk:k < (pr W).toNat):(spL ds W data).getD k 0 ∈ data:=by
 rw [spL_get hk]
 have h3:=spP_lt hc hW h1 h2 hk
 exact getD_mem (by omega)
end Go.Proofs.YtijhdmidffenbaaGreatDoor.Vx
