import Derived.Test.YtijhdmidffenbaaGreatDoorSchCoim
import Derived.Test.YtijhdmidffenbaaGreatDoorSchCyim
open Go.Lib (hid)
set_option linter.unusedVariables false
set_option linter.unusedSimpArgs false
namespace Go.Proofs.YtijhdmidffenbaaGreatDoor
open Go.RowKit
set_option maxRecDepth 100000 in
set_option maxHeartbeats 4000000 in
theorem ctensor_any (t:Int) (dims data:List Int) {w:World} {vd vx:Value} (hd:IntsIn w vd dims) (hx:IntsIn w vx data) :
  Calls Tryz.prog 36 #[.agg #[.int .i64 t,vd,vx]] w fun e w'=>∃ vd' vx',e=.returned (.agg #[.int .i64 t,vd',vx'])∧w'.ownsRow w.heap.size 3 1 vd' dims.length (dims.map (Value.int .i64))∧w'.ownsRow w.heap.size 2 1 vx' data.length (data.map (Value.int .i64))∧Below w.heap.size w w':=by
 obtain ⟨i0,hi,hz0,hz1,hz2⟩:=info_parts info_int64
 obtain ⟨ad,cd,rfl⟩:=hd.shape
 obtain ⟨ax,cx,rfl⟩:=hx.shape
 have HD:=hid hd
 have HX:=hid hx
 clear hd hx
 go_enter Tryz.func36,Tryz.ntmps36
 go_wp2_with fail
 generalize hw1:(w.alloc (Obj.cells #[.int .i64 t,.slice ad dims.length cd,.slice ax data.length cx] 46)).alloc (Obj.cells #[.int .i64 0,.slice none 0 0,.slice none 0 0] 46)=W1
 have hB1:Hid (Below w.heap.size w W1):=hid (by rw [←hw1];exact ((Below.refl _ w).alloc (Nat.le_refl _) _).alloc (by simp) _)
 have hA1:Hid (BoxN W1 w.heap.size #[.int .i64 t,.slice ad dims.length cd,.slice ax data.length cx] 46):=hid (by rw [←hw1];exact (BoxN.new w _ _).below' ((Below.refl _ _).alloc (Nat.le_refl _) _))
 have hR1:Hid (BoxN W1 (w.heap.size+1) #[.int .i64 0,.slice none 0 0,.slice none 0 0] 46):=hid (by rw [←hw1];simpa using BoxN.new (w.alloc (Obj.cells #[.int .i64 t,.slice ad dims.length cd,.slice ax data.length cx] 46)) #[.int .i64 0,.slice none 0 0,.slice none 0 0] 46)
 have hz:Hid (W1.heap.size=w.heap.size+2):=hid (by rw [←hw1];simp)
 clear hw1
 have k0:W1.cell? ⟨w.heap.size,0,none⟩=some (.int .i64 t):=hA1.out.cell 0 rfl
 have k1:W1.cell? ⟨w.heap.size,1,none⟩=some (.slice ad dims.length cd):=hA1.out.cell 1 rfl
 have HC:Hid (∀ W,Below w.heap.size w W→Calls Tryz.prog 37 #[.slice ad dims.length cd] W fun e w'=>∃ v',e=.returned v'∧w'.ownsRow W.heap.size 3 1 v' dims.length (dims.map (Value.int .i64))∧Below W.heap.size W w'):=hid (fun W hW=>rcopy_any (HD.out.below hW))
 have PT:Hid (∀ W b v0 v1 v2 j v,w.heap.size < b→W.cell? ⟨w.heap.size,j,none⟩=some v→(put3 W b v0 v1 v2).cell? ⟨w.heap.size,j,none⟩=some v):=hid (fun W b v0 v1 v2 j v hb hv=>((below_put3 (Below.refl b W) (Nat.le_refl _)).cell (p:=⟨w.heap.size,j,none⟩) hb).trans hv)
 have hlt:w.heap.size < W1.heap.size:=by have:=hz.out;omega
 go_region_held3 (fun wz=>wz.cell? ⟨w.heap.size,0,none⟩=some (.int .i64 t)∧wz.cell? ⟨w.heap.size,1,none⟩=some (.slice ad dims.length cd)) (first | go_keep | exact ⟨PT.out _ _ _ _ _ 0 _ hlt g0,PT.out _ _ _ _ _ 1 _ hlt g1⟩)
  (first | (go_at_call 37;refine (HC.out W1.drew hB1.out.drew).mono ?_;rintro e w3 ⟨v',rfl,ho,B3⟩;have HO:=hid ho;obtain ⟨a3,c3,rfl⟩:=owns_form ho;have HB3:=hid ((Below.refl _ W1).drew.trans B3);have HA3:=hid (hA1.out.below' HB3.out);have g0:w3.cell? ⟨w.heap.size,0,none⟩=some (.int .i64 t):=HA3.out.cell 0 rfl;have g1:w3.cell? ⟨w.heap.size,1,none⟩=some (.slice ad dims.length cd):=HA3.out.cell 1 rfl;clear B3 ho) | (go_at_call 37;refine (HC.out _ (hB1.out.alloc hB1.out.size (Obj.cells #[.int .i64 0,.slice none 0 0,.slice none 0 0] 46)).drew).mono ?_;rintro e w3 ⟨v',rfl,ho,B3⟩;have HO:=hid ho;obtain ⟨a3,c3,rfl⟩:=owns_form ho;have HB3:=hid (((Below.refl _ W1).alloc (Nat.le_refl _) (Obj.cells #[.int .i64 0,.slice none 0 0,.slice none 0 0] 46)).drew.trans (B3.mono (by simp)));have HC3:=hid ((BoxN.new W1 #[.int .i64 0,.slice none 0 0,.slice none 0 0] 46).below' ((Below.refl _ _).drew.trans B3));obtain ⟨f0,f1,f2⟩:=HC3.out.thaw3;obtain ⟨r0,r1,r2⟩:=HC3.out.three;have HA3:=hid (hA1.out.below' HB3.out);have g0:w3.cell? ⟨w.heap.size,0,none⟩=some (.int .i64 t):=HA3.out.cell 0 rfl;have g1:w3.cell? ⟨w.heap.size,1,none⟩=some (.slice ad dims.length cd):=HA3.out.cell 1 rfl;clear B3 ho) | fail)
 ·obtain ⟨C,hC⟩:∃ C,C=w3.heap.size:=⟨_,rfl⟩
  have HC7:Hid (BoxN (w3.alloc (Obj.cells #[.int .i64 t,.slice a3 dims.length c3,.slice none 0 0] 46)) C #[.int .i64 t,.slice a3 dims.length c3,.slice none 0 0] 46):=hid (by rw [hC];exact BoxN.new w3 _ _)
  have hBx:Below w3.heap.size w3 (w3.alloc (Obj.cells #[.int .i64 t,.slice a3 dims.length c3,.slice none 0 0] 46)):=(Below.refl _ _).alloc (Nat.le_refl _) _
  have HA7:=hid (HA3.out.below' hBx)
  have HR7:=hid ((hR1.out.below' HB3.out).below' hBx)
  have HO7:=hid (owns_base (owns_below HO.out hBx) hB1.out.size)
  have HB7:=hid ((hB1.out.trans (HB3.out.mono hB1.out.size)).trans (hBx.mono (hB1.out.trans (HB3.out.mono hB1.out.size)).size))
  have hC2:w.heap.size+2≤C:=by have:=hz.out;have:=HB3.out.size;omega
  rw [←hC]
  clear hC hBx k0 k1 g0 g1
  generalize w3.alloc (Obj.cells #[.int .i64 t,.slice a3 dims.length c3,.slice none 0 0] 46)=W7 at HC7 HA7 HR7 HO7 HB7 ⊢
  have k7:W7.cell? ⟨w.heap.size,2,none⟩=some (.slice ax data.length cx):=HA7.out.cell 2 rfl
  obtain ⟨m0,m1,m2⟩:=HC7.out.three
  go_wp2_with (at_builtin;refine wpList_append_copy rfl _ _ 44 rfl Tryz.underlying44 hi hz0 hz1 hz2 rfl (by decide) rfl rfl (HX.out.below HB7.out).news ?_)
  intro v' w8 h1 h2
  obtain ⟨a8,c8,rfl⟩:=owns_form h1
  have HO8:=hid (owns_below HO7.out h2)
  have HP8:=hid (owns_base h1 HB7.out.size)
  have HB8:=hid (HB7.out.trans (h2.mono HB7.out.size))
  have HC8:=hid (HC7.out.below' h2)
  have HR8:=hid (HR7.out.below' h2)
  clear h1 h2
  obtain ⟨n0,n1,n2⟩:=HC8.out.three
  obtain ⟨f0',f1',f2'⟩:=HC8.out.thaw3
  have hC9:=HC8.out.set 2 (.slice a8 data.length c8)
  rw [show #[Value.int .i64 t,.slice a3 dims.length c3,.slice none 0 0].setIfInBounds 2 (.slice a8 data.length c8)=#[.int .i64 t,.slice a3 dims.length c3,.slice a8 data.length c8] from rfl] at hC9
  obtain ⟨o0,o1,o2⟩:=hC9.three
  have HR9:Hid (BoxN (w8.setCell ⟨C,2,none⟩ (.slice a8 data.length c8)) (w.heap.size+1) #[.int .i64 0,.slice none 0 0,.slice none 0 0] 46):=hid ((Below.heap_setCell _ _ _ _ (by simp;omega)).trans HR8.out)
  obtain ⟨q0,q1,q2⟩:=HR9.out.thaw3
  obtain ⟨q3,q4,q5⟩:=HR9.out.three
  clear hC9
  go_wp2_with fail
  have hp:=HR9.out.put3 (.int .i64 t) (.slice a3 dims.length c3) (.slice a8 data.length c8)
  obtain ⟨s0,s1,s2⟩:=hp.three
  unfold put3 at s0 s1 s2
  have hoth:∀ g,g≠C→g≠w.heap.size+1→(put3 (w8.setCell ⟨C,2,none⟩ (.slice a8 data.length c8)) (w.heap.size+1) (.int .i64 t) (.slice a3 dims.length c3) (.slice a8 data.length c8)).heap[g]?=w8.heap[g]?:=fun g h1 h2=>(put3_other h2).trans (Below.heap_setCell _ _ _ _ h1)
  have hfo:=owns_heap (w':=put3 (w8.setCell ⟨C,2,none⟩ (.slice a8 data.length c8)) (w.heap.size+1) (.int .i64 t) (.slice a3 dims.length c3) (.slice a8 data.length c8)) HO8.out (fun g hg=>hoth g (owns_box HO8.out HC8.out (by decide) g hg) (owns_box HO8.out HR8.out (by decide) g hg))
  have hfp:=owns_heap (w':=put3 (w8.setCell ⟨C,2,none⟩ (.slice a8 data.length c8)) (w.heap.size+1) (.int .i64 t) (.slice a3 dims.length c3) (.slice a8 data.length c8)) HP8.out (fun g hg=>hoth g (owns_box HP8.out HC8.out (by decide) g hg) (owns_box HP8.out HR8.out (by decide) g hg))
  have hfb:Below w.heap.size w (put3 (w8.setCell ⟨C,2,none⟩ (.slice a8 data.length c8)) (w.heap.size+1) (.int .i64 t) (.slice a3 dims.length c3) (.slice a8 data.length c8)):=below_put3 (HB8.out.setCell (p:=⟨C,2,none⟩) (by simp;omega) _) (by omega)
  unfold put3 at hfo hfp hfb
  refine bodyPost_ret (v:=.agg #[.int .i64 t,.slice a3 dims.length c3,.slice a8 data.length c8]) (by simp [results,Tryz.f36,go_sem,s0,s1,s2]) rfl ?_
  exact ⟨_,_,rfl,hfo,hfp,hfb⟩
 ·obtain ⟨C,hC⟩:∃ C,C=W1.heap.size:=⟨_,rfl⟩
  have HC7:Hid (BoxN (put3 w3 C (.int .i64 t) (.slice a3 dims.length c3) (.slice none 0 0)) C #[.int .i64 t,.slice a3 dims.length c3,.slice none 0 0] 46):=hid (by rw [hC];exact HC3.out.put3 _ _ _)
  have hBx:Below W1.heap.size w3 (put3 w3 C (.int .i64 t) (.slice a3 dims.length c3) (.slice none 0 0)):=below_put3 (Below.refl _ _) (by omega)
  have HA7:=hid (HA3.out.below hlt hBx)
  have HR7:=hid ((hR1.out.below' HB3.out).below (by have:=hz.out;omega) hBx)
  have HO7:Hid ((put3 w3 C (.int .i64 t) (.slice a3 dims.length c3) (.slice none 0 0)).ownsRow w.heap.size 3 1 (.slice a3 dims.length c3) dims.length (dims.map (Value.int .i64))):=hid (owns_base (owns_heap HO.out fun g hg=>put3_other (by rw [hC];exact owns_box HO.out HC3.out (by decide) g hg)) (by have:=hB1.out.size;simp;omega))
  have HB7:=hid ((hB1.out.trans (HB3.out.mono hB1.out.size)).trans (hBx.mono hB1.out.size))
  have hC2:w.heap.size+2≤C:=by have:=hz.out;omega
  rw [←hC]
  clear f0 f1 f2 r0 r1 r2 k0 k1 g0 g1
  unfold put3 at HC7 HA7 HR7 HO7 HB7
  clear hC hBx HC3
  generalize ((w3.setCell ⟨C,0,none⟩ (.int .i64 t)).setCell ⟨C,1,none⟩ (.slice a3 dims.length c3)).setCell ⟨C,2,none⟩ (.slice none 0 0)=W7 at HC7 HA7 HR7 HO7 HB7 ⊢
  have k7:W7.cell? ⟨w.heap.size,2,none⟩=some (.slice ax data.length cx):=HA7.out.cell 2 rfl
  obtain ⟨m0,m1,m2⟩:=HC7.out.three
  go_wp2_with (at_builtin;refine wpList_append_copy rfl _ _ 44 rfl Tryz.underlying44 hi hz0 hz1 hz2 rfl (by decide) rfl rfl (HX.out.below HB7.out).news ?_)
  intro v' w8 h1 h2
  obtain ⟨a8,c8,rfl⟩:=owns_form h1
  have HO8:=hid (owns_below HO7.out h2)
  have HP8:=hid (owns_base h1 HB7.out.size)
  have HB8:=hid (HB7.out.trans (h2.mono HB7.out.size))
  have HC8:=hid (HC7.out.below' h2)
  have HR8:=hid (HR7.out.below' h2)
  clear h1 h2
  obtain ⟨n0,n1,n2⟩:=HC8.out.three
  obtain ⟨f0',f1',f2'⟩:=HC8.out.thaw3
  have hC9:=HC8.out.set 2 (.slice a8 data.length c8)
  rw [show #[Value.int .i64 t,.slice a3 dims.length c3,.slice none 0 0].setIfInBounds 2 (.slice a8 data.length c8)=#[.int .i64 t,.slice a3 dims.length c3,.slice a8 data.length c8] from rfl] at hC9
  obtain ⟨o0,o1,o2⟩:=hC9.three
  have HR9:Hid (BoxN (w8.setCell ⟨C,2,none⟩ (.slice a8 data.length c8)) (w.heap.size+1) #[.int .i64 0,.slice none 0 0,.slice none 0 0] 46):=hid ((Below.heap_setCell _ _ _ _ (by simp;omega)).trans HR8.out)
  obtain ⟨q0,q1,q2⟩:=HR9.out.thaw3
  obtain ⟨q3,q4,q5⟩:=HR9.out.three
  clear hC9
  go_wp2_with fail
  have hp:=HR9.out.put3 (.int .i64 t) (.slice a3 dims.length c3) (.slice a8 data.length c8)
  obtain ⟨s0,s1,s2⟩:=hp.three
  unfold put3 at s0 s1 s2
  have hoth:∀ g,g≠C→g≠w.heap.size+1→(put3 (w8.setCell ⟨C,2,none⟩ (.slice a8 data.length c8)) (w.heap.size+1) (.int .i64 t) (.slice a3 dims.length c3) (.slice a8 data.length c8)).heap[g]?=w8.heap[g]?:=fun g h1 h2=>(put3_other h2).trans (Below.heap_setCell _ _ _ _ h1)
  have hfo:=owns_heap (w':=put3 (w8.setCell ⟨C,2,none⟩ (.slice a8 data.length c8)) (w.heap.size+1) (.int .i64 t) (.slice a3 dims.length c3) (.slice a8 data.length c8)) HO8.out (fun g hg=>hoth g (owns_box HO8.out HC8.out (by decide) g hg) (owns_box HO8.out HR8.out (by decide) g hg))
  have hfp:=owns_heap (w':=put3 (w8.setCell ⟨C,2,none⟩ (.slice a8 data.length c8)) (w.heap.size+1) (.int .i64 t) (.slice a3 dims.length c3) (.slice a8 data.length c8)) HP8.out (fun g hg=>hoth g (owns_box HP8.out HC8.out (by decide) g hg) (owns_box HP8.out HR8.out (by decide) g hg))
  have hfb:Below w.heap.size w (put3 (w8.setCell ⟨C,2,none⟩ (.slice a8 data.length c8)) (w.heap.size+1) (.int .i64 t) (.slice a3 dims.length c3) (.slice a8 data.length c8)):=below_put3 (HB8.out.setCell (p:=⟨C,2,none⟩) (by simp;omega) _) (by omega)
  unfold put3 at hfo hfp hfb
  refine bodyPost_ret (v:=.agg #[.int .i64 t,.slice a3 dims.length c3,.slice a8 data.length c8]) (by simp [results,Tryz.f36,go_sem,s0,s1,s2]) rfl ?_
  exact ⟨_,_,rfl,hfo,hfp,hfb⟩
end Go.Proofs.YtijhdmidffenbaaGreatDoor
