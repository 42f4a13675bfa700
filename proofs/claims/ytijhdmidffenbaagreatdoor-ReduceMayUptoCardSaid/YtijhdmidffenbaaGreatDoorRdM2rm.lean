import Derived.Test.YtijhdmidffenbaaGreatDoorRdM1rm
import Derived.Deep.Cut
import Derived.Test.YtijhdmidffenbaaGreatDoorRegArm
import Derived.Test.YtijhdmidffenbaaGreatDoorInM1rm
import Derived.Test.YtijhdmidffenbaaGreatDoorElMrm
import Derived.Deep.AppendLies
open Go.Lib (hid)
set_option linter.unusedVariables false
set_option linter.unusedSimpArgs false
namespace Go.Proofs.YtijhdmidffenbaaGreatDoor
section
open Go.RowKit
set_option maxRecDepth 100000
def Mid (lo hi:Nat) (w w':World):Prop:=∀ g,lo≤g→g < hi→w'.heap[g]?=w.heap[g]?
theorem Mid.refl (lo hi:Nat) (w:World):Mid lo hi w w:=fun _ _ _=>rfl
theorem Mid.trans {lo hi:Nat} {w w' w'':World} (h:Mid lo hi w w') (g:Mid lo hi w' w''):Mid lo hi w w'':=fun k h1 h2=>(g k h1 h2).trans (h k h1 h2)
theorem Mid.below {lo hi:Nat} {w w':World} (h:Below w.heap.size w w') (hs:hi≤w.heap.size):Mid lo hi w w':=fun g _ h2=>h.block g (by omega)
theorem Mid.set {lo hi:Nat} {w:World} {p:Addr} {x:Value} (h:p.block < lo):Mid lo hi w (w.setCell p x):=fun g h1 _=>Below.heap_setCell _ _ _ _ (by omega)
theorem Mid.grown {lo hi:Nat} {w w':World} {row:Option Nat} (hg:w.grownBy w' row) (hs:hi≤w.heap.size) (hr:∀ g,row=some g→hi≤g):Mid lo hi w w':=fun g h1 h2=>hg.block g (by omega) (fun e=>by have:=hr g e.symm;omega)
theorem GridD.mid {lo hi D:Nat} {w w':World} {svs:List Value} {rows:List (List Int)} (h:GridD w D svs rows) (hm:Mid lo hi w w') (hl:lo≤D) (hs:w.heap.size≤hi):GridD w' D svs rows :=
 ⟨h.len,fun j v r h1 h2=>owns_heap (h.own j v r h1 h2) fun g hg=>by
  have:=World.ownsRow.lt (h.own j v r h1 h2) g hg;exact hm g (by omega) (by omega),h.apart⟩
theorem BoxN.mid {lo hi b:Nat} {w w':World} {cs:Array Value} {t:TypeId} (h:BoxN w b cs t) (hm:Mid lo hi w w') (h1:lo≤b) (h2:b < hi):BoxN w' b cs t:=(hm b h1 h2).trans h
def redK (op:List UInt8) (t:Int) (G:Nat→Nat) (data:List Int) (N k:Nat):List Int:=redR op t G data N k
theorem redK_next (op:List UInt8) (t:Int) (G:Nat→Nat) (data:List Int) (N k:Nat):redK op t G data N (k+1)=redK op t G data N k++[togP op t (Vx.rowOf G data N k)]:=by
 unfold redK redR;rw [List.range_succ,List.map_append];rfl
theorem redK_len (op:List UInt8) (t:Int) (G:Nat→Nat) (data:List Int) (N k:Nat):(redK op t G data N k).length=k:=by simp [redK,redR]
theorem redK_zero (op:List UInt8) (t:Int) (G:Nat→Nat) (data:List Int) (N:Nat):redK op t G data N 0=[]:=by simp [redK,redR]
theorem redK_eq (op:List UInt8) (t:Int) (G:Nat→Nat) (data:List Int) (N P:Nat):redR op t G data N P=redK op t G data N P:=rfl
theorem rowI_up0 (w:World) (D:Nat):RowI w D (.slice none 0 0) (upL 0):=RowI.nil _ _
theorem goneL_eq (n:Nd) (r:Nat):goneL n r=(redL n r).map fun a=>axZ a r:=rfl
theorem goneL_in {n:Nd} {r:Nat} (h:∀ a ∈ goneL n r,0≤a∧a < (r:Int)) (hr:r≤1000):∀ z ∈ goneL n r,InI z:=fun z hz=>by have:=h z hz;unfold InI;omega
theorem red_no0:∀ l ∈ redOps,(l==([83,111,102,116,109,97,120]:List UInt8))=false:=by decide
theorem red_no1:∀ l ∈ redOps,(l==([66,97,116,99,104,78,111,114,109,97,108,105,122,97,116,105,111,110]:List UInt8))=false:=by decide
attribute [local irreducible] cnt chk checkP inpE outP folB thenE RowI pbE begO pbAll grpL Vx.leftL Vx.strd Vx.Vw.crd Vx.grp Vx.Vw.pr Vx.rowOf rowsAt redR redK togP intP intsP axZ axisP axesP redL goneL redG redPn wouL rTy upL
set_option maxHeartbeats 32000000 in
theorem rdo_any {w:World} {vn vv:Value} {n:Nd} {x:Tn} (hn:NodeV w vn n) (hs:SlIn 3 rdTensor w vv [x]) (hG:Glob w) (hol:n.op.toList ∈ redOps) :
  Calls Tryz.prog 25 #[vn,vv] w (DoR w (redD n x)):=by
 obtain ⟨i0,hi,hz0,hz1,hz2⟩:=info_parts info_i64;obtain ⟨j0,hj,hy0,hy1,hy2⟩:=info_parts info_int;have HOL:=hid hol;have q0:(n.op.toList==([83,111,102,116,109,97,120]:List UInt8))=false:=red_no0 _ hol;have q1:(n.op.toList==([66,97,116,99,104,78,111,114,109,97,108,105,122,97,116,105,111,110]:List UInt8))=false:=red_no1 _ hol;have HBG:Hid (∀ W,Below w.heap.size w W→Calls Tryz.prog 45 #[vn,vv] W fun e w'=>OutR W n (rB n x) e w'):=hid fun W hB =>
  rbegin_any (w:=W) (ts:=[x]) (ty:=rTy n.op.toList x.1) (ds:=redO n x.2.1) (node_belowV hn hB) (tensors_below hs hB) (hG.below hB) (fun _ _ _ W' v _ hm=>typ_red (x:=tvV x) hm hol) (fun _ _ _ _ W' v _ hm=>dims_red (x:=tvV x) hm hol)
 obtain ⟨b,off,cap,vd,vx,hvv,hb,t0,t1,t2,ht,hd,hx⟩:=tensor_at hs (j:=0) rfl;rw [Nat.zero_mul,Nat.add_zero] at t0 t1 t2;obtain rfl:vv=.slice (some ⟨b,off,none⟩) 1 cap:=hvv;have HNV:=hid hn;obtain ⟨vin,vat,rfl,hm⟩:=hn;obtain ⟨a1,c1,rfl⟩:=hm.is.form;obtain ⟨a2,c2,rfl⟩:=hm.ia.form;obtain ⟨a3,c3,rfl⟩:=hd.shape;obtain ⟨a4,c4,rfl⟩:=hx.shape;have HD:=hid hd;have HX:=hid hx;have HXI:=hid hx.wf.2;unfold Nd.val at HNV HBG ⊢;have HTC:Hid (∀ W,Below w.heap.size w W→W.cell? ⟨b,off,none⟩=some (.int .i64 x.1)∧W.cell? ⟨b,off+1,none⟩=some (.slice a3 x.2.1.length c3)∧W.cell? ⟨b,off+2,none⟩=some (.slice a4 x.2.2.length c4)):=hid fun W hB=>⟨(hB.cell (p:=⟨b,off,none⟩) hb).trans t0,(hB.cell (p:=⟨b,off+1,none⟩) hb).trans t1,(hB.cell (p:=⟨b,off+2,none⟩) hb).trans t2⟩;have HT:=hid ht;have HRY:=hid (fun (h:(rB n x).1=0)=>rB_yes h);have HYE:=hid (fun (h:(rB n x).1=0)=>redD_yes h);have HNO:=hid (fun (h:(rB n x).1≠0)=>redD_no h);clear hm hs hG t0 t1 t2 hd hx ht hol;go_enter Tryz.func25,Tryz.ntmps25
 go_wp2_with fail
 generalize hW:World.alloc (World.alloc w _) _=W1;obtain ⟨hB,hS,b1,b2⟩:=allocs2 hW;clear hW;have HB1:=hid hB;have HND:=hid (box_of b1);have HRB:=hid (box_of b2);clear b1 b2;refine (HBG.out W1 hB).mono ?_;rintro e w2 ⟨B2,hr⟩;have HB2:=hid (HB1.out.trans (B2.mono HB1.out.size));have HND:=hid (HND.out.below' B2);have HRB:=hid (HRB.out.below' B2);have hs2:w.heap.size+2≤w2.heap.size:=by have:=B2.size;omega
 have hW1s:w.heap.size≤W1.heap.size:=hB.size;clear B2 hB hS HBG;generalize hO:rB n x=O at *;have HOE:=hid hO;clear hO;rcases hr with ⟨hne,rfl⟩ | ⟨h0,v,rfl,hr⟩
 ·have HR:=hid (HNO.out hne);have HNE:=hid hne;have hb':(O.1 != 0)=true:=by simpa using hne
  generalize O.1=q at *;clear hne;have hB3:Below w2.heap.size w2 (w2.alloc (Obj.cells #[.string ⟨#[]⟩,.int .i64 0,.slice none 0 0] 29)):=(Below.refl _ _).alloc (Nat.le_refl _) _;have HBE:=hid (HB2.out.trans (hB3.mono HB2.out.size));have HRE1:=hid (HRB.out.below' hB3);clear hB3;have HRE:=HRE1.out;have f0:=HRE.frozen 0;have f1:=HRE.frozen 1;have f2:=HRE.frozen 2;have g0:=HRE.cell 0 rfl;have g1:=HRE.cell 1 rfl;have g2:=HRE.cell 2 rfl;have hend:Hid (BoxN (put3 (w2.alloc (Obj.cells #[.string ⟨#[]⟩,.int .i64 0,.slice none 0 0] 29)) (w.heap.size+1) (.int .i64 0) (.slice none 0 0) (.slice none 0 0)) (w.heap.size+1) #[.int .i64 0,.slice none 0 0,.slice none 0 0] 46 ∧ Below w.heap.size w (put3 (w2.alloc (Obj.cells #[.string ⟨#[]⟩,.int .i64 0,.slice none 0 0] 29)) (w.heap.size+1) (.int .i64 0) (.slice none 0 0) (.slice none 0 0))):=hid ⟨HRE.put3 _ _ _,below_put3 HBE.out (by omega)⟩;clear HRE;go_wp2_with fail
  obtain ⟨hx1,hx2⟩:=hend.out;obtain ⟨x0,x1',x2'⟩:=hx1.three;unfold put3 at x0 x1' x2' hx2;exact bodyPost_ret (v:=.tuple #[.agg #[.int .i64 0,.slice none 0 0,.slice none 0 0],.int .i64 q]) (by simp [results,Tryz.f25,go_sem,x0,x1',x2']) rfl (DoR.no HR.out HNE.out hx2)
 obtain ⟨r1,r2,r3,r4,r5,r6,r7,r8,r9⟩:=HRY.out h0;have hdE:=HYE.out h0;have hDx:Hid (redD n x=(0,O.2.1,O.2.2,redK n.op.toList x.1 (redG n x) x.2.2 x.2.2.length (redPn n x))):=hid (by rw [←redK_eq];exact hdE);obtain ⟨p1,p2,p3,-⟩:=pbE_zero r3;obtain ⟨-,hl6,-,hp65⟩:=Vx.cnt_good p2;have hPos:=Vx.cnt_pos p2;have hcm:=Vx.leftL_cmp x.2.1 (goneL n x.2.1.length);have hcp:=Vx.cmp_pr hcm hPos;have hpL:=Vx.Vw.pr_pos (Vx.cmp_pos hcm hPos);have hPn:Vx.Vw.pr (Vx.leftL x.2.1 (goneL n x.2.1.length))=(redPn n x:Int):=by unfold redPn;omega
 have hgi:=gone_in r5;have hN65:x.2.2.length≤65536:=by omega
 have hP65:redPn n x≤65536:=by omega
 have hcd:(cnt O.2.2).2=0:=by rw [r9]
 have hdi:=cnt_inI_all hcd;have hdl:=(Vx.cnt_good hcd).2.1;have HGA:=hid (fun (W:World) (h1:IntsIn W (.slice a3 x.2.1.length c3) x.2.1) (h0:IntsIn W (.slice a4 x.2.2.length c4) x.2.2) (v:Value) (h2:IntsIn W v (goneL n x.2.1.length))=>gather_any (w:=W) (x:=x) (P:=redPn n x) ⟨_,_,rfl,HT.out,h1,h0⟩ h2 p2 p3 hgi hPn);have HRNE:Hid (∀ j,j < redPn n x→Vx.rowOf (redG n x) x.2.2 x.2.2.length j≠[]):=hid fun j hj=>by
  obtain ⟨k,hk,hg⟩:=Vx.grp_onto hcm hPos (j:=j) (by omega);exact Vx.rowOf_some (G:=redG n x) (k:=k) (by omega) (by unfold redG;exact hg)
 have HGE:Hid (Vx.grp x.2.1 (Vx.leftL x.2.1 (goneL n x.2.1.length))=redG n x):=hid (by unfold redG;rfl);rw [HGE.out] at HGA;have HID:Hid (IntsIn w2 v O.2.2):=hid (hr.ints (by omega) hdi);have HRI:Hid (∀ W',Below w2.heap.size w2 W'→RowI W' w.heap.size v O.2.2):=hid fun W' h=>(hr.base (B':=w.heap.size) hW1s).below h;have HCN:Hid (cnt O.2.2=((redPn n x:Int),0)):=hid r9;have HR5:=hid r5;have HGI:=hid hgi;have HGII:=hid (goneL_in hgi (by omega));obtain ⟨av,cv,rfl⟩:=hr.form;have HGM:=hid (goneL_eq n x.2.1.length);clear HRY HYE HNO hdE r1 r2 r3 r4 r5 r6 r7 r8 r9 p1 p2 p3 hp65 hPos hcm hcp hpL hPn hgi hcd hdi hr h0;have k0:=(blk_keep (blk_keep HND.out (Obj.cells #[.string n.out,.int .i64 O.2.1,.slice av O.2.2.length cv] 29)) (Obj.cells #[.int .i64 O.2.1,.slice av O.2.2.length cv,.slice none 0 0] 46));have k0:=(box_of k0).cell 0 rfl;have hB4:Below w2.heap.size w2 ((w2.alloc (Obj.cells #[.string n.out,.int .i64 O.2.1,.slice av O.2.2.length cv] 29)).alloc (Obj.cells #[.int .i64 O.2.1,.slice av O.2.2.length cv,.slice none 0 0] 46)):=((Below.refl _ _).alloc (Nat.le_refl _) _).alloc (by simp) _;have hone:(0:Int) < 1:=by decide
 generalize redPn n x=P at *;generalize redG n x=G at *;clear hB4;go_upto_if 50 with fail
 clear k0;generalize hW:World.alloc (World.alloc w2 _) _=W4;obtain ⟨hB,hS,b1,b2⟩:=allocs2 hW;clear hW;have HB4:=hid (HB2.out.trans (hB.mono HB2.out.size));have HND4:=hid (HND.out.below' hB);have HRB4:=hid (HRB.out.below' hB);have HID4:=hid (HID.out.below hB);have HRI4:Hid (∀ W',Below w2.heap.size W4 W'→RowI W' w.heap.size (.slice av O.2.2.length cv) O.2.2):=hid fun W' h=>HRI.out W' (hB.trans h);have HVB4:=hid (box_of b1);have HOB4:Hid (BoxN W4 (w2.heap.size+1) #[.int .i64 O.2.1,.slice av O.2.2.length cv,.slice none 0 0] 46):=hid b2;have hz4:W4.heap.size=w2.heap.size+1+1:=hS;have HZ4:=hid hz4;clear b1 b2 hB hS HND HRB HID HRI HB2 hz4;generalize hVB:w2.heap.size=VB at HVB4 HOB4 HZ4 HRI4 hs2 ⊢;clear hVB;go_cut [50] from 51 (fun t wr=>t=.bool true∧W4=wr)
 case first =>
  have hol:=HOL.out;simp only [redOps,List.mem_cons,List.not_mem_nil,or_false] at hol;rcases hol with q | q | q | q
  ·have q2:(n.op.toList==([82,101,100,117,99,101,83,117,109]:List UInt8))=true:=by rw [q];decide
   rw [q2];go_wp2_with fail
   go_meet
   exact ⟨rfl,rfl⟩
  ·have q2:(n.op.toList==([82,101,100,117,99,101,83,117,109]:List UInt8))=false:=by rw [q];decide
   have q3:(n.op.toList==([82,101,100,117,99,101,77,97,120]:List UInt8))=true:=by rw [q];decide
   rw [q2];go_wp2_with fail
   go_meet
   exact ⟨rfl,rfl⟩
  ·have q2:(n.op.toList==([82,101,100,117,99,101,83,117,109]:List UInt8))=false:=by rw [q];decide
   have q3:(n.op.toList==([82,101,100,117,99,101,77,97,120]:List UInt8))=false:=by rw [q];decide
   have q4:(n.op.toList==([82,101,100,117,99,101,77,101,97,110]:List UInt8))=true:=by rw [q];decide
   rw [q2];go_wp2_with fail
   go_meet
   exact ⟨rfl,rfl⟩
  ·have q2:(n.op.toList==([82,101,100,117,99,101,83,117,109]:List UInt8))=false:=by rw [q];decide
   have q3:(n.op.toList==([82,101,100,117,99,101,77,97,120]:List UInt8))=false:=by rw [q];decide
   have q4:(n.op.toList==([82,101,100,117,99,101,77,101,97,110]:List UInt8))=false:=by rw [q];decide
   have q5:(n.op.toList==([65,114,103,77,97,120]:List UInt8))=true:=by rw [q];decide
   rw [q2];go_wp2_with fail
   go_meet
   exact ⟨rfl,rfl⟩
 obtain ⟨rfl,rfl⟩:=hcut;obtain ⟨-,tc1,-⟩:=HTC.out _ HB4.out;go_wp2_with fail
 clear tc1;go_loopw [9,60] (fun ov i wr=>∃ (k:Nat),k≤x.2.1.length∧i=.int .i64 (k:Int)∧Hid (RowI wr W4.heap.size ov (upL k))∧Hid (Below W4.heap.size W4 wr)) (fun _ i _=>x.2.1.length - (intOf i).toNat)
 case atStart=>exact ⟨0,Nat.zero_le _,rfl,hid (rowI_up0 _ _),hid (Below.refl _ _)⟩
 case round =>
  obtain ⟨k,hk,rfl,hA,hV⟩:=hrel;obtain ⟨xs,hxs⟩:∃ xs,upL k=xs:=⟨_,rfl⟩;rw [hxs] at hA;have hxl:xs.length=k:=by rw [←hxs];exact upL_len k
  have HXS:=hid hxs;clear hxs;obtain ⟨ao,co,rfl⟩:=hA.out.form;obtain rfl:=hxl;by_cases hkl:xs.length < x.2.1.length
  ·have hki:(xs.length:Int) < (x.2.1.length:Int):=by omega
   have HNX:=hid (show upL (xs.length+1)=xs++[(xs.length:Int)] by rw [upL_next,HXS.out]);have hsz:=hV.out.size;go_wp2_with (at_builtin;refine wpList_append_own _ rfl _ _ 27 rfl W4.heap.size 3 j0 (.int .i64 0) 1 8 Tryz.underlying27 hj hy0 hy1 hy2 rfl (by decide) _ _ _ rfl (hA.out.own.alloc _) ⟨wr.heap.size,0,none⟩ 1 1 (#[.int .i64 (xs.length:Int)]:Array Value).toList rfl rfl (World.news_of_block (heap_alloc_new wr _)) (by simp [Value.oneCell']) (by unfold maxLen;omega) (by omega) (by simp;omega) ?_)
   intro v' w6 hown' hgrow _;obtain ⟨a6,c6,rfl⟩:=owns_form hown';have hrE:=hA.out.own.alloc (Obj.cells #[.int .i64 (xs.length:Int)] 3);have hV6:=hid ((hV.out.alloc (by omega) _).grown hgrow (by simp;omega) (fun g hg=>by have:=(hrE.lt g hg).1;omega));have HR6:Hid (RowI w6 W4.heap.size (.slice a6 (xs.length+1) c6) (upL (xs.length+1))):=hid (by
    rw [HNX.out];exact hA.out.push hown')
   clear hown' hgrow hrE hA hV;go_wp2_with fail
   go_roundw
   case rel=>exact ⟨_,by omega,by go_num,HR6,hV6⟩
   case measure=>simp [intOf];omega
  ·have hki:¬ (xs.length:Int) < (x.2.1.length:Int):=by omega
   have hxe:xs.length=x.2.1.length:=by omega
   have HAL:Hid (IntsIn wr (.slice ao xs.length co) (upL xs.length)):=hid (by
    rw [HXS.out];exact hA.out.ints (by omega) (fun z hz=>by rw [←HXS.out] at hz;exact upL_in _ (by omega) z hz))
   rw [hxe] at HAL ⊢;clear hA HXS hk hkl hki hxe xs;have HBr:=hid (HB4.out.trans (hV.out.mono HB4.out.size));have HNDr:=hid (HND4.out.below' hV.out);have k0:=HNDr.out.cell 0 rfl;go_upto_if 70 with fail
   clear k0;go_cut [10,13] from 68 (fun g a wc=>Hid (IntsIn wc g (goneL n x.2.1.length))∧Hid (Below W4.heap.size W4 wc))
   case first =>
    obtain ⟨k0,k1,k2,k3,k4⟩:=HNDr.out.five;by_cases q:n.op.toList=([65,114,103,77,97,120]:List UInt8)
    ·have q5:(n.op.toList==([65,114,103,77,97,120]:List UInt8))=true:=by rw [q];decide
     clear q;have HRL:Hid (goneL n x.2.1.length=[axZ (intP n.attrs nmAxis 0) x.2.1.length]):=hid (by
      unfold goneL redL;rw [if_pos (toList_inj (by rw [argMax_list];exact by simpa using q5))]
      rfl)
     have hrg:-(x.2.1.length:Int)≤intP n.attrs nmAxis 0∧intP n.attrs nmAxis 0 < (x.2.1.length:Int):=HR5.out _ (by
      unfold redL;rw [if_pos (toList_inj (by rw [argMax_list];exact by simpa using q5))];simp)
     have HAX:=hid (fun (W:World)=>axis_red (intP n.attrs nmAxis 0) x.2.1.length hrg (by omega) W);have HSI:=hid (sint_any (n:=n) (HNV.out.below HBr.out) nmAxis 0);clear hrg;rw [q5];go_wp2_with fail
     clear k0 k1 k2 k3 k4;refine HSI.out.mono ?_;rintro e w5 ⟨rfl,B5⟩;have HV5:=hid (hV.out.trans (B5.mono hV.out.size));clear B5 HSI hV HAL HBr HNDr;go_wp2_with fail
     refine (HAX.out _).mono ?_;rintro e _ ⟨rfl,rfl⟩;generalize axZ (intP n.attrs nmAxis 0) x.2.1.length=az at HRL ⊢;go_wp2_with fail
     go_meet
     generalize hW:World.alloc w5 _=W6;obtain ⟨hB,hS,b1⟩:=allocs1 hW;refine ⟨hid ?_,hid (HV5.out.trans (hB.mono HV5.out.size))⟩;rw [HRL.out];exact ints_boxE (zs:=[az]) b1 rfl (by simp) (by simp) (by intro z hz;exact HGII.out z (by rw [HRL.out];exact hz))
    ·have q5:(n.op.toList==([65,114,103,77,97,120]:List UInt8))=false:=by rw [beq_eq_false_iff_ne];exact q
     clear q;have HRL:Hid (redL n x.2.1.length=intsP n.attrs nmAxes (upL x.2.1.length)):=hid (by
      unfold redL;rw [if_neg (fun e=>by rw [e,argMax_list] at q5;exact absurd q5 (by decide))])
     have HIO:=hid (ints_okP (HNV.out.below HBr.out) (nm:=nmAxes) (other:=upL x.2.1.length) HAL.out.wf.1 HAL.out.wf.2);rw [←HRL.out] at HIO;have HSI:=hid (fun (W:World) (h:Below wr.heap.size wr W) (v:Value) (h2:IntsIn W v (upL x.2.1.length))=>sints_any (n:=n) (HNV.out.below (HBr.out.trans (h.mono HBr.out.size))) nmAxes h2);rw [←HRL.out] at HSI;have HWI:=hid (fun (W:World) (h:Below wr.heap.size wr W)=>wide_any (HAL.out.below h));have HSr:Hid (∀ W',Below wr.heap.size wr W'→BoxN W' w.heap.size #[.string n.op,.string n.name,.slice a1 n.ins.length c1,.string n.out,.slice a2 n.attrs.length c2] 25):=hid fun W' h=>HNDr.out.below' h;have HUL:=hid (upL_len x.2.1.length);rw [q5];go_wp2_with fail
     clear k0 k1 k2 k3 k4;refine wp_region_all [0,1,5,2,3,4] (fun W'=>Below wr.heap.size wr W') (by kernel_rfl) (by kernel_rfl) (fun _ d _ _ _ h=>by cases d<;>exact h) (Below.refl _ _).drew ?_;have B0:Hid (Below wr.heap.size wr wr.drew):=hid (Below.refl _ _).drew;generalize wr.drew=wD at B0 ⊢
     repeat
      refine plan_read (v:=?_) rfl rfl (Or.inl ⟨by rfl,?_⟩) ?_;rotate_left
      ·intro W' hSw;obtain ⟨k0,k1,k2,k3,k4⟩:=(HSr.out W' hSw).five;go_simp
       try with_reducible rfl
      try simp only [Act.put,List.getElem_toArray,List.getElem_cons_zero,List.getElem_cons_succ,List.setIfInBounds_toArray,List.set_cons_zero,List.set_cons_succ]
     refine plan_act rfl rfl (fun K' hK=>?_);go_simp
     refine (HWI.out _ B0.out).mono ?_;rintro e w5 ⟨v5,rfl,hr5,B5⟩;have HR5':=hid hr5;obtain ⟨a5,c5,rfl⟩:∃ a c,v5=.slice a x.2.1.length c:=by
      obtain ⟨a,c,h⟩:=hr5.form;exact ⟨a,c,by rw [h,HUL.out]⟩
     have B1:=hid (B0.out.trans (B5.mono B0.out.size));refine hK.out _ _ B1.out ?_;clear hK K' hr5 B5
     try simp only [Act.put,List.getElem_toArray,List.getElem_cons_zero,List.getElem_cons_succ,List.setIfInBounds_toArray,List.set_cons_zero,List.set_cons_succ]
     refine plan_act rfl rfl (fun K' hK=>?_);go_simp
     refine (HSI.out _ B1.out _ (HR5'.out.ints HAL.out.wf.1 HAL.out.wf.2)).mono ?_;rintro e w6 ⟨v6,rfl,ho6,B6⟩;have hil:=HIO.out;generalize hLL:redL n x.2.1.length=L at *;have HLL:=hid hLL;clear hLL;have HI6:Hid (IntsIn w6 v6 L):=hid (IntsIn.of_owns ho6 hil.1 hil.2);obtain ⟨a6,c6,rfl⟩:=owns_form ho6;have B2:=hid (B1.out.trans (B6.mono B1.out.size));refine hK.out _ _ B2.out ?_;clear hK K' ho6 B6 B1 B0 HSI HWI HR5' HUL
     try simp only [Act.put,List.getElem_toArray,List.getElem_cons_zero,List.getElem_cons_succ,List.setIfInBounds_toArray,List.set_cons_zero,List.set_cons_succ]
     repeat
      refine plan_read (v:=?_) rfl rfl (Or.inl ⟨by rfl,?_⟩) ?_;rotate_left
      ·intro W' hSw
       skip
       go_simp
       try with_reducible rfl
      try simp only [Act.put,List.getElem_toArray,List.getElem_cons_zero,List.getElem_cons_succ,List.setIfInBounds_toArray,List.set_cons_zero,List.set_cons_succ]
     refine plan_end ?_;have HV6:=hid (hV.out.trans (B2.out.mono hV.out.size));clear B2 hV HBr HNDr HSr HAL;have hlL:=HI6.out.wf.1;go_wp2_with fail
     go_loopw [10,82] (fun gv i wr=>∃ (k:Nat),k≤L.length∧i=.int .i64 (k:Int)∧Hid (RowI wr w6.heap.size gv ((L.take k).map fun a=>axZ a x.2.1.length))∧Hid (Below w6.heap.size w6 wr)) (fun _ i _=>L.length - (intOf i).toNat)
     case atStart=>exact ⟨0,Nat.zero_le _,rfl,hid (by simp;exact RowI.nil _ _),hid (Below.refl _ _)⟩
     case round =>
      obtain ⟨k,hk,rfl,hA,hW⟩:=hrel;obtain ⟨ys,hys⟩:∃ ys,((L.take k).map fun a=>axZ a x.2.1.length)=ys:=⟨_,rfl⟩;rw [hys] at hA;have hyl:ys.length=k:=by rw [←hys,List.length_map,List.length_take];omega
      have HYS:=hid hys;clear hys;obtain ⟨ag,cg,rfl⟩:=hA.out.form;obtain rfl:=hyl;have hsw:=hW.out.size;have hs64:=HV6.out.size;by_cases hkl:ys.length < L.length
      ·have hki:(ys.length:Int) < (L.length:Int):=by omega
       obtain ⟨b7,o7,rfl,hb7,g7,y7⟩:=reads_ints (HI6.out.below hW.out) hkl rfl;have hrg:=HR5.out _ (getD_mem hkl);have HNX:=hid (show ((L.take (ys.length+1)).map fun a=>axZ a x.2.1.length)=ys++[axZ (L.getD ys.length 0) x.2.1.length] by rw [take_next hkl,List.map_append,HYS.out];rfl);generalize L.getD ys.length 0=z at *;have HAX:=hid (fun (W:World)=>axis_red z x.2.1.length hrg (by omega) W);clear hrg y7;go_wp2_with fail
       refine (HAX.out _).mono ?_;rintro e _ ⟨rfl,rfl⟩;clear HAX g7;generalize axZ z x.2.1.length=az at HNX ⊢;go_wp2_with (at_builtin;refine wpList_append_own _ rfl _ _ 27 rfl w6.heap.size 3 j0 (.int .i64 0) 1 8 Tryz.underlying27 hj hy0 hy1 hy2 rfl (by decide) _ _ _ rfl (hA.out.own.alloc _) ⟨wr.heap.size,0,none⟩ 1 1 (#[.int .i64 az]:Array Value).toList rfl rfl (World.news_of_block (heap_alloc_new wr _)) (by simp [Value.oneCell']) (by unfold maxLen;omega) (by omega) (by simp;omega) ?_)
       intro v' w8 hown' hgrow _;obtain ⟨a8,c8,rfl⟩:=owns_form hown';have hrE:=hA.out.own.alloc (Obj.cells #[.int .i64 az] 3);have hW8:=hid ((hW.out.alloc (by omega) _).grown hgrow (by simp;omega) (fun g hg=>by have:=(hrE.lt g hg).1;omega));have HR8:Hid (RowI w8 w6.heap.size (.slice a8 (ys.length+1) c8) ((L.take (ys.length+1)).map fun a=>axZ a x.2.1.length)):=hid (by
        rw [HNX.out];exact hA.out.push hown')
       clear hown' hgrow hrE hA hW;go_wp2_with fail
       go_roundw
       case rel=>exact ⟨_,by omega,by go_num,HR8,hW8⟩
       case measure=>simp [intOf];omega
      ·have hki:¬ (ys.length:Int) < (L.length:Int):=by omega
       have hye:ys=goneL n x.2.1.length:=by rw [←HYS.out,List.take_of_length_le (by omega),HGM.out]
       have HGO:Hid (IntsIn wr (.slice ag ys.length cg) (goneL n x.2.1.length)):=hid (by
        rw [←hye];exact hA.out.ints (by omega) (fun z hz=>HGII.out z (by rw [←hye];exact hz)))
       have HVT:=hid (HV6.out.trans (hW.out.mono HV6.out.size));clear hye HYS hA hW hk;go_wp2_with fail
       go_meet
       exact ⟨HGO,HVT⟩
   obtain ⟨HGO,HVT⟩:=hcut;clear HNDr hV HAL HBr;have v2:=(HVB4.out.below' HVT.out).cell 2 rfl;go_wp2_with fail
   clear v2;refine (count_any (HID4.out.below HVT.out)).mono ?_;rintro e w7 ⟨rfl,B7⟩;rw [HCN.out];have HV7:=hid (HVT.out.trans (B7.mono HVT.out.size));have HGO7:=hid (HGO.out.below B7);have HB7:=hid (HB4.out.trans (HV7.out.mono HB4.out.size));obtain ⟨tc0,tc1,tc2⟩:=HTC.out _ HB7.out;clear B7 HVT HGO;go_wp2_with fail
   clear tc0 tc1 tc2;refine (HGA.out w7 (HD.out.below HB7.out) (HX.out.below HB7.out) _ HGO7.out).mono ?_;rintro e w8 ⟨S,svs,rfl,hS0,hSb,hGd,hZ8,B8⟩;have HV8:=hid (HV7.out.trans (B8.mono HV7.out.size));have HB8:=hid (HB4.out.trans (HV8.out.mono HB4.out.size));have HSB:=hid hSb;have HGD:=hid hGd;have hsl:svs.length=P:=by have:=hGd.len;rwa [rowsAt_len] at this
   have hS2:VB+2≤S:=by have:=HV7.out.size;have:=HZ4.out;omega
   have hSlt:S < w8.heap.size:=hSb.lt;have HOB8:=hid (HOB4.out.below' HV8.out);have HND8:=hid (HND4.out.below' HV8.out);have HRB8:=hid (HRB4.out.below' HV8.out);have hz8:VB+2≤w8.heap.size:=by omega
   have hz48:VB+2≤W4.heap.size:=by have:=HZ4.out;omega
   have HRI8:Hid (∀ W',Below VB w8 W'→RowI W' w.heap.size (.slice av O.2.2.length cv) O.2.2):=hid fun W' h=>HRI4.out W' ((HV8.out.mono (by omega)).trans h);clear HV7 HGO7 HB7 hSb hGd hZ8 B8 HGA HV8 HOB4 HND4 HRB4 HVB4 HID4 HRI4 HB4 hS0;go_wp2_with fail
   go_loopw [107] (fun i wr=>∃ (k:Nat) (xv:Value),k≤P∧i=.int .i64 (k:Int)∧Hid (BoxN wr (VB+1) #[.int .i64 O.2.1,.slice av O.2.2.length cv,xv] 46)∧Hid (wr.ownsRow w8.heap.size 2 1 xv k ((redK n.op.toList x.1 G x.2.2 x.2.2.length k).map (Value.int .i64)))∧Hid (Below (VB+1) w8 wr)∧Hid (Mid (VB+2) w8.heap.size w8 wr)∧Hid (w8.heap.size≤wr.heap.size)) (fun i _=>P - (intOf i).toNat)
   case atStart=>exact ⟨0,_,Nat.zero_le _,rfl,HOB8,hid (by rw [redK_zero];exact World.ownsRow_nil _ _ _ _),hid (Below.refl _ _),hid (Mid.refl _ _ _),hid (Nat.le_refl _)⟩
   case round =>
    clear HOB8;obtain ⟨k,xv,hk,rfl,hO,hXV,hV,hM,hZ⟩:=hrel;obtain ⟨ax,cx,rfl⟩:=owns_form hXV.out;by_cases hkP:k < P
    ·have hkPi:(k:Int) < (P:Int):=by omega
     obtain ⟨v,hv⟩:=gAt svs k (by omega);have hGr:=HGD.out.mid hM.out (by omega) (Nat.le_refl _);have how:=hGr.own _ _ _ hv (rowsAt_get hkP);have hrl:=Vx.rowOf_length G x.2.2 x.2.2.length k;have hrne:=HRNE.out k hkP;have hrin:∀ z ∈ Vx.rowOf G x.2.2 x.2.2.length k,InI z:=fun z hz=>HXI.out z (Vx.rowOf_mem (Nat.le_refl _) hz);obtain ⟨av',cv',rfl⟩:=owns_form how;have hSr:=HSB.out.mid hM.out hS2 hSlt;have sc:=hSr.cell k (v:=.slice av' (Vx.rowOf G x.2.2 x.2.2.length k).length cv') (by simpa using hv);have HIR:Hid (IntsIn wr (.slice av' (Vx.rowOf G x.2.2 x.2.2.length k).length cv') (Vx.rowOf G x.2.2 x.2.2.length k)):=hid (IntsIn.of_owns how (by omega) hrin);have HRN:=hid hrne;have HNX:=hid (redK_next n.op.toList x.1 G x.2.2 x.2.2.length k);have HKL:=hid (redK_len n.op.toList x.1 G x.2.2 x.2.2.length k);generalize Vx.rowOf G x.2.2 x.2.2.length k=r at *;generalize redK n.op.toList x.1 G x.2.2 x.2.2.length k=rk at *;have hBw:=HB8.out.trans (hV.out.mono (by omega));obtain ⟨tc0,-,-⟩:=HTC.out _ hBw;have nc0:=(HND8.out.below (by omega) hV.out).cell 0 rfl;have oc2:=hO.out.cell 2 rfl;have hnb:w.heap.size < VB+2:=by omega
     have hob:VB+1 < VB+2:=by omega
     have hib:b < VB+2:=by omega
     have HSr:Hid (∀ W',Below (VB+2) wr W'→W'.cell? ⟨VB+1,2,none⟩=some (.slice ax k cx)∧W'.cell? ⟨w.heap.size,0,none⟩=some (.string n.op)∧W'.cell? ⟨b,off,none⟩=some (.int .i64 x.1)):=hid fun W' h=>⟨(h.cell (p:=⟨VB+1,2,none⟩) hob).trans oc2,(h.cell (p:=⟨w.heap.size,0,none⟩) hnb).trans nc0,(h.cell (p:=⟨b,off,none⟩) hib).trans tc0⟩;clear hv hGr how hrne hrin hSr hBw tc0 nc0 oc2;go_wp2_with fail
     clear sc;refine wp_region_plan 12 [0,1,2,3,4,5,6,7,8,9,10,11] (fun W'=>Below (VB+2) wr W') (by kernel_rfl) (by kernel_rfl) (fun _ d _ _ _ h=>by cases d<;>exact h) (Below.refl _ _).drew ?_;have B0:Hid (Below wr.heap.size wr wr.drew):=hid (Below.refl _ _).drew;have B0S:Hid (Below (VB+2) wr wr.drew):=hid (Below.refl _ _).drew;generalize wr.drew=wD at B0 B0S ⊢
     repeat
      refine plan_read (v:=?_) rfl rfl (Or.inl ⟨by rfl,?_⟩) ?_;rotate_left
      ·intro W' hSw;obtain ⟨s0,s1,s2⟩:=HSr.out W' hSw;go_simp
       try with_reducible rfl
      try simp only [Act.put,List.getElem_toArray,List.getElem_cons_zero,List.getElem_cons_succ,List.setIfInBounds_toArray,List.set_cons_zero,List.set_cons_succ]
     refine plan_act rfl rfl (fun K' hK=>?_);go_simp
     refine (tog_any (op:=n.op) x.1 HOL.out (HIR.out.below B0.out) HRN.out (by omega)).mono ?_;rintro e w10 ⟨rfl,B10⟩;have hB10:=B0.out.trans (B10.mono B0.out.size);have B1S:Hid (Below (VB+2) wr w10):=hid (hB10.mono (by have:=hZ.out;omega));have hO10:=hid (hO.out.below' hB10);have hXV10:=hid (owns_below hXV.out hB10);have hV10:=hid (hV.out.trans (hB10.mono (by have:=hZ.out;omega)));have hM10:=hid (hM.out.trans (Mid.below hB10 hZ.out));have hZ10:Hid (w8.heap.size≤w10.heap.size):=hid (by have:=hZ.out;have:=hB10.size;omega);refine hK.out _ _ B1S.out ?_;clear hK K' B10 hB10 B0 B0S hO hXV hV hM hZ HIR HRN HSr;generalize togP n.op.toList x.1 r=y at HNX ⊢
     try simp only [Act.put,List.getElem_toArray,List.getElem_cons_zero,List.getElem_cons_succ,List.setIfInBounds_toArray,List.set_cons_zero,List.set_cons_succ]
     refine plan_act rfl rfl (fun K' hK=>?_);go_simp
     have B2S:Hid (Below (VB+2) wr (w10.alloc (Obj.cells #[.int .i64 y] 2))):=hid (B1S.out.alloc (by have:=hZ10.out;omega) _);refine hK.out _ _ B2S.out ?_;clear hK K'
     try simp only [Act.put,List.getElem_toArray,List.getElem_cons_zero,List.getElem_cons_succ,List.setIfInBounds_toArray,List.set_cons_zero,List.set_cons_succ]
     refine plan_act rfl rfl (fun K' hK=>?_);refine Go.wp_append_lies _ _ _ 44 rfl w8.heap.size 2 i0 (.int .i64 0) 1 8 Tryz.underlying44 hi hz0 hz1 hz2 rfl (by decide) _ _ _ rfl (hXV10.out.alloc _) ⟨w10.heap.size,0,none⟩ 1 1 (#[.int .i64 y]:Array Value).toList rfl rfl (World.news_of_block (heap_alloc_new w10 _)) (by simp [Value.oneCell']) (by omega) (by unfold maxLen;omega) (by omega) (by have:=hZ10.out;simp;omega) _ rfl ?_;intro a11 c11 w11 hown' hgrow _ hlt11;have hBE:Below w10.heap.size w10 (w10.alloc (.cells #[.int .i64 y] 2)):=(Below.refl _ _).alloc (Nat.le_refl _) _;have hrE:=hXV10.out.alloc (Obj.cells #[.int .i64 y] 2);have hO11:=box_grown (hO10.out.below' hBE) hgrow (fun e=>by have:=(hrE.lt _ e).1;omega);have hV11:Below (VB+1) w8 w11:=(hV10.out.alloc (by have:=hZ10.out;omega) _).grown hgrow (by have:=hZ10.out;simp;omega) (fun g hg=>by have:=(hrE.lt g hg).1;omega);have hM11:Mid (VB+2) w8.heap.size w8 w11:=(hM10.out.trans (Mid.below hBE hZ10.out)).trans (Mid.grown hgrow (by have:=hZ10.out;simp;omega) (fun g hg=>(hrE.lt g hg).1));have hZ11:w8.heap.size≤w11.heap.size:=by have h1:=hgrow.size;have h2:=hBE.size;have:=hZ10.out;omega
     refine hK.out _ _ (B2S.out.grown hgrow (by have:=hZ10.out;simp;omega) (fun g hg=>by have:=(hrE.lt g hg).1;omega)) ?_;clear hK K' hlt11;refine plan_tail rfl ?_;simp only [List.toList_toArray,List.drop_succ_cons,List.drop_zero];have of:=hO11.frozen 2;have oc:=hO11.cell 2 rfl;have HO12:Hid (BoxN (w11.setCell ⟨VB+1,2,none⟩ (.slice (some ⟨a11,0,none⟩) (k+1) c11)) (VB+1) #[.int .i64 O.2.1,.slice av O.2.2.length cv,.slice (some ⟨a11,0,none⟩) (k+1) c11] 46):=hid (hO11.set 2 _);have HX12:Hid ((w11.setCell ⟨VB+1,2,none⟩ (.slice (some ⟨a11,0,none⟩) (k+1) c11)).ownsRow w8.heap.size 2 1 (.slice (some ⟨a11,0,none⟩) (k+1) c11) (k+1) ((redK n.op.toList x.1 G x.2.2 x.2.2.length (k+1)).map (Value.int .i64))):=hid (by
      rw [HNX.out,List.map_append];exact ownsRow_setCell_below hown' (a:=⟨VB+1,2,none⟩) (show VB+1 < w8.heap.size by omega) _)
     have HV12:=hid (hV11.setCell (p:=⟨VB+1,2,none⟩) (Nat.le_refl _) (.slice (some ⟨a11,0,none⟩) (k+1) c11));have HM12:=hid (hM11.trans (Mid.set (hi:=w8.heap.size) (w:=w11) (p:=⟨VB+1,2,none⟩) (x:=.slice (some ⟨a11,0,none⟩) (k+1) c11) (show VB+1 < VB+2 by omega)));have HZ12:Hid (w8.heap.size≤(w11.setCell ⟨VB+1,2,none⟩ (.slice (some ⟨a11,0,none⟩) (k+1) c11)).heap.size):=hid (by simpa [World.setCell] using hZ11);clear hown' hgrow hBE hrE hO11 hV11 hM11 hZ11 hO10 hXV10 hV10 hM10 hZ10 B1S B2S HNX HKL;go_wp2_with fail
     go_roundw
     case rel=>exact ⟨k+1,_,by omega,by go_num,HO12,HX12,HV12,HM12,HZ12⟩
     case measure=>simp [intOf];omega
    ·have hkPi:¬ (k:Int) < (P:Int):=by omega
     obtain rfl:k=P:=by omega
     have HBE:=hid (HB8.out.trans (hV.out.mono (by omega)));have HRE:=HRB8.out.below (by omega) hV.out;have hri:=HRI8.out wr (hV.out.mono (by omega));obtain ⟨o0,o1,o2⟩:=hO.out.three;have f0:=HRE.frozen 0;have f1:=HRE.frozen 1;have f2:=HRE.frozen 2;have g0:=HRE.cell 0 rfl;have g1:=HRE.cell 1 rfl;have g2:=HRE.cell 2 rfl;have HKL:=redK_len n.op.toList x.1 G x.2.2 x.2.2.length k;have hend:Hid (BoxN (put3 wr (w.heap.size+1) (.int .i64 O.2.1) (.slice av O.2.2.length cv) (.slice ax k cx)) (w.heap.size+1) #[.int .i64 O.2.1,.slice av O.2.2.length cv,.slice ax k cx] 46 ∧ Below w.heap.size w (put3 wr (w.heap.size+1) (.int .i64 O.2.1) (.slice av O.2.2.length cv) (.slice ax k cx))∧RowI (put3 wr (w.heap.size+1) (.int .i64 O.2.1) (.slice av O.2.2.length cv) (.slice ax k cx)) w.heap.size (.slice av O.2.2.length cv) O.2.2∧(put3 wr (w.heap.size+1) (.int .i64 O.2.1) (.slice av O.2.2.length cv) (.slice ax k cx)).ownsRow w.heap.size 2 1 (.slice ax k cx) (redK n.op.toList x.1 G x.2.2 x.2.2.length k).length ((redK n.op.toList x.1 G x.2.2 x.2.2.length k).map (Value.int .i64))):=hid ⟨HRE.put3 _ _ _,below_put3 HBE.out (by omega),rowI_put3 hri HRE,by rw [HKL];exact owns_put3 (owns_base hXV.out (by omega)) HRE (by decide)⟩;clear HRE hri hO hXV hV hM hZ HKL;go_wp2_with fail
     obtain ⟨hx1,hx2,hx3,hx4⟩:=hend.out;obtain ⟨x0,x1',x2'⟩:=hx1.three;unfold put3 at x0 x1' x2' hx2 hx3 hx4;exact bodyPost_ret (v:=.tuple #[.agg #[.int .i64 O.2.1,.slice av O.2.2.length cv,.slice ax k cx],.int .i64 0]) (by simp [results,Tryz.f25,go_sem,x0,x1',x2']) rfl ⟨hx2,Or.inr ⟨by rw [hDx.out],_,_,by rw [hDx.out],by rw [hDx.out];exact hx3,by rw [hDx.out];exact hx4⟩⟩
end
section
open Go.RowKit
set_option maxRecDepth 100000
def lSoft:List UInt8:=[83,111,102,116,109,97,120]
def sB (n:Nd) (x:Tn):Int × Int × List Int:=begO n [x] (typD (decide (x.1=1)) x.1) (softO n x.2.1)
def sofL (n:Nd) (x:Tn):List Int:=match axisP (intP n.attrs nmAxis (-1)) x.2.1.length with | none=>[] | some ax=>softL (Vx.grp x.2.1 (Vx.leftL x.2.1 [ax])) x.2.2 x.2.2.length
def sofD (n:Nd) (x:Tn):Int × Int × List Int × List Int:=if (sB n x).1≠0 then ((sB n x).1,0,[],[]) else (0,(sB n x).2.1,(sB n x).2.2,sofL n x)
theorem sofD_no {n:Nd} {x:Tn} (h:(sB n x).1≠0):sofD n x=((sB n x).1,0,[],[]):=if_pos h
theorem sofD_yes {n:Nd} {x:Tn} (h:(sB n x).1=0):∀ ax,axisP (intP n.attrs nmAxis (-1)) x.2.1.length=some ax→sofD n x=(0,(sB n x).2.1,(sB n x).2.2,softL (Vx.grp x.2.1 (Vx.leftL x.2.1 [ax])) x.2.2 x.2.2.length):=fun ax e=>by
 unfold sofD;rw [if_neg (fun c=>c h)];unfold sofL;rw [e]
theorem sB_yes {n:Nd} {x:Tn} (h:(sB n x).1=0):pbE x.1 x.2.1 x.2.2=0∧x.1=1∧(∃ ax,axisP (intP n.attrs nmAxis (-1)) x.2.1.length=some ax)∧sB n x=(0,x.1,x.2.1)∧(sB n x).2.2=x.2.1:=by
 obtain ⟨h1,h2,h3⟩:=begO_yes h;obtain ⟨g1,g2,g3,g4,g5,g6,g7⟩:=outP_yes h2;have hp:=pbAll_mem h1 (t:=x) (by simp);have ht:x.1=1:=by
  by_cases c:x.1=1
  ·exact c
  ·rw [decide_eq_false c,typD_no rfl] at g4;exact absurd g4 (by decide)
 cases ha:axisP (intP n.attrs nmAxis (-1)) x.2.1.length with
 | none=>rw [soft_no ha] at g5;exact absurd g5 (by decide)
 | some ax =>
  have e:sB n x=(0,x.1,x.2.1):=by
   unfold sB;rw [h3,g7,soft_yes ha,ht]
   rfl
  exact ⟨hp,ht,⟨ax,rfl⟩,e,by rw [e]⟩
attribute [local irreducible] cnt chk checkP inpE outP folB thenE RowI pbE begO pbAll grpL Vx.leftL Vx.strd Vx.Vw.crd Vx.grp Vx.Vw.pr Vx.rowOf rowsAt redR redK togP intP intsP axZ axisP axesP redL goneL redG redPn wouL rTy upL softL
set_option maxHeartbeats 32000000 in
theorem rdo_soft {w:World} {vn vv:Value} {n:Nd} {x:Tn} (hn:NodeV w vn n) (hs:SlIn 3 rdTensor w vv [x]) (hG:Glob w) (ho:n.op.toList=lSoft) :
  Calls Tryz.prog 25 #[vn,vv] w (DoR w (sofD n x)):=by
 obtain ⟨i0,hi,hz0,hz1,hz2⟩:=info_parts info_i64;obtain ⟨j0,hj,hy0,hy1,hy2⟩:=info_parts info_int;have q0:(n.op.toList==([83,111,102,116,109,97,120]:List UInt8))=true:=by rw [ho];decide
 have q1:(n.op.toList==([66,97,116,99,104,78,111,114,109,97,108,105,122,97,116,105,111,110]:List UInt8))=false:=by rw [ho];decide
 have q2:(n.op.toList==([82,101,100,117,99,101,83,117,109]:List UInt8))=false:=by rw [ho];decide
 have q3:(n.op.toList==([82,101,100,117,99,101,77,97,120]:List UInt8))=false:=by rw [ho];decide
 have q4:(n.op.toList==([82,101,100,117,99,101,77,101,97,110]:List UInt8))=false:=by rw [ho];decide
 have q5:(n.op.toList==([65,114,103,77,97,120]:List UInt8))=false:=by rw [ho];decide
 have HBG:Hid (∀ W,Below w.heap.size w W→Calls Tryz.prog 45 #[vn,vv] W fun e w'=>OutR W n (sB n x) e w'):=hid fun W hB =>
  rbegin_any (w:=W) (ts:=[x]) (ty:=typD (decide (x.1=1)) x.1) (ds:=softO n x.2.1) (node_belowV hn hB) (tensors_below hs hB) (hG.below hB) (fun _ _ _ W' v _ hm=>by have:=typ_Softmax (x:=tvV x) (ins:=[tvV x]) hm rfl ho;rw [alB_one] at this;exact this) (fun _ _ _ _ W' v _ hm=>dims_Softmax (x:=tvV x) hm rfl ho)
 obtain ⟨b,off,cap,vd,vx,hvv,hb,t0,t1,t2,ht,hd,hx⟩:=tensor_at hs (j:=0) rfl;rw [Nat.zero_mul,Nat.add_zero] at t0 t1 t2;obtain rfl:vv=.slice (some ⟨b,off,none⟩) 1 cap:=hvv;have HNV:=hid hn;obtain ⟨vin,vat,rfl,hm⟩:=hn;obtain ⟨a1,c1,rfl⟩:=hm.is.form;obtain ⟨a2,c2,rfl⟩:=hm.ia.form;obtain ⟨a3,c3,rfl⟩:=hd.shape;obtain ⟨a4,c4,rfl⟩:=hx.shape;have HD:=hid hd;have HX:=hid hx;have HXI:=hid hx.wf.2;unfold Nd.val at HNV HBG ⊢;have HTC:Hid (∀ W,Below w.heap.size w W→W.cell? ⟨b,off,none⟩=some (.int .i64 x.1)∧W.cell? ⟨b,off+1,none⟩=some (.slice a3 x.2.1.length c3)∧W.cell? ⟨b,off+2,none⟩=some (.slice a4 x.2.2.length c4)):=hid fun W hB=>⟨(hB.cell (p:=⟨b,off,none⟩) hb).trans t0,(hB.cell (p:=⟨b,off+1,none⟩) hb).trans t1,(hB.cell (p:=⟨b,off+2,none⟩) hb).trans t2⟩;have HT:=hid ht;have HRY:=hid (fun (h:(sB n x).1=0)=>sB_yes h);have HYE:=hid (fun (h:(sB n x).1=0)=>sofD_yes h);have HNO:=hid (fun (h:(sB n x).1≠0)=>sofD_no h);clear hm hs hG t0 t1 t2 hd hx ht ho;go_enter Tryz.func25,Tryz.ntmps25
 go_wp2_with fail
 generalize hW:World.alloc (World.alloc w _) _=W1;obtain ⟨hB,hS,b1,b2⟩:=allocs2 hW;clear hW;have HB1:=hid hB;have HND:=hid (box_of b1);have HRB:=hid (box_of b2);clear b1 b2;refine (HBG.out W1 hB).mono ?_;rintro e w2 ⟨B2,hr⟩;have HB2:=hid (HB1.out.trans (B2.mono HB1.out.size));have HND:=hid (HND.out.below' B2);have HRB:=hid (HRB.out.below' B2);have hs2:w.heap.size+2≤w2.heap.size:=by have:=B2.size;omega
 have hW1s:w.heap.size≤W1.heap.size:=hB.size;clear B2 hB hS HBG;generalize hO:sB n x=O at *;have HOE:=hid hO;clear hO;rcases hr with ⟨hne,rfl⟩ | ⟨h0,v,rfl,hr⟩
 ·have HR:=hid (HNO.out hne);have HNE:=hid hne;have hb':(O.1 != 0)=true:=by simpa using hne
  generalize O.1=q at *;clear hne;have hB3:Below w2.heap.size w2 (w2.alloc (Obj.cells #[.string ⟨#[]⟩,.int .i64 0,.slice none 0 0] 29)):=(Below.refl _ _).alloc (Nat.le_refl _) _;have HBE:=hid (HB2.out.trans (hB3.mono HB2.out.size));have HRE1:=hid (HRB.out.below' hB3);clear hB3;have HRE:=HRE1.out;have f0:=HRE.frozen 0;have f1:=HRE.frozen 1;have f2:=HRE.frozen 2;have g0:=HRE.cell 0 rfl;have g1:=HRE.cell 1 rfl;have g2:=HRE.cell 2 rfl;have hend:Hid (BoxN (put3 (w2.alloc (Obj.cells #[.string ⟨#[]⟩,.int .i64 0,.slice none 0 0] 29)) (w.heap.size+1) (.int .i64 0) (.slice none 0 0) (.slice none 0 0)) (w.heap.size+1) #[.int .i64 0,.slice none 0 0,.slice none 0 0] 46 ∧ Below w.heap.size w (put3 (w2.alloc (Obj.cells #[.string ⟨#[]⟩,.int .i64 0,.slice none 0 0] 29)) (w.heap.size+1) (.int .i64 0) (.slice none 0 0) (.slice none 0 0))):=hid ⟨HRE.put3 _ _ _,below_put3 HBE.out (by omega)⟩;clear HRE;go_wp2_with fail
  obtain ⟨hx1,hx2⟩:=hend.out;obtain ⟨x0,x1',x2'⟩:=hx1.three;unfold put3 at x0 x1' x2' hx2;exact bodyPost_ret (v:=.tuple #[.agg #[.int .i64 0,.slice none 0 0,.slice none 0 0],.int .i64 q]) (by simp [results,Tryz.f25,go_sem,x0,x1',x2']) rfl (DoR.no HR.out HNE.out hx2)
 obtain ⟨r3,r4,⟨ax,r5⟩,r8,r9⟩:=HRY.out h0;have hdE:=HYE.out h0 ax r5;have HDX:=hid hdE;obtain ⟨p1,p2,p3,-⟩:=pbE_zero r3;obtain ⟨-,hl6,-,hp65⟩:=Vx.cnt_good p2;have hpr1:=Vx.Vw.pr_pos (Vx.cnt_pos p2);have hN65:x.2.2.length≤65536:=by omega
 have hdi:∀ z ∈ O.2.2,InI z:=by rw [r9];exact cnt_inI_all p2
 have hdl:O.2.2.length≤6:=by rw [r9];exact hl6
 have HSO:=hid (fun (W:World) (hB:Below w.heap.size w W) (v:Value) (hv:TensV W v x)=>softmax_any (n:=n) (HNV.out.below hB) hv r4 p2 p3 r5);have hsl:(softL (Vx.grp x.2.1 (Vx.leftL x.2.1 [ax])) x.2.2 x.2.2.length).length=x.2.2.length:=by unfold softL;simp
 have HSL:=hid hsl;generalize softL (Vx.grp x.2.1 (Vx.leftL x.2.1 [ax])) x.2.2 x.2.2.length=sl at *;have HID:Hid (IntsIn w2 v O.2.2):=hid (hr.ints (by omega) hdi);have HRI:Hid (∀ W',Below w2.heap.size w2 W'→RowI W' w.heap.size v O.2.2):=hid fun W' h=>(hr.base (B':=w.heap.size) hW1s).below h;obtain ⟨av,cv,rfl⟩:=hr.form;clear HRY HYE HNO hdE r3 r4 r5 r8 r9 p1 p2 p3 hp65 hpr1 hdi hr h0 hsl;have k0:=(blk_keep (blk_keep HND.out (Obj.cells #[.string n.out,.int .i64 O.2.1,.slice av O.2.2.length cv] 29)) (Obj.cells #[.int .i64 O.2.1,.slice av O.2.2.length cv,.slice none 0 0] 46));have k0:=(box_of k0).cell 0 rfl;have hB4:Below w2.heap.size w2 ((w2.alloc (Obj.cells #[.string n.out,.int .i64 O.2.1,.slice av O.2.2.length cv] 29)).alloc (Obj.cells #[.int .i64 O.2.1,.slice av O.2.2.length cv,.slice none 0 0] 46)):=((Below.refl _ _).alloc (Nat.le_refl _) _).alloc (by simp) _;obtain ⟨-,tc1,-⟩:=HTC.out _ (HB2.out.trans (hB4.mono HB2.out.size));have hone:(0:Int) < 1:=by decide
 clear hB4;go_wp2_with fail
 clear k0 tc1;generalize hW:World.alloc (World.alloc w2 _) _=W4;obtain ⟨hB,hS,b1,b2⟩:=allocs2 hW;clear hW;have HB4:=hid (HB2.out.trans (hB.mono HB2.out.size));have HND4:=hid (HND.out.below' hB);have HRB4:=hid (HRB.out.below' hB);have HID4:=hid (HID.out.below hB);have HRI4:Hid (∀ W',Below w2.heap.size W4 W'→RowI W' w.heap.size (.slice av O.2.2.length cv) O.2.2):=hid fun W' h=>HRI.out W' (hB.trans h);have HVB4:=hid (box_of b1);have HOB4:Hid (BoxN W4 (w2.heap.size+1) #[.int .i64 O.2.1,.slice av O.2.2.length cv,.slice none 0 0] 46):=hid b2;have hz4:W4.heap.size=w2.heap.size+1+1:=hS;have HZ4:=hid hz4;clear b1 b2 hB hS HND HRB HID HRI HB2 hz4;generalize hVB:w2.heap.size=VB at HVB4 HOB4 HZ4 HRI4 hs2 ⊢;clear hVB;have HSr:Hid (∀ W',Below W4.heap.size W4 W'→BoxN W' w.heap.size #[.string n.op,.string n.name,.slice a1 n.ins.length c1,.string n.out,.slice a2 n.attrs.length c2] 25 ∧ W'.cell? ⟨b,off,none⟩=some (.int .i64 x.1)∧W'.cell? ⟨b,off+1,none⟩=some (.slice a3 x.2.1.length c3)∧W'.cell? ⟨b,off+2,none⟩=some (.slice a4 x.2.2.length c4)):=hid fun W' h=>⟨HND4.out.below' h,HTC.out _ (HB4.out.trans (h.mono HB4.out.size))⟩;refine wp_region_plan 4 [0,1,2,3] (fun W'=>Below W4.heap.size W4 W') (by kernel_rfl) (by kernel_rfl) (fun _ d _ _ _ h=>by cases d<;>exact h) (Below.refl _ _).drew ?_;have B0:Hid (Below W4.heap.size W4 W4.drew):=hid (Below.refl _ _).drew;generalize W4.drew=wD at B0 ⊢
 repeat
  refine plan_read (v:=?_) rfl rfl (Or.inl ⟨by rfl,?_⟩) ?_;rotate_left
  ·intro W' hSw;obtain ⟨s0,s1,s2,s3⟩:=HSr.out W' hSw;obtain ⟨k0,k1,k2,k3,k4⟩:=s0.five;go_simp
   try with_reducible rfl
  try simp only [Act.put,List.getElem_toArray,List.getElem_cons_zero,List.getElem_cons_succ,List.setIfInBounds_toArray,List.set_cons_zero,List.set_cons_succ]
 refine plan_tail rfl ?_;simp only [List.toList_toArray,List.drop_succ_cons,List.drop_zero];have HBD:=hid (HB4.out.trans (B0.out.mono HB4.out.size));go_wp2_with fail
 refine (HSO.out wD HBD.out _ ⟨_,_,rfl,HT.out,HD.out.below HBD.out,HX.out.below HBD.out⟩).mono ?_;rintro e w6 ⟨v6,rfl,ho6,B6⟩;obtain ⟨a6,c6,rfl⟩:=owns_form ho6;have hz4':=HZ4.out;have hzD:=B0.out.size;have hB6:=B0.out.trans (B6.mono B0.out.size);have hO6:=HOB4.out.below' hB6;have hR6:=HRB4.out.below' hB6;have hbw6:=HB4.out.trans (hB6.mono HB4.out.size);have hri6:=hB6.mono (show VB≤W4.heap.size by omega);have of:=hO6.frozen 2;have oc:=hO6.cell 2 rfl;have hO7:BoxN (w6.setCell ⟨VB+1,2,none⟩ (.slice a6 x.2.2.length c6)) (VB+1) #[.int .i64 O.2.1,.slice av O.2.2.length cv,.slice a6 x.2.2.length c6] 46:=hO6.set 2 _;have HRE:BoxN (w6.setCell ⟨VB+1,2,none⟩ (.slice a6 x.2.2.length c6)) (w.heap.size+1) #[.int .i64 0,.slice none 0 0,.slice none 0 0] 46:=(Below.heap_setCell _ _ _ _ (by show w.heap.size+1≠VB+1;omega)).trans hR6;have hbw7:Below w.heap.size w (w6.setCell ⟨VB+1,2,none⟩ (.slice a6 x.2.2.length c6)):=hbw6.setCell (p:=⟨VB+1,2,none⟩) (by show w.heap.size≤VB+1;omega) _;have hri:=HRI4.out (w6.setCell ⟨VB+1,2,none⟩ (.slice a6 x.2.2.length c6)) (hri6.setCell (p:=⟨VB+1,2,none⟩) (by show VB≤VB+1;omega) _);have how:((w6.setCell ⟨VB+1,2,none⟩ (.slice a6 x.2.2.length c6))).ownsRow wD.heap.size 2 1 (.slice a6 x.2.2.length c6) x.2.2.length (sl.map (Value.int .i64)):=ownsRow_setCell_below ho6 (a:=⟨VB+1,2,none⟩) (show VB+1 < wD.heap.size by omega) _;obtain ⟨o0,o1,o2⟩:=hO7.three;have f0:=HRE.frozen 0;have f1:=HRE.frozen 1;have f2:=HRE.frozen 2;have g0:=HRE.cell 0 rfl;have g1:=HRE.cell 1 rfl;have g2:=HRE.cell 2 rfl;have hend:Hid (BoxN (put3 (w6.setCell ⟨VB+1,2,none⟩ (.slice a6 x.2.2.length c6)) (w.heap.size+1) (.int .i64 O.2.1) (.slice av O.2.2.length cv) (.slice a6 x.2.2.length c6)) (w.heap.size+1) #[.int .i64 O.2.1,.slice av O.2.2.length cv,.slice a6 x.2.2.length c6] 46 ∧ Below w.heap.size w (put3 (w6.setCell ⟨VB+1,2,none⟩ (.slice a6 x.2.2.length c6)) (w.heap.size+1) (.int .i64 O.2.1) (.slice av O.2.2.length cv) (.slice a6 x.2.2.length c6))∧RowI (put3 (w6.setCell ⟨VB+1,2,none⟩ (.slice a6 x.2.2.length c6)) (w.heap.size+1) (.int .i64 O.2.1) (.slice av O.2.2.length cv) (.slice a6 x.2.2.length c6)) w.heap.size (.slice av O.2.2.length cv) O.2.2∧((put3 (w6.setCell ⟨VB+1,2,none⟩ (.slice a6 x.2.2.length c6)) (w.heap.size+1) (.int .i64 O.2.1) (.slice av O.2.2.length cv) (.slice a6 x.2.2.length c6))).ownsRow w.heap.size 2 1 (.slice a6 x.2.2.length c6) sl.length (sl.map (Value.int .i64))):=hid ⟨HRE.put3 _ _ _,below_put3 hbw7 (by omega),rowI_put3 hri HRE,by rw [HSL.out];exact owns_put3 (owns_base how (by omega)) HRE (by decide)⟩;clear HRE hri how hO7 hbw7 hri6 hbw6 hR6 hO6 hB6 ho6 B6;go_wp2_with fail
 obtain ⟨hx1,hx2,hx3,hx4⟩:=hend.out;obtain ⟨x0,x1',x2'⟩:=hx1.three;unfold put3 at x0 x1' x2' hx2 hx3 hx4;exact bodyPost_ret (v:=.tuple #[.agg #[.int .i64 O.2.1,.slice av O.2.2.length cv,.slice a6 x.2.2.length c6],.int .i64 0]) (by simp [results,Tryz.f25,go_sem,x0,x1',x2']) rfl ⟨hx2,Or.inr ⟨by rw [HDX.out],_,_,by rw [HDX.out],by rw [HDX.out];exact hx3,by rw [HDX.out];exact hx4⟩⟩
end
section
open Go.RowKit
set_option maxRecDepth 100000
def keepA (k:Int):At:=⟨nmKeep,2,0,k,⟨#[]⟩,0,[],[],[]⟩
def axesA (l:List Int):At:=⟨nmAxes,7,0,0,⟨#[]⟩,0,[],[],l⟩
theorem owns_lit {w:World} {B g:Nat} {e:TypeId} {z:Nat} {cs:Array Value} (h:w.heap[g]?=some (.cells cs e)) (hB:B≤g) {n:Nat} (hn:cs.size=n * z) (hm:n≤1000000) {xs:List Value} (hx:cs.toList=xs):w.ownsRow B e z (.slice (some ⟨g,0,none⟩) n n) n xs:=by
 subst hx;refine ⟨by simpa using hn,.inr ⟨g,n,cs,rfl,hB,h,Nat.le_refl _,?_,hn,?_⟩⟩
 ·unfold maxLen;omega
 ·rw [←hn,List.take_of_length_le (by simp)]
theorem attr_nils {w:World} {B:Nat} {a:At} (h1:a.dims=[]) (h2:a.data=[]) (h3:a.ints=[]):AttrO w B a (.slice none 0 0) (.slice none 0 0) (.slice none 0 0) :=
 ⟨by rw [h1];exact World.ownsRow_nil _ _ _ _,by rw [h2];exact World.ownsRow_nil _ _ _ _,by rw [h3];exact World.ownsRow_nil _ _ _ _⟩
end
section
open Go.RowKit
set_option maxRecDepth 100000
theorem redD_form {n:Nd} {x:Tn}:(redD n x).1≠0→(redD n x).2=(0,[],[]):=by
 unfold redD;split
 ·exact fun _=>rfl
 ·exact fun h=>absurd rfl h
theorem redD_zero {n:Nd} {x:Tn} (h:(redD n x).1=0):(rB n x).1=0:=by
 unfold redD at h;split at h
 ·exact h
 ·rename_i c;simpa using c
theorem sofD_form {n:Nd} {x:Tn}:(sofD n x).1≠0→(sofD n x).2=(0,[],[]):=by
 unfold sofD;split
 ·exact fun _=>rfl
 ·exact fun h=>absurd rfl h
theorem sofD_zero {n:Nd} {x:Tn} (h:(sofD n x).1=0):(sB n x).1=0:=by
 unfold sofD at h;split at h
 ·exact h
 ·rename_i c;simpa using c
theorem redR_in {op:List UInt8} {t:Int} {G:Nat→Nat} {data:List Int} {N P:Nat} (hne:∀ j,j < P→Vx.rowOf G data N j≠[]) (hd:∀ z ∈ data,InI z) (hN:N≤data.length) (h65:N≤65536):∀ z ∈ redR op t G data N P,InI z:=fun z hz=>by
 obtain ⟨j,hj,rfl⟩:=List.mem_map.1 hz;exact togP_in (hne j (List.mem_range.1 hj)) (Nat.le_trans (Vx.rowOf_length _ _ _ _) h65) fun z hz=>hd z (Vx.rowOf_mem hN hz)
theorem red_rows {n:Nd} {x:Tn} (h:(rB n x).1=0):Vx.Vw.pr (Vx.leftL x.2.1 (goneL n x.2.1.length))=(redPn n x:Int)∧redPn n x≤65536∧x.2.2.length≤65536∧(∀ j,j < redPn n x→Vx.rowOf (redG n x) x.2.2 x.2.2.length j≠[])∧(∀ k,k < x.2.2.length→redG n x k < redPn n x):=by
 obtain ⟨r1,r2,r3,r4,r5,r6,r7,r8,r9⟩:=rB_yes h;obtain ⟨p1,p2,p3,-⟩:=pbE_zero r3;obtain ⟨-,hl6,-,hp65⟩:=Vx.cnt_good p2;have hPos:=Vx.cnt_pos p2;have hcm:=Vx.leftL_cmp x.2.1 (goneL n x.2.1.length);have hcp:=Vx.cmp_pr hcm hPos;have hpL:=Vx.Vw.pr_pos (Vx.cmp_pos hcm hPos);have hPn:Vx.Vw.pr (Vx.leftL x.2.1 (goneL n x.2.1.length))=(redPn n x:Int):=by unfold redPn;omega
 refine ⟨hPn,by omega,by omega,fun j hj=>?_,fun k hk=>?_⟩
 ·obtain ⟨k,hk,hg⟩:=Vx.grp_onto hcm hPos (j:=j) (by omega);exact Vx.rowOf_some (G:=redG n x) (k:=k) (by omega) hg
 ·have:=(Vx.grp_lt hcm hPos (k:=k) (by omega)).1;show Vx.grp x.2.1 (Vx.leftL x.2.1 (goneL n x.2.1.length)) k < _;omega
theorem rdo_U {w:World} {vn vv:Value} {n:Nd} {x:Tn} (hn:NodeV w vn n) (hs:SlIn 3 rdTensor w vv [x]) (hG:Glob w) (ho:n.op.toList ∈ redOps) :
  Calls Tryz.prog 25 #[vn,vv] w (UniR w (redD n x)):=by
 refine (rdo_any hn hs hG ho).mono fun e w' h=>?_;refine h.uni (fun h=>redD_form h) (fun h=>?_);have h0:=redD_zero h;obtain ⟨q1,q2,q3,q4,-⟩:=red_rows h0;obtain ⟨r1,r2,r3,r4,r5,r6,r7,r8,r9⟩:=rB_yes h0;rw [redD_yes h0];have hcd:(cnt (rB n x).2.2).2=0:=by rw [r9]
 refine ⟨⟨by have:=(Vx.cnt_good hcd).2.1;show (rB n x).2.2.length≤1000;omega,cnt_inI_all hcd⟩,?_,redR_in q4 (tens_mem hs (x:=x) (by simp)).2 (Nat.le_refl _) q3⟩;show (redR _ _ _ _ _ _).length≤_;simp [redR];omega
theorem rdo_softU {w:World} {vn vv:Value} {n:Nd} {x:Tn} (hn:NodeV w vn n) (hs:SlIn 3 rdTensor w vv [x]) (hG:Glob w) (ho:n.op.toList=lSoft) :
  Calls Tryz.prog 25 #[vn,vv] w (UniR w (sofD n x)):=by
 refine (rdo_soft hn hs hG ho).mono fun e w' h=>?_;refine h.uni (fun h=>sofD_form h) (fun h=>?_);have h0:=sofD_zero h;obtain ⟨r3,r4,⟨ax,r5⟩,r8,r9⟩:=sB_yes h0;rw [sofD_yes h0 ax r5,r9];obtain ⟨p1,p2,p3,-⟩:=pbE_zero r3;have hp65:=(Vx.cnt_good p2).2.2.2;refine ⟨⟨by have:=(Vx.cnt_good p2).2.1;show x.2.1.length≤_;omega,cnt_inI_all p2⟩,?_,softL_in (tens_mem hs (x:=x) (by simp)).2 (Nat.le_refl _) (by omega)⟩;show (softL _ _ _).length≤_;simp [softL];omega
set_option maxHeartbeats 4000000 in
theorem small11_any {w:World} {vv:Value} {ts:List Tn} (hs:SlIn 3 rdTensor w vv ts) :
  Calls Tryz.prog 23 #[vv] w (SomeB w):=by
 have hll:=hs.len;obtain ⟨a3,c3,rfl⟩:=hs.form;have HS:=hid hs;clear hs;go_enter Tryz.func23,Tryz.ntmps23
 go_wp2_with fail
 go_loopw [3] (fun i wr=>∃ (k:Nat),k≤ts.length∧i=.int .i64 (k:Int)∧Hid (Below w.heap.size w wr)) (fun i _=>ts.length - (intOf i).toNat)
 case atStart=>exact ⟨0,Nat.zero_le _,rfl,hid (Below.refl _ _)⟩
 case round =>
  obtain ⟨k,hk,rfl,hW⟩:=hrel;by_cases hkl:k < ts.length
  ·have hki:(k:Int) < (ts.length:Int):=by omega
   obtain ⟨x,hx⟩:∃ x,ts[k]?=some x:=⟨_,List.getElem?_eq_getElem hkl⟩;obtain ⟨b,off,cap,vd,vx,hv,hb,c0,c1',c2',h1,h2,h3⟩:=tensor_at HS.out hx;obtain ⟨rfl,-,rfl⟩:=Value.slice.inj hv;have u2:=(hW.out.cell (p:=⟨b,off+k * 3+2,none⟩) hb).trans c2';obtain ⟨ax,cx,rfl⟩:=h3.shape;clear c0 c1' c2' h1 h2 hv hx;generalize x.2.2.length=q at *;clear h3;by_cases hq:600 < (q:Int)
   ·go_wp2_with fail
    go_ret
    exact ⟨⟨_,rfl⟩,hW.out⟩
   ·go_wp2_with fail
    go_roundw
    case rel=>exact ⟨k+1,by omega,by go_num,hW⟩
    case measure=>simp [intOf];omega
  ·have hki:¬ (k:Int) < (ts.length:Int):=by omega
   go_wp2_with fail
   go_ret
   exact ⟨⟨_,rfl⟩,hW.out⟩
def oRSum:ByteArray:=⟨#[82,101,100,117,99,101,83,117,109]⟩
def oSoftm:ByteArray:=⟨#[83,111,102,116,109,97,120]⟩
def nS1:Nd:=⟨oRSum,⟨#[]⟩,[⟨#[120]⟩],⟨#[122]⟩,[axesA [0],keepA 0]⟩
def nS2:Nd:=⟨oSoftm,⟨#[]⟩,[⟨#[120]⟩],⟨#[122]⟩,[]⟩
def tS1:Tn:=(6,[2,2],[1,2,3,4])
def tS2:Tn:=(1,[2],[0,0])
theorem live11_sum:redD nS1 tS1=(0,6,[2],[4,6]):=by decide +kernel
theorem live11_soft:sofD nS2 tS2=(0,1,[2],[1056964608,1056964608]):=by decide +kernel
end
end Go.Proofs.YtijhdmidffenbaaGreatDoor
