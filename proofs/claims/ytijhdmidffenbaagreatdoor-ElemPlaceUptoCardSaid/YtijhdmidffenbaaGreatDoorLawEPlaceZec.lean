import Derived.Test.YtijhdmidffenbaaGreatDoorEpCec
import Derived.Test.YtijhdmidffenbaaGreatDoorVxM2rm
import Derived.BigQuiet
import Derived.Deep.QuietTactic
import Derived.Test.YtijhdmidffenbaaGreatDoorElM4ec
import Derived.Test.YtijhdmidffenbaaGreatDoorInM1rm
import Derived.Test.YtijhdmidffenbaaGreatDoorRows
import Derived.Test.YtijhdmidffenbaaGreatDoorCards
import Derived.Test.YtijhdmidffenbaaGreatDoorTie
import Derived.Test.YtijhdmidffenbaaGreatDoorSchOrm
import Derived.ProofKit
import Derived.OpenShut
import Derived.SizedLaws
import Derived.ChangeSlices
import Derived.Deep.Strs
import Derived.Deep.DeepHandedRow
import Derived.Lay
import Derived.LaidMore
import Derived.SevenTiedAt
import Derived.Stop.Joined
import Derived.HandedShaped
import Derived.Shelf.Vars
import Derived.Carry
import Derived.Test.YtijhdmidffenbaaGreatDoorSchXnrm
import Derived.Deep.DeepWitnessRowRef
import Derived.ChangeMaps5
open Go.Lib (hid)
set_option linter.unusedVariables false
set_option linter.unusedSimpArgs false
namespace Go.Proofs.YtijhdmidffenbaaGreatDoor.Vx
open Go.RowKit Vw Vb
def crdRow (ds:List Int) (k:Int) (m:Nat):List Int:=List.replicate m 0++crd (ds.drop m) (k % pr (ds.drop m))
theorem crdRow_length {ds:List Int} {k:Int} {m:Nat} (h:m≤ds.length):(crdRow ds k m).length=ds.length:=by
 simp [crdRow,crd_length];omega
theorem crdRow_full (ds:List Int) (k:Int):crdRow ds k ds.length=List.replicate ds.length 0:=by simp [crdRow,crd]
theorem crdRow_zero {ds:List Int} {k:Int} (h0:0≤k) (h1:k < pr ds):crdRow ds k 0=crd ds k:=by
 simp [crdRow,Int.emod_eq_of_lt h0 h1]
theorem mod_quo {k d p:Int} (hp:1≤p):k % (d * p) / p=k / p % d:=by
 rw [Int.emod_def,Int.emod_def (k / p) d,Int.ediv_ediv_of_nonneg (by omega:0≤p),Int.mul_comm p d];generalize k / (d * p)=q;have e:d * p * q=p * (d * q):=by rw [Int.mul_comm d p,Int.mul_assoc]
 rw [e,Int.sub_eq_add_neg,←Int.mul_neg,Int.add_mul_ediv_left _ _ (by omega),Int.sub_eq_add_neg]
theorem mod_mod {k d p:Int}:k % (d * p) % p=k % p:=Int.emod_emod_of_dvd k (Int.dvd_mul_left d p)
theorem crdRow_step {ds:List Int} {k:Int} {j:Nat} (hp:Pos ds) (h:j < ds.length):(crdRow ds k (j+1)).set j (k / pr (ds.drop (j+1)) % ds.getD j 0)=crdRow ds k j:=by
 have hq:=pr_drop (zs:=ds) (j:=j+1) hp;unfold crdRow;rw [drop_next h,List.replicate_succ',List.append_assoc,List.set_append_right _ _ (by simp)];simp only [List.length_replicate,Nat.sub_self,List.singleton_append,List.set_cons_zero,crd,pr];rw [mod_quo hq.1,mod_mod]
theorem quo_next {ds:List Int} {k:Int} {j:Nat} (hp:Pos ds) (h:j < ds.length):k / pr (ds.drop (j+1)) / ds.getD j 0=k / pr (ds.drop j):=by
 have hq:=pr_drop (zs:=ds) (j:=j+1) hp;rw [Int.ediv_ediv_of_nonneg (by omega),pr_next h]
attribute [local irreducible] cnt pr crd crdRow
set_option maxRecDepth 100000 in
set_option maxHeartbeats 1000000 in
theorem coords_good {w:World} (d:Value) (ds:List Int) (k:Int) (hd:IntsIn w d ds) (h0:0≤k) (h1:Hid (k < pr ds)) (he:Hid ((cnt ds).2=0)) :
  Calls Tryz.prog 21 #[d,.int .i64 k] w fun e w'=>e=.returned (.tuple #[.slice (some ⟨w.heap.size,0,none⟩) ds.length ds.length,.int .i64 0])∧RowAt w' w.heap.size (crd ds k)∧Below w.heap.size w w':=by
 obtain ⟨a1,c1,rfl⟩:=hd.form;have HR:=hid hd.rowsV.2;have hg:=cnt_good he.out;have hlen:=hg.2.1;have HP:Hid (∀ d ∈ ds,1≤d∧d≤65536):=hid hg.1;have HPos:Hid (Pos ds):=hid fun d hd=>(hg.1 d hd).1;have HC:=hid (rcount_any hd);rw [show cnt ds=(pr ds,0) from Prod.ext hg.2.2.1 he.out] at HC;have hk1:k < pr ds:=h1.out;have hN:=hg.2.2.2;have HZ:Hid (crdRow ds k 0=crd ds k):=hid (crdRow_zero h0 h1.out);generalize hpd:pr ds=pd at *;have HPD:=hid hpd;clear hpd hg hd;have hmk:=fun w=>run_make_ints w ds.length (by omega);have hrow:Hid (RowAt (w.alloc (.cells (intCells (List.replicate ds.length 0)) 3)) w.heap.size (crdRow ds k ds.length)):=hid (by rw [crdRow_full];exact RowAt.new w _);have hbel:Hid (Below w.heap.size w (w.alloc (.cells (intCells (List.replicate ds.length 0)) 3))):=hid ((Below.refl _ w).alloc (Nat.le_refl _) _);have hpr0:Hid (k / pr (ds.drop ds.length)=k):=hid (by rw [List.drop_length];unfold pr;omega);go_enter Tryz.func21,Tryz.ntmps21
 go_wp2_with (go_at_call 14;refine HC.out.mono ?_;rintro e w' ⟨rfl,rfl⟩)
 go_loopw [1,9] (fun n i wr=>∃ m:Nat,m≤ds.length∧n=.int .i64 (k / pr (ds.drop m))∧i=.int .i64 ((m:Int) - 1)∧Hid (RowAt wr w.heap.size (crdRow ds k m))∧Hid (Below w.heap.size w wr)) (fun _ i _=>(intOf i+1).toNat)
 case atStart=>exact ⟨ds.length,Nat.le_refl _,by rw [hpr0.out],by go_num,hrow,hbel⟩
 case round =>
  obtain ⟨m,hm,rfl,rfl,hrw,hbl⟩:=hrel;rcases (match m with | 0=>Or.inl rfl | i+1=>Or.inr ⟨i,rfl⟩:m=0∨∃ i,m=i+1) with e0 | ⟨j,e0⟩
  ·subst e0;go_wp2
   go_ret2
   exact ⟨rfl,by rw [←HZ.out];exact hrw.out,hbl.out⟩
  ·subst e0;have hj:j < ds.length:=by omega
   obtain ⟨b,off,rfl,hb,hr⟩:=HR.out j hj;have hcx:=(hbl.out.cell (p:=⟨b,off+j,none⟩) hb).trans (hr j hj);have hfz:=hrw.out.frozen j;have hcell:=hrw.out.cell (j:=j) (by rw [crdRow_length hm];omega);have hq:=pr_drop (zs:=ds) (j:=j+1) HPos.out;have hd:=HP.out _ (getD_mem hj);have hidx:((j+1:Nat):Int) - 1=(j:Int):=by omega
   have hst:=crdRow_step (k:=k) HPos.out hj;have hqn:=quo_next (k:=k) HPos.out hj;generalize hpj:pr (ds.drop (j+1))=pj at *;have hn0:0≤k / pj:=Int.ediv_nonneg h0 (by omega);have hnk:k / pj≤k:=Int.ediv_le_self _ h0;generalize hnn:k / pj=n at *;generalize hzz:ds.getD j 0=z at *;have hset:Hid (RowAt (wr.setCell ⟨w.heap.size,j,none⟩ (.int .i64 (n % z))) w.heap.size (crdRow ds k j)):=hid (by rw [←hst];exact hrw.out.set j _);have hb3:Hid (Below w.heap.size w (wr.setCell ⟨w.heap.size,j,none⟩ (.int .i64 (n % z)))):=hid (hbl.out.setCell (p:=⟨w.heap.size,j,none⟩) (Nat.le_refl _) _);have hcx2:=(hb3.out.cell (p:=⟨b,off+j,none⟩) hb).trans (hr j hj);rw [hzz] at hcx2;have HQ:=hid hqn;clear hst hqn hpj hnn hzz;rw [hidx];go_wp2
   go_roundw
   case rel=>exact ⟨j,by omega,by rw [←HQ.out],by go_num,hset,hb3⟩
   case measure=>simp [intOf]
end Go.Proofs.YtijhdmidffenbaaGreatDoor.Vx
namespace Go.Proofs.YtijhdmidffenbaaGreatDoor.Vx
open Go.RowKit Vw Vb
theorem val_at:∀ {ds cs:List Int} {k:Nat},Val ds cs→k < ds.length→0≤cs.getD k 0∧cs.getD k 0 < ds.getD k 0
 | [],_,_,_,h=>by simp at h
 | _ :: _,[],_,h,_=>h.elim
 | d :: ds,c :: cs,0,h,_=>by simpa using h.1
 | d :: ds,c :: cs,k+1,h,g=>by
  have:=val_at (ds:=ds) (cs:=cs) (k:=k) h.2 (by simpa using g)
  simpa using this
def Hn (ds cs:List Int) (i:Nat) (n:Int):Prop:=0≤n∧n * pr (ds.drop i)+plc (strd (ds.drop i)) (cs.drop i)=plc (strd ds) cs
theorem Hn.zero (ds cs:List Int):Hn ds cs 0 0:=⟨by omega,by simp⟩
theorem Hn.step {ds cs:List Int} {i:Nat} {n:Int} (h:Hn ds cs i n) (hv:Val ds cs) (hi:i < ds.length):Hn ds cs (i+1) (n * ds.getD i 0+cs.getD i 0):=by
 have hl:=val_length hv;have hc:=val_at hv hi;obtain ⟨h0,h1⟩:=h;have hm:0≤n * ds.getD i 0:=Int.mul_nonneg h0 (by omega);refine ⟨by omega,?_⟩;rw [drop_next hi,drop_next (zs:=cs) (by omega)] at h1;simp only [pr,strd,plc] at h1;rw [←h1,Int.add_mul,Int.mul_assoc,Int.add_assoc]
theorem Hn.le {ds cs:List Int} {i:Nat} {n:Int} (h:Hn ds cs i n) (hp:Pos ds) (hv:Val ds cs) (hN:pr ds≤65536):n≤65536:=by
 have h1:=pr_drop (zs:=ds) (j:=i) hp;have h2:=(val_plc (ds:=ds.drop i) (cs:=cs.drop i) (fun d hd=>hp d (List.mem_of_mem_drop hd)) (val_drop i hv)).1;have h3:=(val_plc hp hv).1;have h4:n * 1≤n * pr (ds.drop i):=Int.mul_le_mul_of_nonneg_left h1.1 h.1;have:=h.2;omega
theorem Hn.all {ds cs:List Int} {n:Int} (h:Hn ds cs ds.length n) (hv:Val ds cs):n=plc (strd ds) cs:=by
 have:=h.2;rw [List.drop_length,List.drop_of_length_le (by rw [val_length hv];exact Nat.le_refl _)] at this;simp only [pr,strd,plc] at this;omega
theorem hn_pos {ds cs:List Int} {i:Nat} {n:Int} (h:Hn ds cs i n):0≤n:=h.1
attribute [local irreducible] cnt Hn Val plc strd pr
set_option maxRecDepth 100000 in
set_option maxHeartbeats 4000000 in
theorem offset_good {w:World} (d a:Value) (ds cs:List Int) (hd:IntsIn w d ds) (ha:IntsIn w a cs) (hc:Hid ((cnt ds).2=0)) (hv:Hid (Val ds cs)) :
  Calls Tryz.prog 44 #[d,a] w fun e w'=>e=.returned (.tuple #[.int .i64 (plc (strd ds) cs),.int .i64 0])∧Below w.heap.size w w':=by
 obtain ⟨a1,c1,rfl⟩:=hd.form;obtain ⟨a2,c2,rfl⟩:=ha.form;have H1:=hid hd.rowsV.2;have H2:=hid ha.rowsV.2;have HC:=hid (rcount_any hd);rw [hc.out] at HC;have hg:=cnt_good hc.out;have hl6:=hg.2.1;have HP:=hid (cnt_pos hc.out);have HB:=hid hg.1;have HN:=hid hg.2.2.2;have hcl:Hid (cs.length=ds.length):=hid (val_length hv.out);rw [hcl.out];clear hd ha hg;go_enter Tryz.func44,Tryz.ntmps44
 go_wp2_with (first | (go_at_call 14;refine HC.out.mono ?_;rintro e w' ⟨rfl,rfl⟩) | fail)
 go_loopw [8,9] (fun n i wr=>∃ (k:Nat) (z:Int),k≤ds.length∧n=.int .i64 z∧i=.int .i64 (k:Int)∧Hid (Hn ds cs k z)∧Hid (Below w.heap.size w wr)) (fun _ i _=>ds.length - (intOf i).toNat)
 case atStart=>exact ⟨0,0,Nat.zero_le _,rfl,rfl,hid (Hn.zero _ _),hid (Below.refl _ _)⟩
 case round =>
  obtain ⟨k,z,hk,rfl,rfl,hh,hb⟩:=hrel;by_cases hkl:k < ds.length
  ·have hki:(k:Int) < (ds.length:Int):=by omega
   obtain ⟨b1,o1,rfl,hb1,hr1⟩:=H1.out k hkl;obtain ⟨b2,o2,rfl,hb2,hr2⟩:=H2.out k (by rw [hcl.out];exact hkl);have x1:=(hb.out.cell (p:=⟨b1,o1+k,none⟩) hb1).trans (hr1 k hkl);have x2:=(hb.out.cell (p:=⟨b2,o2+k,none⟩) hb2).trans (hr2 k (by rw [hcl.out];exact hkl));have hva:=val_at hv.out hkl;have hst:=hh.out.step hv.out hkl;have hle:=hst.le HP.out hv.out HN.out;have hz0:0≤z:=hn_pos hh.out;have hdk:=HB.out _ (getD_mem hkl);have HST:=hid hst;generalize ds.getD k 0=d1 at *;generalize cs.getD k 0=q1 at *;have hm0:0≤z * d1:=Int.mul_nonneg hz0 (by omega);generalize hm:z * d1=m at *;have e1:IntKind.i64.wrap (z * d1)=m:=by rw [hm];exact IntWalk.i64_in _ (by omega)
   have e2:IntKind.i64.wrap (m+q1)=m+q1:=IntWalk.i64_in _ (by omega);have g1:¬ q1 < 0:=by omega
   have g2:¬ d1≤q1:=by omega
   have g1':decide (q1 < 0)=false:=by simpa using g1
   have g2':decide (d1≤q1)=false:=by simpa using g2
   clear hm hst hle;go_wp2
   go_quiet (fail)
   go_wp2
   go_quiet (fail)
   go_wp2
   go_roundw
   case rel=>exact ⟨k+1,m+q1,by omega,rfl,by go_num,HST,hid (below_drewN hb.out _)⟩
   case measure=>simp [intOf];omega
  ·obtain rfl:k=ds.length:=by omega
   have hA:=hh.out.all hv.out;subst hA;go_wp2
   go_ret2
   exact ⟨rfl,hb.out⟩
end Go.Proofs.YtijhdmidffenbaaGreatDoor.Vx
namespace Go.Proofs.YtijhdmidffenbaaGreatDoor
open Go.RowKit
set_option maxRecDepth 100000
def cutT (W:List Int) (k:Nat) (t:Tn):Tn:=(t.1,[],[(spT W t).getD k 0])
theorem ty_types {n:Nd} {ins jns:List Vl} (h:jns.map Vl.typ=ins.map Vl.typ):tyO n jns=tyO n ins:=by
 have e:∀ (l:List Vl) t,alB l t=!((l.map Vl.typ).any fun q=>q != t):=fun l t=>by unfold alB;rw [List.any_map];rfl
 have ha:∀ t,alB jns t=alB ins t:=fun t=>by rw [e,e,h]
 have hg:∀ j,(jns.getD j vlZ).typ=(ins.getD j vlZ).typ:=fun j=>by
  have e:=congrArg (fun l=>l[j]?) h;simp only [List.getElem?_map] at e;simp only [List.getD];cases h1:jns[j]? <;> cases h2:ins[j]? <;> rw [h1,h2] at e<;>simp at e ⊢
  exact e
 unfold tyO;simp only [ha,hg]
theorem cnt_nil:(cnt []).2=0:=by decide
theorem bc_nil:Vb.bcO [] []=(0,[]):=Vx.bc_self cnt_nil
theorem cut_dims {W:List Int} {k:Nat} {ts:List Tn} (j:Nat):(((ts.map (cutT W k)).map tvV).getD j vlZ).dims=[]:=by
 simp only [List.getD,List.getElem?_map];cases ts[j]? <;> rfl
theorem cut_ds {n:Nd} {ts us:List Tn} {W V:List Int} {k:Nat} (hb:BegE n us V):dsO n ((ts.map (cutT W k)).map tvV)=(0,[]):=by
 have hw:whereO [] [] []=(0,[]):=by rw [where_yes (by rw [bc_nil]),bc_nil];exact bc_nil
 rcases hb.cls with ⟨-,c⟩ | ⟨-,c⟩ | ⟨-,c⟩ | ⟨-,c⟩ | ⟨-,c⟩ | ⟨-,c⟩
 all_goals
  unfold dsO;rw [c];simp only [cut_dims]
 ·exact hw
 ·exact bc_nil
 ·exact bc_nil
theorem cut_typ {W:List Int} {k:Nat} {ts:List Tn}:((ts.map (cutT W k)).map tvV).map Vl.typ=(ts.map tvV).map Vl.typ:=by
 rw [List.map_map,List.map_map,List.map_map]
 rfl
theorem cut_first {W:List Int} {k:Nat} {ts:List Tn}:((ts.map (cutT W k)).getD 0 tn0).1=(ts.getD 0 tn0).1:=by
 cases ts<;>rfl
theorem cut_fA {n:Nd} {W:List Int} {k:Nat} {ts:List Tn}:fA n (ts.map (cutT W k))=fA n ts:=by
 unfold fA;rw [cut_first]
theorem sp_cut {W:List Int} {k:Nat} {t:Tn}:spT [] (cutT W k t)=[(spT W t).getD k 0]:=by
 unfold spT;exact Vx.spL_self cnt_nil (by show ((1:Nat):Int)=Vx.Vw.pr [];rfl)
theorem cut_pb {n:Nd} {ts:List Tn} (hb:BegE n ts (wA n ts)) {k:Nat} (hk:k < nW (wA n ts)):∀ t ∈ ts.map (cutT (wA n ts) k),pbE t.1 t.2.1 t.2.2=0:=fun t ht=>by
 obtain ⟨s,hs,rfl⟩:=List.mem_map.1 ht;obtain ⟨g1,g2,g3,g4⟩:=pbE_zero (hb.ins s hs);obtain ⟨e1,e2⟩:=(hb.spr s hs).bc;refine pbE_of g1 cnt_nil (by show ((1:Nat):Int)=Vx.Vw.pr [];rfl) (fun z hz=>?_);obtain rfl:z=(spT (wA n ts) s).getD k 0:=by simpa [cutT] using hz
 refine g4 _ ?_;unfold spT;unfold nW at hk;exact Vx.spL_mem g2 g3 hb.good e1 e2 hk
theorem beg_fol {n:Nd} {ts:List Tn} {ty:Int × Int} {ds:Int × List Int} (h:(begO n ts ty ds).1=0):folB (thenE n.attrs).1 ty.2=true:=by
 obtain ⟨h1,h2,h3⟩:=begO_yes h;obtain ⟨g1,g2,g3,g4,g5,g6,g7⟩:=outP_yes h2;cases e:folB (thenE n.attrs).1 ty.2 with
 | true=>rfl
 | false=>rw [outP_fol g1 g2 g3 g4 g5 g6 e] at h2;exact absurd h2 (by decide)
theorem cut_beg {n:Nd} {ts:List Tn} (hb:BegE n ts (wA n ts)) {k:Nat} (hk:k < nW (wA n ts)):begA n (ts.map (cutT (wA n ts) k))=(0,(tyO n (ts.map tvV)).2,[]):=by
 have h0:(begA n ts).1=0:=congrArg Prod.fst hb.beg;have hf:=beg_fol h0;obtain ⟨h1,h2,h3⟩:=begO_yes h0;obtain ⟨g1,g2,-⟩:=outP_yes h2;unfold begA;rw [ty_types cut_typ,cut_ds hb,begO_good (pbAll_of (cut_pb hb hk))];exact outP_ok hb.ok (by simpa using g2) (pbAll_inp (pbAll_of (cut_pb hb hk))) hb.ty rfl cnt_nil hf
theorem place_plain {n:Nd} {ts:List Tn} (h:(elA n ts).1=0) {k:Nat} (hk:k < nW (wA n ts)) :
  elA n (ts.map (cutT (wA n ts) k))=(0,(tyO n (ts.map tvV)).2,[],[(elA n ts).2.2.2.getD k 0]):=by
 obtain ⟨ho,hb,he,e⟩:=elA_ok h;have hbg:=cut_beg hb hk;have hw:wA n (ts.map (cutT (wA n ts) k))=[]:=by unfold wA at hbg ⊢;rw [hbg]
 have hn:nW []=1:=by unfold nW;rfl
 have hat:atA n (ts.map (cutT (wA n ts) k)) 0=atA n ts k:=by
  unfold atA;rw [hw,List.map_map];unfold rowAt;rw [List.map_map,List.map_map];refine List.map_congr_left fun t _=>?_;show (spT [] (cutT (wA n ts) k t)).getD 0 0=(spT (wA n ts) t).getD k 0;rw [sp_cut]
  rfl
 have hg:(datAt (fun k=>fA n ts (atA n ts k)) (nW (wA n ts))).getD k 0=(fA n ts (atA n ts k)).1:=by
  unfold datAt;simp [List.getD,hk]
 rw [e];dsimp only;rw [hg];unfold elA;rw [if_pos ho,hw,hn,cut_fA];have he0:errAt (fun j=>fA n ts (atA n (ts.map (cutT (wA n ts) k)) j)) 1=0:=by
  rw [errAt_next (by unfold errAt;rfl)];show (fA n ts (atA n (ts.map (cutT (wA n ts) k)) 0)).2=0;rw [hat];exact he k hk
 rw [doO_yes (by rw [hbg]) he0,hbg];unfold datAt;simp [hat]
theorem nW_len {n:Nd} {ts:List Tn} (h:(elA n ts).1=0):(elA n ts).2.2.2.length=nW (wA n ts)∧(elA n ts).2.2.1=wA n ts:=by
 obtain ⟨-,-,-,e⟩:=elA_ok h;rw [e];exact ⟨datAt_len _ _,rfl⟩
end Go.Proofs.YtijhdmidffenbaaGreatDoor
namespace Go.Proofs.YtijhdmidffenbaaGreatDoor.Vx
open Go.RowKit Vw Vb
set_option maxRecDepth 100000
theorem ownc_get:∀ {ds cs:List Int} {i:Nat},i < ds.length→cs.length=ds.length→(ownc ds cs).getD i 0=if ds.getD i 0=1 then 0 else cs.getD i 0
 | [],_,_,h,_=>by simp at h
 | _ :: _,[],_,_,h=>by simp at h
 | d :: ds,c :: cs,0,_,_=>by simp [ownc]
 | d :: ds,c :: cs,i+1,h,g=>by
  simp only [ownc,List.getD_cons_succ];exact ownc_get (by simpa using h) (by simpa using g)
theorem take_nextI {xs:List Int} {j:Nat} (h:j < xs.length):xs.take (j+1)=xs.take j++[xs.getD j 0]:=by
 rw [List.take_add_one,List.getElem?_eq_getElem h];simp [List.getD,List.getElem?_eq_getElem h]
theorem val_inI {ds cs:List Int} (hv:Val ds cs) (hd:∀ d ∈ ds,1≤d∧d≤65536):∀ z ∈ cs,InI z:=fun z hz=>by
 obtain ⟨i,hi⟩:=List.getElem?_of_mem hz;have hl:=(List.getElem?_eq_some_iff.1 hi).1;have hlen:=val_length hv;have h1:=val_at hv (k:=i) (by omega);have h2:=hd _ (getD_mem (zs:=ds) (k:=i) (by omega));have e:cs.getD i 0=z:=by simp [List.getD,hi]
 rw [e] at h1;unfold InI;omega
attribute [local irreducible] cnt pr crd ownc spP plc strd Val
set_option maxHeartbeats 8000000 in
theorem at09_any {w:World} {tt:Int} {ds x:List Int} {vd vx vc:Value} {W:List Int} {k:Nat} (hd:IntsIn w vd ds) (hx:IntsIn w vx x) (hcv:IntsIn w vc (crd W (k:Int)))
  (hc:(cnt ds).2=0) (hl:(x.length:Int)=pr ds) (hW:(cnt W).2=0) (h1:(bcO ds W).1=0) (h2:(bcO ds W).2=W) (hk:k < (pr W).toNat) :
  Calls Tryz.prog 22 #[.agg #[.int .i64 tt,vd,vx],vc] w fun e w'=>e=.returned (.int .i64 (x.getD (spP ds W k) 0))∧Below w.heap.size w w':=by
 obtain ⟨i0,hi,hz0,hz1,hz2⟩:=info_parts info_int;obtain ⟨hlw,hcm⟩:=spread_cmp h1 h2;have hpW:=cnt_pos hW;have hg:=cnt_good hc;have hv0:Val (W.drop (W.length - ds.length)) ((crd W (k:Int)).drop (W.length - ds.length)):=val_drop _ (crd_val hpW (by omega) (by omega));have hval:Val ds (ownc ds ((crd W (k:Int)).drop (W.length - ds.length))):=ownc_val hcm hv0;have hol:=val_length hval;have hsp:=spP_lt hc hW h1 h2 hk;have hcl:(crd W (k:Int)).length=W.length:=crd_length;have hplc:plc (strd ds) (ownc ds ((crd W (k:Int)).drop (W.length - ds.length)))=(spP ds W k:Int):=by
  unfold spP;omega
 have hog:∀ i,i < ds.length→(ownc ds ((crd W (k:Int)).drop (W.length - ds.length))).getD i 0=if ds.getD i 0=1 then 0 else (crd W (k:Int)).getD (W.length - ds.length+i) 0:=fun i hi=>by
  rw [ownc_get hi (by rw [List.length_drop,hcl];omega),getD_drop]
 have HVal:=hid hval;have HPL:=hid hplc;have HOG:=hid hog;have HIn:=hid (val_inI hval hg.1);have HCN:=hid hc;have hspl:spP ds W k < x.length:=by omega
 have h6:ds.length≤6:=hg.2.1;rw [←hcl] at hlw;have hac:W.length - ds.length=(crd W (k:Int)).length - ds.length:=by rw [hcl]
 rw [hac] at HVal HPL HOG HIn hol;generalize spP ds W k=sp at *;generalize crd W (k:Int)=C at *;generalize ha:C.length - ds.length=a at *;generalize ownc ds (C.drop a)=O at *;have ha':a+ds.length=C.length:=by omega
 have HD:=hid hd;have HC:=hid hcv;have HX:=hid hx;obtain ⟨ad,cd,rfl⟩:=hd.shape;obtain ⟨ax,cx,rfl⟩:=hx.shape;obtain ⟨ac,cc,rfl⟩:=hcv.shape;have hol':=hid hol;have hCl:C.length≤6:=by rw [hcl];exact (cnt_good hW).2.1
 have HTn:=hid (fun j (h:j < O.length)=>take_nextI (xs:=O) h);clear hval hplc hog hc hl hW h1 h2 hk hsp hcl hv0 hcm hpW hg hd hx hcv hlw hac ha hol;have HB1:=hid ((Below.refl w.heap.size w).alloc (Nat.le_refl _) (Obj.cells #[.int .i64 tt,.slice ad ds.length cd,.slice ax x.length cx] 46));have HA1:=hid (BoxN.new w #[.int .i64 tt,.slice ad ds.length cd,.slice ax x.length cx] 46);have hz1w:Hid ((w.alloc (Obj.cells #[.int .i64 tt,.slice ad ds.length cd,.slice ax x.length cx] 46)).heap.size=w.heap.size+1):=hid (by simp);have hA:((C.length:Int) - (ds.length:Int))=(a:Int):=by omega
 go_enter Tryz.func22,Tryz.ntmps22
 go_wp2_with fail
 clear hA;generalize World.alloc w _=W1 at HB1 HA1 hz1w ⊢;go_loopw [5,7] (fun ov i wr=>∃ j:Nat,j≤ds.length∧i=.int .i64 (j:Int)∧Hid (RowI wr W1.heap.size ov (O.take j))∧Hid ((O.take j).length=j)∧Hid (Below W1.heap.size W1 wr)) (fun _ i _=>ds.length - (intOf i).toNat)
 case atStart=>exact ⟨0,Nat.zero_le _,rfl,hid (by rw [List.take_zero];exact RowI.nil _ _),hid (by simp),hid (Below.refl _ _)⟩
 case round =>
  obtain ⟨j,hj,rfl,hR,hRl,hW⟩:=hrel;have k1:=(HA1.out.below' hW.out).three.2.1;have k2:=(HA1.out.below' hW.out).three.2.2;obtain ⟨ao,co,rfl⟩:=hR.out.form;have hrl:=hRl.out;have hsw:=hW.out.size;have HBw:=hid (HB1.out.trans (hW.out.mono HB1.out.size));by_cases hjl:j < ds.length
  ·have hji:(j:Int) < (ds.length:Int):=by omega
   obtain ⟨b1,o1,n1,hv1,hb1,hr1,-⟩:=HD.out.rows hjl;obtain ⟨rfl,-,rfl⟩:=Value.slice.inj hv1;have u1:=(HBw.out.cell (p:=⟨b1,o1+j,none⟩) hb1).trans (hr1 j hjl);obtain ⟨b2,o2,n2,hv2,hb2,hr2,-⟩:=HC.out.rows (k:=a+j) (by omega);obtain ⟨rfl,-,rfl⟩:=Value.slice.inj hv2;have u2:=(HBw.out.cell (p:=⟨b2,o2+(a+j),none⟩) hb2).trans (hr2 (a+j) (by omega));have hog:=HOG.out j hjl;have hnx:=HTn.out j (by have:=hol'.out;omega);have hcI:InI (C.getD (a+j) 0):=HC.out.wf.2 _ (getD_mem (by omega));clear hv1 hv2 hr1 hr2;generalize O.take j=zs at *;have hl2:zs.length≤j:=by omega
   clear hrl;generalize C.getD (a+j) 0=q at *;generalize ds.getD j 0=z at *;have e1:((a:Int)+(j:Int)).toNat=a+j:=by omega
   have e2:(0:Int)≤(a:Int)+(j:Int):=by omega
   have e3:(a:Int)+(j:Int) < (C.length:Int):=by omega
   have e4:IntKind.i64.wrap ((a:Int)+(j:Int))=(a:Int)+(j:Int):=IntWalk.i64_in _ (by omega);by_cases hz:z=1
   ·have hb:(z==1)=true:=by simp [hz]
    rw [if_pos hz] at hog;have HNX:=hid (by rw [hog] at hnx;exact hnx);clear hz hog hnx u2;go_wp2_with (at_builtin;refine wpList_append_own _ rfl _ _ 27 rfl W1.heap.size 3 i0 (.int .i64 0) 1 8 Tryz.underlying27 hi hz0 hz1 hz2 rfl (by decide) _ _ _ rfl ((show wr.ownsRow W1.heap.size 3 1 _ _ _ from (show RowI wr W1.heap.size _ zs from hR.out)).alloc _) ⟨wr.heap.size,0,none⟩ 1 1 (#[.int .i64 0]:Array Value).toList rfl rfl (World.news_of_block (heap_alloc_new wr _)) (by simp [Value.oneCell']) ?A3 ?A4 ?A5 ?_)
    case A3=>unfold maxLen;omega
    case A4=>omega
    case A5=>simp;omega
    intro v' w4 hown' hgrow _;have hb4:Hid (Below W1.heap.size W1 w4):=hid ((hW.out.alloc hsw _).grown hgrow (by simp;omega) fun g hg=>(World.ownsRow.lt hR.out g hg).1);have ho4:Hid (RowI w4 W1.heap.size v' (O.take (j+1))):=hid (by rw [HNX.out];exact hR.out.push hown');clear hown' hgrow;go_wp2_with fail
    go_roundw
    case rel=>exact ⟨j+1,by omega,by go_num,ho4,hid (by rw [List.length_take];have:=hol'.out;omega),hb4⟩
    case measure=>simp [intOf];omega
   ·have hb:(z==1)=false:=by simpa using hz
    rw [if_neg hz] at hog;have HNX:=hid (by rw [hog] at hnx;exact hnx);clear hz hog hnx;go_wp2_with (at_builtin;refine wpList_append_own _ rfl _ _ 27 rfl W1.heap.size 3 i0 (.int .i64 0) 1 8 Tryz.underlying27 hi hz0 hz1 hz2 rfl (by decide) _ _ _ rfl ((show wr.ownsRow W1.heap.size 3 1 _ _ _ from (show RowI wr W1.heap.size _ zs from hR.out)).alloc _) ⟨wr.heap.size,0,none⟩ 1 1 (#[.int .i64 q]:Array Value).toList rfl rfl (World.news_of_block (heap_alloc_new wr _)) (by simp [Value.oneCell']) ?A3 ?A4 ?A5 ?_)
    case A3=>unfold maxLen;omega
    case A4=>omega
    case A5=>simp;omega
    intro v' w4 hown' hgrow _;have hb4:Hid (Below W1.heap.size W1 w4):=hid ((hW.out.alloc hsw _).grown hgrow (by simp;omega) fun g hg=>(World.ownsRow.lt hR.out g hg).1);have ho4:Hid (RowI w4 W1.heap.size v' (O.take (j+1))):=hid (by rw [HNX.out];exact hR.out.push hown');clear hown' hgrow;go_wp2_with fail
    go_roundw
    case rel=>exact ⟨j+1,by omega,by go_num,ho4,hid (by rw [List.length_take];have:=hol'.out;omega),hb4⟩
    case measure=>simp [intOf];omega
  ·have hji:¬ (j:Int) < (ds.length:Int):=by omega
   obtain rfl:j=ds.length:=by omega
   have hO:Hid (IntsIn wr (.slice ao (O.take ds.length).length co) O):=hid (by
    have:=hR.out;rw [List.take_of_length_le (by have:=hol'.out;omega)] at this ⊢;exact this.ints (by have:=hol'.out;omega) HIn.out)
   have HOf:=hid (offset_good _ _ ds O (HD.out.below HBw.out) hO.out HCN HVal);rw [HPL.out] at HOf;obtain ⟨b3,o3,n3,hv3,hb3,hr3,-⟩:=HX.out.rows hspl;obtain ⟨rfl,-,rfl⟩:=Value.slice.inj hv3;have c3:=hr3 sp hspl;clear hv3 hr3 hjl hR hO;rw [hRl.out] at HOf;go_wp2_with fail
   refine HOf.out.mono ?_;rintro e w5 ⟨rfl,B5⟩;have HB5:=hid (HBw.out.trans (B5.mono HBw.out.size));have m2:=((HA1.out.below' hW.out).below' B5).three.2.2;have u3:=(HB5.out.cell (p:=⟨b3,o3+sp,none⟩) hb3).trans c3;have hsi:(sp:Int) < (x.length:Int):=by omega
   clear B5 c3 k1 k2;obtain ⟨r,hre⟩:∃ r,x.getD sp 0=r:=⟨_,rfl⟩;rw [hre] at u3;have HRe:=hid hre;clear hre;go_wp2
   go_ret
   rw [HRe.out];exact ⟨rfl,HB5.out⟩
end Go.Proofs.YtijhdmidffenbaaGreatDoor.Vx
namespace Go.Proofs.YtijhdmidffenbaaGreatDoor
open Go.RowKit
set_option maxRecDepth 100000
def rowT:List Tn→List Value→List Value
 | x :: l,d :: ds=>[.int .i64 x.1,.slice none 0 0,d]++rowT l ds
 | _,_=>[]
theorem rowT_snoc:∀ {l:List Tn} {ds:List Value} (x:Tn) (d:Value),l.length=ds.length→rowT (l++[x]) (ds++[d])=rowT l ds++[.int .i64 x.1,.slice none 0 0,d]
 | [],[],x,d,_=>by simp [rowT]
 | [],_ :: _,_,_,h=>by simp at h
 | _ :: _,[],_,_,h=>by simp at h
 | y :: l,e :: ds,x,d,h=>by
  simp only [List.cons_append,rowT];rw [rowT_snoc x d (by simpa using h),List.append_assoc]
theorem rowT_get:∀ {l:List Tn} {ds:List Value} {j:Nat} {x:Tn} {d:Value} {i:Nat} {u:Value},l[j]?=some x→ds[j]?=some d→([.int .i64 x.1,.slice none 0 0,d]:List Value)[i]?=some u→(rowT l ds)[j * 3+i]?=some u
 | [],_,_,_,_,_,_,h,_,_=>by simp at h
 | _ :: _,[],_,_,_,_,_,_,h,_=>by simp at h
 | y :: l,e :: ds,0,x,d,i,u,h1,h2,h3=>by
  obtain rfl:=Option.some.inj h1;obtain rfl:=Option.some.inj h2;have hi:=(List.getElem?_eq_some_iff.1 h3).1;rw [rowT,Nat.zero_mul,Nat.zero_add,List.getElem?_append_left hi];exact h3
 | y :: l,e :: ds,j+1,x,d,i,u,h1,h2,h3=>by
  rw [rowT,List.getElem?_append_right (by simp;omega)];have:(j+1) * 3+i - ([.int .i64 y.1,.slice none 0 0,e]:List Value).length=j * 3+i:=by simp;omega
  rw [this];exact rowT_get (by simpa using h1) (by simpa using h2) h3
structure TensO (w:World) (B:Nat) (l:List Tn) (v:Value) (ds:List Value):Prop where
 len:ds.length=l.length
 row:w.ownsRow B 46 3 v l.length (rowT l ds)
 att:∀ (j:Nat) x d,l[j]?=some x→ds[j]?=some d→(x.2.1=[]∧InI x.1∧x.2.2.length≤1000∧∀ z ∈ x.2.2,InI z)∧w.ownsRow B 2 1 d x.2.2.length (x.2.2.map (Value.int .i64))
theorem TensO.below {w w':World} {B:Nat} {l:List Tn} {v:Value} {ds:List Value} (h:TensO w B l v ds) (hB:Below w.heap.size w w'):TensO w' B l v ds :=
 ⟨h.len,owns_below h.row hB,fun j x d h1 h2=>⟨(h.att j x d h1 h2).1,owns_below (h.att j x d h1 h2).2 hB⟩⟩
theorem TensO.sl {w:World} {B:Nat} {l:List Tn} {v:Value} {ds:List Value} (h:TensO w B l v ds) (hl:l.length≤1000):SlIn 3 rdTensor w v l:=by
 by_cases h0:l=[]
 ·subst h0;obtain ⟨a,c,rfl⟩:=owns_form h.row;exact .empty a c
 ·have hp:0 < l.length:=List.length_pos_iff.2 h0;obtain ⟨g,cap,e,hB,hg⟩:=World.ownsRow.form h.row hp;have hr:=h.row;subst e;have hblk:=(World.ownsRow.lt hr g rfl).2;have hcap:l.length≤cap:=by
   obtain ⟨_,h1 | ⟨g',cap',cur,e,_,_,hc,_⟩⟩:=hr
   ·omega
   ·obtain ⟨_,_,rfl⟩:=Value.slice.inj e;exact hc
  refine .row g 0 cap l h0 hcap hblk (fun j x hj=>?_) (by omega);have hjl:=(List.getElem?_eq_some_iff.1 hj).1;obtain ⟨d,hd⟩:∃ d,ds[j]?=some d:=⟨_,List.getElem?_eq_getElem (by rw [h.len];exact hjl)⟩;obtain ⟨⟨b1,b2,b3,b4⟩,b5⟩:=h.att j x d hj hd;refine ⟨[.int .i64 x.1,.slice none 0 0,d],rfl,⟨.slice none 0 0,d,rfl,b2,by rw [b1];exact .empty none 0,IntsIn.of_owns b5 (by omega) b4⟩,fun i u hu=>?_⟩;have:=World.ownsRow.cells hr (g:=g) rfl (j * 3+i) u (rowT_get hj hd hu);rw [show (⟨g,0,none⟩:Addr).add (j * 3+i)=⟨g,j * 3+i,none⟩ from by rw [add_some,Nat.zero_add]] at this;rw [show 0+j * 3+i=j * 3+i by omega];exact this
theorem owns_one {W:World} {b B:Nat} {z:Int} (h:BoxN W b #[.int .i64 z] 2) (hb:B≤b):W.ownsRow B 2 1 (.slice (some ⟨b,0,none⟩) 1 1) 1 [.int .i64 z] :=
 ⟨rfl,.inr ⟨b,1,#[.int .i64 z],rfl,hb,h,Nat.le_refl _,by unfold maxLen;omega,rfl,rfl⟩⟩
theorem ints_rowat {w:World} {b:Nat} {xs:List Int} (h:Vx.RowAt w b xs) (hl:xs.length≤1000) (hi:∀ z ∈ xs,InI z):IntsIn w (.slice (some ⟨b,0,none⟩) xs.length xs.length) xs:=by
 by_cases h0:xs=[]
 ·subst h0;exact .empty _ _
 ·refine .row b 0 xs.length xs h0 (Nat.le_refl _) h.lt (fun j hj=>?_) (by omega) hi;rw [Nat.zero_add];exact h.cell hj
theorem info_tens:(Tryz.prog.info? 46).map (fun i=>(i.zero,i.size,i.bytes))=some (some (.agg #[.int .i64 0,.slice none 0 0,.slice none 0 0]),3,56):=by kernel_rfl
theorem crd_in {W:List Int} {k:Nat} (hW:(cnt W).2=0) (hk:k < nW W):(Vx.Vw.crd W (k:Int)).length=W.length∧W.length≤6∧∀ z ∈ Vx.Vw.crd W (k:Int),InI z:=by
 have hg:=Vx.cnt_good hW;unfold nW at hk;exact ⟨Vx.Vw.crd_length,hg.2.1,Vx.val_inI (Vx.crd_val (Vx.cnt_pos hW) (by omega) (by omega)) hg.1⟩
theorem at_spT {W:List Int} {k:Nat} {t:Tn} (hk:k < nW W):(spT W t).getD k 0=t.2.2.getD (Vx.spP t.2.1 W k) 0:=by
 unfold spT;unfold nW at hk;exact Vx.spL_get hk
attribute [local irreducible] elA pbE cnt spT nW Vx.Vw.crd Vx.spP Vx.Vw.pr
set_option maxHeartbeats 16000000 in
theorem place09_any {w:World} {vn vv:Value} {n:Nd} {ts:List Tn} {at_:Int} (hn:NodeV w vn n) (hs:SlIn 3 rdTensor w vv ts) (hG:Glob w) (hax:(intsP n.attrs nmAxes []).length * 8+48≤140737488351232) (hat:InI at_) :
  Calls Tryz.prog 6 #[vn,vv,.int .i64 at_] w fun e w'=>e=.returned (.bool true)∧Below w.heap.size w w':=by
 obtain ⟨i0,hi,hz0,hz1,hz2⟩:=info_parts info_tens;have HNV:=hid hn;obtain ⟨vin,vat,rfl,hm⟩:=hn;obtain ⟨a1,c1,rfl⟩:=hm.is.form;obtain ⟨a2,c2,rfl⟩:=hm.ia.form;obtain ⟨a3,c3,rfl⟩:=hs.form;have HS:=hid hs;have HG:=hid hG;have HAX:=hid hax;clear hm hs hG hax;have HLv:=hid (fun (W:World) (hB:Below w.heap.size w W)=>live09_any (HG.out.below hB));have HOk:=hid (fun h=>elA_ok (n:=n) (ts:=ts) h);have HPl:=hid (fun h k hk=>place_plain (n:=n) (ts:=ts) h (k:=k) hk);have HNw:=hid (fun h=>nW_len (n:=n) (ts:=ts) h);unfold Nd.val at HNV ⊢;have HB1:=hid ((Below.refl w.heap.size w).alloc (Nat.le_refl _) (Obj.cells #[.string n.op,.string n.name,.slice a1 n.ins.length c1,.string n.out,.slice a2 n.attrs.length c2] 25));have HA1:=hid (BoxN.new w #[.string n.op,.string n.name,.slice a1 n.ins.length c1,.string n.out,.slice a2 n.attrs.length c2] 25);go_enter Tryz.func6,Tryz.ntmps6
 go_wp2_with fail
 generalize World.alloc w _=W1 at HB1 HA1 ⊢;refine (small09_any (tensors_below HS.out HB1.out)).mono ?_;rintro e w2 ⟨⟨b,rfl⟩,B2⟩;have HB2:=hid (HB1.out.trans (B2.mono HB1.out.size));have HA2:=hid (HA1.out.below' B2);clear B2 HA1 HB1;cases b
 case false =>
  go_wp2_with fail
  refine (HLv.out _ HB2.out).mono ?_;rintro e w3 ⟨rfl,B3⟩;have HB3:=hid (HB2.out.trans (B3.mono HB2.out.size));clear B3;go_wp2
  go_ret
  exact ⟨rfl,HB3.out⟩
 obtain ⟨k0,k1,k2,k3,k4⟩:=HA2.out.five;go_wp2_with fail
 clear k0 k1 k2 k3 k4;refine (do_allU (n:=n) (ts:=ts) (HNV.out.below HB2.out) (tensors_below HS.out HB2.out) (HG.out.below HB2.out) HAX.out).mono ?_;intro e w3 hu;obtain ⟨p1,hp1⟩:∃ o,elA n ts=o:=⟨_,rfl⟩;rw [hp1] at hu;rw [hp1] at HOk HPl HNw;clear hp1;obtain ⟨c,t,d,x⟩:=p1;obtain ⟨vd3,vx3,rfl,hd3,hx3,-,B3⟩:=hu.out;clear hu;have HB3:=hid (HB2.out.trans (B3.mono HB2.out.size));have HA3:=hid (HA2.out.below' B3);have HD3:=hid hd3;have HX3:=hid hx3;have hxl:=hx3.wf.1;obtain ⟨a4,c4,rfl⟩:=hd3.shape;obtain ⟨a5,c5,rfl⟩:=hx3.shape;clear hd3 hx3 B3 HA2;have HB34:Hid (Below w3.heap.size w3 (w3.alloc (Obj.cells #[.int .i64 t,.slice a4 d.length c4,.slice a5 x.length c5] 46))):=hid ((Below.refl _ w3).alloc (Nat.le_refl _) _);have HB4:Hid (Below w.heap.size w (w3.alloc (Obj.cells #[.int .i64 t,.slice a4 d.length c4,.slice a5 x.length c5] 46))):=hid (HB3.out.trans (HB34.out.mono HB3.out.size));have HU:=hid (BoxN.new w3 #[.int .i64 t,.slice a4 d.length c4,.slice a5 x.length c5] 46);have HA4:=hid (HA3.out.below' HB34.out);have HD4:=hid (HD3.out.below HB34.out);have HX4:=hid (HX3.out.below HB34.out);clear HD3 HX3 HA3 HB34;by_cases hc:c=0
 case neg =>
  have hb:(c != 0)=true:=by simpa using hc
  clear hc;go_wp2_with fail
  generalize w3.alloc (Obj.cells #[.int .i64 t,.slice a4 d.length c4,.slice a5 x.length c5] 46)=w4 at HB4 ⊢;refine (HLv.out _ HB4.out).mono ?_;rintro e w5 ⟨rfl,B5⟩;have HB5:=hid (HB4.out.trans (B5.mono HB4.out.size));clear B5;go_wp2
  go_ret
  exact ⟨rfl,HB5.out⟩
 obtain ⟨-,hbe,-,hel⟩:=HOk.out hc;obtain ⟨hnw,hwd⟩:=HNw.out hc;have HP2:=hid (HPl.out hc);have hty:=congrArg (fun o=>o.2.1) hel;subst hc;dsimp only at hnw hwd hty;rw [←hwd] at hnw hbe HP2;rw [←hty] at HP2;have HBe:=hid hbe;have HN2:=hid hnw;clear HOk hbe hnw hwd hel hty HNw HPl;by_cases hx0:x.length=0
 ·have hxn:x=[]:=List.length_eq_zero_iff.1 hx0;subst hxn;clear hx0;go_wp2_with fail
  generalize w3.alloc (Obj.cells #[.int .i64 t,.slice a4 d.length c4,.slice a5 ([]:List Int).length c5] 46)=w4 at HB4 ⊢;refine (HLv.out _ HB4.out).mono ?_;rintro e w5 ⟨rfl,B5⟩;have HB5:=hid (HB4.out.trans (B5.mono HB4.out.size));clear B5;go_wp2
  go_ret
  exact ⟨rfl,HB5.out⟩
 have hxp:0 < x.length:=by omega
 have hbx:((x.length:Int)==0)=false:=by rw [beq_eq_false_iff_ne];omega
 have hat':-9223372036854775808≤at_∧at_≤9223372036854775807:=hat;obtain ⟨k,hkl,hkv⟩:∃ k:Nat,k < x.length∧(if at_ < 0 then -(at_+1) else at_) % (x.length:Int)=(k:Int):=by
  have h1:=Int.emod_nonneg (if at_ < 0 then -(at_+1) else at_) (show (x.length:Int)≠0 by omega);have h2:=Int.emod_lt_of_pos (if at_ < 0 then -(at_+1) else at_) (show (0:Int) < (x.length:Int) by omega);exact ⟨((if at_ < 0 then -(at_+1) else at_) % (x.length:Int)).toNat,by omega,by omega⟩
 have HKl:=hid hkl;have HP3:=hid (HP2.out k (by rw [←HN2.out];exact hkl));have HCr:=hid (crd_in HBe.out.good (k:=k) (by rw [←HN2.out];exact hkl));have HKp:Hid ((k:Int) < Vx.Vw.pr d):=hid (by have h:=HN2.out;unfold nW at h;omega);obtain ⟨u0,u1,u2⟩:=HU.out.three;have hn1:at_ < 0→IntKind.i64.wrap (at_+1)=at_+1∧IntKind.i64.wrap (-(at_+1))=-(at_+1)∧0 ≤ -(at_+1):=fun h=>⟨IntWalk.i64_in _ (by omega),IntWalk.i64_in _ (by omega),by omega⟩;have hn2:¬ at_ < 0→0≤at_:=fun h=>by omega
 by_cases hneg:at_ < 0
 all_goals
  first
   | (rw [if_pos hneg] at hkv;obtain ⟨m1,m2,m3⟩:=hn1 hneg)
   | (rw [if_neg hneg] at hkv;have m3:=hn2 hneg)
  clear hn1 hn2 hat hat';have hkt:=Int.tmod_eq_emod_of_nonneg (b:=(x.length:Int)) m3;rw [hkv] at hkt;have HKT:=hid hkt
  try rw [Int.neg_tmod] at hkt
  have HKV:=hid hkv;clear hkv hkt;go_wp2_with fail
  have hkt:=HKT.out;have hkv:=HKV.out
  try rw [Int.neg_tmod] at hkt
  first
   | rw [hkt]
   | rw [hkv]
  clear u0 u1 u2 hkv hkt HKT HKV hneg
  try clear m1 m2
  clear m3;generalize w3.alloc (Obj.cells #[.int .i64 t,.slice a4 d.length c4,.slice a5 x.length c5] 46)=w4 at HB4 HU HA4 HD4 HX4 ⊢;generalize w3.heap.size=U2 at HU ⊢;refine (Vx.coords_good _ d (k:Int) HD4.out (by omega) HKp (hid HBe.out.good)).mono ?_;rintro e w5 ⟨rfl,hrow,B5⟩;have HB5:=hid (HB4.out.trans (B5.mono HB4.out.size));have HU5:=hid (HU.out.below' B5);have HA5:=hid (HA4.out.below' B5);have HX5:=hid (HX4.out.below B5);have hc5:=ints_rowat hrow (by have:=HCr.out;omega) HCr.out.2.2;rw [HCr.out.1] at hc5;have HC5:=hid hc5;clear B5 hrow hc5 HU HA4 HD4 HX4;generalize w4.heap.size=cb at HC5 ⊢;have hm3:ts.length≤3:=by have:=HBe.out.ar;unfold arE at this;split at this<;>(try split at this)<;>omega
  go_wp2_with fail
  go_loopw [11,12] (fun ov i wr=>∃ (j:Nat) (dv:List Value),j≤ts.length∧i=.int .i64 (j:Int)∧Hid (TensO wr w5.heap.size ((ts.map (cutT d k)).take j) ov dv)∧Hid (((ts.map (cutT d k)).take j).length=j)∧Hid (Below w5.heap.size w5 wr)) (fun _ i _=>ts.length - (intOf i).toNat)
  case atStart=>exact ⟨0,[],Nat.zero_le _,rfl,hid ⟨rfl,World.ownsRow_nil _ _ _ _,by simp⟩,hid rfl,hid (Below.refl _ _)⟩
  case round =>
   obtain ⟨j,dv,hj,rfl,hV,hL,hW⟩:=hrel;have HBw:=hid (HB5.out.trans (hW.out.mono HB5.out.size));by_cases hjl:j < ts.length
   ·have hji:(j:Int) < (ts.length:Int):=by omega
    obtain ⟨y,hy⟩:∃ y,ts[j]?=some y:=⟨_,List.getElem?_eq_getElem hjl⟩;obtain ⟨b,off,cap,vd,vx,hv,hb,c0,c1',c2',h1,h2,h3⟩:=tensor_at HS.out hy;obtain ⟨rfl,-,rfl⟩:=Value.slice.inj hv;have hym:=List.mem_of_getElem? hy;obtain ⟨g1,g2,g3,g4⟩:=pbE_zero (HBe.out.ins y hym);obtain ⟨e1,e2⟩:=(HBe.out.spr y hym).bc;have HZ:Hid (InI ((spT d y).getD k 0)):=hid (spT_in (h3.wf.2) k);have HAt:Hid (∀ W,Below wr.heap.size wr W→Calls Tryz.prog 22 #[.agg #[.int .i64 y.1,vd,vx],.slice (some ⟨cb,0,none⟩) d.length d.length] W fun e w'=>e=.returned (.int .i64 ((spT d y).getD k 0))∧Below W.heap.size W w'):=hid fun W hB=>by
     rw [at_spT (by rw [←HN2.out];exact HKl.out)];have hBW:=HBw.out.trans (hB.mono HBw.out.size);exact Vx.at09_any (h2.below hBW) (h3.below hBW) (HC5.out.below (hW.out.trans (hB.mono hW.out.size))) g2 g3 HBe.out.good e1 e2 (by have h:=HN2.out;unfold nW at h;have:=HKl.out;omega)
    have HSy:Hid (∀ W',Below wr.heap.size wr W'→W'.cell? ⟨b,off+j * 3,none⟩=some (.int .i64 y.1)∧W'.cell? ⟨b,off+j * 3+1,none⟩=some vd∧W'.cell? ⟨b,off+j * 3+2,none⟩=some vx):=hid fun W' h=>by
     have hB:=HBw.out.trans (h.mono HBw.out.size);exact ⟨(hB.cell (p:=⟨b,off+j * 3,none⟩) hb).trans c0,(hB.cell (p:=⟨b,off+j * 3+1,none⟩) hb).trans c1',(hB.cell (p:=⟨b,off+j * 3+2,none⟩) hb).trans c2'⟩
    have HTy:=hid h1;have HY:=hid hy;clear c0 c1' c2' h1 h2 h3 hv hy g1 g2 g3 g4 e1 e2 hym;have HCut:Hid (cutT d k y=(y.1,[],[(spT d y).getD k 0])):=hid rfl;generalize (spT d y).getD k 0=z at *;go_wp2_with fail
    refine wp_region_plan 15 [0,1,2,3,4,5,6,7,8,9,10,11,12,13,14] (fun W'=>Below wr.heap.size wr W') (by kernel_rfl) (by kernel_rfl) (fun _ d _ _ _ h=>by cases d<;>exact h) (Below.refl _ _).drew ?_;have B0:Hid (Below wr.heap.size wr wr.drew):=hid (Below.refl _ _).drew;generalize wr.drew=wD at B0 ⊢
    repeat
     refine plan_read (v:=?_) rfl rfl (Or.inl ⟨by rfl,?_⟩) ?_;rotate_left
     ·intro w' hSw;obtain ⟨s0,s1,s2⟩:=HSy.out w' hSw;go_simp
      try with_reducible rfl
     try simp only [Act.put,List.getElem_toArray,List.getElem_cons_zero,List.getElem_cons_succ,List.setIfInBounds_toArray,List.set_cons_zero,List.set_cons_succ]
    refine plan_act rfl rfl (fun K' hK=>?_);go_simp
    refine (HAt.out _ B0.out).mono ?_;rintro e w6 ⟨rfl,B⟩;have B1:=hid (B0.out.trans (B.mono B0.out.size));refine hK.out _ _ B1.out ?_;clear hK K' B;refine plan_act rfl rfl (fun K' hK=>?_);go_simp
    have B2:Hid (Below wr.heap.size wr (w6.alloc (.cells #[.int .i64 z] 2))):=hid (B1.out.alloc B1.out.size _);have HZb:=hid (BoxN.new w6 #[.int .i64 z] 2);have hs6:=B1.out.size;refine hK.out _ _ B2.out ?_;clear hK K';generalize w6.alloc (.cells #[.int .i64 z] 2)=w7 at B2 HZb ⊢;generalize w6.heap.size=P at HZb hs6 ⊢
    repeat
     refine plan_read (v:=?_) rfl rfl (Or.inl ⟨by rfl,?_⟩) ?_;rotate_left
     ·intro w' hSw;go_simp
      try with_reducible rfl
     try simp only [Act.put,List.getElem_toArray,List.getElem_cons_zero,List.getElem_cons_succ,List.setIfInBounds_toArray,List.set_cons_zero,List.set_cons_succ]
    refine plan_act rfl rfl (fun K' hK=>?_);go_simp
    refine hK.out _ _ (B2.out.alloc B2.out.size _) ?_;clear hK K';refine plan_tail rfl ?_;simp only [List.toList_toArray,List.drop_succ_cons,List.drop_zero];have hlk:=hL.out;have hs7:=B2.out.size;have hsw:=hW.out.size;have HV7:=hid (hV.out.below B2.out);go_wp2_with (at_builtin;refine wpList_append_own _ rfl _ _ 42 rfl w5.heap.size 46 i0 (.agg #[.int .i64 0,.slice none 0 0,.slice none 0 0]) 3 56 Tryz.underlying42 hi hz0 hz1 hz2 rfl (by decide) _ _ _ rfl (HV7.out.row.alloc _) ⟨w7.heap.size,0,none⟩ 1 1 (#[.int .i64 y.1,.slice none 0 0,.slice (some ⟨P,0,none⟩) 1 1]:Array Value).toList rfl rfl (World.news_of_block (heap_alloc_new w7 _)) (by simp [Value.oneCell']) (by unfold maxLen;omega) (by omega) (by simp;omega) ?_)
    intro v' w8 hown' hgrow _;obtain ⟨a6,c6,rfl⟩:=owns_form hown';have hrE:Hid ((w7.alloc (.cells #[.int .i64 y.1,.slice none 0 0,.slice (some ⟨P,0,none⟩) 1 1] 46)).ownsRow w5.heap.size 46 3 _ _ (rowT ((ts.map (cutT d k)).take j) dv)):=hid (HV7.out.row.alloc _);have hBE:Below w7.heap.size w7 (w7.alloc (.cells #[.int .i64 y.1,.slice none 0 0,.slice (some ⟨P,0,none⟩) 1 1] 46)):=(Below.refl _ _).alloc (Nat.le_refl _) _;have hT:(ts.map (cutT d k)).take (j+1)=(ts.map (cutT d k)).take j++[(y.1,[],[z])]:=by rw [List.take_add_one,List.getElem?_map,HY.out,Option.map_some,HCut.out];rfl
    have hoz:=owns_below (owns_one HZb.out (by omega:w5.heap.size≤P)) hBE;have HV8:Hid (TensO w8 w5.heap.size ((ts.map (cutT d k)).take (j+1)) (.slice a6 (j+1) c6) (dv++[.slice (some ⟨P,0,none⟩) 1 1])):=hid {
     len:=by rw [hT,List.length_append,List.length_append,HV7.out.len];rfl
     row:=by
      rw [hT,rowT_snoc _ _ HV7.out.len.symm,List.length_append,hlk];exact hown'
     att:=fun i r q h1 h2=>by
      rw [hT] at h1;by_cases hil:i < ((ts.map (cutT d k)).take j).length
      ·rw [List.getElem?_append_left hil] at h1;rw [List.getElem?_append_left (by rw [HV7.out.len];exact hil)] at h2;have ha:=HV7.out.att i r q h1 h2;exact ⟨ha.1,(owns_below ha.2 hBE).kept hgrow (owns_apart (owns_below ha.2 hBE) hrE.out (by decide))⟩
      ·rw [List.getElem?_append_right (by omega)] at h1;rw [List.getElem?_append_right (by rw [HV7.out.len];omega),HV7.out.len] at h2;have hj0:i - ((ts.map (cutT d k)).take j).length=0:=by
        rcases Nat.eq_zero_or_pos (i - ((ts.map (cutT d k)).take j).length) with h | h
        ·exact h
        ·rw [List.getElem?_eq_none (by simp;omega)] at h1;cases h1
       rw [hj0] at h1 h2;obtain rfl:=Option.some.inj h1;obtain rfl:=Option.some.inj h2;exact ⟨⟨rfl,HTy.out,by simp,fun q hq=>by obtain rfl:q=z:=(by simpa using hq);exact HZ.out⟩,hoz.kept hgrow (owns_apart hoz hrE.out (by decide))⟩ }
    have HW8:Hid (Below w5.heap.size w5 w8):=hid (((hW.out.trans (B2.out.mono hsw)).alloc (by omega) _).grown hgrow (by simp;omega) (fun g hg=>by have:=(hrE.out.lt g hg).1;omega));clear hown' hgrow hrE hBE hT hoz;go_wp2
    go_roundw
    case rel=>exact ⟨j+1,_,by omega,by go_num,HV8,hid (by rw [List.length_take,List.length_map];omega),HW8⟩
    case measure=>simp [intOf];omega
   ·have hji:¬ (j:Int) < (ts.length:Int):=by omega
    obtain rfl:j=ts.length:=by omega
    have hV':=hV.out;rw [List.take_of_length_le (by simp)] at hV';obtain ⟨av,cv,hve⟩:=owns_form hV'.row;have HSL:=hid (hV'.sl (by simp;omega));rw [hve] at HSL;have hve':Hid (_=_):=hid hve;subst hve;rw [List.length_map] at HSL;clear hV' hve' hV hL hjl;rw [List.length_map];obtain ⟨k0,k1,k2,k3,k4⟩:=(HA5.out.below' hW.out).five;go_wp2_with fail
    clear k0 k1 k2 k3 k4;refine (do_allU (n:=n) (ts:=ts.map (cutT d k)) (HNV.out.below HBw.out) HSL.out (HG.out.below HBw.out) HAX.out).mono ?_;intro e w9 hu;rw [HP3.out] at hu;obtain ⟨vd9,vx9,rfl,hd9,hx9,-,B9⟩:=hu.out;clear hu;have HB9:=hid (HBw.out.trans (B9.mono HBw.out.size));obtain ⟨ad9,cd9,rfl⟩:=hd9.shape;obtain ⟨g9,o9,c9,hv9,hg9,hr9,-⟩:=hx9.rows (k:=0) (by simp);obtain rfl:vx9=.slice (some ⟨g9,o9,none⟩) 1 c9:=hv9;have hr9:=hr9 0 (by simp);obtain ⟨gx,ox,cx,hvx,hgx,hrx,-⟩:=HX5.out.rows (k:=k) HKl.out;obtain ⟨rfl,-,rfl⟩:=Value.slice.inj hvx;have hrx:=hrx k HKl.out;have hB59:=hW.out.trans (B9.mono hW.out.size);have hU9:=HU5.out.below' hB59;have hx9c:=(hB59.cell (p:=⟨gx,ox+k,none⟩) hgx).trans hrx;have HKI:Hid ((k:Int) < (x.length:Int)):=hid (by have:=HKl.out;omega);have hki:=HKI.out;have hk0:(0:Int)≤(k:Int):=by omega
    have hB10:Below w9.heap.size w9 (w9.alloc (Obj.cells #[.int .i64 t,.slice ad9 ([]:List Int).length cd9,.slice (some ⟨g9,o9,none⟩) 1 c9] 46)):=(Below.refl _ _).alloc (Nat.le_refl _) _;have hu0:BoxN (w9.alloc (Obj.cells #[.int .i64 t,.slice ad9 ([]:List Int).length cd9,.slice (some ⟨g9,o9,none⟩) 1 c9] 46)) w9.heap.size #[.int .i64 t,.slice ad9 ([]:List Int).length cd9,.slice (some ⟨g9,o9,none⟩) 1 c9] 46:=BoxN.new _ _ _;have hU10:=hU9.below' hB10;have h9:=(hB10.cell (p:=⟨g9,o9+0,none⟩) hg9).trans hr9;have hx10:=(hB10.cell (p:=⟨gx,ox+k,none⟩) (by have:=hB59.size;show gx < _;omega)).trans hx9c;rw [Nat.add_zero] at h9;have HSr:Hid (∀ W',Below (w9.alloc (Obj.cells #[.int .i64 t,.slice ad9 ([]:List Int).length cd9,.slice (some ⟨g9,o9,none⟩) 1 c9] 46)).heap.size (w9.alloc (Obj.cells #[.int .i64 t,.slice ad9 ([]:List Int).length cd9,.slice (some ⟨g9,o9,none⟩) 1 c9] 46)) W'→W'.cell? ⟨w9.heap.size,2,none⟩=some (.slice (some ⟨g9,o9,none⟩) 1 c9)∧W'.cell? ⟨U2,2,none⟩=some (.slice (some ⟨gx,ox,none⟩) x.length c5)∧W'.cell? ⟨g9,o9,none⟩=some (.int .i64 (x.getD k 0))∧W'.cell? ⟨gx,ox+k,none⟩=some (.int .i64 (x.getD k 0))):=hid fun W' h =>
     ⟨(hu0.below' h).cell 2 rfl,(hU10.below' h).cell 2 rfl,(h.cell (p:=⟨g9,o9,none⟩) (by have:=hB10.size;show g9 < _;omega)).trans h9,(h.cell (p:=⟨gx,ox+k,none⟩) (by have h1:=hB59.size;have h2:=hB10.size;show gx < _;omega)).trans hx10⟩
    have HB10:=hid (HB9.out.trans (hB10.mono HB9.out.size));generalize x.getD k 0=z at HSr;clear hrx hr9 hU9 hx9c hu0 hU10 h9 hx10 hd9 hx9 hB59 B9 hvx hB10 HP3;go_wp2_with fail
    generalize w9.alloc (Obj.cells #[.int .i64 t,.slice ad9 ([]:List Int).length cd9,.slice (some ⟨g9,o9,none⟩) 1 c9] 46)=W10 at HSr HB10 ⊢;generalize w9.heap.size=U9 at HSr ⊢;refine wp_region_plan 23 [0,1,2,3,4,5,6,7,8,9,10,11,12,13,14,15,16,17,18,19,20,21,22] (fun W'=>Below W10.heap.size W10 W') (by kernel_rfl) (by kernel_rfl) (fun _ d _ _ _ h=>by cases d<;>exact h) (Below.refl _ _).drew ?_;have B0:Hid (Below W10.heap.size W10 W10.drew):=hid (Below.refl _ _).drew;generalize W10.drew=wD at B0 ⊢
    repeat
     refine plan_read (v:=?_) rfl rfl (Or.inl ⟨by rfl,?_⟩) ?_;rotate_left
     ·intro w' hSw;obtain ⟨s0,s1,s2,s3⟩:=HSr.out w' hSw;go_simp
      try with_reducible rfl
     try simp only [Act.put,List.getElem_toArray,List.getElem_cons_zero,List.getElem_cons_succ,List.setIfInBounds_toArray,List.set_cons_zero,List.set_cons_succ]
    refine plan_act rfl rfl (fun K' hK=>?_);go_simp
    refine (HLv.out _ (HB10.out.trans (B0.out.mono HB10.out.size))).mono ?_;rintro e w11 ⟨rfl,B⟩;have B1:=hid (B0.out.trans (B.mono B0.out.size));refine hK.out _ _ B1.out ?_;clear hK K' B
    try simp only [Act.put,List.getElem_toArray,List.getElem_cons_zero,List.getElem_cons_succ,List.setIfInBounds_toArray,List.set_cons_zero,List.set_cons_succ]
    repeat
     refine plan_read (v:=?_) rfl rfl (Or.inl ⟨by rfl,?_⟩) ?_;rotate_left
     ·intro w' hSw;go_simp
      try with_reducible rfl
     try simp only [Act.put,List.getElem_toArray,List.getElem_cons_zero,List.getElem_cons_succ,List.setIfInBounds_toArray,List.set_cons_zero,List.set_cons_succ]
    refine plan_tail rfl ?_;simp only [List.toList_toArray,List.drop_succ_cons,List.drop_zero];have HBE:=hid (HB10.out.trans (B1.out.mono HB10.out.size));go_wp2
    go_ret
    exact ⟨rfl,HBE.out⟩
theorem place09_walk {w:World} {vn vv:Value} {n:Nd} {ts:List Tn} (at_:Int) (hn:NodeV w vn n) (hb:n.attrs.length≤1048575) (hbi:∀ a ∈ n.attrs,a.ints.length≤1048575) (hs:SlIn 3 rdTensor w vv ts) (hat:InI at_) (hG:Glob w) :
  Calls Tryz.prog 6 #[vn,vv,.int .i64 at_] w fun e w'=>e=.returned (.bool true)∧Below w.heap.size w w':=place09_any hn hs hG (hax_of hbi) hat
end Go.Proofs.YtijhdmidffenbaaGreatDoor

set_option linter.unusedVariables false
set_option linter.unusedSimpArgs false
namespace Go.Proofs.YtijhdmidffenbaaGreatDoor
open Go.ChangeShapes Go.WideShapes Go.ChangeAt Go.RowKit
set_option maxRecDepth 100000
theorem own:ownKnob Tryz.prog.godebug=none:=by kernel_rfl
theorem laidOut:laidOutB Tryz.prog=true:=by kernel_rfl
theorem cellsString:Tryz.prog.cellsOf 9 = 1:=by kernel_rfl
def laids:List (String × DataW Unit):=[("unicode/utf8.acceptRanges",Rows.laid_unicode_utf8_acceptRanges),("mandrel/schema.ones",Rows.laid_mandrel_schema_ones),("unicode/utf8.first",Rows.laid_unicode_utf8_first)]
theorem gOnes:Tryz.prog.globalNamed "mandrel/schema.ones" = some 0:=by kernel_rfl
theorem tOnes:(Tryz.prog.globals[0]?).map (·.type)=some 162:=by kernel_rfl
theorem onesD:(onesL.map fun s=>(DataW.lit (.string s.data.toList):DataW Unit))=[.lit (.string [73,100,101,110,116,105,116,121]),.lit (.string [78,101,103]),.lit (.string [65,98,115]),.lit (.string [78,111,116]),.lit (.string [82,101,108,117]),.lit (.string [83,113,114,116]),.lit (.string [70,108,111,111,114]),.lit (.string [69,120,112]),.lit (.string [83,105,103,109,111,105,100]),.lit (.string [84,97,110,104])]:=by rfl
theorem dataB_inj {a b:ByteArray} (h:a.data.toList=b.data.toList):a=b:=by
 cases a;cases b
 simpa using h
theorem ones_of {W:World} (h:laidMetH Tryz.prog laids W):∀ (j:Nat) s,onesL[j]?=some s→W.cell? ⟨0,j,none⟩=some (.string s):=by
 rw [MakeChecks.laidMetH_plain _ _ _ (by kernel_rfl)] at h;obtain ⟨ps,⟨g0,t0,cs0,f0,p0,q0,hg0,ht0,hv0,hd0,⟨g1,t1,cs1,f1,p1,q1,hg1,ht1,hv1,hd1,_,_⟩,_⟩,_,_⟩:=h;obtain rfl:=Option.some.inj (gOnes.symm.trans hg1);obtain rfl:=Option.some.inj (tOnes.symm.trans ht1);obtain ⟨xs,m,_,ex,_,hl,hel⟩:=DataW.trod_array Tryz.underlying162 hd1;intro j s hj;have hj10:j < 10:=(List.getElem?_eq_some_iff.1 hj).1;have hE:=hel j hj10;rw [cellsString,Nat.mul_one,List.getElem?_eq_getElem (by omega)] at hE;obtain ⟨z,e1,e2,_⟩:=DataW.trod_string Tryz.underlying9 hE;have e3:(xs.map (·.1))=onesL.map fun s=>(DataW.lit (.string s.data.toList):DataW Unit):=by
  rw [onesD];exact (DataW.agg.inj (Prod.mk.inj ex).1).symm
 have e4:(xs.map (·.1))[j]?=(onesL.map fun s=>(DataW.lit (.string s.data.toList):DataW Unit))[j]?:=by rw [e3]
 rw [List.getElem?_map,List.getElem?_map,List.getElem?_eq_getElem (by omega:j < xs.length),hj,e2] at e4;have hz:z=s:=by
  simp only [Option.map_some,Option.some.injEq,DataW.lit.injEq,Lit.string.injEq] at e4;exact dataB_inj e4
 rw [World.var?_cell hg1 hv1 j,←hz];have h0:((cs1.toList.drop j).take 1)[0]?=some (.string z):=by rw [e1];rfl
 simpa using h0
theorem glob_of {W:World} (h:laidMetH Tryz.prog laids W) (hs:W.ShapedOpen Tryz.prog):Glob W where
 ones:=ones_of h
 max:=Go.Proofs.cell_of_shapedOpen_int (zero:=#[.int .i64 0]) (t:=3) hs (of_decide_eq_true (by kernel_rfl)) (by kernel_rfl) rfl (by kernel_rfl) (by kernel_rfl) Tryz.underlying3
theorem laid_met (os:Os) (args:Array Value):laidMetH Tryz.prog laids ((World.laidAll Tryz.prog os laids).forCall (fun _ _=>0) ⟨#[],args,[]⟩).memory:=by
 rw [MakeChecks.laidMetH_plain _ _ _ (by kernel_rfl)];exact laidMet_laidAll _ (by kernel_rfl) (by kernel_rfl)
end Go.Proofs.YtijhdmidffenbaaGreatDoor

set_option linter.unusedVariables false
set_option linter.unusedSimpArgs false
namespace Go.Proofs.YtijhdmidffenbaaGreatDoor
open Go.ChangeShapes Go.WideShapes Go.ChangeAt Go.RowKit
set_option maxRecDepth 100000
theorem i64_of_wf {x:Int} (h:(Lit.int .i64 x).wf=true):InI x:=by
 simp [Lit.wf,IntKind.min,IntKind.max,IntKind.signed,IntKind.bits] at h;unfold InI;omega
end Go.Proofs.YtijhdmidffenbaaGreatDoor

set_option linter.unusedVariables false
set_option linter.unusedSimpArgs false
set_option maxRecDepth 100000
namespace Go.Proofs.YtijhdmidffenbaaGreatDoor
open Go.RowKit Go.ChangeShapes Go.WideShapes Go.Deep
theorem SlIn.imp {α:Type} {sz:Nat} {R R':Rd α} {w:World} {v:Value} {xs:List α} (h:SlIn sz R w v xs) (hR:∀ cs x,R w cs x→R' w cs x):SlIn sz R' w v xs:=by
 cases h with
 | empty a0 cap=>exact .empty a0 cap
 | row b off cap _ h0 hc hb hr hlen =>
  refine .row b off cap xs h0 hc hb (fun j x hj=>?_) hlen;obtain ⟨cs,h1,h2,h3⟩:=hr j x hj;exact ⟨cs,h1,hR _ _ h2,h3⟩
theorem SlIn.each {α:Type} {sz:Nat} {R:Rd α} {w:World} {v:Value} {xs:List α} {P:α→Prop} (h:SlIn sz R w v xs) (hR:∀ cs x,R w cs x→P x):∀ x ∈ xs,P x:=fun x hx=>by
 obtain ⟨j,hj⟩:=List.getElem?_of_mem hx;obtain ⟨b,off,cap,cs,h1,h2,h3,h4,h5,h6⟩:=h.rows j x hj;exact hR cs x h5
def rdAttrB:Rd At:=fun w cs a=>rdAttr w cs a∧a.ints.length≤1048575
def rdNodeB:Rd Nd:=fun w cs n=>∃ vin vat,cs=[.string n.op,.string n.name,vin,.string n.out,vat]∧NodeN w n vin vat∧n.attrs.length≤1048575∧∀ a ∈ n.attrs,a.ints.length≤1048575
theorem fits_attrB:Fits Tryz.prog 69 9 rdAttrB:=by
 refine ⟨by kernel_rfl,fun {H} enc W fuel cs x h hlt hb=>?_⟩;obtain ⟨xs,n,_,rfl,hl,hlen,hf⟩:=DataW.trod_struct Tryz.underlying69 h;rw [show Tryz.prog.cellsOf 69 = 9 by kernel_rfl] at hl
 match cs,hl with
 | [c0,c1,c2,c3,c4,c5,c6,c7,c8],_ =>
  obtain ⟨a0,e0,i0⟩:=fits_field hf hlen hlt hb (i:=0) rfl fits_string;obtain ⟨a1,e1,i1⟩:=fits_field hf hlen hlt hb (i:=1) rfl fits_i;obtain ⟨a2,e2,i2⟩:=fits_field hf hlen hlt hb (i:=2) rfl fits_l;obtain ⟨a3,e3,i3⟩:=fits_field hf hlen hlt hb (i:=3) rfl fits_l;obtain ⟨a4,e4,i4⟩:=fits_field hf hlen hlt hb (i:=4) rfl fits_string;obtain ⟨⟨t0,t1,t2⟩,vd,vx,e5,i5,i6,i7⟩:=fits_field hf hlen hlt hb (i:=5) rfl fits_tensor;obtain ⟨a8,v8,e8,i8⟩:=fits_field hf hlen hlt hb (i:=6) rfl fits_data;obtain rfl:=take1 e0;obtain rfl:=take1 e1;obtain rfl:=take1 e2;obtain rfl:=take1 e3;obtain rfl:=take1 e4;obtain rfl:=take1 e8;have e5':[c5,c6,c7]=[.int .i64 t0,vd,vx]:=e5;obtain ⟨rfl,rfl,rfl⟩:c5=.int .i64 t0∧c6=vd∧c7=vx:=by simpa using e5'
  exact ⟨⟨a0,a1,a2,a3,a4,t0,t1,t2,a8⟩,⟨_,_,_,rfl,⟨i6,i7,IntsIn.of_sl i8,i1,i2,i3,i5,i0,i4⟩⟩,i8.len⟩
theorem fits_attrsB:Fits Tryz.prog 23 1 (rdSl 9 rdAttrB):=fits_slice Tryz.underlying23 (by kernel_rfl) (by decide) fits_attrB
theorem fits_nodeB:Fits Tryz.prog 25 5 rdNodeB:=by
 refine ⟨by kernel_rfl,fun {H} enc W fuel cs x h hlt hb=>?_⟩;obtain ⟨xs,n,_,rfl,hl,hlen,hf⟩:=DataW.trod_struct Tryz.underlying25 h;rw [show Tryz.prog.cellsOf 25 = 5 by kernel_rfl] at hl
 match cs,hl with
 | [c0,c1,c2,c3,c4],_ =>
  obtain ⟨a0,e0,i0⟩:=fits_field hf hlen hlt hb (i:=0) rfl fits_string;obtain ⟨a1,e1,i1⟩:=fits_field hf hlen hlt hb (i:=1) rfl fits_string;obtain ⟨a2,v2,e2,i2⟩:=fits_field hf hlen hlt hb (i:=2) rfl fits_strs;obtain ⟨a3,e3,i3⟩:=fits_field hf hlen hlt hb (i:=3) rfl fits_string;obtain ⟨a4,v4,e4,i4⟩:=fits_field hf hlen hlt hb (i:=4) rfl fits_attrsB;obtain rfl:=take1 e0;obtain rfl:=take1 e1;obtain rfl:=take1 e2;obtain rfl:=take1 e3;obtain rfl:=take1 e4;exact ⟨⟨a0,a1,a2,a3,a4⟩,_,_,rfl,⟨StrsIn.of_sl i2,AttrsIn.of_sl (i4.imp fun _ _ h=>h.1)⟩,i4.len,i4.each fun _ _ h=>h.2⟩
theorem open_nodeB {H:Type} {enc:TypeId × Value→H} {W:World} {r:Reach} {b0:Nat} {v:Value} {d:DataW H} {p:List MemPlace}
  (hv:Value.okWide Tryz.prog W r b0 25 v) (hd:DataW.Trod enc Tryz.prog W 0 (fun _=>true) true 25 v d p) (hlt:∀ y ∈ p,y.block < W.heap.size) (hb:Rows.uptoBulk d≤1048576):∃ n,NodeV W v n∧n.attrs.length≤1048575∧∀ a ∈ n.attrs,a.ints.length≤1048575:=by
 obtain ⟨cs,n,rfl,vin,vat,e,h,hl⟩:=open_arg Tryz.underlying25 fits_nodeB hv hd hlt hb;refine ⟨n,⟨vin,vat,?_,h⟩,hl⟩;unfold Nd.val
 congr 1
 rw [←Array.toList_inj,e]
end Go.Proofs.YtijhdmidffenbaaGreatDoor

set_option linter.unusedVariables false
set_option linter.unusedSimpArgs false
set_option maxRecDepth 100000
namespace Go.Proofs.YtijhdmidffenbaaGreatDoor
open Go.RowKit Go.ChangeShapes Go.WideShapes Go.Deep
theorem fits_tensors:Fits Tryz.prog 42 1 (rdSl 3 rdTensor):=fits_slice Tryz.underlying42 (by kernel_rfl) (by decide) fits_tensor
theorem open_tensors {H:Type} {enc:TypeId × Value→H} {W:World} {r:Reach} {b0:Nat} {v:Value} {d:DataW H} {p:List MemPlace}
  (hv:Value.okWide Tryz.prog W r b0 42 v) (hd:DataW.Trod enc Tryz.prog W 0 (fun _=>true) true 42 v d p) (hlt:∀ y ∈ p,y.block < W.heap.size) (hb:Rows.uptoBulk d≤1048576):∃ l,SlIn 3 rdTensor W v l:=by
 obtain ⟨a,len,cap,rfl⟩:=okWide_slice Tryz.underlying42 hv;obtain ⟨fuel,hf⟩:=hd;obtain ⟨l,v1,e,h⟩:=fits_tensors.2 enc W fuel _ _ hf hlt hb;simp [Value.cells] at e;subst e;exact ⟨l,h⟩
end Go.Proofs.YtijhdmidffenbaaGreatDoor

set_option linter.unusedVariables false
set_option linter.unusedSimpArgs false
namespace Go.Proofs.YtijhdmidffenbaaGreatDoor
namespace elemPlace
open Go.ChangeShapes Go.WideShapes Go.ChangeAt Go.RowKit Go.ChangeMaps
set_option maxRecDepth 100000
theorem reads (os:Os) {H:Type} (enc:TypeId × Value→H):∃ places,DataW.whole enc Tryz.prog ((World.laidAll Tryz.prog os laids).forCall (fun _ _=>0) ⟨#[],#[.agg #[.string ⟨#[]⟩,.string ⟨#[]⟩,.slice none 0 0,.string ⟨#[]⟩,.slice none 0 0],.slice none 0 0,.int .i64 0],[]⟩).memory Tryz.f6.params.toList Rows.elemPlaceSpec.vars false (#[.agg #[.string ⟨#[]⟩,.string ⟨#[]⟩,.slice none 0 0,.string ⟨#[]⟩,.slice none 0 0],.slice none 0 0,.int .i64 0]:Array Value).toList 8=some ([.agg [.lit (.string []),.lit (.string []),.nil,.lit (.string []),.nil],.nil,.lit (.int .i64 0)],[],places) :=
 ⟨[],by kernel_rfl⟩
set_option maxHeartbeats 1000000 in
theorem lifted (os:Os) (started:os.Started) (H:Type) (enc:TypeId × Value→H) (F:Stop.Interp) :
  ReturnsInHanded {} Tryz.checked os 6 .any ((Rows.OpenSpec.upto Rows.elemPlaceSpec).preRow enc Tryz.prog Tryz.f6 Rows.elemPlaceUptoRow.domain false Rows.elemPlaceUptoRow.laid) (((Rows.OpenSpec.upto Rows.elemPlaceSpec).at F).post enc Tryz.prog Tryz.f6 false true false false):=by
 obtain ⟨places,hx⟩:=reads os enc;refine returnsInHanded_of_row (C:=Tryz.checked) (s:=(Rows.OpenSpec.upto Rows.elemPlaceSpec)) own started (by kernel_rfl) Tryz.func6
  (witness_row_atRef (enc:=enc) (C:=Tryz.checked) false (World.laidAll Tryz.prog os laids) #[.agg #[.string ⟨#[]⟩,.string ⟨#[]⟩,.slice none 0 0,.string ⟨#[]⟩,.slice none 0 0],.slice none 0 0,.int .i64 0] (World.laidAll_os _ _ _) (by kernel_rfl) (by kernel_rfl) (by kernel_rfl)
   (OpenSpec.preRow_of_cond 8 hx (by kernel_rfl) (fun k hk=>by cases hk;kernel_rfl) (by kernel_rfl) (laid_met os _))) ?_
 intro W base args ds gs before hval0 hW _ hcond hsz0 hL hSh _;have hG:Glob W:=glob_of hL hSh;have hsz:(DataW.weightsEach Tryz.prog (Tryz.f6.params.toList++Rows.elemPlaceSpec.plain.varTypes Tryz.prog) (ds++gs)).all (· ≤ reachBytes)=true:=hsz0;have hval:∀ (j:Nat) t v,Tryz.f6.params[j]?=some t→args[j]?=some v→Value.okWide Tryz.prog W .any base t v:=hval0;have hW':DataW.Whole enc Tryz.prog Tryz.f6.params.toList Rows.elemPlaceSpec.vars false W args.toList ds gs before:=hW;obtain ⟨p,q,hA0,hV,rfl,hfz,hnd⟩:=hW;have hA:DataW.TrodAll enc Tryz.prog W 0 (fun _=>true) true Tryz.f6.params.toList args.toList ds p:=hA0;rw [Tryz.params6] at hA hval hsz;obtain ⟨v0,vs0,d0,ds0,p0,q0,hargs,rfl,rfl,h0,r0⟩:=trodAll_cons hA;obtain ⟨v1,vs1,d1,ds1,p1,q1,rfl,rfl,rfl,h1,r1⟩:=trodAll_cons r0;obtain ⟨v2,vs2,d2,ds2,p2,q2,rfl,rfl,rfl,h2,r2⟩:=trodAll_cons r1;obtain ⟨rfl,rfl,rfl⟩:=trodAll_nil r2;obtain rfl:args=#[v0,v1,v2]:=by cases args;simp_all
 obtain ⟨rfl,rfl⟩:=trodVars_none hV;have hbulk:Rows.uptoBulkAll [d0,d1,d2]≤1048576:=by
  have:=of_decide_eq_true (hcond _ rfl)
  simpa using this
 simp only [Rows.uptoBulkAll] at hbulk;have hw:∀ (j:Nat) t d,[25,42,3][j]?=some t→[d0,d1,d2][j]?=some d→∀ n ∈ d.weights Tryz.prog t,n≤reachBytes:=by
  intro j t d ht hd n hn;have:=List.all_eq_true.1 hsz n (DataW.weights_mem_each (j:=j) (t:=t) (d:=d) (by
   match j,ht with
   | 0,h=>simpa using h
   | 1,h=>simpa using h
   | 2,h=>simpa using h) (by
   match j,hd with
   | 0,h=>simpa using h
   | 1,h=>simpa using h
   | 2,h=>simpa using h) n hn)
  simpa using this
 simp only [List.append_nil] at hW';have hlt:∀ x ∈ p0++(p1++p2),x.block < W.heap.size:=fun x hx=>by simpa using hW'.lt x (by simpa using hx)
 obtain ⟨nd0,i0,b0,m0⟩:=open_nodeB (hval 0 25 v0 rfl rfl) h0 (fun y hy=>hlt y (by simp [hy])) (show Rows.uptoBulk d0≤1048576 by omega);obtain ⟨l1,i1⟩:=open_tensors (hval 1 42 v1 rfl rfl) h1 (fun y hy=>hlt y (by simp [hy])) (show Rows.uptoBulk d1≤1048576 by omega);obtain ⟨at2,rfl,rfl,rfl,w2⟩:=open_int Tryz.underlying3 (hval 2 3 v2 rfl rfl) h2;clear hA0 hval0;refine (place09_walk at2 i0 b0 m0 i1 (i64_of_wf w2) hG).mono fun e W' ⟨he,hnx⟩=>?_;subst he;refine ⟨_,rfl,_,_,_,[],_,[],hW',(trodAll_cons_mk (shut_bool Tryz.underlying4 _) trodAll_mk0),(trodAll_cons_mk (Below.trod laidOut (by kernel_rfl) (of_decide_eq_true (by kernel_rfl)) h0 hnx (fun x hx=>hlt x (by simp [hx]))) (trodAll_cons_mk (Below.trod laidOut (by kernel_rfl) (of_decide_eq_true (by kernel_rfl)) h1 hnx (fun x hx=>hlt x (by simp [hx]))) (trodAll_cons_mk (shut_int Tryz.underlying3 w2) trodAll_mk0))),rfl,hnx.frame _,fun h=>by cases h⟩
theorem over:Rows.elemPlaceUptoRow.holds Tryz.pinned (Rows.OpenSpec.upto Rows.elemPlaceSpec) :=
 OpenClaim.holds_of_cond 6 Tryz.f6 rfl rfl rfl rfl rfl rfl rfl ⟨rfl,rfl,rfl,rfl,rfl⟩ rfl rfl rfl rfl rfl (by kernel_rfl) Tryz.func6 (by kernel_rfl)
  (of_decide_eq_true (by kernel_rfl)) (by unfold Func.isWrapper;first | (rw [if_pos (by decide +kernel)];kernel_rfl) | (rw [if_neg (by decide +kernel)];exact ⟨rfl,rfl⟩))
  (fun os started H enc _ F=>by rw [OpenClaim.pre_eq_preRow];exact lifted os started H enc F)
theorem plain (f:FuncId) (fn:Func) (hf:Tryz.pinned.checked.prog.funcNamed "mandrel/mandrellaw09.ElemPlace" = some f) (hfn:Tryz.pinned.checked.prog.funcs[f]?=some fn) :
  true=Tryz.pinned.checked.prog.looks []∧∀ (j:Nat) t,fn.params[j]?=some t→Tryz.pinned.checked.prog.wantsStandIn t=false:=by
 obtain rfl:f=6:=Option.some.inj ((show Tryz.prog.funcNamed "mandrel/mandrellaw09.ElemPlace" = some 6 by kernel_rfl).symm.trans hf) |>.symm;obtain rfl:fn=Tryz.f6:=(Option.some.inj (Tryz.func6.symm.trans hfn)).symm;refine ⟨by kernel_rfl,fun j t ht=>?_⟩;rw [Tryz.params6] at ht;have hm:t ∈ [25,42,3]:=by simpa using Array.mem_of_getElem? ht
 have hall:([25,42,3].all fun u=>!Tryz.prog.wantsStandIn u)=true:=by kernel_rfl
 exact (show Tryz.prog.wantsStandIn t=false by simpa using List.all_eq_true.1 hall t hm)
theorem proved:Rows.ElemPlaceUptoCardSaid :=
 Claim7.holds_tied_plain_at .later [] _ _ _ _ over (fun _ h=>by cases h) (by kernel_rfl) (fun _ h=>by cases h) elemPlaceUpto_row_tie rfl ⟨rfl,rfl⟩ (by kernel_rfl) rfl plain (by kernel_rfl)
#print axioms proved
end elemPlace
end Go.Proofs.YtijhdmidffenbaaGreatDoor
