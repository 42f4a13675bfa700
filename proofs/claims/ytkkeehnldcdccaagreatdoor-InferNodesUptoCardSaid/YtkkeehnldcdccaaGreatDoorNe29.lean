import Derived.Test.YtkkeehnldcdccaaGreatDoorNe28
set_option linter.unusedVariables false
set_option linter.unusedSimpArgs false
set_option maxRecDepth 100000
set_option maxHeartbeats 16000000
namespace Go.Proofs.YtkkeehnldcdccaaGreatDoor
open Go.Lib (hid)
open Go.RowKit
section
attribute [local irreducible] Cn Af AH By Ag BI Bg Ih
theorem Js{w:World}{vx vg:Value}{x gone:List Int}(kb:Bool)(hx:Aa w vx x)(hg:Aa w vg gone) :
  Calls Tryz.prog 71 #[vx,vg,.bool kb] w fun e w'=>Below w.heap.size w w'∧∃v,e=.returned v∧Ag w' w.heap.size v (Bg x gone kb x.length):=by
 obtain⟨i0,hi,hz0,hz1,hz2⟩:=info_parts AI;have HCo:=hid (fun(W:World) (h:Aa W vg gone) (x:Int)=>Km h x);obtain⟨a4,c4,rfl⟩:=hx.shape;have hxl:=hx.wf.1;have HX:=hid hx;have HG:=hid hg;clear hx hg;go_enter Tryz.func71,Tryz.ntmps71
 go_wp2_with fail
 go_loopw [7,8] (fun ov i wr=>∃(k:Nat),k≤x.length∧i=.int .i64 (k:Int)∧Hid (Ag wr w.heap.size ov (Bg x gone kb k))∧Hid (Below w.heap.size w wr)) (fun _ i _=>x.length-(intOf i).toNat)
 case atStart=>exact⟨0,Nat.zero_le _,rfl,hid (by rw[show Bg x gone kb 0=[] by unfold Bg;rfl];exact Ag.nil _ _),hid (Below.refl _ _)⟩
 case round=>
  obtain⟨k,hk,rfl,hO,hW⟩:=hrel;obtain⟨ao,co,hov⟩:=hO.out.form;subst hov;have hsw:=hW.out.size;have hwl:=ER x gone kb k;have HNx:=hid (Cx (x:=x) (gone:=gone) (keep:=kb) (k:=k));by_cases hkz:k<x.length
  ·have hki:(k:Int)<(x.length:Int):=by omega
   obtain⟨b,off,rfl,-,hb,c0,-⟩:=Ai HX.out hkz;have c0:=(hW.out.cell (p:=⟨b,off+k,none⟩) hb).trans c0;have hC:=HCo.out wr (HG.out.below hW.out) (k:Int);have HC1:=hid (FG (x:=x) (gone:=gone) (keep:=kb) (i:=k));have HC2:=hid (Kv (x:=x) (gone:=gone) (i:=k));have HC3:=hid (Ii (x:=x) (gone:=gone) (i:=k));generalize x.getD k 0=z at*;generalize Bg x gone kb k=zs at*;cases hct:gone.contains (k:Int)with
   | false=>
    rw[hct]at hC;have hC:=hid hC;have HC1:=hid (HC1.out hct);clear hct;go_wp2_with fail
    refine hC.out.mono ?_;rintro e w''⟨rfl,rfl⟩;go_wp2_with (at_builtin;refine wpList_append_own _ rfl _ _ 29 rfl w.heap.size 3 i0 (.int .i64 0) 1 8 Tryz.underlying29 hi hz0 hz1 hz2 rfl (by decide) _ _ _ rfl (hO.out.own.alloc _) ⟨w''.heap.size,0,none⟩ 1 1 (#[.int .i64 z]:Array Value).toList rfl rfl (World.news_of_block (heap_alloc_new w'' _)) (by simp[Value.oneCell']) ?A3 ?A4 ?A5 ?_)
    case A3=>unfold maxLen;omega
    case A4=>omega
    case A5=>first|(simp;omega)|omega
    intro v' w4 hown' hgrow _;have hb4:Hid (Below w.heap.size w w4):=hid ((hW.out.alloc hsw _).grown hgrow (by simp;omega) fun g hg=>(hO.out.own.lt g hg).1);have ho4:Hid (Ag w4 w.heap.size v' (Bg x gone kb (k+1))):=hid (by rw[HNx.out,HC1.out];exact hO.out.push hown');clear hown' hgrow;go_wp2_with fail
    go_roundw
    case rel=>exact⟨k+1,by omega,by go_num,ho4,hb4⟩
    case measure=>simp[intOf];omega
   | true=>
    rw[hct]at hC;have hC:=hid hC;have HC2:=hid (HC2.out hct);have HC3:=hid (HC3.out hct);clear hct;cases kb with
    | true=>
     go_wp2_with fail
     refine hC.out.mono ?_;rintro e w''⟨rfl,rfl⟩;go_wp2_with (at_builtin;refine wpList_append_own _ rfl _ _ 29 rfl w.heap.size 3 i0 (.int .i64 0) 1 8 Tryz.underlying29 hi hz0 hz1 hz2 rfl (by decide) _ _ _ rfl (hO.out.own.alloc _) ⟨w''.heap.size,0,none⟩ 1 1 (#[.int .i64 1]:Array Value).toList rfl rfl (World.news_of_block (heap_alloc_new w'' _)) (by simp[Value.oneCell']) ?A3 ?A4 ?A5 ?_)
     case A3=>unfold maxLen;omega
     case A4=>omega
     case A5=>first|(simp;omega)|omega
     intro v' w4 hown' hgrow _;have hb4:Hid (Below w.heap.size w w4):=hid ((hW.out.alloc hsw _).grown hgrow (by simp;omega) fun g hg=>(hO.out.own.lt g hg).1);have ho4:Hid (Ag w4 w.heap.size v' (Bg x gone true (k+1))):=hid (by rw[HNx.out,HC2.out];exact hO.out.push hown');clear hown' hgrow;go_wp2_with fail
     go_roundw
     case rel=>exact⟨k+1,by omega,by go_num,ho4,hb4⟩
     case measure=>simp[intOf];omega
    | false=>
     have ho4:Hid (Ag wr w.heap.size (.slice ao zs.length co) (Bg x gone false (k+1))):=hid (by rw[HNx.out,HC3.out,List.append_nil];exact hO.out);go_wp2_with fail
     refine hC.out.mono ?_;rintro e w''⟨rfl,rfl⟩;go_wp2_with fail
     go_roundw
     case rel=>exact⟨k+1,by omega,by go_num,ho4,hW⟩
     case measure=>simp[intOf];omega
  ·have hki:¬(k:Int)<(x.length:Int):=by omega
   obtain rfl:k=x.length:=by omega
   go_wp2
   go_ret
   exact⟨hW.out,_,rfl,hO.out⟩
def Yu(w:World)(n:Nd)(r:Nat)(e:Ending)(w':World):Prop:=Below w.heap.size w w'∧∃v zs okb,e=.returned (.tuple #[v,.bool (decide (AH n.attrs CT 1=1)),.bool okb])∧Aa w' v zs∧∀x:List Int,x.length=r→A7 n x=if okb=true then some (Bg x zs (decide (AH n.attrs CT 1=1)) r)else none
theorem NC{w:World}{v:Value}{n:Nd}{r:Nat}(h:Ba w v n)(hr:r*8≤140737488351232) :
  Calls Tryz.prog 70 #[v,.int .i64 (r:Int)] w fun e w'=>Yu w n r e w':=by
 obtain⟨i0,hi,hz0,hz1,hz2⟩:=info_parts Dp;obtain⟨vin,vat,rfl,hn⟩:=h;obtain⟨a1,c1,rfl⟩:=hn.is.form;obtain⟨a2,c2,rfl⟩:=hn.ia.form;have HN:=hid hn;clear hn;unfold Nd.val;go_enter Tryz.func70,Tryz.ntmps70
 go_wp2_with fail
 have hB1:Hid (Below w.heap.size w (w.alloc (Obj.cells #[.string n.op,.string n.name,.slice a1 n.ins.length c1,.string n.out,.slice a2 n.attrs.length c2] 25))):=hid ((Below.refl _ w).alloc (Nat.le_refl _) _);have hA1:=hid (Ac.new w #[.string n.op,.string n.name,.slice a1 n.ins.length c1,.string n.out,.slice a2 n.attrs.length c2] 25);generalize w.alloc _=W1 at hB1 hA1⊢;have HND:Hid (∀W,Below W1.heap.size W1 W→Ba W (.agg #[.string n.op,.string n.name,.slice a1 n.ins.length c1,.string n.out,.slice a2 n.attrs.length c2]) n):=hid fun W hW=>⟨_,_,rfl,HN.out.below (hB1.out.trans (hW.mono hB1.out.size))⟩;have HInts:Hid (∀(W:World) (vo:Value),Below W1.heap.size W1 W→Aa W vo (Cn r)→Calls Tryz.prog 132 #[.agg #[.string n.op,.string n.name,.slice a1 n.ins.length c1,.string n.out,.slice a2 n.attrs.length c2],.string ⟨#[97,120,101,115]⟩,vo] W fun e w'=>∃v',e=.returned v'∧BI w' W.heap.size v' (Af n.attrs AF (Cn r))∧Below W.heap.size W w'):=hid fun W vo hW ho=>by unfold BI;exact IH (HND.out W hW) AF ho
 have HInt:Hid (∀(W:World),Below W1.heap.size W1 W→Calls Tryz.prog 27 #[.agg #[.string n.op,.string n.name,.slice a1 n.ins.length c1,.string n.out,.slice a2 n.attrs.length c2],.string ⟨#[97,120,105,115]⟩,.int .i64 0] W fun e w'=>e=.returned (.int .i64 (AH n.attrs AB 0))∧Below W.heap.size W w'):=hid fun W hW=>DD (HND.out W hW) AB 0;have HKeep:Hid (∀(W:World),Below W1.heap.size W1 W→Calls Tryz.prog 27 #[.agg #[.string n.op,.string n.name,.slice a1 n.ins.length c1,.string n.out,.slice a2 n.attrs.length c2],.string ⟨#[107,101,101,112,100,105,109,115]⟩,.int .i64 1] W fun e w'=>e=.returned (.int .i64 (AH n.attrs CT 1))∧Below W.heap.size W w'):=hid fun W hW=>DD (HND.out W hW) CT 1;go_wp2_with fail
 go_loopw [7,8] (fun ov i wr=>∃(k:Nat),k≤r∧i=.int .i64 (k:Int)∧Hid (BI wr W1.heap.size ov (Cn k))∧Hid (Below W1.heap.size W1 wr)) (fun _ i _=>r-(intOf i).toNat)
 case atStart=>exact⟨0,Nat.zero_le _,rfl,hid (by rw[show Cn 0=[] by unfold Cn;rfl];exact BI.nil _ _),hid (Below.refl _ _)⟩
 case round=>
  obtain⟨k,hk,rfl,hO,hW⟩:=hrel;obtain⟨ao,co,rfl⟩:=hO.out.form;have hsw:=hW.out.size;have hlen:=CE k;have HNx:=hid (Kt k);by_cases hkz:k<r
  ·have hki:(k:Int)<(r:Int):=by omega
   generalize Cn k=zs at*;have HLn:=hid hlen;have hl2:zs.length≤k:=by omega
   clear hlen;go_wp2_with (at_builtin;refine wpList_append_own _ rfl _ _ 39 rfl W1.heap.size 2 i0 (.int .i64 0) 1 8 Tryz.underlying39 hi hz0 hz1 hz2 rfl (by decide) _ _ _ rfl (hO.out.own.alloc _) ⟨wr.heap.size,0,none⟩ 1 1 (#[.int .i64 (k:Int)]:Array Value).toList rfl rfl (World.news_of_block (heap_alloc_new wr _)) (by simp[Value.oneCell']) ?A3 ?A4 ?A5 ?_)
   case A3=>unfold maxLen;omega
   case A4=>omega
   case A5=>first|(simp;omega)|omega
   intro v' w4 hown' hgrow _;have hb4:Hid (Below W1.heap.size W1 w4):=hid ((hW.out.alloc hsw _).grown hgrow (by simp;omega) fun g hg=>(hO.out.own.lt g hg).1);have ho4:Hid (BI w4 W1.heap.size v' (Cn (k+1))):=hid (by rw[HNx.out];exact hO.out.push hown');clear hown' hgrow;go_wp2_with fail
   go_roundw
   case rel=>exact⟨k+1,by omega,by go_num,ho4,hb4⟩
   case measure=>simp[intOf];omega
  ·have hki:¬(k:Int)<(r:Int):=by omega
   obtain rfl:k=r:=by omega
   have HI2:Hid (Aa wr (.slice ao (Cn k).length co) (Cn k)):=hid (hO.out.ints (by rw[hlen];exact hr) (Fa _ (by omega)));have hok:=BS (HND.out _ hW.out) (nm:=AF) (other:=Cn k) (by rw[CE];exact hr) (Fa _ (by omega));obtain⟨k0,k1,k2,k3,k4⟩:=(hA1.out.below' hW.out).five;clear hlen hO;go_wp2_with fail
   clear k0 k1 k2 k3 k4;refine(HInts.out _ _ hW.out HI2.out).mono ?_;rintro e w3⟨v3,rfl,hr3,B3⟩;have HB3:=hid (hW.out.trans (B3.mono hW.out.size));have HI3:Hid (Aa w3 v3 (Af n.attrs AF (Cn k))):=hid (hr3.ints hok.1 hok.2);obtain⟨a5,c5,rfl⟩:=HI3.out.shape;clear hok B3 hr3 HI2 hW;have HAx:=hid (fun(W:World) (u:Value) (L:List Int) (h:Aa W u L)=>GA (r:=k) h h.wf.1 (by omega));obtain⟨k0,k1,k2,k3,k4⟩:=(hA1.out.below' HB3.out).five;have HRA:=hid (fun(x:List Int) (hx:x.length=k) h=>FH (n:=n) (x:=x) (by rw[hx];exact h));have HRK:=hid (fun(x:List Int) (hx:x.length=k) gone h=>FI (n:=n) (x:=x) (gone:=gone) (by rw[hx];exact h));have HRG:=hid (fun(x:List Int) (hx:x.length=k) gone keep h=>FJ (n:=n) (x:=x) (gone:=gone) (keep:=keep) (by rw[hx];exact h));have HPr:=hid (fun gone h=>A8 (r:=k) (l:=D6 n k) (ks:=gone) h);by_cases hop:n.op=Ig
   ·have hob:(n.op.toList==([65,114,103,77,97,120]:List UInt8))=true:=by rw[hop,EQ];simp
    have HRd:Hid (D6 n k=[AH n.attrs AB 0]):=hid (if_pos hop);have HIP:=hid (C7 (HND.out _ HB3.out) (nm:=AB) Ij);clear hop;go_wp2_with fail
    clear k0 k1 k2 k3 k4;refine(HInt.out _ HB3.out).mono ?_;rintro e w4⟨rfl,B4⟩;have HB4:=hid (HB3.out.trans (B4.mono HB3.out.size));clear B4 HI3;generalize AH n.attrs AB 0=z at HRd HIP⊢;have HL5:Hid (Aa (w4.alloc (.cells #[.int .i64 z] 2)) (.slice (some ⟨w4.heap.size,0,none⟩) 1 1) [z]):=hid (.row w4.heap.size 0 1 [z] (by simp) (Nat.le_refl _) (by simp) (fun j hj=>by
     obtain rfl:j=0:=by simp at hj;omega
     exact(Ac.new w4 #[.int .i64 z] 2).cell 0 rfl) (by simp) (fun y hy=>(show y=z by simpa using hy) ▸ HIP.out))
    have HLb:Hid (Below W1.heap.size W1 (w4.alloc (.cells #[.int .i64 z] 2))):=hid (HB4.out.alloc HB4.out.size _);have hrl:(D6 n k).length *8≤140737488351232:=by rw[HRd.out];simp
    obtain⟨k0,k1,k2,k3,k4⟩:=(hA1.out.below' HLb.out).five;go_wp2_with fail
    clear k0 k1 k2 k3 k4;generalize w4.alloc _=W5 at HL5 HLb⊢;have HL6:Hid (∀W,Below W5.heap.size W5 W→Aa W (.slice (some ⟨w4.heap.size,0,none⟩) 1 1) (D6 n k)):=hid fun W hW=>by rw[HRd.out];exact HL5.out.below hW
    clear HL5 HRd HIP HB4;refine(HKeep.out _ HLb.out).mono ?_;rintro e w7⟨rfl,B7⟩;have HB7:=hid (HLb.out.trans (B7.mono HLb.out.size));have hA:=HAx.out w7 _ _ (HL6.out _ B7);have hA:=hid hA;clear B7 HLb HL6;go_wp2_with fail
    refine hA.out.mono ?_;clear hA;rintro e w8⟨B8,hc8⟩;have HB8:Hid (Below w.heap.size w w8):=hid (hB1.out.trans ((HB7.out.trans (B8.mono HB7.out.size)).mono hB1.out.size));clear B8 HB7;generalize hkp:AH n.attrs CT 1=kp at*;have HKP:=hid hkp;have HPost:Hid (∀(v:Value) (zs:List Int) (okb:Bool) W,Below w.heap.size w W→Aa W v zs→(∀x:List Int,x.length=k→A7 n x=if okb=true then some (Bg x zs (decide (kp=1)) k)else none)→Yu w n k (.returned (.tuple #[v,.bool (decide (kp=1)),.bool okb])) W):=hid fun v zs okb W hB hI hx=>⟨hB,v,zs,okb,by rw[HKP.out],hI,by rw[HKP.out];exact hx⟩;have hk1:(kp==1)=decide (kp=1):=rfl;generalize hL:D6 n k=L at*;cases hax:By L k with
    | none=>
     rw[hax]at hc8;obtain⟨v8,zs,rfl,-,hi8⟩:∃v zs,e=.returned (.tuple #[v,.bool false])∧Ag w8 _ v zs∧Aa w8 v zs:=hc8;have HI8:=hid hi8;have HE:Hid (∀x:List Int,x.length=k→A7 n x=none):=hid fun x hx=>HRA.out x hx hax;clear hi8 hax;go_wp2
     go_ret3
     exact HPost.out _ zs false _ HB8.out HI8.out (fun x hx=>HE.out x hx)
    | some gone=>
     rw[hax]at hc8;obtain⟨v8,rfl,hr8⟩:∃v,e=.returned (.tuple #[v,.bool true])∧Ag w8 _ v gone:=hc8;obtain⟨hp1,hp2⟩:=HPr.out gone hax;have HI8:Hid (Aa w8 v8 gone):=hid (hr8.ints (by rw[hp2];exact hrl) (fun z hz=>DO (hp1 z hz) (by omega)));have HRK:=hid (fun x hx=>HRK.out x hx gone hax);have HRG:=hid (fun x hx=>HRG.out x hx gone kp hax rfl);clear hr8 hp1 hp2 hax;by_cases hk:kp=0∨kp=1
     ·have hkk:(kp==0||kp==1)=true:=by simpa using hk
      have HE:Hid (∀x:List Int,x.length=k→A7 n x=some (Bg x gone (decide (kp=1)) k)):=hid fun x hx=>by rw[HRG.out x hx hk,hx]
      rcases hk with rfl|rfl
      all_goals
       go_wp2
       go_ret3
       exact HPost.out _ gone true _ HB8.out HI8.out (fun x hx=>HE.out x hx)
     ·have hk0:(kp==0)=false:=by simp;omega
      have hk1':(kp==1)=false:=by simp;omega
      have hd:Hid (decide (kp=1)=false):=hid (by simp;omega);have HE:Hid (∀x:List Int,x.length=k→A7 n x=none):=hid fun x hx=>HRK.out x hx hk;clear hk;go_wp2
      go_ret3
      exact HPost.out _ gone (decide (kp=1)) _ HB8.out HI8.out (fun x hx=>by rw[hd.out];exact HE.out x hx)
   ·have hob:(n.op.toList==([65,114,103,77,97,120]:List UInt8))=false:=by simpa using fun c=>hop (AP (c.trans EQ.symm))
    have HRd:Hid (D6 n k=Af n.attrs AF (Cn k)):=hid (if_neg hop);clear hop;have HLb:=HB3;have hrl:(D6 n k).length *8≤140737488351232:=by rw[HRd.out];exact HI3.out.wf.1
    have HL6:Hid (∀W,Below w3.heap.size w3 W→Aa W (.slice a5 (Af n.attrs AF (Cn k)).length c5) (D6 n k)):=hid fun W hW=>by rw[HRd.out];exact HI3.out.below hW
    clear HI3 HRd;go_wp2_with fail
    clear k0 k1 k2 k3 k4;refine(HKeep.out _ HLb.out).mono ?_;rintro e w7⟨rfl,B7⟩;have HB7:=hid (HLb.out.trans (B7.mono HLb.out.size));have hA:=HAx.out w7 _ _ (HL6.out _ B7);have hA:=hid hA;clear B7 HLb HL6;go_wp2_with fail
    refine hA.out.mono ?_;clear hA;rintro e w8⟨B8,hc8⟩;have HB8:Hid (Below w.heap.size w w8):=hid (hB1.out.trans ((HB7.out.trans (B8.mono HB7.out.size)).mono hB1.out.size));clear B8 HB7;generalize hkp:AH n.attrs CT 1=kp at*;have HKP:=hid hkp;have HPost:Hid (∀(v:Value) (zs:List Int) (okb:Bool) W,Below w.heap.size w W→Aa W v zs→(∀x:List Int,x.length=k→A7 n x=if okb=true then some (Bg x zs (decide (kp=1)) k)else none)→Yu w n k (.returned (.tuple #[v,.bool (decide (kp=1)),.bool okb])) W):=hid fun v zs okb W hB hI hx=>⟨hB,v,zs,okb,by rw[HKP.out],hI,by rw[HKP.out];exact hx⟩;have hk1:(kp==1)=decide (kp=1):=rfl;generalize hL:D6 n k=L at*;cases hax:By L k with
    | none=>
     rw[hax]at hc8;obtain⟨v8,zs,rfl,-,hi8⟩:∃v zs,e=.returned (.tuple #[v,.bool false])∧Ag w8 _ v zs∧Aa w8 v zs:=hc8;have HI8:=hid hi8;have HE:Hid (∀x:List Int,x.length=k→A7 n x=none):=hid fun x hx=>HRA.out x hx hax;clear hi8 hax;go_wp2
     go_ret3
     exact HPost.out _ zs false _ HB8.out HI8.out (fun x hx=>HE.out x hx)
    | some gone=>
     rw[hax]at hc8;obtain⟨v8,rfl,hr8⟩:∃v,e=.returned (.tuple #[v,.bool true])∧Ag w8 _ v gone:=hc8;obtain⟨hp1,hp2⟩:=HPr.out gone hax;have HI8:Hid (Aa w8 v8 gone):=hid (hr8.ints (by rw[hp2];exact hrl) (fun z hz=>DO (hp1 z hz) (by omega)));have HRK:=hid (fun x hx=>HRK.out x hx gone hax);have HRG:=hid (fun x hx=>HRG.out x hx gone kp hax rfl);clear hr8 hp1 hp2 hax;by_cases hk:kp=0∨kp=1
     ·have hkk:(kp==0||kp==1)=true:=by simpa using hk
      have HE:Hid (∀x:List Int,x.length=k→A7 n x=some (Bg x gone (decide (kp=1)) k)):=hid fun x hx=>by rw[HRG.out x hx hk,hx]
      rcases hk with rfl|rfl
      all_goals
       go_wp2
       go_ret3
       exact HPost.out _ gone true _ HB8.out HI8.out (fun x hx=>HE.out x hx)
     ·have hk0:(kp==0)=false:=by simp;omega
      have hk1':(kp==1)=false:=by simp;omega
      have hd:Hid (decide (kp=1)=false):=hid (by simp;omega);have HE:Hid (∀x:List Int,x.length=k→A7 n x=none):=hid fun x hx=>HRK.out x hx hk;clear hk;go_wp2
      go_ret3
      exact HPost.out _ gone (decide (kp=1)) _ HB8.out HI8.out (fun x hx=>by rw[hd.out];exact HE.out x hx)
end
section
def Hw(w:World)(x:Option (List Int))(e:Ending)(w':World):Prop:=Below w.heap.size w w'∧match x with |none=>∃v,e=.returned (.tuple #[v,.bool false])|some zs=>∃v,e=.returned (.tuple #[v,.bool true])∧Aa w' v zs
theorem Hw.no{w w':World}{x:Option (List Int)}{v:Value}(h:x=Option.none)(hB:Below w.heap.size w w'):Hw w x (.returned (.tuple #[v,.bool false])) w':=by subst h;exact⟨hB,v,rfl⟩
theorem Hw.yes{w w':World}{x:Option (List Int)}{zs:List Int}{v:Value}(h:x=Option.some zs)(hB:Below w.heap.size w w')(hi:Aa w' v zs):Hw w x (.returned (.tuple #[v,.bool true])) w':=by subst h;exact⟨hB,v,rfl,hi⟩
theorem Eg.form{w w':World}{x:Option (List Int)}{e:Ending}(h:Eg w x e w'):∃a c zs b,e=.returned (.tuple #[.slice a zs.length c,.bool b])∧Hid (Below w.heap.size w w')∧Hid (Ag w' w.heap.size (.slice a zs.length c) zs)∧Hid (x=if b=true then some zs else none):=by
 have h2:=h.2;cases x with
 | none=>
  obtain⟨v,zs,rfl,hr,-⟩:=h2;obtain⟨a,c,rfl⟩:=hr.form;exact⟨a,c,zs,false,rfl,hid h.1,hid hr,hid rfl⟩
 | some zs=>
  obtain⟨v,rfl,hr⟩:=h2;obtain⟨a,c,rfl⟩:=hr.form;exact⟨a,c,zs,true,rfl,hid h.1,hid hr,hid rfl⟩
theorem Cr{w:World}{v:Value}{n:Nd}(h:Ba w v n):∃a1 c1 a2 c2,v=.agg #[.string n.op,.string n.name,.slice a1 n.ins.length c1,.string n.out,.slice a2 n.attrs.length c2]∧Hid (∀W,w.alloc (Obj.cells #[.string n.op,.string n.name,.slice a1 n.ins.length c1,.string n.out,.slice a2 n.attrs.length c2] 25)=W→
  Hid (Below w.heap.size w W)∧Hid (∀W2,Below W.heap.size W W2→(W2.cell? ⟨w.heap.size,0,none⟩=some (.string n.op)∧W2.cell? ⟨w.heap.size,1,none⟩=some (.string n.name)∧W2.cell? ⟨w.heap.size,2,none⟩=some (.slice a1 n.ins.length c1)∧W2.cell? ⟨w.heap.size,3,none⟩=some (.string n.out)∧W2.cell? ⟨w.heap.size,4,none⟩=some (.slice a2 n.attrs.length c2)))∧Hid (∀W2,Below W.heap.size W W2→Ba W2 (.agg #[.string n.op,.string n.name,.slice a1 n.ins.length c1,.string n.out,.slice a2 n.attrs.length c2]) n)):=by
 obtain⟨vin,vat,rfl,hn⟩:=h;obtain⟨a1,c1,rfl⟩:=hn.is.form;obtain⟨a2,c2,rfl⟩:=hn.ia.form;refine⟨a1,c1,a2,c2,rfl,hid fun W hW=>?_⟩;subst hW;have hB:=(Below.refl w.heap.size w).alloc (Nat.le_refl _) (Obj.cells #[.string n.op,.string n.name,.slice a1 n.ins.length c1,.string n.out,.slice a2 n.attrs.length c2] 25);exact⟨hid hB,hid fun W2 h=>((Ac.new _ _ _).below' h).five,hid fun W2 h=>⟨_,_,rfl,hn.below (hB.trans (h.mono hB.size))⟩⟩
theorem Gq{w:World}{v vo:Value}{n:Nd}{other l:List Int}(h:Ba w v n)(nm:ByteArray)(ho:Aa w vo other)(hl:Af n.attrs nm other=l):Calls Tryz.prog 132 #[v,.string nm,vo] w fun e w'=>∃a c,e=.returned (.slice a l.length c)∧Aa w' (.slice a l.length c) l∧Below w.heap.size w w':=by
 subst hl;have hok:=BS h (nm:=nm) ho.wf.1 ho.wf.2;refine(IH h nm ho).mono ?_;rintro e w'⟨v',rfl,hr,hB⟩;have hi:=BI.ints (B:=w.heap.size) hr hok.1 hok.2;obtain⟨a,c,rfl⟩:=hi.shape;exact⟨a,c,rfl,hi,hB⟩
theorem X6{e t:TypeId}(hu:Tryz.prog.underlying t=some (.slice e))(hi:(Tryz.prog.info? e).map (fun i=>(i.zero,i.size,i.bytes))=some (some (.int .i64 0),1,8))
  {ops:Array Oper} {rest:List Oper} {o:Oper} {a:Act} {Q:Exit→Act→World→Prop} {w W:World} {B k:Nat} {v:Value} {out:List Int} {x:Int} {T:TypeId} {s y:Operand}
  (hO:w.ownsRow B e 1 v k (out.map (Value.int .i64))) (hW:Below W.heap.size W w) (hk:k≤17592186044414) (hB:W.heap.size≤B)
  (hgd:o.guard=none) (ho:o.op=.call { callee:=.builtin .append,args:=#[s,y],argTypes:=#[t,t] }) (hs:a.eval s=v) (hy:a.eval y=.slice (some ⟨w.heap.size,0,none⟩) 1 1) (hw:B≤w.heap.size)
  (h:∀v' w',w'.ownsRow B e 1 v' (k+1) (out.map (Value.int .i64)++[.int .i64 x])→Hid (Below W.heap.size W w')→wpList Tryz.prog ops Q rest (a.put o.dst v') w'):wpList Tryz.prog ops Q (o::rest) a (w.alloc (.cells #[.int .i64 x] T)):=by
 obtain⟨i0,hi,hz0,hz1,hz2⟩:=info_parts hi;refine wpList_append_own _ hgd s y t ho B e i0 (.int .i64 0) 1 8 hu hi hz0 hz1 hz2 rfl (by decide) _ _ _ hs (hO.alloc _) ⟨w.heap.size,0,none⟩ 1 1 (#[.int .i64 x]:Array Value).toList hy rfl (World.news_of_block (heap_alloc_new w _)) (by simp[Value.oneCell']) (by unfold maxLen;omega) (by omega) (by simp;omega) ?_;intro v' w4 hr hg _;exact h v' w4 hr (hid ((hW.alloc (by omega) _).grown hg (by simp;omega) fun g hg=>Nat.le_trans hB (hO.lt g hg).1))
theorem Ps{ops:Array Oper}{rest:List Oper}{o:Oper}{a:Act}{Q:Exit→Act→World→Prop}{w W:World}{B k co:Nat}{ao:Option Addr}{out:List Int}{x:Int}{T:TypeId}{s y:Operand}
  (hO:Ag w B (.slice ao k co) out) (hl:out.length=k) (hW:Below W.heap.size W w) (hk:k≤17592186044414) (hB:W.heap.size≤B) (hw:B≤w.heap.size)
  (hgd:o.guard=none) (ho:o.op=.call { callee:=.builtin .append,args:=#[s,y],argTypes:=#[29,29] }) (hs:a.eval s=.slice ao k co) (hy:a.eval y=.slice (some ⟨w.heap.size,0,none⟩) 1 1)
  (h:∀v' w',Hid (Ag w' B v' (out++[x]))→Hid (Below W.heap.size W w')→wpList Tryz.prog ops Q rest (a.put o.dst v') w'):wpList Tryz.prog ops Q (o::rest) a (w.alloc (.cells #[.int .i64 x] T)):=by
 subst hl;exact X6 Tryz.underlying29 AI hO.own hW hk hB hgd ho hs hy hw fun v' w' hr hb=>h v' w' (hid (hO.push hr)) hb
theorem X7{ops:Array Oper}{rest:List Oper}{o:Oper}{a:Act}{Q:Exit→Act→World→Prop}{w W:World}{B k co:Nat}{ao:Option Addr}{out:List Int}{x:Int}{T:TypeId}{s y:Operand}
  (hO:BI w B (.slice ao k co) out) (hl:out.length=k) (hW:Below W.heap.size W w) (hk:k≤17592186044414) (hB:W.heap.size≤B) (hw:B≤w.heap.size)
  (hgd:o.guard=none) (ho:o.op=.call { callee:=.builtin .append,args:=#[s,y],argTypes:=#[39,39] }) (hs:a.eval s=.slice ao k co) (hy:a.eval y=.slice (some ⟨w.heap.size,0,none⟩) 1 1)
  (h:∀v' w',Hid (BI w' B v' (out++[x]))→Hid (Below W.heap.size W w')→wpList Tryz.prog ops Q rest (a.put o.dst v') w'):wpList Tryz.prog ops Q (o::rest) a (w.alloc (.cells #[.int .i64 x] T)):=by
 subst hl;exact X6 Tryz.underlying39 Dp hO.own hW hk hB hgd ho hs hy hw fun v' w' hr hb=>h v' w' (hid (hO.push hr)) hb
attribute [local irreducible] Af EO Hj Bv Nq AK Ag
theorem ND{w:World}{v vx:Value}{n:Nd}{x:List Int}(h:Ba w v n)(hx:Aa w vx x)(hsm:Sm x) :
  Calls Tryz.prog 138 #[v,vx] w fun e w'=>Hw w (Bv n x) e w':=by
 have hok:=BS h (nm:=BK) (other:=[]) (by simp) (by simp);have HGd:=hid (fun zs (e:Bv n x=some zs)=>R8 hsm hok.1 e);obtain⟨a1,c1,a2,c2,rfl,HN⟩:=Cr h;obtain⟨a4,c4,rfl⟩:=hx.shape;have hxl:=hx.wf.1;have hxc:=hx.capI.2;have HX:=hid hx;have HSm:=hid hsm;clear hx hsm h;go_enter Tryz.func138,Tryz.ntmps138
 go_wp2_with fail
 generalize hW1:w.alloc _=W1;obtain⟨HB1,-,HN⟩:=HN.out W1 hW1;clear hW1;obtain⟨l,hle⟩:∃l,Af n.attrs BK []=l:=⟨_,rfl⟩;rw[hle]at hok;have HLe:=hid hle;refine(Gq (HN.out _ (Below.refl _ _)) BK (.empty none 0) hle).mono ?_;rintro e w2⟨a6,c6,rfl,HI3,B2⟩;have HI3:=hid HI3;have HB2:=hid (HB1.out.trans (B2.mono HB1.out.size));have hll:=hok.1;clear hle hok B2;go_wp2_with fail
 refine(Cj (HX.out.below HB2.out)).mono ?_;rintro e w3⟨rfl,rfl⟩;have hcr:=JW x;have HE:Hid (∀left prod out,Nq x (left,prod,out)=if 0≤left then(if((AK x).1).tmod prod=0 then some (out.set left.toNat (((AK x).1).tdiv prod))else none)else if(AK x).1=prod then some out else none):=hid (fun _ _ _=>by unfold Nq;rfl);obtain⟨c0,c0',hc0⟩:∃a b,AK x=(a,b):=⟨_,_,rfl⟩;rw[hc0]at hcr HE⊢;dsimp only at hcr HE⊢;clear hc0;go_wp2_with fail
 go_loopw [9,10,11,12,13] (fun ov lv pv i _ wr=>∃(k:Nat) (left prod:Int) (out:List Int),k≤l.length∧i=.int .i64 (k:Int)∧lv=.int .i64 left∧pv=.int .i64 prod∧ -1≤left∧left<(k:Int)∧1≤prod∧prod≤65536∧Hid (out.length=k)∧Hid (EO x 0 (-1) 1 [] l=EO x k left prod out (l.drop k))∧Hid (Ag wr w2.heap.size ov out)∧Hid (Below w2.heap.size w2 wr)) (fun _ _ _ i _ _=>l.length-(intOf i).toNat)
 case atStart=>exact⟨0,-1,1,[],Nat.zero_le _,rfl,rfl,rfl,by omega,by omega,by omega,by omega,hid rfl,hid rfl,hid (Ag.nil _ _),hid (Below.refl _ _)⟩
 case round=>
  obtain⟨k,left,prod,out,hk,rfl,rfl,rfl,hl0,hl1,hp0,hp1,HOL,hF,hO,hW⟩:=hrel;have HBr:=hid (HB2.out.trans (hW.out.mono HB2.out.size));obtain⟨ao,co,hov⟩:=hO.out.form;rw[HOL.out]at hov;subst hov;have hsw:=hW.out.size;by_cases hkl:k<l.length
  ·have hki:(k:Int)<(l.length:Int):=by omega
   obtain⟨bl,ol,hal,-,gl,ul,du⟩:=Ai HI3.out hkl;subst hal;have ul:=(hW.out.cell (p:=⟨bl,ol+k,none⟩) gl).trans ul;have E1:=hid (fun q p h1 h2=>ES (n:=n) (x:=x) HLe.out (hF.out.trans (RY (x:=x) (left:=left) (prod:=prod) (out:=out) (q:=q) (p:=p) hkl h1 h2)));have E2:=hid (fun q p h1 h2 h3=>ES (n:=n) (x:=x) HLe.out (hF.out.trans (RZ (x:=x) (left:=left) (prod:=prod) (out:=out) (q:=q) (p:=p) hkl h1 h2 h3)));have E3:=hid (fun q p h1 h2 h3=>hF.out.trans (O8 (x:=x) (left:=left) (prod:=prod) (out:=out) (q:=q) (p:=p) hkl h1 h2 h3));have hm:∀p:Int,1≤p∧p≤65536→1≤prod*p∧prod*p≤4294967296:=fun p h=>by
    have e1:=Int.mul_le_mul (show prod≤65536 by omega) (show p≤65536 by omega) (by omega) (by omega);have e2:=Int.mul_le_mul (show(1:Int)≤prod by omega) (show(1:Int)≤p by omega) (by omega) (by omega);omega
   have hS:∃q p,Hj x k left (l.getD k 0)=(q,p)∧((l.getD k 0=0∧(k:Int)<(x.length:Int)∧q=left∧1≤p∧p≤65536∧∃bx ox,a4=some ⟨bx,ox,none⟩∧wr.cell? ⟨bx,ox+k,none⟩=some (.int .i64 p))∨(l.getD k 0=-1∧left<0∧q=k∧p=1)∨(l.getD k 0=0∧¬(k:Int)<(x.length:Int)∧q=left∧p=0)∨(l.getD k 0=-1∧¬left<0∧q=left∧p=-1)∨((l.getD k 0==0)=false∧(l.getD k 0== -1)=false∧q=left∧p=l.getD k 0)):=by
    unfold Hj;generalize l.getD k 0=d;by_cases c1:d=-1
    ·subst c1;by_cases c2:left<0
     ·exact⟨_,_,if_pos ⟨rfl,c2⟩,by simp[c2]⟩
     ·exact⟨left,-1,by simp[c2],by simp[c2]⟩
    by_cases c2:d=0
    ·subst c2;by_cases c3:k<x.length
     ·obtain⟨bx,ox,hax,-,gx,ux,-⟩:=Ai HX.out c3;exact⟨left,x.getD k 0,by simp[c3],Or.inl ⟨rfl,by omega,rfl,(HSm.out.at c3).1,(HSm.out.at c3).2,bx,ox,hax,(HBr.out.cell (p:=⟨bx,ox+k,none⟩) gx).trans ux⟩⟩
     ·exact⟨left,0,by simp[c3],by simp;omega⟩
    ·exact⟨left,d,by simp[c1,c2],by simp[c1,c2]⟩
   obtain⟨q,p,FS,hS⟩:=hS;have F1:=hid (E1.out _ _ FS);have F2:=hid (E2.out _ _ FS);have F3:=hid (E3.out _ _ FS);have HQ:-1≤q∧q<(k:Int)+1:=by omega
   have hp:=hm p;clear FS hm E1 E2 E3;generalize l.getD k 0=d at*;by_cases g:(1≤p∧p≤65536)∧prod*p≤65536
   ·have G:=hid (F3.out g.1 g.2);obtain⟨m1,m2⟩:=hp g.1;obtain⟨⟨g1,g2⟩,g3⟩:=g;clear F1 F2 F3 hp;rcases hS with⟨rfl,c3,rfl,-,-,bx,ox,rfl,ux⟩| ⟨rfl,c3,rfl,rfl⟩| ⟨rfl,c3,rfl,rfl⟩| ⟨rfl,c3,rfl,rfl⟩| ⟨c2,c3,rfl,rfl⟩
    all_goals first|omega|skip
    all_goals
     go_wp2_with (at_builtin;refine Ps (W:=w2) (B:=w2.heap.size) hO.out HOL.out hW.out (by omega) (Nat.le_refl _) hsw rfl rfl rfl rfl ?_)
     intro v' w4 ho4 hb4;go_wp2_with fail
     go_roundw
     case rel=>exact⟨k+1,_,_,_,by omega,by go_num,by first|rfl|go_num,by first|rfl|go_num,by omega,by omega,by omega,by omega,hid (by rw[List.length_append,HOL.out];rfl),G,ho4,hb4⟩
     case measure=>simp[intOf];omega
   ·have G:Hid (Bv n x=none):=hid (by
     by_cases g1:1≤p∧p≤65536
     ·exact F2.out g1 fun e=>g ⟨g1,e⟩
     ·exact F1.out g1)
    clear F1 F2 F3;have hb:p<1∨65536<p∨(1≤p∧p≤65536∧65536<prod*p∧prod*p≤4294967296):=by
     by_cases h:1≤p∧p≤65536
     ·have:=hp h;omega
     ·omega
    clear hp g;rcases hS with⟨rfl,c3,rfl,p1,p2,bx,ox,rfl,ux⟩| ⟨rfl,c3,rfl,rfl⟩| ⟨rfl,c3,rfl,rfl⟩| ⟨rfl,c3,rfl,rfl⟩| ⟨c2,c3,rfl,rfl⟩
    all_goals rcases hb with hb|hb| ⟨b1,b2,hb,hb2⟩
    all_goals first|omega|skip
    all_goals
     go_wp2_with fail
     go_ret2
     exact Hw.no G.out HBr.out
  ·have hki:¬(k:Int)<(l.length:Int):=by omega
   obtain rfl:k=l.length:=by omega
   have HF:=hid ((O9 (n:=n) HLe.out (hF.out.trans (RX (Nat.lt_irrefl _)))).trans (HE.out left prod out));clear hF HE;have hp00:¬prod=0:=by omega
   have hpm:¬prod=-1:=by omega
   have tme:=Int.tmod_eq_emod_of_nonneg (a:=c0) (b:=prod) (by omega);have tde:=Int.tdiv_eq_ediv_of_nonneg (a:=c0) (b:=prod) (by omega);rw[tme,tde]at HF;have td:0≤c0/prod∧c0/prod≤65536:=by
    have h1:=Int.ediv_nonneg (show 0≤c0 by omega) (show 0≤prod by omega);have h2:=Int.ediv_le_self prod (show 0≤c0 by omega);omega
   have tm:0≤c0%prod∧c0%prod≤65536:=by
    have:=Int.emod_lt_of_pos c0 (show 0<prod by omega);have:=Int.emod_nonneg c0 hp00;omega
   clear tme tde;by_cases e0:0≤left
   ·by_cases e1:c0%prod=0
    ·rw[if_pos e0,if_pos e1]at HF;obtain⟨j,rfl⟩:∃j:Nat,left=(j:Int):=⟨left.toNat,by omega⟩;rw[Int.toNat_natCast]at HF;obtain⟨g,rfl,hgB,cg,zg,hst⟩:=(show Vb.Bj w2.heap.size wr (.slice ao l.length co) out from by have:=hO.out;unfold Ag at this;exact this).at HOL.out (by omega:j<l.length);have HRz:Hid (Ag (wr.setCell ⟨g,j,none⟩ (.int .i64 (c0/prod))) w2.heap.size (.slice (some ⟨g,0,none⟩) l.length co) (out.set j (c0/prod))):=hid (by unfold Ag;exact hst _);have HBz:=hid (HBr.out.setCell (p:=⟨g,j,none⟩) (Nat.le_trans HB2.out.size hgB) (.int .i64 (c0/prod)));have hji:(j:Int)<(l.length:Int):=by omega
     clear hst;go_wp2_with fail
     go_ret2
     exact Hw.yes HF.out HBz.out (HRz.out.ints (HGd.out _ HF.out).1 (HGd.out _ HF.out).2)
    ·rw[if_pos e0,if_neg e1]at HF;have e2:¬prod=c0:=fun e=>e1 (by rw[e];exact Int.emod_self);have e3:(prod==c0)=false:=by simpa using e2
     go_wp2_with fail
     go_ret2
     exact Hw.no HF.out HBr.out
   ·rw[if_neg e0]at HF;by_cases e1:c0=prod
    ·rw[if_pos e1]at HF;subst e1;go_wp2_with fail
     go_ret2
     exact Hw.yes HF.out HBr.out (hO.out.ints (HGd.out _ HF.out).1 (HGd.out _ HF.out).2)
    ·rw[if_neg e1]at HF;have e3:(prod==c0)=false:=by simpa using fun e=>e1 e.symm
     go_wp2_with fail
     go_ret2
     exact Hw.no HF.out HBr.out
end
theorem Fx{w:World}{v:Value}{zs:List Int}(h:Aa w v zs) :
  Calls Tryz.prog 12 #[v] w fun e w'=>∃v',e=.returned v'∧w'.ownsRow w.heap.size 3 1 v' zs.length (zs.map (Value.int .i64))∧Below w.heap.size w w':=by
 obtain⟨i0,hi,hz0,hz1,hz2⟩:=info_parts AI;have H:=hid h.news;obtain⟨a1,c1,rfl⟩:=h.shape;clear h;go_enter Tryz.func12,Tryz.ntmps12
 go_wp2_with (at_builtin;refine BT rfl _ _ 29 rfl Tryz.underlying29 hi hz0 hz1 hz2 rfl (by decide) rfl rfl H.out ?_)
 intro v' w' h1 h2;have H1:=hid h1;have H2:=hid h2;clear h1 h2;go_wp2
 go_ret
 exact⟨_,rfl,H1.out,H2.out⟩
end Go.Proofs.YtkkeehnldcdccaaGreatDoor
