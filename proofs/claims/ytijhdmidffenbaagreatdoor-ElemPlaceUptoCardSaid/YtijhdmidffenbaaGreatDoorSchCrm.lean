import Derived.Test.YtijhdmidffenbaaGreatDoorSchArm
import Derived.Shelf.Abstract
open Go.Lib (hid)
set_option linter.unusedVariables false
set_option linter.unusedSimpArgs false
namespace Go.Proofs.YtijhdmidffenbaaGreatDoor
open Go.RowKit
theorem any_next {zs:List Int} {k:Nat} (h:k < zs.length) (p:Int→Bool):(zs.drop k).any p=(p (zs.getD k 0) || (zs.drop (k+1)).any p):=by
 rw [drop_next h];rfl
theorem cnt_low {zs:List Int} (h:zs.any (fun d=>decide (d < 1))=true):cnt zs=(0,4):=by unfold cnt;rw [if_pos h]
theorem cnt_long {zs:List Int} (h:zs.any (fun d=>decide (d < 1))=false) (g:6 < zs.length):cnt zs=(0,6):=by
 unfold cnt;rw [h,if_neg (by decide),if_pos g]
theorem cnt_loop {zs:List Int} (h:zs.any (fun d=>decide (d < 1))=false) (g:¬ 6 < zs.length):cnt zs=cntLoop 1 zs:=by
 unfold cnt;rw [h,if_neg (by decide),if_neg g]
theorem low_not {zs:List Int} (h:zs.any (fun d=>decide (d < 1))=false) {k:Nat} (hk:k < zs.length):1≤zs.getD k 0:=by
 have:=List.any_eq_false.1 h _ (getD_mem hk)
 simpa using this
theorem any_end {zs:List Int} {k:Nat} (p:Int→Bool) (h:¬ k < zs.length):(zs.drop k).any p=false:=by
 rw [List.drop_eq_nil_of_le (by omega)];rfl
theorem loop_next {zs:List Int} {k:Nat} {n:Int} (h:k < zs.length):cntLoop n (zs.drop k)=if 65536 < n * zs.getD k 0 then (0,6) else cntLoop (n * zs.getD k 0) (zs.drop (k+1)):=by
 rw [drop_next h];rfl
theorem loop_end {zs:List Int} {k:Nat} {n:Int} (h:¬ k < zs.length):cntLoop n (zs.drop k)=(n,0):=by
 rw [List.drop_eq_nil_of_le (by omega)];rfl
theorem mul_big {n d:Int} (h1:1≤n) (h:65536 < d):65536 < n * d:=by
 have:1 * d≤n * d:=Int.mul_le_mul_of_nonneg_right h1 (by omega);omega
theorem mul_pos' {n d:Int} (h1:1≤n) (h:1≤d):1≤n * d:=by
 have:1 * 1≤n * d:=Int.mul_le_mul h1 h (by decide) (by omega);omega
theorem mul_top {n d:Int} (h1:1≤n) (h2:n≤65536) (h3:1≤d) (h:d≤65536):n * d≤4294967296:=by
 have:n * d≤65536 * 65536:=Int.mul_le_mul h2 h (by omega) (by omega);omega
theorem int_at {zs:List Int} {k:Nat} (h:k < zs.length):zs[k]?=some (zs.getD k 0):=by simp [List.getD,List.getElem?_eq_getElem h]
def TestI (g:Nat) (lb:Array Value) (p:Int→Bool) (w:World):Prop :=
 ∀ (W:World) (z:Int),Below w.heap.size w W→InI z→Calls Tryz.prog g (#[.int .i64 z]++lb) W fun e w'=>e=.returned (.bool (p z))∧Below W.heap.size W w'
attribute [local irreducible] cnt cntLoop
set_option maxHeartbeats 1000000 in
theorem indexI_row (b off cap:Nat) (zs:List Int) (hlen:zs.length * 8≤140737488351232) (hw:Hid (∀ z ∈ zs,InI z)) (w:World) (hb:b < w.heap.size) (hr:Hid (Reads w b off zs)) (g:Nat) (lb:Array Value) (eg:∀ args w,(callFunc g args).run Tryz.prog w=.ok (.enter g args) w) (p:Int→Bool) (hp:Hid (TestI g lb p w)) :
  Calls Tryz.prog 111 #[.slice (some ⟨b,off,none⟩) zs.length cap,.func (.func g) #[] lb] w fun e w'=>e=.returned (.int .i64 (gidx p zs))∧Below w.heap.size w w':=by
 go_enter Tryz.func111,Tryz.ntmps111
 go_wp2
 go_loopg [5,8] zs.length (fun gg _ s8 wr=>∃ k:Nat,k≤zs.length∧zs.length - k≤gg∧s8=.int .i64 (k:Int)∧Hid (Below w.heap.size w wr)∧Hid ((zs.take k).any p=false))
 case atStart=>exact ⟨0,Nat.zero_le _,by omega,rfl,hid (Below.refl _ _),hid (by simp)⟩
 case round =>
  obtain ⟨k,hk,hg,rfl,hB,hany⟩:=hrel;by_cases hkl:k < zs.length
  ·have hki:(k:Int) < (zs.length:Int):=by omega
   have c0:=(hr.out.below hB.out hb) k hkl;have HI:=hw.out _ (getD_mem hkl);have HA:=hid (int_at hkl);generalize zs.getD k 0=z at c0 HI HA;have hcall:=hid (hp.out _ z hB.out HI);clear HI;cases hq:p z with
   | true =>
    have e:=hid (gidx_at HA.out hany.out hq);rw [hq] at hcall;clear hq;go_wp2_with (go_at_fn g;refine hcall.out.mono ?_;rintro e w' ⟨rfl,hB2⟩)
    go_ret
    exact ⟨ret_val (int_val e.out.symm),hB.out.trans (hB2.mono hB.out.size)⟩
   | false =>
    have e:=hid (take_any HA.out hany.out hq);rw [hq] at hcall;clear hq;go_wp2_with (go_at_fn g;refine hcall.out.mono ?_;rintro e w' ⟨rfl,hB2⟩)
    go_roundg (zs.length - (k+1))
    case measure=>omega
    case rel=>exact ⟨k+1,by omega,by omega,by go_num,hid (hB.out.trans (hB2.mono hB.out.size)),e⟩
  ·have hki:¬ (k:Int) < (zs.length:Int):=by omega
   obtain rfl:k=zs.length:=by omega
   have e:Hid (gidx p zs=-1):=hid (gidx_none (by have:=hany.out;rwa [List.take_length] at this));go_wp2
   go_ret
   exact ⟨ret_val (int_val e.out.symm),hB.out⟩
theorem indexI_empty (a0:Option Addr) (cap:Nat) (fn:Value) (p:Int→Bool) (w:World) :
  Calls Tryz.prog 111 #[.slice a0 0 cap,fn] w fun e w'=>e=.returned (.int .i64 (gidx p []))∧Below w.heap.size w w':=by
 have e:gidx p []=-1:=rfl;rw [e];go_enter Tryz.func111,Tryz.ntmps111
 go_wp2
 go_rounds 1
 go_ret
 exact ⟨rfl,Below.refl _ _⟩
theorem indexI_any {w:World} {v:Value} {zs:List Int} (h:IntsIn w v zs) (g:Nat) (lb:Array Value) (eg:∀ args w,(callFunc g args).run Tryz.prog w=.ok (.enter g args) w) (p:Int→Bool) (hp:TestI g lb p w) :
  Calls Tryz.prog 111 #[v,.func (.func g) #[] lb] w fun e w'=>e=.returned (.int .i64 (gidx p zs))∧Below w.heap.size w w':=by
 cases h with
 | empty a0 cap=>exact indexI_empty a0 cap _ p w
 | row b off cap _ h0 hc hb hr hlen hw=>exact indexI_row b off cap zs hlen (hid hw) w hb (hid hr) g lb eg p (hid hp)
theorem containsI_any {w:World} {v:Value} {zs:List Int} (h:IntsIn w v zs) (g:Nat) (lb:Array Value) (eg:∀ args w,(callFunc g args).run Tryz.prog w=.ok (.enter g args) w) (p:Int→Bool) (hp:TestI g lb p w) :
  Calls Tryz.prog 60 #[v,.func (.func g) #[] lb] w fun e w'=>e=.returned (.bool (zs.any p))∧Below w.heap.size w w':=by
 have H:=hid (indexI_any h g lb eg p hp);have hg:=hid (gidx_ge p zs);go_enter Tryz.func60,Tryz.ntmps60
 go_wp2_with (go_at_call 111;refine H.out.mono ?_;rintro e w' ⟨rfl,hB⟩)
 go_ret
 refine ⟨ret_val (bool_val ?_),hB⟩;have:=hg.out
 simpa using this
set_option maxHeartbeats 1000000 in
theorem indexL_row (b off cap:Nat) (zs:List Int) (hlen:zs.length * 8≤140737488351232) (hw:Hid (∀ z ∈ zs,InI z)) (w:World) (hb:b < w.heap.size) (hr:Hid (Reads w b off zs)) (g:Nat) (lb:Array Value) (eg:∀ args w,(callFunc g args).run Tryz.prog w=.ok (.enter g args) w) (p:Int→Bool) (hp:Hid (TestI g lb p w)) :
  Calls Tryz.prog 148 #[.slice (some ⟨b,off,none⟩) zs.length cap,.func (.func g) #[] lb] w fun e w'=>e=.returned (.int .i64 (gidx p zs))∧Below w.heap.size w w':=by
 go_enter Tryz.func148,Tryz.ntmps148
 go_wp2
 go_loopg [5,8] zs.length (fun gg _ s8 wr=>∃ k:Nat,k≤zs.length∧zs.length - k≤gg∧s8=.int .i64 (k:Int)∧Hid (Below w.heap.size w wr)∧Hid ((zs.take k).any p=false))
 case atStart=>exact ⟨0,Nat.zero_le _,by omega,rfl,hid (Below.refl _ _),hid (by simp)⟩
 case round =>
  obtain ⟨k,hk,hg,rfl,hB,hany⟩:=hrel;by_cases hkl:k < zs.length
  ·have hki:(k:Int) < (zs.length:Int):=by omega
   have c0:=(hr.out.below hB.out hb) k hkl;have HI:=hw.out _ (getD_mem hkl);have HA:=hid (int_at hkl);generalize zs.getD k 0=z at c0 HI HA;have hcall:=hid (hp.out _ z hB.out HI);clear HI;cases hq:p z with
   | true =>
    have e:=hid (gidx_at HA.out hany.out hq);rw [hq] at hcall;clear hq;go_wp2_with (go_at_fn g;refine hcall.out.mono ?_;rintro e w' ⟨rfl,hB2⟩)
    go_ret
    exact ⟨ret_val (int_val e.out.symm),hB.out.trans (hB2.mono hB.out.size)⟩
   | false =>
    have e:=hid (take_any HA.out hany.out hq);rw [hq] at hcall;clear hq;go_wp2_with (go_at_fn g;refine hcall.out.mono ?_;rintro e w' ⟨rfl,hB2⟩)
    go_roundg (zs.length - (k+1))
    case measure=>omega
    case rel=>exact ⟨k+1,by omega,by omega,by go_num,hid (hB.out.trans (hB2.mono hB.out.size)),e⟩
  ·have hki:¬ (k:Int) < (zs.length:Int):=by omega
   obtain rfl:k=zs.length:=by omega
   have e:Hid (gidx p zs=-1):=hid (gidx_none (by have:=hany.out;rwa [List.take_length] at this));go_wp2
   go_ret
   exact ⟨ret_val (int_val e.out.symm),hB.out⟩
theorem indexL_empty (a0:Option Addr) (cap:Nat) (fn:Value) (p:Int→Bool) (w:World) :
  Calls Tryz.prog 148 #[.slice a0 0 cap,fn] w fun e w'=>e=.returned (.int .i64 (gidx p []))∧Below w.heap.size w w':=by
 have e:gidx p []=-1:=rfl;rw [e];go_enter Tryz.func148,Tryz.ntmps148
 go_wp2
 go_rounds 1
 go_ret
 exact ⟨rfl,Below.refl _ _⟩
theorem indexL_any {w:World} {v:Value} {zs:List Int} (h:IntsIn w v zs) (g:Nat) (lb:Array Value) (eg:∀ args w,(callFunc g args).run Tryz.prog w=.ok (.enter g args) w) (p:Int→Bool) (hp:TestI g lb p w) :
  Calls Tryz.prog 148 #[v,.func (.func g) #[] lb] w fun e w'=>e=.returned (.int .i64 (gidx p zs))∧Below w.heap.size w w':=by
 cases h with
 | empty a0 cap=>exact indexL_empty a0 cap _ p w
 | row b off cap _ h0 hc hb hr hlen hw=>exact indexL_row b off cap zs hlen (hid hw) w hb (hid hr) g lb eg p (hid hp)
theorem containsL_any {w:World} {v:Value} {zs:List Int} (h:IntsIn w v zs) (g:Nat) (lb:Array Value) (eg:∀ args w,(callFunc g args).run Tryz.prog w=.ok (.enter g args) w) (p:Int→Bool) (hp:TestI g lb p w) :
  Calls Tryz.prog 109 #[v,.func (.func g) #[] lb] w fun e w'=>e=.returned (.bool (zs.any p))∧Below w.heap.size w w':=by
 have H:=hid (indexL_any h g lb eg p hp);have hg:=hid (gidx_ge p zs);go_enter Tryz.func109,Tryz.ntmps109
 go_wp2_with (go_at_call 148;refine H.out.mono ?_;rintro e w' ⟨rfl,hB⟩)
 go_ret
 refine ⟨ret_val (bool_val ?_),hB⟩;have:=hg.out
 simpa using this
set_option maxHeartbeats 1000000 in
theorem rcount_row (b off cap:Nat) (zs:List Int) (hlen:zs.length * 8≤140737488351232) (hw:Hid (∀ z ∈ zs,InI z)) (w:World) (hr:Hid (Reads w b off zs)) :
  Calls Tryz.prog 14 #[.slice (some ⟨b,off,none⟩) zs.length cap] w fun e w'=>e=.returned (.tuple #[.int .i64 (cnt zs).1,.int .i64 (cnt zs).2])∧w=w':=by
 go_enter Tryz.func14,Tryz.ntmps14
 go_wp2
 go_loop [4] (fun i=>∃ k:Nat,k≤zs.length∧i=.int .i64 (k:Int)∧Hid (zs.any (fun d=>decide (d < 1))=(zs.drop k).any (fun d=>decide (d < 1)))) (fun i=>zs.length - (intOf i).toNat)
 case atStart=>exact ⟨0,Nat.zero_le _,rfl,hid (by simp)⟩
 case round =>
  obtain ⟨k,hk,rfl,hany⟩:=hrel;by_cases hkl:k < zs.length
  ·have hcx:=hr.out k hkl;have hn:=hid (any_next hkl (fun d=>decide (d < 1)));generalize zs.getD k 0=z at *;go_wp2
   ·rename_i hz
    go_ret2
    have e:=cnt_low (zs:=zs) (by rw [hany.out,hn.out];simp;omega);rw [e];exact ⟨rfl,rfl⟩
   ·go_round
    case rel=>exact ⟨k+1,by omega,by go_num,hid (by rw [hany.out,hn.out];simp;omega)⟩
    case measure=>simp [intOf];omega
  ·have hlow:=hid (by rw [hany.out,any_end _ hkl]:zs.any (fun d=>decide (d < 1))=false);have ek:k=zs.length:=by omega
   go_wp2
   ·rename_i hz
    go_ret2
    have e:=cnt_long hlow.out (by omega);rw [e];exact ⟨rfl,rfl⟩
   ·have h6:zs.length≤6:=by omega
    go_loop [5,6] (fun n i=>∃ (m:Int) (k:Nat),k≤zs.length∧1≤m∧m≤65536∧n=.int .i64 m∧i=.int .i64 (k:Int)∧Hid (cnt zs=cntLoop m (zs.drop k))) (fun _ i=>zs.length - (intOf i).toNat)
    case atStart=>exact ⟨1,0,Nat.zero_le _,by omega,by omega,rfl,rfl,hid (by rw [cnt_loop hlow.out (by omega)];simp)⟩
    case round =>
     obtain ⟨m,k,hk,hm1,hm2,rfl,rfl,hc⟩:=hrel;by_cases hkl:k < zs.length
     ·have hcx:=hr.out k hkl;have hn:=hid (loop_next (n:=m) hkl);have h1:=low_not hlow.out hkl;generalize zs.getD k 0=z at *;by_cases hbig:65536 < z
      ·have e:cnt zs=(0,6):=by rw [hc.out,hn.out,if_pos (mul_big hm1 hbig)]
       rw [e];go_wp2
       go_ret2
       exact ⟨rfl,rfl⟩
      ·have ht:=mul_top hm1 hm2 h1 (by omega);have hp:=mul_pos' hm1 h1;by_cases hb2:65536 < m * z
       ·have e:cnt zs=(0,6):=by rw [hc.out,hn.out,if_pos hb2]
        rw [e];go_wp2
        go_ret2
        exact ⟨rfl,rfl⟩
       ·have e:Hid (cnt zs=cntLoop (m * z) (zs.drop (k+1))):=hid (by rw [hc.out,hn.out,if_neg hb2]);go_wp2
        go_round
        case rel=>exact ⟨m * z,k+1,by omega,hp,by omega,by go_num,by go_num,e⟩
        case measure=>simp [intOf];omega
     ·have e:cnt zs=(m,0):=by rw [hc.out,loop_end hkl]
      have ek:k=zs.length:=by omega
      rw [e];go_wp2
      go_ret2
      exact ⟨rfl,rfl⟩
theorem rcount_empty (a0:Option Addr) (cap:Nat) (w:World) :
  Calls Tryz.prog 14 #[.slice a0 0 cap] w fun e w'=>e=.returned (.tuple #[.int .i64 (cnt []).1,.int .i64 (cnt []).2])∧w=w':=by
 have e:cnt []=(1,0):=by unfold cnt;unfold cntLoop;decide
 rw [e];go_enter Tryz.func14,Tryz.ntmps14
 go_wp2
 go_rounds 1
 go_wp2
 go_rounds 1
 go_wp2
 go_ret2
 exact ⟨rfl,rfl⟩
theorem rcount_any {w:World} {v:Value} {zs:List Int} (h:IntsIn w v zs) :
  Calls Tryz.prog 14 #[v] w fun e w'=>e=.returned (.tuple #[.int .i64 (cnt zs).1,.int .i64 (cnt zs).2])∧w=w':=by
 cases h with
 | empty a0 cap=>exact rcount_empty a0 cap w
 | row b off cap _ h0 hc hb hr hlen hw=>exact rcount_row b off cap zs hlen (hid hw) w (hid hr)
theorem eg_count1:∀ args w,(callFunc 61 args).run Tryz.prog w=.ok (.enter 61 args) w:=enters_of Tryz.func61 (by kernel_rfl) rfl
theorem count1_any (z:Int) (w:World):Calls Tryz.prog 61 #[.int .i64 z] w fun e w'=>e=.returned (.bool (decide (z < 1)))∧Below w.heap.size w w':=by
 go_enter Tryz.func61,Tryz.ntmps61
 go_wp2
 go_ret
 exact ⟨rfl,Below.refl _ _⟩
theorem testI_count (w:World):TestI 61 #[] (fun d=>decide (d < 1)) w:=fun W z _ _=>count1_any z W
set_option maxHeartbeats 1000000 in
theorem count_row (b off cap:Nat) (zs:List Int) (hlen:zs.length * 8≤140737488351232) (hw:Hid (∀ z ∈ zs,InI z)) (w:World) (hb:b < w.heap.size) (hr:Hid (Reads w b off zs)) (hin:Hid (IntsIn w (.slice (some ⟨b,off,none⟩) zs.length cap) zs)) :
  Calls Tryz.prog 31 #[.slice (some ⟨b,off,none⟩) zs.length cap] w fun e w'=>e=.returned (.tuple #[.int .i64 (cnt zs).1,.int .i64 (cnt zs).2])∧Below w.heap.size w w':=by
 have H:=hid (containsI_any hin.out _ _ eg_count1 _ (testI_count w));cases hb1:zs.any (fun d=>decide (d < 1))
 ·rw [hb1] at H;by_cases h6:6 < zs.length
  ·have e:cnt zs=(0,6):=cnt_long hb1 h6;rw [e];clear hb1;go_enter Tryz.func31,Tryz.ntmps31
   go_wp2_with (go_at_call 60;refine H.out.mono ?_;rintro e w' ⟨rfl,hB⟩;have HB:=hid hB;clear hB)
   go_ret2
   exact ⟨rfl,HB.out⟩
  ·have hlow:=hid hb1;have h6':zs.length≤6:=by omega
   clear hb1;go_enter Tryz.func31,Tryz.ntmps31
   go_wp2_with (go_at_call 60;refine H.out.mono ?_;rintro e w' ⟨rfl,hB⟩;have HB:=hid hB;clear hB)
   have HR2:=hid (hr.out.below HB.out hb);go_loop [4,14] (fun n i=>∃ (m:Int) (k:Nat),k≤zs.length∧1≤m∧m≤65536∧n=.int .i64 m∧i=.int .i64 (k:Int)∧Hid (cnt zs=cntLoop m (zs.drop k))) (fun _ i=>zs.length - (intOf i).toNat)
   case atStart=>exact ⟨1,0,Nat.zero_le _,by omega,by omega,rfl,rfl,hid (by rw [cnt_loop hlow.out (by omega)];simp)⟩
   case round =>
    obtain ⟨m,k,hk,hm1,hm2,rfl,rfl,hc⟩:=hrel;by_cases hkl:k < zs.length
    ·have hcx:=HR2.out k hkl;have hn:=hid (loop_next (n:=m) hkl);have h1:=low_not hlow.out hkl;have hI2:=(hw.out _ (getD_mem hkl)).2;generalize zs.getD k 0=z at *;have hq:=quo_test (n:=m) (d:=z) hm1;rw [Int.tdiv_eq_ediv_of_nonneg (by decide)] at hq;have hq0:wrap64 (65536 / m)=65536 / m:=by
      have h3:65536 / m≤65536:=Int.ediv_le_self _ (by decide);have h4:0≤65536 / m:=Int.ediv_nonneg (by decide) (by omega);unfold wrap64;omega
     have hm0:(m==0)=false:=by simp;omega
     by_cases hb2:65536 < m * z
     ·have e:Hid (cnt zs=(0,6)):=hid (by rw [hc.out,hn.out,if_pos hb2]);have hlt:65536 / m < z:=hq.2 hb2;clear hq hb2
      skip
      go_wp2
      go_ret2
      exact ⟨ret2_val (int_val (by rw [e.out])) (int_val (by rw [e.out])),HB.out⟩
     ·have e:Hid (cnt zs=cntLoop (m * z) (zs.drop (k+1))):=hid (by rw [hc.out,hn.out,if_neg hb2]);have hp:=mul_pos' hm1 h1;have hle:¬ 65536 / m < z:=fun h=>hb2 (hq.1 h);clear hq
      skip
      go_wp2
      go_round
      case rel=>exact ⟨m * z,k+1,by omega,hp,by omega,by go_num,by go_num,e⟩
      case measure=>simp [intOf];omega
    ·have e:Hid (cnt zs=(m,0)):=hid (by rw [hc.out,loop_end hkl]);have ek:k=zs.length:=by omega
     go_wp2
     go_ret2
     exact ⟨ret2_val (int_val (by rw [e.out])) (int_val (by rw [e.out])),HB.out⟩
 ·rw [hb1] at H;have e:cnt zs=(0,4):=cnt_low hb1;rw [e];clear hb1;go_enter Tryz.func31,Tryz.ntmps31
  go_wp2_with (go_at_call 60;refine H.out.mono ?_;rintro e w' ⟨rfl,hB⟩;have HB:=hid hB;clear hB)
  go_ret2
  exact ⟨rfl,HB.out⟩
theorem count_empty (a0:Option Addr) (cap:Nat) (w:World) :
  Calls Tryz.prog 31 #[.slice a0 0 cap] w fun e w'=>e=.returned (.tuple #[.int .i64 (cnt []).1,.int .i64 (cnt []).2])∧Below w.heap.size w w':=by
 have H:=hid (containsI_any (IntsIn.empty (w:=w) a0 cap) _ _ eg_count1 _ (testI_count w));have e:cnt []=(1,0):=by unfold cnt;unfold cntLoop;decide
 rw [e];rw [show ([]:List Int).any (fun d=>decide (d < 1))=false from rfl] at H;go_enter Tryz.func31,Tryz.ntmps31
 go_wp2_with (go_at_call 60;refine H.out.mono ?_;rintro e w' ⟨rfl,hB⟩;have HB:=hid hB;clear hB)
 go_rounds 1
 go_ret2
 exact ⟨rfl,HB.out⟩
theorem count_any {w:World} {v:Value} {zs:List Int} (h:IntsIn w v zs) :
  Calls Tryz.prog 31 #[v] w fun e w'=>e=.returned (.tuple #[.int .i64 (cnt zs).1,.int .i64 (cnt zs).2])∧Below w.heap.size w w':=by
 have h':=h;cases h with
 | empty a0 cap=>exact count_empty a0 cap w
 | row b off cap _ h0 hc hb hr hlen hw=>exact count_row b off cap zs hlen (hid hw) w hb (hid hr) (hid h')
end Go.Proofs.YtijhdmidffenbaaGreatDoor
