import Derived.Test.YtijhdmidffenbaaGreatDoorViewAim
import Derived.RangeFuncFrom
import Derived.RangeFuncBox
import Derived.RangeFuncLeaves
import Derived.Shelf.Abstract
import Derived.OwnWalkIn
import Derived.TacticsInMore
import Derived.LoopNIn
import Derived.LoopIn
import Derived.Maps.AppendAt
import Derived.Deep.Draws
import Derived.Sort.QuietIn
import Derived.RegionIn
import Derived.Shelf.RegionOpen
import Derived.Test.YtijhdmidffenbaaGreatDoorShelfim
import Derived.Test.YtijhdmidffenbaaGreatDoorSchCoim
import Derived.Test.YtijhdmidffenbaaGreatDoorOpenim
import Derived.Laws.OwnMore
open Go.Lib (hid)
set_option linter.unusedVariables false
set_option linter.unusedSimpArgs false
namespace Go.Proofs.YtijhdmidffenbaaGreatDoor.Vx
open Go.RowKit
theorem cnt_low {zs:List Int} (h:zs.any (fun d=>decide (d < 1))=true):cnt zs=(0,4):=by unfold cnt;rw [if_pos h]
theorem cnt_long {zs:List Int} (h:zs.any (fun d=>decide (d < 1))=false) (g:6 < zs.length):cnt zs=(0,6):=by
 unfold cnt;rw [h,if_neg (by decide),if_pos g]
theorem cnt_loop {zs:List Int} (h:zs.any (fun d=>decide (d < 1))=false) (g:¬ 6 < zs.length):cnt zs=cntLoop 1 zs:=by
 unfold cnt;rw [h,if_neg (by decide),if_neg g]
theorem low_not {zs:List Int} (h:zs.any (fun d=>decide (d < 1))=false) {k:Nat} (hk:k < zs.length):1≤zs.getD k 0:=by
 have:=List.any_eq_false.1 h _ (getD_mem hk)
 simpa using this
theorem any_end {zs:List Int} {k:Nat} (p:Int→Bool) (h:¬ k < zs.length):(zs.drop k).any p=false:=by
 rw [List.drop_eq_nil_of_le (by omega)];rfl
theorem loop_next {zs:List Int} {k:Nat} {n:Int} (h:k < zs.length):cntLoop n (zs.drop k)=if 65536 < n * zs.getD k 0 then (0,6) else cntLoop (n * zs.getD k 0) (zs.drop (k+1)):=by
 rw [drop_next h];rfl
theorem loop_end {zs:List Int} {k:Nat} {n:Int} (h:¬ k < zs.length):cntLoop n (zs.drop k)=(n,0):=by
 rw [List.drop_eq_nil_of_le (by omega)];rfl
theorem mul_big {n d:Int} (h1:1≤n) (h:65536 < d):65536 < n * d:=by
 have:1 * d≤n * d:=Int.mul_le_mul_of_nonneg_right h1 (by omega)
 omega
theorem mul_pos' {n d:Int} (h1:1≤n) (h:1≤d):1≤n * d:=by
 have:1 * 1≤n * d:=Int.mul_le_mul h1 h (by decide) (by omega)
 omega
attribute [local irreducible] cnt cntLoop
set_option maxHeartbeats 1000000 in
theorem rcount_row (b off cap:Nat) (zs:List Int) (hlen:zs.length * 8≤140737488351232) (hw:Hid (∀ z ∈ zs,InI z)) (w:World) (hr:Hid (Reads w b off zs)) :
  Calls Tryz.prog 14 #[.slice (some ⟨b,off,none⟩) zs.length cap] w fun e w'=>e=.returned (.tuple #[.int .i64 (cnt zs).1,.int .i64 (cnt zs).2])∧w=w':=by
 go_enter Tryz.func14,Tryz.ntmps14
 go_wp2
 go_loop [4] (fun i=>∃ k:Nat,k≤zs.length∧i=.int .i64 (k:Int)∧Hid (zs.any (fun d=>decide (d < 1))=(zs.drop k).any (fun d=>decide (d < 1)))) (fun i=>zs.length - (intOf i).toNat)
 case atStart=>exact ⟨0,Nat.zero_le _,rfl,hid (by simp)⟩
 case round =>
  obtain ⟨k,hk,rfl,hany⟩:=hrel
  by_cases hkl:k < zs.length
  ·have hcx:=hr.out k hkl
   have hn:=hid (any_next hkl (fun d=>decide (d < 1)))
   generalize zs.getD k 0=z at *
   go_wp2
   ·rename_i hz
    go_ret2
    have e:=cnt_low (zs:=zs) (by rw [hany.out,hn.out];simp;omega)
    rw [e]
    exact ⟨rfl,rfl⟩
   ·go_round
    case rel=>exact ⟨k+1,by omega,by go_num,hid (by rw [hany.out,hn.out];simp;omega)⟩
    case measure=>simp [intOf];omega
  ·have hlow:=hid (by rw [hany.out,any_end _ hkl]:zs.any (fun d=>decide (d < 1))=false)
   have ek:k=zs.length:=by omega
   go_wp2
   ·rename_i hz
    go_ret2
    have e:=cnt_long hlow.out (by omega)
    rw [e]
    exact ⟨rfl,rfl⟩
   ·have h6:zs.length≤6:=by omega
    go_loop [5,6] (fun n i=>∃ (m:Int) (k:Nat),k≤zs.length∧1≤m∧m≤65536∧n=.int .i64 m∧i=.int .i64 (k:Int)∧Hid (cnt zs=cntLoop m (zs.drop k))) (fun _ i=>zs.length - (intOf i).toNat)
    case atStart=>exact ⟨1,0,Nat.zero_le _,by omega,by omega,rfl,rfl,hid (by rw [cnt_loop hlow.out (by omega)];simp)⟩
    case round =>
     obtain ⟨m,k,hk,hm1,hm2,rfl,rfl,hc⟩:=hrel
     by_cases hkl:k < zs.length
     ·have hcx:=hr.out k hkl
      have hn:=hid (loop_next (n:=m) hkl)
      have h1:=low_not hlow.out hkl
      generalize zs.getD k 0=z at *
      by_cases hbig:65536 < z
      ·have e:cnt zs=(0,6):=by rw [hc.out,hn.out,if_pos (mul_big hm1 hbig)]
       rw [e]
       go_wp2
       go_ret2
       exact ⟨rfl,rfl⟩
      ·have ht:=mul_top hm1 hm2 h1 (by omega)
       have hp:=mul_pos' hm1 h1
       by_cases hb2:65536 < m * z
       ·have e:cnt zs=(0,6):=by rw [hc.out,hn.out,if_pos hb2]
        rw [e]
        go_wp2
        go_ret2
        exact ⟨rfl,rfl⟩
       ·have e:Hid (cnt zs=cntLoop (m * z) (zs.drop (k+1))):=hid (by rw [hc.out,hn.out,if_neg hb2])
        go_wp2
        go_round
        case rel=>exact ⟨m * z,k+1,by omega,hp,by omega,by go_num,by go_num,e⟩
        case measure=>simp [intOf];omega
     ·have e:cnt zs=(m,0):=by rw [hc.out,loop_end hkl]
      have ek:k=zs.length:=by omega
      rw [e]
      go_wp2
      go_ret2
      exact ⟨rfl,rfl⟩
def LowF (fn:Value) (p:Int→Bool):Prop:=(fn=.func (.func 61) #[] #[]∧p=fun d=>decide (d < 1))∨(fn=.func (.func 140) #[] #[]∧p=fun d=>decide (d < 0∨65536 < d))
def fidx (p:Int→Bool) (zs:List Int):Int:=if zs.any p then (zs.findIdx p:Int) else -1
theorem findIdx_at {p:Int→Bool} {zs:List Int} {k:Nat} (hk:k < zs.length) (h:(zs.take k).any p=false) (g:p (zs.getD k 0)=true):fidx p zs=k:=by
 have e:zs=zs.take k++zs.getD k 0 :: zs.drop (k+1):=by rw [←drop_next hk,List.take_append_drop]
 have ha:zs.any p=true:=List.any_eq_true.2 ⟨_,getD_mem hk,g⟩
 unfold fidx
 rw [if_pos ha]
 have h3:zs.findIdx p=k:=by
  rw [List.findIdx_eq (by omega)]
  have h5:zs[k]=zs.getD k 0:=by simp [List.getD,List.getElem?_eq_getElem hk]
  refine ⟨by rw [h5];exact g,fun j hj=>?_⟩
  have h4:=List.any_eq_false.1 h (zs[j]'(by omega)) (by
   rw [List.mem_take_iff_getElem]
   exact ⟨j,by omega,rfl⟩)
  simpa using h4
 rw [h3]
theorem take_any_next {p:Int→Bool} {zs:List Int} {k:Nat} (hk:k < zs.length) (h:(zs.take k).any p=false) (g:p (zs.getD k 0)=false):(zs.take (k+1)).any p=false:=by
 rw [List.take_add_one,List.any_append,h]
 have h5:zs[k]?=some (zs.getD k 0):=by simp [List.getD,List.getElem?_eq_getElem hk]
 rw [h5]
 simpa using g
set_option maxHeartbeats 1000000 in
theorem indexLow_row (b off cap:Nat) (zs:List Int) (hlen:zs.length * 8≤140737488351232) (hw:Hid (∀ z ∈ zs,InI z)) (w:World) (hr:Hid (Reads w b off zs)) (fn:Value) (p:Int→Bool) (hp:LowF fn p) :
    Calls Tryz.prog 111 #[.slice (some ⟨b,off,none⟩) zs.length cap,fn] w fun e w'=>e=.returned (.int .i64 (fidx p zs))∧w=w':=by
  rcases hp with ⟨rfl,hp⟩ | ⟨rfl,hp⟩
  all_goals
    have HP:=hid hp
    clear hp
    go_enter Tryz.func111,Tryz.ntmps111
    go_wp2
    go_loop [8] (fun i=>∃ k:Nat,k≤zs.length∧i=.int .i64 (k:Int)∧Hid ((zs.take k).any p=false)) (fun i=>zs.length - (intOf i).toNat)
    case atStart=>exact ⟨0,Nat.zero_le _,rfl,hid (by simp)⟩
    case round =>
      obtain ⟨k,hk,rfl,hany⟩:=hrel
      by_cases hkl:k < zs.length
      · have hcx:=hr.out k hkl
        have hn:=hid (@findIdx_at p _ _ hkl hany.out)
        have hn2:=hid (@take_any_next p _ _ hkl hany.out)
        have hI:=(hw.out _ (getD_mem hkl)).1
        have hI2:=(hw.out _ (getD_mem hkl)).2
        generalize zs.getD k 0=z at *
        go_wp2
        all_goals first
          | (go_ret
             refine ⟨ret_val (int_val ?_),rfl⟩
             exact (hn.out (by rw [HP.out];simp;omega)).symm)
          | (go_round
             case rel=>exact ⟨k+1,by omega,by go_num,hid (hn2.out (by rw [HP.out];simp;omega))⟩
             case measure=>simp [intOf];omega)
      · have ek:k=zs.length:=by omega
        have e:Hid (fidx p zs=-1):=hid (by
          have:=hany.out
          rw [ek,List.take_length] at this
          unfold fidx;rw [this];rfl)
        go_wp2
        go_ret
        exact ⟨ret_val (int_val e.out.symm),rfl⟩
theorem indexLow_empty (a0:Option Addr) (cap:Nat) (w:World) (fn:Value) (p:Int→Bool) (hp:LowF fn p) :
  Calls Tryz.prog 111 #[.slice a0 0 cap,fn] w fun e w'=>e=.returned (.int .i64 (fidx p []))∧w=w':=by
 have e:fidx p []=-1:=rfl
 rw [e]
 rcases hp with ⟨rfl,hp⟩ | ⟨rfl,hp⟩
 all_goals
  go_enter Tryz.func111,Tryz.ntmps111
  go_wp2
  go_rounds 1
  go_ret
  exact ⟨rfl,rfl⟩
theorem indexLow_any {w:World} {v:Value} {zs:List Int} (h:IntsIn w v zs) (fn:Value) (p:Int→Bool) (hp:LowF fn p) :
  Calls Tryz.prog 111 #[v,fn] w fun e w'=>e=.returned (.int .i64 (fidx p zs))∧w=w':=by
 cases h with
 | empty a0 cap=>exact indexLow_empty a0 cap w fn p hp
 | row b off cap _ h0 hc hb hr hlen hw=>exact indexLow_row b off cap zs hlen (hid hw) w (hid hr) fn p hp
theorem fidx_ge (p:Int→Bool) (zs:List Int):decide (0≤fidx p zs)=zs.any p:=by
 unfold fidx
 cases zs.any p
 ·rfl
 ·simp
theorem containsLow_any {w:World} {v:Value} {zs:List Int} (h:IntsIn w v zs) (fn:Value) (p:Int→Bool) (hp:LowF fn p) :
  Calls Tryz.prog 60 #[v,fn] w fun e w'=>e=.returned (.bool (zs.any p))∧w=w':=by
 have H:=hid (indexLow_any h fn p hp)
 have hg:=hid (fidx_ge p zs)
 go_enter Tryz.func60,Tryz.ntmps60
 go_wp2_with (go_at_call 111;refine H.out.mono ?_;rintro e w' ⟨rfl,rfl⟩)
 go_ret
 refine ⟨ret_val (bool_val ?_),rfl⟩
 have:=hg.out
 simpa using this
set_option maxHeartbeats 1000000 in
theorem count_row (b off cap:Nat) (zs:List Int) (hlen:zs.length * 8≤140737488351232) (hw:Hid (∀ z ∈ zs,InI z)) (w:World) (hr:Hid (Reads w b off zs)) (hin:Hid (IntsIn w (.slice (some ⟨b,off,none⟩) zs.length cap) zs)) :
  Calls Tryz.prog 31 #[.slice (some ⟨b,off,none⟩) zs.length cap] w fun e w'=>e=.returned (.tuple #[.int .i64 (cnt zs).1,.int .i64 (cnt zs).2])∧w=w':=by
 have H:=hid (containsLow_any hin.out (.func (.func 61) #[] #[]) _ (Or.inl ⟨rfl,rfl⟩))
 cases hb1:zs.any (fun d=>decide (d < 1))
 ·rw [hb1] at H
  by_cases h6:6 < zs.length
  ·have e:cnt zs=(0,6):=cnt_long hb1 h6
   rw [e]
   clear hb1
   go_enter Tryz.func31,Tryz.ntmps31
   go_wp2_with (go_at_call 60;refine H.out.mono ?_;rintro e w' ⟨rfl,rfl⟩)
   go_ret2
   exact ⟨rfl,rfl⟩
  ·have hlow:=hid hb1
   have h6':zs.length≤6:=by omega
   clear hb1
   go_enter Tryz.func31,Tryz.ntmps31
   go_wp2_with (go_at_call 60;refine H.out.mono ?_;rintro e w' ⟨rfl,rfl⟩)
   go_loop [4,14] (fun n i=>∃ (m:Int) (k:Nat),k≤zs.length∧1≤m∧m≤65536∧n=.int .i64 m∧i=.int .i64 (k:Int)∧Hid (cnt zs=cntLoop m (zs.drop k))) (fun _ i=>zs.length - (intOf i).toNat)
   case atStart=>exact ⟨1,0,Nat.zero_le _,by omega,by omega,rfl,rfl,hid (by rw [cnt_loop hlow.out (by omega)];simp)⟩
   case round =>
    obtain ⟨m,k,hk,hm1,hm2,rfl,rfl,hc⟩:=hrel
    by_cases hkl:k < zs.length
    ·have hcx:=hr.out k hkl
     have hn:=hid (loop_next (n:=m) hkl)
     have h1:=low_not hlow.out hkl
     have hI2:=(hw.out _ (getD_mem hkl)).2
     generalize zs.getD k 0=z at *
     have hq:=quo_test (n:=m) (d:=z) hm1
     rw [Int.tdiv_eq_ediv_of_nonneg (by decide)] at hq
     have hq0:wrap64 (65536 / m)=65536 / m:=by
      have h3:65536 / m≤65536:=Int.ediv_le_self _ (by decide)
      have h4:0≤65536 / m:=Int.ediv_nonneg (by decide) (by omega)
      unfold wrap64;omega
     have hm0:(m==0)=false:=by simp;omega
     by_cases hb2:65536 < m * z
     ·have e:Hid (cnt zs=(0,6)):=hid (by rw [hc.out,hn.out,if_pos hb2])
      have hlt:65536 / m < z:=hq.2 hb2
      clear hq hb2
      skip
      go_wp2
      go_ret2
      exact ⟨ret2_val (int_val (by rw [e.out])) (int_val (by rw [e.out])),rfl⟩
     ·have e:Hid (cnt zs=cntLoop (m * z) (zs.drop (k+1))):=hid (by rw [hc.out,hn.out,if_neg hb2])
      have hp:=mul_pos' hm1 h1
      have hle:¬ 65536 / m < z:=fun h=>hb2 (hq.1 h)
      clear hq
      skip
      go_wp2
      go_round
      case rel=>exact ⟨m * z,k+1,by omega,hp,by omega,by go_num,by go_num,e⟩
      case measure=>simp [intOf];omega
    ·have e:Hid (cnt zs=(m,0)):=hid (by rw [hc.out,loop_end hkl])
     have ek:k=zs.length:=by omega
     go_wp2
     go_ret2
     exact ⟨ret2_val (int_val (by rw [e.out])) (int_val (by rw [e.out])),rfl⟩
 ·rw [hb1] at H
  have e:cnt zs=(0,4):=cnt_low hb1
  rw [e]
  clear hb1
  go_enter Tryz.func31,Tryz.ntmps31
  go_wp2_with (go_at_call 60;refine H.out.mono ?_;rintro e w' ⟨rfl,rfl⟩)
  go_ret2
  exact ⟨rfl,rfl⟩
theorem count_empty (a0:Option Addr) (cap:Nat) (w:World) :
  Calls Tryz.prog 31 #[.slice a0 0 cap] w fun e w'=>e=.returned (.tuple #[.int .i64 (cnt []).1,.int .i64 (cnt []).2])∧w=w':=by
 have H:=hid (containsLow_any (IntsIn.empty (w:=w) a0 cap) (.func (.func 61) #[] #[]) _ (Or.inl ⟨rfl,rfl⟩))
 have e:cnt []=(1,0):=by unfold cnt;unfold cntLoop;decide
 rw [e]
 rw [show ([]:List Int).any (fun d=>decide (d < 1))=false from rfl] at H
 go_enter Tryz.func31,Tryz.ntmps31
 go_wp2_with (go_at_call 60;refine H.out.mono ?_;rintro e w' ⟨rfl,rfl⟩)
 go_rounds 1
 go_ret2
 exact ⟨rfl,rfl⟩
theorem count_any {w:World} {v:Value} {zs:List Int} (h:IntsIn w v zs) :
  Calls Tryz.prog 31 #[v] w fun e w'=>e=.returned (.tuple #[.int .i64 (cnt zs).1,.int .i64 (cnt zs).2])∧w=w':=by
 have h':=h
 cases h with
 | empty a0 cap=>exact count_empty a0 cap w
 | row b off cap _ h0 hc hb hr hlen hw=>exact count_row b off cap zs hlen (hid hw) w (hid hr) (hid h')
end Go.Proofs.YtijhdmidffenbaaGreatDoor.Vx
namespace Go.Proofs.YtijhdmidffenbaaGreatDoor.Vx
namespace Vw
def pr:List Int→Int
 | []=>1
 | d :: ds=>d * pr ds
def crd:List Int→Int→List Int
 | [],_=>[]
 | _ :: ds,k=>k / pr ds :: crd ds (k % pr ds)
def plc:List Int→List Int→Int
 | s :: ss,c :: cs=>c * s+plc ss cs
 | _,_=>0
def zeros:List Int→List Int
 | []=>[]
 | _ :: ds=>0 :: zeros ds
def nxt:List Int→List Int→Option (List Int)
 | d :: ds,c :: cs=>match nxt ds cs with
  | some t=>some (c :: t)
  | none=>if c+1 < d then some ((c+1) :: zeros ds) else none
 | _,_=>none
def Pos (ds:List Int):Prop:=∀ d ∈ ds,1≤d
theorem Pos.head {d:Int} {ds:List Int} (h:Pos (d :: ds)):1≤d:=h d (by simp)
theorem Pos.tail {d:Int} {ds:List Int} (h:Pos (d :: ds)):Pos ds:=fun x hx=>h x (by simp [hx])
theorem pr_pos:∀ {ds:List Int},Pos ds→1≤pr ds
 | [],_=>by decide
 | d :: ds,h=>mul_pos' h.head (pr_pos h.tail)
theorem crd_zero:∀ {ds:List Int},crd ds 0=zeros ds
 | []=>rfl
 | d :: ds=>by simp [crd,zeros,crd_zero]
theorem crd_length:∀ {ds:List Int} {k:Int},(crd ds k).length=ds.length
 | [],_=>rfl
 | d :: ds,k=>by simp [crd,crd_length]
theorem nxt_crd:∀ {ds:List Int} {k:Int},Pos ds→0≤k→k < pr ds→nxt ds (crd ds k)=if k+1 < pr ds then some (crd ds (k+1)) else none
 | [],k,_,h0,h1=>by
  have:k=0:=by simp [pr] at h1;omega
  subst this
  simp [nxt,pr]
 | d :: ds,k,h,h0,h1=>by
  have hP:=pr_pos h.tail
  have hd:=h.head
  have hm0:=Int.emod_nonneg k (show pr ds≠0 by omega)
  have hm1:=Int.emod_lt_of_pos k (show 0 < pr ds by omega)
  have ih:=nxt_crd (ds:=ds) (k:=k % pr ds) h.tail hm0 hm1
  have hdm:=Int.mul_ediv_add_emod k (pr ds)
  have hq0:0≤k / pr ds:=Int.ediv_nonneg h0 (by omega)
  have hqd:k / pr ds < d:=Int.ediv_lt_of_lt_mul (by omega) h1
  show (match nxt ds (crd ds (k % pr ds)) with | some t=>some (k / pr ds :: t) | none=>if k / pr ds+1 < d then some ((k / pr ds+1) :: zeros ds) else none)=if k+1 < d * pr ds then some ((k+1) / pr ds :: crd ds ((k+1) % pr ds)) else none
  rw [ih]
  generalize pr ds=P at *
  generalize hq:k / P=q at *
  generalize hr:k % P=r at *
  by_cases g:r+1 < P
  ·rw [if_pos g]
   have e1:(k+1) / P=q:=by
    rw [←hdm,show P * q+r+1=(r+1)+P * q by omega,Int.add_mul_ediv_left _ _ (by omega),Int.ediv_eq_zero_of_lt (by omega) g];omega
   have e2:(k+1) % P=r+1:=by
    rw [←hdm,show P * q+r+1=(r+1)+P * q by omega,Int.add_mul_emod_self_left,Int.emod_eq_of_lt (by omega) g]
   have e3:k+1 < d * P:=by
    have:(q+1) * P≤d * P:=Int.mul_le_mul_of_nonneg_right (by omega) (by omega)
    have e4:(q+1) * P=P * q+P:=by rw [Int.add_mul,Int.mul_comm];omega
    omega
   rw [if_pos e3,e1,e2]
  ·rw [if_neg g]
   have hr1:r+1=P:=by omega
   have e0:k+1=P * (q+1):=by rw [←hdm,Int.mul_add];omega
   have e1:(k+1) / P=q+1:=by rw [e0,Int.mul_ediv_cancel_left _ (by omega)]
   have e2:(k+1) % P=0:=by rw [e0,Int.mul_emod_right]
   by_cases g2:q+1 < d
   ·have e3:k+1 < d * P:=by
     rw [e0,Int.mul_comm];exact Int.mul_lt_mul_of_pos_right g2 (by omega)
    simp only [if_pos g2,if_pos e3,e1,e2,crd_zero]
   ·have e3:¬ k+1 < d * P:=by
     have:d * P≤(q+1) * P:=Int.mul_le_mul_of_nonneg_right (by omega) (by omega)
     rw [e0,Int.mul_comm P];omega
    simp only [if_neg g2,if_neg e3]
theorem crd_range:∀ {ds:List Int} {k:Int},Pos ds→0≤k→k < pr ds→∀ j,j < ds.length→0≤(crd ds k).getD j 0∧(crd ds k).getD j 0 < ds.getD j 0
 | [],k,_,_,_,j,hj=>by simp at hj
 | d :: ds,k,h,h0,h1,j,hj=>by
  have hP:=pr_pos h.tail
  cases j with
  | zero =>
   show 0≤k / pr ds∧k / pr ds < d
   exact ⟨Int.ediv_nonneg h0 (by omega),Int.ediv_lt_of_lt_mul (by omega) h1⟩
  | succ j =>
   have:=crd_range (ds:=ds) (k:=k % pr ds) h.tail (Int.emod_nonneg k (by omega)) (Int.emod_lt_of_pos k (by omega)) j (by simpa using hj)
   simpa [crd] using this
theorem nxt_at:∀ {ds cs:List Int} {i:Nat} {t:List Int},cs.length=ds.length→i≤ds.length→nxt (ds.drop i) (cs.drop i)=some t→nxt ds cs=some (cs.take i++t)
 | ds,cs,0,t,_,_,h=>by simpa using h
 | [],cs,i+1,t,_,hi,_=>by simp at hi
 | d :: ds,[],i+1,t,hl,_,_=>by simp at hl
 | d :: ds,c :: cs,i+1,t,hl,hi,h=>by
  have:=nxt_at (ds:=ds) (cs:=cs) (i:=i) (t:=t) (by simpa using hl) (by simpa using hi) (by simpa using h)
  simp [nxt,this]
theorem nxt_here {ds cs:List Int} {i:Nat} (hl:cs.length=ds.length) (hi:i < ds.length) (h:nxt (ds.drop (i+1)) (cs.drop (i+1))=none) :
  nxt (ds.drop i) (cs.drop i)=if cs.getD i 0+1 < ds.getD i 0 then some ((cs.getD i 0+1) :: zeros (ds.drop (i+1))) else none:=by
 rw [drop_next hi,drop_next (zs:=cs) (by omega)]
 simp only [nxt,h]
theorem plc_split:∀ {ss cs:List Int} {i:Nat},i≤ss.length→i≤cs.length→plc ss cs=plc (ss.take i) (cs.take i)+plc (ss.drop i) (cs.drop i)
 | ss,cs,0,_,_=>by simp [plc]
 | [],_,i+1,h,_=>by simp at h
 | _ :: _,[],i+1,_,h=>by simp at h
 | s :: ss,c :: cs,i+1,h,g=>by
  have:=plc_split (ss:=ss) (cs:=cs) (i:=i) (by simpa using h) (by simpa using g)
  simp only [plc,List.take_succ_cons,List.drop_succ_cons]
  omega
theorem plc_zeros:∀ {ss ds:List Int},plc ss (zeros ds)=0
 | [],_=>by simp [plc]
 | s :: ss,[]=>by simp [plc,zeros]
 | s :: ss,d :: ds=>by simp [plc,zeros,plc_zeros]
end Vw
end Go.Proofs.YtijhdmidffenbaaGreatDoor.Vx
namespace Go.Proofs.YtijhdmidffenbaaGreatDoor.Vx
open Go Go.RowKit
variable {F:Fence} {n:Nat} {P:Program}
def AbC {β:Type} (B:Nat) (J:β→World→Prop):Prop :=
 ∀ s A A' row,J s A→A.grownBy A' row→(∀ r,row=some r→r=B)→J s A'
def SeqCells (F:Fence) (n:Nat) (P:Program) (g:Nat) (lb:Array Value) (Kp:World→World→Prop) (B:Nat) (all:List Int) (w:World):Prop :=
 ∀ (l:Nat) (J Jx:List Int→World→Prop) (W:World),Below w.heap.size w W→W.heap.size=B→AbC B J→AbC B Jx →
  (∀ pre x W1,J pre W1→B < W1.heap.size→(∃ rest,all=pre++x :: rest)→YieldAt F (n - 1) P l #[.int .i64 x] W1 fun e W' =>
   (e=.returned (.bool true)∧J (pre++[x]) W'∧Kp W1 W')∨(e=.returned (.bool false)∧Jx (pre++[x]) W')) →
  J [] W →
  CallsIn F n P g (#[.func (.yield l) #[] #[]]++lb) W fun e W'=>(∃ v,e=.returned v)∧(J all W'∨∃ pre,Jx pre W')
def bodyEnd (Kp:World→World→Prop) (I Ix:List Int→World→Prop) (xs:List Int) (W:World):Exit→Act→World→Prop
 | .normal,_,W'=>KeepsOthers W W'∧Kp W W'∧I xs W'
 | .ret,_,W'=>KeepsOthers W W'∧Ix xs W'
 | _,_,_=>False
theorem keep_block {A A':World} {row:Option Nat} {B l:Nat} {o:Obj} (hg:A.grownBy A' row) (hr:∀ r,row=some r→r=B) (hl:A.heap[l]?=some o) (hne:l≠B):A'.heap[l]?=some o :=
 (hg.block l (Array.getElem?_eq_some_iff.1 hl).1 (fun e=>hne (hr l e.symm))).trans hl
theorem range_cells {g:Operand} {p:Tmp} {assign body:Code} {Q:Exit→Act→World→Prop} {a:Act} {w:World}
  (hro:F.round=none) (h1:1≤n) {gf:Nat} {lb:Array Value} (hg:a.eval g=.func (.func gf) #[] lb) (hF:F.fn gf) (eg:∀ args w,(callFunc gf args).run P w=.ok (.enter gf args) w)
  {Kp:World→World→Prop} {all:List Int} {w0:World} (hseq:SeqCells F (n - 1) P gf lb Kp (w.heap.size+2) all w0) (hb0:Below w0.heap.size w0 w)
  (hKt:∀ {A B C:World},Kp A B→Kp B C→Kp A C) (hKl:∀ (W:World) (o o':Obj),W.heap[w.heap.size+1]?=some o→Kp W (W.putObj (w.heap.size+1) o'))
  (I Ix:List Int→World→Prop) (hI:OwnFrom w.heap.size I) (hIx:OwnFrom w.heap.size Ix) (hIc:AbC (w.heap.size+2) I) (hIxc:AbC (w.heap.size+2) Ix) (h0:I [] w) (a₁:Int→Act)
  (hassign:∀ (l:Nat) (x:Int) (W:World) (K:Act→World→Prop),K (a₁ x) W →
   assign.wpIn (F.inRound l) (n - 1 - 1) P (Exit.then K (fun _ _ _=>False)) { tmps:=a.tmps.setIfInBounds p (.int .i64 x),defers:=[] } W)
  (hbody:∀ (l:Nat) (pre:List Int) (x:Int) (W:World),I pre W→w.heap.size+2 < W.heap.size→(∃ rest,all=pre++x :: rest)→body.wpIn (F.inRound l) (n - 1 - 1) P (bodyEnd Kp I Ix (pre++[x]) W) (a₁ x) W)
  (hdone:∀ (D:Nat) (W:World),w.heap.size≤D→I all W→W.heap[D]?=some (.deferred (some []))→Q .normal { a with defers:={ target:=.collected D,args:=#[] } :: a.defers } W)
  (hstop:∀ (D:Nat) (pre:List Int) (W:World),w.heap.size≤D→Ix pre W→W.heap[D]?=some (.deferred (some []))→Code.ret.wpIn F n P Q { a with defers:={ target:=.collected D,args:=#[] } :: a.defers } W) :
  (Code.rangeFunc g #[p] assign body).wpIn F n P Q a w:=by
 refine wpIn_rangeFunc fun fn hfn=>?_
 rw [hro]
 obtain ⟨rec,hrec⟩:∃ rec:LoopState→Option Code→Loop,rec=fun st pe=>{ state:=st,pending:=pe,fn,tmps:=a.tmps,params:=#[p],assign,body,defers:=w.heap.size }:=⟨_,rfl⟩
 generalize hS:w.heap.size=S at *
 obtain ⟨W1,hW1⟩:∃ W1,(w.alloc (.deferred (some []))).alloc (.loop (rec .ready none))=W1:=⟨_,rfl⟩
 have z1:W1.heap.size=S+2:=by rw [←hW1];simp [hS]
 have l1:W1.heap[S+1]?=some (.loop (rec .ready none)):=by
  have:=World.alloc_heap_new (w.alloc (.deferred (some []))) (.loop (rec .ready none))
  rw [World.size_alloc,hS] at this
  rw [←hW1];exact this
 have d1:W1.heap[S]?=some (.deferred (some [])):=by
  rw [←hW1,Below.heap_alloc _ _ _ (by simp [hS])]
  have:=World.alloc_heap_new w (.deferred (some []))
  rwa [hS] at this
 have i1:I [] W1:=by rw [←hW1];exact hI.alloc _ (hI.alloc _ h0)
 have b1:Below w0.heap.size w0 W1:=by
  rw [←hW1]
  exact (hb0.alloc hb0.size _).alloc (by have:=hb0.size;simp;omega) _
 refine ⟨S+1,[{ target:=.collected S,args:=#[] }],W1,{ target:=.fn (.func gf) lb,args:=#[.func (.yield (S+1)) #[] #[]] },W1,gf,#[.func (.yield (S+1)) #[] #[]]++lb,W1,?_,?_,?_,?_,fun _=>h1,?_⟩
 ·rw [←hW1,hrec,←hS]
  exact run_enterLoop_outer _ _ _ _ _
 ·simp only [resolve,hg]
  simp [go_sem]
 ·intro f' hf'
  simp [Target.leads] at hf'
  subst hf';exact hF
 ·simp [invoke,go_sem,eg]
 have step:∀ (K:List Int→World→Prop),AbC (S+2) K→∀ o:Obj,AbC (S+2) (fun pre W=>K pre W∧W.heap[S+1]?=some o∧W.heap[S]?=some (.deferred (some []))):=fun K hK o s A A' row hs hg' hr =>
  ⟨hK s A A' row hs.1 hg' hr,keep_block hg' hr hs.2.1 (by omega),keep_block hg' hr hs.2.2 (by omega)⟩
 refine (hseq (S+1) (fun pre W=>I pre W∧W.heap[S+1]?=some (.loop (rec .ready none))∧W.heap[S]?=some (.deferred (some [])))
  (fun pre W=>Ix pre W∧W.heap[S+1]?=some (.loop (rec .done (some .ret)))∧W.heap[S]?=some (.deferred (some []))) W1 b1 z1 (step I hIc _) (step Ix hIxc _) ?_ ⟨i1,l1,d1⟩).mono ?_
 ·rintro pre x W ⟨hi,hl,hd⟩ hz hx
  have hlt:S+1 < W.heap.size:=(Array.getElem?_eq_some_iff.1 hl).1
  have hy:=run_yield (P:=P) (args:=#[.int .i64 x]) hl (by rw [hrec];rfl)
  rw [hrec] at hy
  refine ⟨fn,_,assign,body,hy,roundIn_of_wpIn hfn ?_⟩
  have ez:((#[p].zip #[Value.int .i64 x]).foldl (fun t (p,v)=>t.setIfInBounds p v) a.tmps)=a.tmps.setIfInBounds p (.int .i64 x):=by simp
  rw [ez]
  refine hassign _ x W _ ?_
  refine ⟨_,run_beginRound hl (by rw [hrec]),?_⟩
  generalize hW2:W.putObj (S+1) (.loop { rec .ready none with state:=.busy })=W2
  have l2:W2.heap[S+1]?=some (.loop { rec .ready none with state:=.busy }):=by rw [←hW2];exact World.putObj_heap_same hlt
  have d2:W2.heap[S]?=some (.deferred (some [])):=by rw [←hW2];exact (World.putObj_heap_other (by omega)).trans hd
  have k2:Kp W W2:=by rw [←hW2];exact hKl _ _ _ hl
  have i2:I pre W2:=by rw [←hW2];exact hI.putObj _ hi (by omega) hl rfl
  have z2:S+2 < W2.heap.size:=by rw [←hW2];simpa [World.putObj] using hz
  refine wpIn_mono (hbody _ pre x W2 i2 z2 hx) ?_
  rintro e a3 W3 hp
  have fin:∀ (jump:Option Code),KeepsOthers W2 W3→W3.heap[S+1]?=some (.loop { rec .ready none with state:=.busy })∧W3.heap[S]?=some (.deferred (some [])) ∧
    (Instr.endRound (S+1) jump).run P W3=.ok (.bool jump.isNone) (W3.putObj (S+1) (.loop (rec (if jump.isNone then .ready else .done) jump))):=fun jump hk=>by
   have l3:=hk.same _ _ l2 rfl
   refine ⟨l3,hk.same _ _ d2 rfl,?_⟩
   have:=run_endRound (P:=P) jump l3
   rw [hrec] at this ⊢
   exact this
  have own:∀ o',W3.heap[S+1]?=some (.loop { rec .ready none with state:=.busy })→(W3.putObj (S+1) o').heap[S+1]?=some o':=fun o' h=>World.putObj_heap_same (Array.getElem?_eq_some_iff.1 h).1
  cases e with
  | normal =>
   obtain ⟨hk,hkp,hi3⟩:=hp
   obtain ⟨l3,d3,hr⟩:=fin none hk
   exact ⟨_,_,hr,.inl ⟨rfl,⟨hI.putObj _ hi3 (by omega) l3 rfl,own _ l3,(World.putObj_heap_other (by omega)).trans d3⟩,hKt (hKt k2 hkp) (hKl _ _ _ l3)⟩⟩
  | ret =>
   obtain ⟨hk,hi3⟩:=hp
   obtain ⟨l3,d3,hr⟩:=fin (some .ret) hk
   exact ⟨_,_,hr,.inr ⟨rfl,hIx.putObj _ hi3 (by omega) l3 rfl,own _ l3,(World.putObj_heap_other (by omega)).trans d3⟩⟩
  | exit id=>exact hp.elim
  | goto t=>exact hp.elim
  | panic ch=>exact hp.elim
  | outgrown=>exact hp.elim
 ·rintro e W2 ⟨⟨v,rfl⟩,(⟨hi,hl,hd⟩ | ⟨pre,hi,hl,hd⟩)⟩
  all_goals
   have he:=run_endLoop (P:=P) hl (by rw [hrec];simp)
   rw [hrec] at he
  ·exact ⟨none,_,he,hdone _ _ (by omega) (hI.putObj _ hi (by omega) hl rfl) ((World.putObj_heap_other (by omega)).trans hd)⟩
  ·exact ⟨some .ret,_,he,hstop _ pre _ (by omega) (hIx.putObj _ hi (by omega) hl rfl) ((World.putObj_heap_other (by omega)).trans hd)⟩
end Go.Proofs.YtijhdmidffenbaaGreatDoor.Vx
namespace Go.Proofs.YtijhdmidffenbaaGreatDoor.Vx
open Go.RowKit
theorem _root_.Go.Proofs.YtijhdmidffenbaaGreatDoor.IntsIn.form {w:World} {v:Value} {zs:List Int} (h:IntsIn w v zs):∃ a cap,v=.slice a zs.length cap:=by
 cases h with
 | empty a0 cap=>exact ⟨a0,cap,rfl⟩
 | row b off cap _ h0 hc hb hr hlen hw=>exact ⟨_,cap,rfl⟩
def farS (d:Int):Bool:=decide (d < 0∨65536 < d)
def mayV (off:Int) (ds ss:List Int):Bool:=decide ((cnt ds).2=0)&&decide (ss.length=ds.length)&&decide (0≤off)&&decide (off < 65536) && !ss.any farS
attribute [local irreducible] cnt
set_option maxHeartbeats 1000000 in
theorem fine_any {w:World} {off:Int} {d s:Value} {ds ss:List Int} (hd:IntsIn w d ds) (hs:IntsIn w s ss) :
  Calls Tryz.prog 84 #[.agg #[.int .i64 off,d,s]] w fun e w'=>e=.returned (.bool (mayV off ds ss))∧Below w.heap.size w w':=by
 have hb:Below w.heap.size w (w.alloc (.cells #[.int .i64 off,d,s] 78)):=(Below.refl _ w).alloc (Nat.le_refl _) _
 have HC:=hid (count_any (hd.below hb))
 have HF:=hid (containsLow_any (hs.below hb) (.func (.func 140) #[] #[]) _ (Or.inr ⟨rfl,rfl⟩))
 obtain ⟨a1,c1,rfl⟩:=hd.form
 obtain ⟨a2,c2,rfl⟩:=hs.form
 have hl1:=hd.wf.1
 have hl2:=hs.wf.1
 have HB:=hid hb
 have e:Hid (mayV off ds ss=(decide ((cnt ds).2=0)&&decide (ss.length=ds.length)&&decide (0≤off)&&decide (off < 65536) && !ss.any (fun d=>decide (d < 0∨65536 < d)))):=hid rfl
 generalize cnt ds=cc at *
 generalize ss.any (fun d=>decide (d < 0∨65536 < d))=fa at *
 clear hd hs hb
 go_enter Tryz.func84,Tryz.ntmps84
 go_wp2_with (first | (go_at_call 31;refine HC.out.mono ?_;rintro e w' ⟨rfl,rfl⟩) | (go_at_call 60;refine HF.out.mono ?_;rintro e w' ⟨rfl,rfl⟩))
 all_goals
  go_ret
  go_light
  refine ⟨ret_val (bool_val ?_),HB.out⟩
  rw [e.out]
  grind
end Go.Proofs.YtijhdmidffenbaaGreatDoor.Vx
namespace Go.Proofs.YtijhdmidffenbaaGreatDoor.Vx
open Go.RowKit Go.Shelf Vw
attribute [local go_sem] Oper.semAt_some
def intCells (xs:List Int):Array Value:=(xs.map (Value.int .i64)).toArray
def RowAt (w:World) (B:Nat) (xs:List Int):Prop:=w.heap[B]?=some (.cells (intCells xs) 3 (0,0))
theorem RowAt.lt {w:World} {B:Nat} {xs:List Int} (h:RowAt w B xs):B < w.heap.size:=(Array.getElem?_eq_some_iff.1 h).1
theorem RowAt.cell {w:World} {B:Nat} {xs:List Int} (h:RowAt w B xs) {j:Nat} (hj:j < xs.length):w.cell? ⟨B,j,none⟩=some (.int .i64 (xs.getD j 0)):=by
 simp [World.cell?,show w.heap[B]?=_ from h,intCells,List.getElem?_eq_getElem hj,List.getD]
theorem RowAt.frozen {w:World} {B:Nat} {xs:List Int} (h:RowAt w B xs) (j:Nat):w.frozen? ⟨B,j,none⟩=false:=by
 simp [World.frozen?,show w.heap[B]?=_ from h]
theorem RowAt.set {w:World} {B:Nat} {xs:List Int} (h:RowAt w B xs) (j:Nat) (x:Int):RowAt (w.setCell ⟨B,j,none⟩ (.int .i64 x)) B (xs.set j x):=by
 obtain ⟨hlt,hk⟩:=Array.getElem?_eq_some_iff.1 h
 show (w.heap.modify B _)[B]?=_
 rw [Array.getElem?_eq_getElem (by rw [Array.size_modify];exact hlt),Array.getElem_modify_self,hk]
 simp [intCells,List.map_set]
theorem RowAt.keep {w w':World} {B:Nat} {xs:List Int} (h:RowAt w B xs) (g:w'.heap[B]?=w.heap[B]?):RowAt w' B xs:=g.trans h
theorem RowAt.new (w:World) (xs:List Int):RowAt (w.alloc (.cells (intCells xs) 3)) w.heap.size xs:=World.alloc_heap_new w _
theorem info_int:(Tryz.prog.info? 3).map (fun i=>(i.zero,i.size,i.bytes))=some (some (.int .i64 0),1,8):=by kernel_rfl
theorem run_make_ints (w:World) (r:Nat) (hr:r≤100000):(Instr.makeSlice 27 (.int .i64 (r:Int)) (.int .i64 (r:Int))).run Tryz.prog w=.ok (.slice (some ⟨w.heap.size,0,none⟩) r r) (w.alloc (.cells (intCells (List.replicate r 0)) 3)):=by
 obtain ⟨i0,hi,hz0,hz1,hz2⟩:=info_parts info_int
 have:=run_make (P:=Tryz.prog) w 27 3 i0 (.int .i64 0) Tryz.underlying27 hi hz0 .i64 .i64 (r:Int) (r:Int) (by omega) (by omega) (by rw [hz2];omega) (by omega)
 rw [this]
 have e:madeCells (Value.int .i64 0).cells (((r:Int).toNat) * i0.size)=intCells (List.replicate r 0):=by
  rw [hz1]
  refine Array.toList_inj.1 ?_
  have h2:=toList_madeCells_one (.int .i64 0) r
  simpa [intCells,Value.cells] using h2
 rw [e]
 simp
theorem zeros_rep:∀ {ds:List Int},zeros ds=List.replicate ds.length 0
 | []=>rfl
 | d :: ds=>by simp [zeros,zeros_rep,List.replicate_succ]
theorem crd_inj:∀ {ds:List Int} {k m:Int},Pos ds→0≤k→k < pr ds→0≤m→m < pr ds→crd ds k=crd ds m→k=m
 | [],k,m,_,h0,h1,g0,g1,_=>by simp [pr] at h1 g1;omega
 | d :: ds,k,m,h,h0,h1,g0,g1,e=>by
  have hP:=pr_pos h.tail
  simp only [crd,List.cons.injEq] at e
  have:=crd_inj (ds:=ds) h.tail (Int.emod_nonneg k (by omega)) (Int.emod_lt_of_pos k (by omega)) (Int.emod_nonneg m (by omega)) (Int.emod_lt_of_pos m (by omega)) e.2
  have h2:=Int.mul_ediv_add_emod k (pr ds)
  have h3:=Int.mul_ediv_add_emod m (pr ds)
  rw [e.1] at h2
  omega
open Classical in
noncomputable def left (B:Nat) (ds:List Int) (w:World):Nat :=
 if h:∃ k:Int,0≤k∧k < pr ds∧RowAt w B (crd ds k) then (pr ds - Classical.choose h).toNat else 0
theorem left_eq {B:Nat} {ds:List Int} {w:World} {k:Int} (hp:Pos ds) (h0:0≤k) (h1:k < pr ds) (h:RowAt w B (crd ds k)):left B ds w=(pr ds - k).toNat:=by
 have hex:∃ k:Int,0≤k∧k < pr ds∧RowAt w B (crd ds k):=⟨k,h0,h1,h⟩
 unfold left
 rw [dif_pos hex]
 obtain ⟨a,b,c⟩:=Classical.choose_spec hex
 have e:crd ds (Classical.choose hex)=crd ds k:=by
  have:=(show w.heap[B]?=_ from c).symm.trans h
  simp only [Option.some.injEq,Obj.cells.injEq,intCells,and_true] at this
  have h2:=congrArg Array.toList this
  simp only at h2
  exact (List.map_inj_right (fun x y e=>by injection e)).1 h2
 rw [crd_inj hp a b h0 h1 e]
def places (off:Int) (ds ss:List Int) (n:Nat):List Int:=(List.range n).map fun (k:Nat)=>off+plc ss (crd ds (k:Int))
theorem places_length (off:Int) (ds ss:List Int) (n:Nat):(places off ds ss n).length=n:=by simp [places]
theorem places_next (off:Int) (ds ss:List Int) (k:Nat):places off ds ss (k+1)=places off ds ss k++[off+plc ss (crd ds (k:Int))]:=by
 simp [places,List.range_succ]
theorem places_part (off:Int) (ds ss:List Int) {k n:Nat} (h:k < n):∃ rest,places off ds ss n=places off ds ss k++(off+plc ss (crd ds (k:Int))) :: rest:=by
 refine ⟨((List.range (n - (k+1))).map (fun (j:Nat)=>off+plc ss (crd ds ((k+1+j:Nat):Int)))),?_⟩
 have e:n=(k+1)+(n - (k+1)):=by omega
 have:List.range n=List.range (k+1)++(List.range (n - (k+1))).map (k+1 + ·):=by
  conv=>lhs;rw [e]
  exact List.range_add
 unfold places
 rw [this,List.map_append,List.range_succ,List.map_append]
 simp
end Go.Proofs.YtijhdmidffenbaaGreatDoor.Vx
namespace Go.Proofs.YtijhdmidffenbaaGreatDoor.Vx
open Go.RowKit Go.Shelf Vw
attribute [local go_sem] Oper.semAt_some
theorem grown_set (W:World) (b j:Nat) (v:Value):W.grownBy (W.setCell ⟨b,j,none⟩ v) (some b) :=
 ⟨rfl,rfl,rfl,(KeepsWalks.setCell W _ v).size,fun k _ hk=>Below.heap_setCell _ _ _ k (fun e=>hk (by rw [e]))⟩
theorem grown_drew (W:World) (row:Option Nat):W.grownBy W.drew row:=⟨rfl,rfl,rfl,Nat.le_refl _,fun _ _ _=>rfl⟩
structure Stands (w0:World) (bv:Nat) (off:Int) (a1 a2:Option Addr) (c1 c2 r:Nat) (W:World):Prop where
 box:W.heap[bv]?=some (.cells #[.int .i64 off,.slice a1 r c1,.slice a2 r c2] 78 (0,0))
 below:Below w0.heap.size w0 W
def Keep (n₁ bv B:Nat) (A A':World):Prop:=Below n₁ A A'∧A'.heap[bv]?=A.heap[bv]? ∧ A'.heap[B]?=A.heap[B]?
def St (w0:World) (bv B:Nat) (off:Int) (a1 a2:Option Addr) (c1 c2 r:Nat) (J:List Int→World→Prop) (pre xs:List Int) (W:World):Prop :=
 Stands w0 bv off a1 a2 c1 c2 r W∧RowAt W B xs∧J pre W
variable {w0:World} {bv B:Nat} {off:Int} {a1 a2:Option Addr} {c1 c2 r:Nat} {J:List Int→World→Prop} {pre xs:List Int} {W:World}
theorem St.set (h:St w0 bv B off a1 a2 c1 c2 r J pre xs W) (hJ:AbC B J) (hbv:bv≠B) (hB:w0.heap.size≤B) (j:Nat) (x:Int):St w0 bv B off a1 a2 c1 c2 r J pre (xs.set j x) (W.setCell ⟨B,j,none⟩ (.int .i64 x)) :=
 ⟨⟨(Below.heap_setCell _ _ _ bv hbv).trans h.1.box,h.1.below.setCell (p:=⟨B,j,none⟩) hB _⟩,h.2.1.set j x,hJ _ _ _ _ h.2.2 (grown_set W B j _) (fun r e=>by cases e;rfl)⟩
theorem St.drew (h:St w0 bv B off a1 a2 c1 c2 r J pre xs W) (hJ:AbC B J):St w0 bv B off a1 a2 c1 c2 r J pre xs W.drew :=
 ⟨⟨h.1.box,h.1.below.drew⟩,h.2.1,hJ _ _ _ none h.2.2 (grown_drew W none) (fun r e=>by cases e)⟩
theorem St.drewN (h:St w0 bv B off a1 a2 c1 c2 r J pre xs W) (hJ:AbC B J) (q:Nat):St w0 bv B off a1 a2 c1 c2 r J pre xs (W.drewN q) :=
 ⟨⟨h.1.box,⟨h.1.below.os,h.1.below.tape,h.1.below.output,h.1.below.size,h.1.below.block⟩⟩,h.2.1,hJ _ _ _ none h.2.2 ⟨rfl,rfl,rfl,Nat.le_refl _,fun _ _ _=>rfl⟩ (fun r e=>by cases e)⟩
theorem St.box0 (h:St w0 bv B off a1 a2 c1 c2 r J pre xs W):W.cell? ⟨bv,0,none⟩=some (.int .i64 off):=by simp [World.cell?,h.1.box]
theorem St.box1 (h:St w0 bv B off a1 a2 c1 c2 r J pre xs W):W.cell? ⟨bv,1,none⟩=some (.slice a1 r c1):=by simp [World.cell?,h.1.box]
theorem St.box2 (h:St w0 bv B off a1 a2 c1 c2 r J pre xs W):W.cell? ⟨bv,2,none⟩=some (.slice a2 r c2):=by simp [World.cell?,h.1.box]
theorem plc_bound:∀ {ss cs:List Int},(∀ s ∈ ss,0≤s∧s≤65536)→(∀ c ∈ cs,0≤c∧c≤65536)→0≤plc ss cs∧plc ss cs≤cs.length * 4294967296
 | [],cs,_,_=>by simp [plc];omega
 | s :: ss,[],_,_=>by simp [plc]
 | s :: ss,c :: cs,h,g=>by
  have ih:=plc_bound (ss:=ss) (cs:=cs) (fun x hx=>h x (by simp [hx])) (fun x hx=>g x (by simp [hx]))
  have h1:=h s (by simp)
  have g1:=g c (by simp)
  have m0:0≤c * s:=Int.mul_nonneg g1.1 h1.1
  have m1:c * s≤65536 * 65536:=Int.mul_le_mul g1.2 h1.2 h1.1 (by decide)
  simp only [plc,List.length_cons]
  omega
theorem take_set {c:List Int} {i:Nat} {t:List Int} {x:Int} (hi:i < c.length):(c.take (i+1)++t).set i x=c.take i++x :: t:=by
 rw [List.take_add_one,List.getElem?_eq_getElem hi]
 simp only [Option.toList_some,List.append_assoc]
 rw [List.set_append_right _ _ (by simp;omega)]
 simp [Nat.min_eq_left (Nat.le_of_lt hi)]
theorem set_at {c:List Int} {i:Nat} {t:List Int} {x y:Int} (hi:i≤c.length):(c.take i++x :: t).set i y=c.take i++y :: t:=by
 rw [List.set_append_right _ _ (by simp;omega)]
 simp [Nat.min_eq_left hi]
theorem take_get {c:List Int} {i:Nat} {t:List Int} (hi:i < c.length):(c.take (i+1)++t).getD i 0=c.getD i 0:=by
 rw [List.getD_eq_getElem?_getD,List.getElem?_append_left (by simp;omega),List.getElem?_take_of_lt (by omega)]
 simp [List.getD]
theorem here_get {c:List Int} {i:Nat} {t:List Int} {x:Int} (hi:i≤c.length):(c.take i++x :: t).getD i 0=x:=by
 rw [List.getD_eq_getElem?_getD,List.getElem?_append_right (by simp;omega)]
 simp [Nat.min_eq_left hi]
theorem plc_take {ss c:List Int} {i:Nat} (h:i < ss.length) (g:i < c.length):plc (ss.take (i+1)) (c.take (i+1))=plc (ss.take i) (c.take i)+c.getD i 0 * ss.getD i 0:=by
 have h1:=plc_split (ss:=ss.take (i+1)) (cs:=c.take (i+1)) (i:=i) (by simp;omega) (by simp;omega)
 have e1:(ss.take (i+1)).drop i=[ss.getD i 0]:=by
  rw [List.drop_take,drop_next h];simp
 have e2:(c.take (i+1)).drop i=[c.getD i 0]:=by
  rw [List.drop_take,drop_next g];simp
 rw [h1,e1,e2,List.take_take,List.take_take,Nat.min_eq_left (by omega)]
 simp [plc]
theorem plc_here {ss c:List Int} {ds:List Int} {i:Nat} {x:Int} (h:i < ss.length) (g:i≤c.length):plc ss (c.take i++x :: zeros ds)=plc (ss.take i) (c.take i)+x * ss.getD i 0:=by
 have h1:=plc_split (ss:=ss) (cs:=c.take i++x :: zeros ds) (i:=i) (by omega) (by simp;omega)
 rw [h1,List.take_append_of_le_length (by simp;omega),List.take_take,Nat.min_self,List.drop_append_of_le_length (by simp;omega)]
 have e0:(c.take i).drop i=[]:=List.drop_eq_nil_of_le (by simp;omega)
 rw [e0,drop_next h]
 simp [plc,plc_zeros]
theorem St.set0 {c t:List Int} {i:Nat} {x:Int} (h:St w0 bv B off a1 a2 c1 c2 r J pre (c.take i++x :: t) W) (hJ:AbC B J) (hbv:bv≠B) (hB:w0.heap.size≤B) (hi:i≤c.length) (y:Int) :
  St w0 bv B off a1 a2 c1 c2 r J pre (c.take i++y :: t) (W.setCell ⟨B,i,none⟩ (.int .i64 y)):=by
 have:=h.set hJ hbv hB i y
 rwa [set_at hi] at this
end Go.Proofs.YtijhdmidffenbaaGreatDoor.Vx
namespace Go.Proofs.YtijhdmidffenbaaGreatDoor.Vx
open Go.RowKit Go.Shelf Vw
attribute [local go_sem] Oper.semAt_some
attribute [local irreducible] crd plc zeros pr nxt places
theorem nxt_nil:nxt [] []=none:=by unfold nxt;rfl
theorem zeros_nil:zeros []=[]:=by unfold zeros;rfl
theorem zeros_cons {d:Int} {ds:List Int}:zeros (d :: ds)=0 :: zeros ds:=by rw [zeros]
def RowsAt (w0:World) (a:Option Addr) (zs:List Int):Prop:=∀ m,m < zs.length→∃ b o,a=some ⟨b,o,none⟩∧b < w0.heap.size∧Reads w0 b o zs
theorem _root_.Go.Proofs.YtijhdmidffenbaaGreatDoor.IntsIn.rowsV {w:World} {a:Option Addr} {n c:Nat} {zs:List Int} (h:IntsIn w (.slice a n c) zs):n=zs.length∧RowsAt w a zs:=by
 cases h with
 | empty a0 cap=>exact ⟨rfl,fun m hm=>by simp at hm⟩
 | row b off cap _ h0 hc hb hr hlen hw=>exact ⟨rfl,fun m _=>⟨b,off,rfl,hb,hr⟩⟩
set_option maxRecDepth 100000 in
set_option maxHeartbeats 4000000 in
theorem places_walk (n:Nat) (hn:1≤n) (l:Nat) (w0:World) (bv B:Nat) (off:Int) (a1 a2:Option Addr) (c1 c2:Nat) (ds ss:List Int)
  (hd:Hid (RowsAt w0 a1 ds)) (hs:Hid (RowsAt w0 a2 ss)) (hss:ss.length=ds.length) (hlen:ds.length≤6) (hD:Hid (∀ d ∈ ds,1≤d∧d≤65536)) (hS:Hid (∀ s ∈ ss,0≤s∧s≤65536)) (ho0:0≤off) (ho1:off≤65535)
  (J Jx:List Int→World→Prop) (hJ:Hid (AbC B J)) (hJx:Hid (AbC B Jx))
  (hY:Hid (∀ pre x W1,J pre W1→B < W1.heap.size→(∃ rest,places off ds ss (pr ds).toNat=pre++x :: rest)→YieldAt Fence.wide (n - 1) Tryz.prog l #[.int .i64 x] W1 fun e W' =>
   (e=.returned (.bool true)∧J (pre++[x]) W'∧Keep w0.heap.size bv B W1 W')∨(e=.returned (.bool false)∧Jx (pre++[x]) W')))
  (W:World) (hW:W.heap.size=B) (hbv:bv < B) (hw0:w0.heap.size≤B) (hst:Stands w0 bv off a1 a2 c1 c2 ds.length W) (h0:J [] W) :
  CallsIn Fence.wide n Tryz.prog 141 #[.func (.yield l) #[] #[],.pointer (some ⟨bv,0,none⟩)] W fun e W'=>(∃ v,e=.returned v)∧(J (places off ds ss (pr ds).toNat) W'∨∃ pre,Jx pre W'):=by
 have hpos:Hid (Pos ds):=hid fun d hd'=>(hD.out d hd').1
 have hP:=hid (pr_pos hpos.out)
 have hmk:=fun w=>run_make_ints w ds.length (by omega)
 have b0:W.cell? ⟨bv,0,none⟩=some (.int .i64 off):=by simp [World.cell?,hst.box]
 have b1:W.cell? ⟨bv,1,none⟩=some (.slice a1 ds.length c1):=by simp [World.cell?,hst.box]
 have hst0:Hid (St w0 bv B off a1 a2 c1 c2 ds.length J [] (crd ds 0) (W.alloc (.cells (intCells (List.replicate ds.length 0)) 3))):=hid ⟨⟨(Below.heap_alloc W _ bv (by omega)).trans hst.box,hst.below.alloc (by omega) _⟩,
  by rw [crd_zero,zeros_rep,←hW];exact RowAt.new W _,hJ.out _ _ _ none h0 (World.grownBy_alloc W _ none) (fun r e=>by cases e)⟩
 have b0':(W.alloc (.cells (intCells (List.replicate ds.length 0)) 3)).cell? ⟨bv,0,none⟩=some (.int .i64 off):=hst0.out.box0
 refine callsIn_of_wp Tryz.func141 rfl trivial ?_ rfl
 simp only [Tryz.ntmps141,List.size_toArray,List.length_cons,List.length_nil,Nat.reduceAdd,Nat.reduceSub,Array.replicate_succ,Array.replicate_zero,List.push_toArray,List.append_toArray,List.nil_append,List.cons_append]
 gi_wp2
 gi_loopw [4] (fun p wr=>∃ k:Nat,Hid ((k:Int) < pr ds)∧p=.int .i64 (off+plc ss (crd ds (k:Int)))∧Hid (St w0 bv B off a1 a2 c1 c2 ds.length J (places off ds ss k) (crd ds (k:Int)) wr)) (fun _ wr=>left B ds wr)
 case atStart=>exact ⟨0,hid (by have:=hP.out;omega),by simp [crd_zero,plc_zeros],hid (by simpa [places] using hst0.out)⟩
 case round =>
  obtain ⟨k,hk,rfl,st⟩:=hrel
  have hkP:=hk.out
  obtain ⟨fn,tmps,assign,body,hy,hR⟩:=hY.out (places off ds ss k) (off+plc ss (crd ds (k:Int))) wr st.out.2.2 st.out.2.1.lt (places_part off ds ss (by omega))
  gi_wp2
  refine hR.mono ?_
  rintro e W3 (⟨rfl,hJ3,hk3⟩ | ⟨rfl,hJx3⟩)
  ·have st3:Hid (St w0 bv B off a1 a2 c1 c2 ds.length J (places off ds ss (k+1)) (crd ds (k:Int)) W3):=hid ⟨⟨hk3.2.1.trans st.out.1.box,st.out.1.below.trans hk3.1⟩,st.out.2.1.keep hk3.2.2,by rw [places_next];exact hJ3⟩
   have hcl:(crd ds (k:Int)).length=ds.length:=crd_length
   have hnx:=hid (nxt_crd (ds:=ds) (k:=(k:Int)) hpos.out (by omega) hkP)
   have hcr:=hid (crd_range (ds:=ds) (k:=(k:Int)) hpos.out (by omega) hkP)
   have hdS:Hid (nxt (ds.drop ds.length) ((crd ds (k:Int)).drop ds.length)=none):=hid (by rw [List.drop_length,List.drop_eq_nil_of_le (by omega)];exact nxt_nil)
   have eT:(crd ds (k:Int)).take ds.length=crd ds (k:Int):=List.take_of_length_le (by omega)
   have eS:ss.take ds.length=ss:=List.take_of_length_le (by omega)
   have st4:Hid (St w0 bv B off a1 a2 c1 c2 ds.length J (places off ds ss (k+1)) ((crd ds (k:Int)).take ds.length++zeros (ds.drop ds.length)) W3):=hid (by rw [eT,List.drop_length,zeros_nil,List.append_nil];exact st3.out)
   have eP:Hid (off+plc ss (crd ds (k:Int))=off+plc (ss.take ds.length) ((crd ds (k:Int)).take ds.length)):=hid (by rw [eT,eS])
   have hL:=hid (left_eq (B:=B) (ds:=ds) hpos.out (by omega) hkP st.out.2.1)
   clear hR hy st hk3 hJ3 st3 eT eS
   generalize hc:crd ds (k:Int)=c at *
   obtain ⟨wo,hwo⟩:∃ wo,wo=W3:=⟨_,rfl⟩
   subst hwo
   gi_wp2
   gi_loopw [4,5] (fun p i wr=>∃ (m:Nat) (q:Int),m≤ds.length∧Hid (q=(m:Int) - 1)∧p=.int .i64 (off+plc (ss.take m) (c.take m))∧i=.int .i64 q∧Hid (nxt (ds.drop m) (c.drop m)=none)∧Hid (St w0 bv B off a1 a2 c1 c2 ds.length J (places off ds ss (k+1)) (c.take m++zeros (ds.drop m)) wr)) (fun _ i _=>(intOf i+1).toNat)
   case atStart=>exact ⟨ds.length,(ds.length:Int) - 1,Nat.le_refl _,hid rfl,by rw [eP.out],by go_num,hdS,st4⟩
   case round =>
    obtain ⟨m,q,hm,hq,rfl,rfl,hno,sti⟩:=hrel
    rcases (match m with | 0=>Or.inl rfl | i+1=>Or.inr ⟨i,rfl⟩:m=0∨∃ i,m=i+1) with e0 | ⟨i,e0⟩
    ·subst e0
     obtain rfl:q=-1:=hq.out
     have hend:Hid ((k:Int)+1=pr ds):=hid (by
      have h1:=hnx.out
      have h2:nxt ds c=none:=hno.out
      rw [h2] at h1
      by_cases g:(k:Int)+1 < pr ds
      ·rw [if_pos g] at h1;cases h1
      ·omega)
     gi_wp2
     refine bodyPost_ret (results_none rfl _ _ _) rfl ?_
     refine ⟨⟨_,rfl⟩,.inl ?_⟩
     have e1:(pr ds).toNat=k+1:=by have:=hend.out;omega
     rw [e1];exact sti.out.2.2
    ·subst e0
     obtain rfl:q=(i:Int):=by have:=hq.out;omega
     have hi:i < ds.length:=by omega
     have hic:i < c.length:=by omega
     have his:i < ss.length:=by omega
     obtain ⟨bd,od,rfl,hbd,hrd⟩:=hd.out i hi
     obtain ⟨bs,os,rfl,hbs,hrs⟩:=hs.out i his
     have x1:wr.cell? ⟨B,i,none⟩=some (.int .i64 (c.getD i 0)):=by rw [sti.out.2.1.cell (by simp;omega),take_get hic]
     have f1:wr.frozen? ⟨B,i,none⟩=false:=sti.out.2.1.frozen i
     have sta:=sti.out.set hJ.out (by omega) hw0 i (c.getD i 0+1)
     rw [take_set hic] at sta
     have xi:=sta.2.1.cell (j:=i) (by simp;omega)
     rw [here_get (by omega)] at xi
     have xf:=sta.2.1.frozen i
     have y0:=sta.box0
     have y1:=sta.box1
     have y2:=sta.box2
     have yd:=(sta.1.below.cell (p:=⟨bd,od+i,none⟩) hbd).trans (hrd i hi)
     have ys:=(sta.1.below.cell (p:=⟨bs,os+i,none⟩) hbs).trans (hrs i his)
     have cd:=hcr.out i hi
     have dd:=hD.out _ (getD_mem hi)
     have sd:=hS.out _ (getD_mem his)
     have eH:Hid (nxt (ds.drop i) (c.drop i)=if c.getD i 0+1 < ds.getD i 0 then some ((c.getD i 0+1) :: zeros (ds.drop (i+1))) else none):=hid (nxt_here hcl hi hno.out)
     have eT:=hid (plc_take (ss:=ss) (c:=c) (i:=i) his hic)
     have eH2:=hid (plc_here (ss:=ss) (c:=c) (ds:=ds.drop (i+1)) (i:=i) (x:=c.getD i 0+1) his (by omega))
     have bnd:=plc_bound (ss:=ss.take i) (cs:=c.take i) (fun s hs'=>hS.out s (List.mem_of_mem_take hs')) (fun x hx'=>by
      obtain ⟨j,hj,rfl⟩:=List.getElem_of_mem hx'
      have hj':j < ds.length:=by simp at hj;omega
      have h1:=hcr.out j hj'
      have h2:=hD.out _ (getD_mem hj')
      rw [show c.getD j 0=(c.take i)[j] by simp [List.getD,List.getElem?_eq_getElem (show j < c.length by omega)]] at h1
      omega)
     have hll:((c.take i).length:Int)≤6:=by simp;omega
     have stBk:Hid (c.getD i 0+1 < ds.getD i 0→(k:Int)+1 < pr ds∧crd ds ((k:Int)+1)=c.take i++(c.getD i 0+1) :: zeros (ds.drop (i+1))):=hid fun h=>by
      have h1:=hnx.out
      have h3:=eH.out
      rw [if_pos h] at h3
      rw [nxt_at hcl (by omega) h3] at h1
      by_cases g:(k:Int)+1 < pr ds
      ·rw [if_pos g] at h1
       exact ⟨g,(Option.some.inj h1).symm⟩
      ·rw [if_neg g] at h1;cases h1
     have m0:0≤c.getD i 0 * ss.getD i 0:=Int.mul_nonneg cd.1 sd.1
     have m1:c.getD i 0 * ss.getD i 0≤65536 * 65536:=Int.mul_le_mul (by omega) sd.2 sd.1 (by decide)
     have m2:(c.getD i 0+1) * ss.getD i 0=c.getD i 0 * ss.getD i 0+ss.getD i 0:=by rw [Int.add_mul];omega
     rw [eT.out]
     have hk3:Hid (c.getD i 0+1 < ds.getD i 0→(k:Int)+1 < pr ds∧off+(plc (ss.take i) (c.take i)+c.getD i 0 * ss.getD i 0)+ss.getD i 0=off+plc ss (crd ds ((k+1:Nat):Int))∧St w0 bv B off (some ⟨bd,od,none⟩) (some ⟨bs,os,none⟩) c1 c2 ds.length J (places off ds ss (k+1)) (crd ds ((k+1:Nat):Int)) (wr.setCell ⟨B,i,none⟩ (.int .i64 (c.getD i 0+1)))):=hid fun h=>by
      obtain ⟨g1,g2⟩:=stBk.out h
      rw [show ((k+1:Nat):Int)=(k:Int)+1 by omega,g2,eH2.out]
      exact ⟨g1,by omega,sta⟩
     have hk4:Hid (¬ c.getD i 0+1 < ds.getD i 0→nxt (ds.drop i) (c.drop i)=none):=hid fun h=>by rw [eH.out,if_neg h]
     have eZ:Hid (zeros (ds.drop i)=0 :: zeros (ds.drop (i+1))):=hid (by rw [drop_next hi];exact zeros_cons)
     have HS:=hid sta
     clear sti sta stBk eH eT eH2 hno hcr hnx
     generalize hpl:plc (ss.take i) (c.take i)=pl at *
     have HP:=hid hpl
     clear hpl
     generalize c.getD i 0=ci at *
     generalize ss.getD i 0=si at *
     generalize ds.getD i 0=di at *
     generalize ci * si=mm at *
     by_cases hlt:ci+1 < di
     ·gi_wp2
      gi_quiet (fail)
      gi_wp2
      go_roundw
      case rel =>
       obtain ⟨g1,g2,g3⟩:=hk3.out hlt
       exact ⟨k+1,hid (by omega),by rw [g2],hid (g3.drewN hJ.out _)⟩
      case measure =>
       obtain ⟨g1,g2,g3⟩:=hk3.out hlt
       rw [hL.out,left_eq (k:=((k+1:Nat):Int)) hpos.out (by omega) (by omega) (g3.drewN hJ.out _).2.1]
       omega
     ·gi_wp2
      gi_quiet (fail)
      gi_wp2
      gi_quiet (fail)
      gi_wp2
      go_roundw
      case rel =>
       exact ⟨i,(i:Int) - 1,by omega,hid rfl,by rw [HP.out];refine int_val ?_;omega,by go_num,hid (hk4.out hlt),hid (by rw [eZ.out];exact (HS.out.drewN hJ.out _).set0 hJ.out (by omega) hw0 (by omega) 0)⟩
      case measure=>simp [intOf]
  ·gi_wp2
   refine bodyPost_ret (results_none rfl _ _ _) rfl ?_
   exact ⟨⟨_,rfl⟩,.inr ⟨_,hJx3⟩⟩
end Go.Proofs.YtijhdmidffenbaaGreatDoor.Vx
namespace Go.Proofs.YtijhdmidffenbaaGreatDoor.Vx
open Go.RowKit Go.Shelf Vw
attribute [local go_sem] Oper.semAt_some
theorem wanted_none {o:Oper} (h:o.guard=none) (y:Nat→Option Bool):Region.wanted o y=true:=by
 unfold Region.wanted;rw [h]
theorem op_append {F:Fence} {n:Nat} {P:Program} {o:Oper} {a:Act} {w w':World} {K:Act→World→Prop} {Q:Exit→Act→World→Prop} {s x:Operand} {t:TypeId} {v u v':Value}
  (hop:o.op=Op.call { callee:=Callee.builtin Builtin.append,args:=#[s,x],argTypes:=#[t,t] }) (hs:a.eval s=v) (hx:a.eval x=u)
  (hrun:(Builtin.append_ #[t,t] o.type #[v,u]).run P w=.ok v' w') (hK:K (a.put o.dst v') w'):o.wpIn F n P a w K Q:=by
 unfold Oper.wpIn
 refine ⟨?_,?_⟩
 ·simp [Oper.about,hop,resolve,Target.leads,Sem.run_pure]
 ·rw [Oper.semAt_plain F _ _ (by rw [hop];intro c hc';cases hc')]
  simp [execOp,hop,resolve,invoke,builtin,hs,hx,hrun,Result.andThen]
  exact hK
theorem places_any (b0:Int) (d s:Value) (w:World) :
  Calls Tryz.prog 86 #[.agg #[.int .i64 b0,d,s]] w fun e w'=>e=.returned (.func (.func 141) #[] #[.pointer (some ⟨w.heap.size,0,none⟩)])∧w'=w.alloc (.cells #[.int .i64 b0,d,s] 78):=by
 go_enter Tryz.func86,Tryz.ntmps86
 go_wp2
 go_ret
 exact ⟨rfl,rfl⟩
def got (data:List Int) (ps:List Int):List Value:=ps.map fun p=>Value.int .i64 (data.getD p.toNat 0)
theorem appended_below {W w1:World} {S B:Nat} {t e:TypeId} {v v':Value} {k m:Nat} {xs ys:List Value} {tmp:Obj}
  (hv:Boxed W S t v) (hrow:W.ownsRow (B+1) e 1 v k xs) (hS:S < B) (hB:B < W.heap.size)
  (hown':w1.ownsRow (B+1) e 1 v' m ys) (hgrow:(W.alloc tmp).grownBy w1 v.ownBlock) :
  Boxed w1 S t v∧Boxed (w1.setCell ⟨S,0,none⟩ v') S t v'∧(w1.setCell ⟨S,0,none⟩ v').ownsRow (B+1) e 1 v' m ys∧KeepsOthers W (w1.setCell ⟨S,0,none⟩ v') ∧
   (∀ n₁,n₁≤S→Below n₁ W (w1.setCell ⟨S,0,none⟩ v'))∧∀ b,b≤B→b≠S→(w1.setCell ⟨S,0,none⟩ v').heap[b]?=W.heap[b]?:=by
 have hge:∀ g,v.ownBlock=some g→B+1≤g:=fun g hg=>(hrow.lt g hg).1
 have hne:∀ b,b≤B→some b≠v.ownBlock:=fun b hb e'=>by have:=hge b e'.symm;omega
 have hblk:∀ b,b≤B→w1.heap[b]?=W.heap[b]?:=fun b hb=>(hgrow.block b (by simp;omega) (hne b hb)).trans (Below.heap_alloc W tmp b (by omega))
 have hv1:Boxed w1 S t v:=(hblk S (by omega)).trans hv
 refine ⟨hv1,hv1.set v',hown'.kept (grownBy_setCell' w1 S v') ?_,?_,?_,?_⟩
 ·rcases hown'.2 with ⟨rfl,_⟩ | ⟨g,cap,cur,rfl,hg,_⟩
  ·exact .inl rfl
  ·refine .inr fun e'=>?_
   have:g=S:=by simpa [Value.ownBlock] using e'
   omega
 ·refine ((KeepsOthers.alloc W tmp).trans (KeepsOthers.of_grownBy hgrow fun j o ej hj=>?_)).trans (KeepsOthers.setCell _ _ _)
  rcases (hrow.alloc tmp).2 with ⟨rfl,_⟩ | ⟨g,cap,cur,rfl,_,hgb,_⟩
  ·simp [Value.ownBlock] at ej
  ·obtain rfl:g=j:=by simpa [Value.ownBlock] using ej
   rw [hgb] at hj;cases hj;rfl
 ·intro n₁ hn
  exact (((Below.refl n₁ W).alloc (by omega) tmp).grown hgrow (by simp;omega) fun j ej=>by have:=hge j ej;omega).setCell (p:=⟨S,0,none⟩) hn v'
 ·intro b hb hbS
  exact (Below.heap_setCell _ _ _ b hbS).trans (hblk b hb)
structure RdI (w0:World) (R1 R2 R3 S B:Nat) (dv:Value) (data:List Int) (pre:List Int) (W:World):Prop where
 inr:∀ p ∈ pre,p < data.length
 out:∃ v,Boxed W S 44 v∧W.ownsRow (B+1) 2 1 v pre.length (got data pre)
 dat:Boxed W R1 44 dv
 res:Boxed W R2 44 (.slice none 0 0)
 err:Boxed W R3 30 (.int .i64 0)
 below:Below w0.heap.size w0 W
structure RdX (w0:World) (R2 R3:Nat) (data all:List Int) (W:World):Prop where
 bad:∃ p ∈ all,(data.length:Int)≤p
 res:Boxed W R2 44 (.slice none 0 0)
 err:Boxed W R3 30 (.int .i64 1)
 below:Below w0.heap.size w0 W
theorem boxed_grown {A A':World} {row:Option Nat} {b:Nat} {t:TypeId} {v:Value} (h:Boxed A b t v) (hg:A.grownBy A' row) (hne:∀ r,row=some r→r≠b):Boxed A' b t v :=
 h.kept hg (fun e=>hne b e.symm rfl)
variable {w0:World} {R1 R2 R3 S B:Nat} {dv:Value} {data all pre:List Int}
theorem rdI_grown {A A':World} {row:Option Nat} (h:RdI w0 R1 R2 R3 S B dv data pre A) (hS:S < B) (hR1:R1 < S) (hR2:R2 < S) (hR3:R3 < S) (h0:w0.heap.size≤S) (hg:A.grownBy A' row) (hr:∀ r,row=some r→S < r∧(r≤B∨∃ o,A.heap[r]?=some o∧o.isCells=false)):RdI w0 R1 R2 R3 S B dv data pre A':=by
 obtain ⟨v,hv,hrow⟩:=h.out
 have hne:∀ b,b≤S→∀ r,row=some r→r≠b:=fun b hb r e=>by have:=(hr r e).1;omega
 refine ⟨h.inr,⟨v,boxed_grown hv hg (hne S (by omega)),hrow.kept hg ?_⟩,boxed_grown h.dat hg (hne _ (by omega)),boxed_grown h.res hg (hne _ (by omega)),boxed_grown h.err hg (hne _ (by omega)),h.below.grown hg h.below.size (fun k e=>by have:=(hr k e).1;omega)⟩
 rcases hrow.2 with ⟨rfl,_⟩ | ⟨g,cap,cur,rfl,hge,hgb,_⟩
 ·exact .inl rfl
 ·refine .inr fun e'=>?_
  rcases (hr g (by simpa [Value.ownBlock] using e'.symm)).2 with h1 | ⟨o,ho,hc⟩
  ·omega
  ·rw [hgb] at ho;cases ho;cases hc
theorem rdX_grown {A A':World} {row:Option Nat} (h:RdX w0 R2 R3 data all A) (hg:A.grownBy A' row) (hr:∀ r,row=some r→R2 < r∧R3 < r∧w0.heap.size≤r):RdX w0 R2 R3 data all A' :=
 ⟨h.bad,boxed_grown h.res hg (fun r e=>by have:=hr r e;omega),boxed_grown h.err hg (fun r e=>by have:=hr r e;omega),h.below.grown hg h.below.size (fun k e=>by have:=hr k e;omega)⟩
theorem rows_mono {W:World} {base base':Nat} {e:TypeId} {size:Nat} {v:Value} {k:Nat} {xs:List Value} (h:W.ownsRow base e size v k xs) (hb:base'≤base):W.ownsRow base' e size v k xs:=by
 obtain ⟨h1,h2⟩:=h
 refine ⟨h1,?_⟩
 rcases h2 with h | ⟨g,cap,cur,a,b,c⟩
 ·exact Or.inl h
 ·exact Or.inr ⟨g,cap,cur,a,by omega,c⟩
theorem box_cells {W:World} {b:Nat} {x y z:Value} {t:TypeId} (h:W.heap[b]?=some (.cells #[x,y,z] t (0,0))):W.cell? ⟨b,0,none⟩=some x∧W.cell? ⟨b,1,none⟩=some y∧W.cell? ⟨b,2,none⟩=some z:=by
 refine ⟨?_,?_,?_⟩<;>simp [World.cell?,h]
theorem info_int64:(Tryz.prog.info? 2).map (fun i=>(i.zero,i.size,i.bytes))=some (some (.int .i64 0),1,8):=by kernel_rfl
def readL (off:Int) (ds ss data:List Int):Option (List Int) :=
 if mayV off ds ss=true∧∀ p ∈ places off ds ss (pr ds).toNat,p < data.length then some ((places off ds ss (pr ds).toNat).map fun p=>data.getD p.toNat 0) else none
theorem places_bound {off:Int} {ds ss:List Int} (hss:ss.length=ds.length) (hlen:ds.length≤6) (hD:∀ d ∈ ds,1≤d∧d≤65536) (hS:∀ s ∈ ss,0≤s∧s≤65536) (h0:0≤off) (h1:off≤65535) :
  ∀ x ∈ places off ds ss (pr ds).toNat,0≤x∧x≤1099511627776:=by
 intro x hx
 obtain ⟨k,hk,rfl⟩:=List.mem_map.1 hx
 have hpos:Pos ds:=fun d hd=>(hD d hd).1
 have hP:=pr_pos hpos
 rw [List.mem_range] at hk
 have b:=plc_bound (ss:=ss) (cs:=crd ds (k:Int)) hS (fun c hc=>by
  obtain ⟨j,hj,rfl⟩:=List.getElem_of_mem hc
  have hj':j < ds.length:=by rw [crd_length] at hj;exact hj
  have h1:=crd_range hpos (k:=(k:Int)) (by omega) (by omega) j hj'
  have h2:=hD _ (getD_mem hj')
  rw [show (crd ds (k:Int)).getD j 0=(crd ds (k:Int))[j] by simp [List.getD,List.getElem?_eq_getElem hj]] at h1
  omega)
 rw [crd_length] at b
 omega
attribute [local irreducible] crd plc zeros pr nxt places mayV
set_option maxRecDepth 100000 in
set_option maxHeartbeats 2000000 in
theorem read_may (n:Nat) (hn:4≤n) (off:Int) (a1 a2 ad:Option Addr) (c1 c2 cd:Nat) (ds ss data:List Int) (w:World)
    (hd:Hid (IntsIn w (.slice a1 ds.length c1) ds)) (hs:Hid (IntsIn w (.slice a2 ds.length c2) ss)) (hdat:Hid (IntsIn w (.slice ad data.length cd) data)) (hm:Hid (mayV off ds ss=true))
    (hss:Hid (ss.length=ds.length)) (hlen:ds.length≤6) (hD:Hid (∀ d ∈ ds,1≤d∧d≤65536)) (hS:Hid (∀ s ∈ ss,0≤s∧s≤65536)) (ho0:0≤off) (ho1:off≤65535) (hN:Hid (pr ds≤65536)) :
    CallsIn Fence.wide n Tryz.prog 43 #[.agg #[.int .i64 off,.slice a1 ds.length c1,.slice a2 ds.length c2],.slice ad data.length cd] w fun e w' =>
      Below w.heap.size w w'∧((∃ l v,readL off ds ss data=some l∧e=.returned (.tuple #[v,.int .i64 0])∧w'.ownsRow w.heap.size 2 1 v l.length (l.map (Value.int .i64)))∨(readL off ds ss data=none∧e=.returned (.tuple #[.slice none 0 0,.int .i64 1]))):=by
  obtain ⟨i0,hi,hz0,hz1,hz2⟩:=info_parts info_int64
  obtain ⟨WA,hWA⟩:∃ WA,(((w.alloc (.cells #[.int .i64 off,.slice a1 ds.length c1,.slice a2 ds.length c2] 78)).alloc (.cells #[.slice ad data.length cd] 44)).alloc (.cells #[.slice none 0 0] 44)).alloc (.cells #[.int .i64 0] 30)=WA:=⟨_,rfl⟩
  have zA:Hid (WA.heap.size=w.heap.size+4):=hid (by rw [←hWA];simp)
  have bA:Hid (Below w.heap.size w WA):=hid (by
    rw [←hWA]
    exact ((((Below.refl _ w).alloc (Nat.le_refl _) _).alloc (by simp) _).alloc (by simp;omega) _).alloc (by simp;omega) _)
  have xv:Hid (WA.heap[w.heap.size]?=some (.cells #[.int .i64 off,.slice a1 ds.length c1,.slice a2 ds.length c2] 78 (0,0))):=hid (by
    rw [←hWA,Below.heap_alloc _ _ _ (by simp;omega),Below.heap_alloc _ _ _ (by simp;omega),Below.heap_alloc _ _ _ (by simp)]
    exact World.alloc_heap_new w _)
  have xd:Hid (Boxed WA (w.heap.size+1) 44 (.slice ad data.length cd)):=hid (by
    rw [←hWA]
    have:=((Boxed.new (w.alloc (.cells #[.int .i64 off,.slice a1 ds.length c1,.slice a2 ds.length c2] 78)) 44 (.slice ad data.length cd)).alloc (.cells #[.slice none 0 0] 44)).alloc (.cells #[.int .i64 0] 30)
    rwa [World.size_alloc] at this)
  have xr:Hid (Boxed WA (w.heap.size+1+1) 44 (.slice none 0 0)):=hid (by
    rw [←hWA]
    have:=(Boxed.new ((w.alloc (.cells #[.int .i64 off,.slice a1 ds.length c1,.slice a2 ds.length c2] 78)).alloc (.cells #[.slice ad data.length cd] 44)) 44 (.slice none 0 0)).alloc (.cells #[.int .i64 0] 30)
    rwa [World.size_alloc,World.size_alloc] at this)
  have xe:Hid (Boxed WA (w.heap.size+1+1+1) 30 (.int .i64 0)):=hid (by
    rw [←hWA]
    have:=Boxed.new (((w.alloc (.cells #[.int .i64 off,.slice a1 ds.length c1,.slice a2 ds.length c2] 78)).alloc (.cells #[.slice ad data.length cd] 44)).alloc (.cells #[.slice none 0 0] 44)) 30 (.int .i64 0)
    rwa [World.size_alloc,World.size_alloc,World.size_alloc] at this)
  have HF:=hid (fine_any (off:=off) (hd.out.below bA.out) (hs.out.below bA.out))
  rw [hm.out,←hWA] at HF
  have hEq:=hid hWA
  clear hWA
  have h1:1≤n:=by omega
  have hf1:Fence.wide.fn 84:=trivial
  have hf2:Fence.wide.fn 86:=trivial
  refine callsIn_of_wp_marks Tryz.func43 rfl trivial ?_ rfl
  simp only [Tryz.ntmps43,List.size_toArray,List.length_cons,List.length_nil,Nat.reduceAdd,Nat.reduceSub,Array.replicate_succ,Array.replicate_zero,List.push_toArray,List.append_toArray,List.nil_append,List.cons_append]
  gi_wp2_with (first | (gi_at_call 84;refine (callsIn_wide.2 HF.out).mono ?_;rintro e w1 ⟨rfl,hB1⟩;rw [hEq.out] at hB1;obtain ⟨y0,y1,y2⟩:=box_cells ((Below.heap_alloc w1 (.cells #[.slice none 0 0] 44) w.heap.size (by have:=zA.out;have:=hB1.size;omega)).trans ((hB1.block w.heap.size (by have:=zA.out;omega)).trans xv.out));have HB1:=hid hB1;clear hB1) | (gi_at_call 86;refine (callsIn_wide.2 (places_any _ _ _ _)).mono ?_;rintro e w2 ⟨rfl,rfl⟩))
  obtain ⟨WC,hWC⟩:∃ WC,(w1.alloc (.cells #[.slice none 0 0] 44)).alloc (.cells #[.int .i64 off,.slice a1 ds.length c1,.slice a2 ds.length c2] 78)=WC:=⟨_,rfl⟩
  have zC:WC.heap.size=w1.heap.size+2:=by rw [←hWC];simp
  have z1:w.heap.size+4≤w1.heap.size:=by have:=zA.out;have:=HB1.out.size;omega
  have hC:∀ b,b < w1.heap.size→WC.heap[b]?=w1.heap[b]?:=fun b hb=>by
    rw [←hWC,Below.heap_alloc _ _ _ (by simp;omega),Below.heap_alloc _ _ _ hb]
  have bC:Below w.heap.size w WC:=by
    rw [←hWC]
    exact ((bA.out.trans (HB1.out.mono (by have:=zA.out;omega))).alloc (by omega) _).alloc (by simp;omega) _
  have kC:∀ {b:Nat} {t:TypeId} {v:Value},Boxed WA b t v→Boxed WC b t v:=fun {b t v} h=>(hC b (by have:=h.lt;have:=zA.out;omega)).trans ((HB1.out.block b (by have:=h.lt;have:=zA.out;omega)).trans h)
  have oC:Boxed WC w1.heap.size 44 (.slice none 0 0):=by
    rw [←hWC]
    exact (Boxed.new w1 44 (.slice none 0 0)).alloc _
  have vC:WC.heap[w1.heap.size+1]?=some (.cells #[.int .i64 off,.slice a1 ds.length c1,.slice a2 ds.length c2] 78 (0,0)):=by
    rw [←hWC]
    have:=World.alloc_heap_new (w1.alloc (.cells #[.slice none 0 0] 44)) (.cells #[.int .i64 off,.slice a1 ds.length c1,.slice a2 ds.length c2] 78)
    rwa [World.size_alloc] at this
  rw [hWC]
  have hseq:SeqCells Fence.wide (n - 1) Tryz.prog 141 #[.pointer (some ⟨w1.heap.size+1,0,none⟩)] (Keep w.heap.size (w1.heap.size+1) (WC.heap.size+2)) (WC.heap.size+2) (places off ds ss (pr ds).toNat) WC:=by
    intro l J Jx W hBW hW hJ hJx hY h0
    have b2:Below w.heap.size w W:=bC.trans (hBW.mono (by omega))
    exact places_walk (n - 1) (by omega) l w (w1.heap.size+1) (WC.heap.size+2) off a1 a2 c1 c2 ds ss (hid hd.out.rowsV.2) (hid hs.out.rowsV.2) hss.out hlen hD hS ho0 ho1 J Jx (hid hJ) (hid hJx) (hid hY) W hW (by omega) (by omega) ⟨(hBW.block _ (by omega)).trans vC,b2⟩ h0
  have hpl:Hid (∀ x ∈ places off ds ss (pr ds).toNat,0≤x∧x≤1099511627776):=hid (places_bound hss.out hlen hD.out hS.out ho0 ho1)
  refine range_cells (a:=_) rfl h1 (gf:=141) (lb:=#[.pointer (some ⟨w1.heap.size+1,0,none⟩)]) rfl trivial (enters_of Tryz.func141 (by kernel_rfl) rfl) hseq (Below.refl _ _)
    (fun {A B C} h k=>⟨h.1.trans k.1,k.2.1.trans h.2.1,k.2.2.trans h.2.2⟩) (fun W o o' ho=>⟨(Below.refl _ _).grown (grownBy_putObj' W _ o') (by have:=(Array.getElem?_eq_some_iff.1 ho).1;omega) (fun k e=>by cases e;omega),World.putObj_heap_other (by omega),World.putObj_heap_other (by omega)⟩)
    (fun pre W=>RdI w (w.heap.size+1) (w.heap.size+1+1) (w.heap.size+1+1+1) w1.heap.size (WC.heap.size+2) (.slice ad data.length cd) data pre W)
    (fun pre W=>RdX w (w.heap.size+1+1) (w.heap.size+1+1+1) data (places off ds ss (pr ds).toNat) W)
    (fun s A A' row h hg hr=>rdI_grown h (by omega) (by omega) (by omega) (by omega) (by omega) hg (fun r e=>⟨by have:=(hr r e).1;omega,Or.inr (hr r e).2⟩))
    (fun s A A' row h hg hr=>rdX_grown h hg (fun r e=>by have:=(hr r e).1;omega))
    (fun s A A' row h hg hr=>rdI_grown h (by omega) (by omega) (by omega) (by omega) (by omega) hg (fun r e=>by have:=hr r e;omega))
    (fun s A A' row h hg hr=>rdX_grown h hg (fun r e=>by have:=hr r e;omega))
    ⟨by simp,⟨_,oC,World.ownsRow_nil _ _ _ _⟩,kC xd.out,kC xr.out,kC xe.out,bC⟩
    (fun x=>{ tmps:=#[.agg #[.int .i64 off,.slice a1 ds.length c1,.slice a2 ds.length c2],.slice ad data.length cd,.pointer (some ⟨w.heap.size,0,none⟩),.pointer (some ⟨w.heap.size+1,0,none⟩),.pointer (some ⟨w.heap.size+1+1,0,none⟩),.pointer (some ⟨w.heap.size+1+1+1,0,none⟩),.pointer (some ⟨w1.heap.size,0,none⟩),.int .i64 x,
      .agg #[.int .i64 off,.slice a1 ds.length c1,.slice a2 ds.length c2],.bool true,.bool false,.agg #[.int .i64 off,.slice a1 ds.length c1,.slice a2 ds.length c2],.func (.func 141) #[] #[.pointer (some ⟨w1.heap.size+1,0,none⟩)],.int .i64 x,undef,undef,undef,undef,undef,undef,undef,undef,undef,undef,undef,undef],defers:=[] }) ?assign ?body ?done ?stop
  case assign =>
    intro l x W K hK
    gi_wp2
    exact hK
  case body =>
    rintro l pre x W hI hz ⟨rest,hall⟩
    have hx:=hpl.out x (by rw [hall];simp)
    have cd1:=hI.dat.cell
    have cr:=hI.res.cell
    have fr:=hI.res.frozen
    have ce:=hI.err.cell
    have fe:=hI.err.frozen
    have HI:=hid hI
    have HA:=hid hall
    clear hI hall
    by_cases hlt:x < data.length
    · obtain ⟨bd,od,rfl,hbd,hrd⟩:=hdat.out.rowsV.2 x.toNat (by omega)
      obtain ⟨v,hv,hrow⟩:=HI.out.out
      obtain ⟨xn,rfl⟩:=Int.eq_ofNat_of_zero_le hx.1
      have cx:=(HI.out.below.cell (p:=⟨bd,od+xn,none⟩) hbd).trans (hrd xn (by omega))
      have co:=hv.cell
      have hdl:=hdat.out.wf.1
      have hpre:Hid (pre.length≤65536):=hid (by
        have h1:=congrArg List.length HA.out
        rw [places_length] at h1
        have:=hN.out
        simp at h1;omega)
      generalize hdx:data.getD xn 0=dx at *
      obtain ⟨g,cp,w1x,hap⟩:∃ (g cp:World→Nat) (w1x:World→World),∀ X:World,X.heap=W.heap →
          (Builtin.append_ #[44,44] 44 #[v,.slice (some ⟨W.heap.size,0,none⟩) 1 1]).run Tryz.prog (X.alloc (.cells #[.int .i64 dx] 2))=.ok (.slice (some ⟨g X,0,none⟩) (pre.length+1) (cp X)) (w1x X) ∧
          (w1x X).ownsRow (WC.heap.size+2+1) 2 1 (.slice (some ⟨g X,0,none⟩) (pre.length+1) (cp X)) (pre.length+1) (got data pre++[.int .i64 dx])∧(X.alloc (.cells #[.int .i64 dx] 2)).grownBy (w1x X) v.ownBlock:=by
        have key:∀ X:World,X.heap=W.heap→∃ (gg cc:Nat) (ww:World),(Builtin.append_ #[44,44] 44 #[v,.slice (some ⟨W.heap.size,0,none⟩) 1 1]).run Tryz.prog (X.alloc (.cells #[.int .i64 dx] 2))=.ok (.slice (some ⟨gg,0,none⟩) (pre.length+1) cc) ww ∧
            ww.ownsRow (WC.heap.size+2+1) 2 1 (.slice (some ⟨gg,0,none⟩) (pre.length+1) cc) (pre.length+1) (got data pre++[.int .i64 dx])∧(X.alloc (.cells #[.int .i64 dx] 2)).grownBy ww v.ownBlock:=by
          intro X hX
          have hrX:X.ownsRow (WC.heap.size+2+1) 2 1 v pre.length (got data pre):=by
            obtain ⟨q1,q2⟩:=hrow
            refine ⟨q1,?_⟩
            rw [hX];exact q2
          have hzX:X.heap.size=W.heap.size:=by rw [hX]
          obtain ⟨v',w',e1,e2,e3,_⟩:=run_append_own (P:=Tryz.prog) (w:=X.alloc (.cells #[.int .i64 dx] 2)) (WC.heap.size+2+1) 44 44 2 i0 (.int .i64 0) 1 8 Tryz.underlying44 hi hz0 hz1 hz2 rfl (by decide) v pre.length (got data pre) (hrX.alloc _) ⟨W.heap.size,0,none⟩ 1 1 [.int .i64 dx] rfl (by rw [←hzX];exact cell_one_new _ _ _) (by simp [Value.oneCell']) (by have:=hpre.out;unfold maxLen;omega) (by have:=hpre.out;omega) (by simp;omega)
          obtain ⟨gg,cc,rfl⟩:=ownsRow_succ e2
          exact ⟨gg,cc,w',e1,e2,e3⟩
        have key2:∀ X:World,∃ q:Nat × Nat × World,X.heap=W.heap→(Builtin.append_ #[44,44] 44 #[v,.slice (some ⟨W.heap.size,0,none⟩) 1 1]).run Tryz.prog (X.alloc (.cells #[.int .i64 dx] 2))=.ok (.slice (some ⟨q.1,0,none⟩) (pre.length+1) q.2.1) q.2.2 ∧
            q.2.2.ownsRow (WC.heap.size+2+1) 2 1 (.slice (some ⟨q.1,0,none⟩) (pre.length+1) q.2.1) (pre.length+1) (got data pre++[.int .i64 dx])∧(X.alloc (.cells #[.int .i64 dx] 2)).grownBy q.2.2 v.ownBlock:=fun X=>by
          by_cases hX:X.heap=W.heap
          · obtain ⟨gg,cc,ww,h⟩:=key X hX
            exact ⟨(gg,cc,ww),fun _=>h⟩
          · exact ⟨(0,0,X),fun h=>absurd h hX⟩
        exact ⟨fun X=>(Classical.choose (key2 X)).1,fun X=>(Classical.choose (key2 X)).2.1,fun X=>(Classical.choose (key2 X)).2.2,fun X hX=>Classical.choose_spec (key2 X) hX⟩
      have ha1:(Builtin.append_ #[44,44] 44 #[v,.slice (some ⟨W.heap.size,0,none⟩) 1 1]).run Tryz.prog (W.alloc (.cells #[.int .i64 dx] 2)).drew=.ok (.slice (some ⟨g W.drew,0,none⟩) (pre.length+1) (cp W.drew)) (w1x W.drew):=(hap W.drew rfl).1
      have hb:=fun X (hX:X.heap=W.heap)=>appended_below (W:=X) (t:=44) (B:=WC.heap.size+2) ((show X.heap[w1.heap.size]?=_ by rw [hX];exact hv)) (by obtain ⟨q1,q2⟩:=hrow;exact ⟨q1,by rw [hX];exact q2⟩) (by omega) (by rw [hX];omega) (hap X hX).2.1 (hap X hX).2.2
      have ha2:(w1x W.drew).cell? ⟨w1.heap.size,0,none⟩=some v:=(hb W.drew rfl).1.cell
      have ha3:(w1x W.drew).frozen? ⟨w1.heap.size,0,none⟩=false:=(hb W.drew rfl).1.frozen
      have hfin:Hid (KeepsOthers W ((w1x W.drew).setCell ⟨w1.heap.size,0,none⟩ (.slice (some ⟨g W.drew,0,none⟩) (pre.length+1) (cp W.drew))) ∧
          Keep w.heap.size (w1.heap.size+1) (WC.heap.size+2) W ((w1x W.drew).setCell ⟨w1.heap.size,0,none⟩ (.slice (some ⟨g W.drew,0,none⟩) (pre.length+1) (cp W.drew))) ∧
          RdI w (w.heap.size+1) (w.heap.size+1+1) (w.heap.size+1+1+1) w1.heap.size (WC.heap.size+2) (.slice (some ⟨bd,od,none⟩) data.length cd) data (pre++[(xn:Int)]) ((w1x W.drew).setCell ⟨w1.heap.size,0,none⟩ (.slice (some ⟨g W.drew,0,none⟩) (pre.length+1) (cp W.drew)))):=hid (by
        obtain ⟨r1,r2,r3,r4,r5,r6⟩:=hb W.drew rfl
        have rb:∀ {b:Nat} {t:TypeId} {u:Value},b < w1.heap.size→Boxed W b t u→Boxed ((w1x W.drew).setCell ⟨w1.heap.size,0,none⟩ (.slice (some ⟨g W.drew,0,none⟩) (pre.length+1) (cp W.drew))) b t u:=fun {b t u} hlt' h=>(r6 b (by omega) (by omega)).trans h
        refine ⟨(KeepsOthers.of_grownBy (grown_drew W none) (fun j o e _=>by cases e)).trans r4,⟨(Below.refl _ W).drew.trans (r5 _ (by omega)),r6 _ (by omega) (by omega),r6 _ (by omega) (by omega)⟩,?_,⟨_,r2,?_⟩,rb (by omega) HI.out.dat,rb (by omega) HI.out.res,rb (by omega) HI.out.err,HI.out.below.drew.trans (r5 _ (by omega))⟩
        · intro p hp
          rcases List.mem_append.1 hp with h | h
          · exact HI.out.inr p h
          · simp at h;subst h;omega
        · rw [List.length_append]
          unfold got at r3 ⊢
          rw [List.map_append]
          have hdx':data[xn]?.getD 0=dx:=by rw [←hdx];simp [List.getD]
          simpa [hdx'] using r3)
      clear hb hap
      have co2:(W.alloc (.cells #[.int .i64 dx] 2)).cell? ⟨w1.heap.size,0,none⟩=some v:=(hv.alloc _).cell
      have hd2:1≤n - 1 - 1:=by omega
      have hmx:Tryz.prog.follows .mixedOrders=true:=by kernel_rfl
      gi_wp2
      refine wpIn_region_any (by kernel_rfl) ?_
      (try (change wpAnyIn _ _ _ _ _ _ _ _ _ (World.drew _)))
      repeat' (first
        | (exact AllReadyIn.nil)
        | (refine AllReadyIn.cons rfl (fun K hK=>?_) ?_;go_simp;refine hK _ _ ?_;clear hK K)
        | (refine wpAnyIn_done (by decide +kernel) ?_ _)
        | (refine wpAnyIn_ready (rs:=[6]) (by decide +kernel) (by simp) ?_;refine AllReadyIn.cons rfl (fun K hK=>?_) AllReadyIn.nil;simp only [List.getElem_toArray,List.getElem_cons_succ,List.getElem_cons_zero];refine Eq.mpr (if_pos (wanted_none rfl _)) ?_;refine op_append (t:=44) (s:=.tmp 18) (x:=.tmp 23) rfl rfl rfl ha1 ?_;go_simp;refine hK _ _ ?_;clear hK K)
        | (refine wpAnyIn_ready (rs:=[3]) (by decide +kernel) (by simp) ?_;refine AllReadyIn.cons rfl (fun K hK=>?_) AllReadyIn.nil;go_simp;refine hK _ _ ?_;clear hK K)
        | (refine wpAnyIn_ready (rs:=[4]) (by decide +kernel) (by simp) ?_;refine AllReadyIn.cons rfl (fun K hK=>?_) AllReadyIn.nil;go_simp;refine hK _ _ ?_;clear hK K)
        | (refine wpAnyIn_ready (rs:=[5]) (by decide +kernel) (by simp) ?_;refine AllReadyIn.cons rfl (fun K hK=>?_) AllReadyIn.nil;go_simp;refine hK _ _ ?_;clear hK K)
        | (refine wpAnyIn_ready (rs:=[1]) (by decide +kernel) (by simp) ?_;refine AllReadyIn.cons rfl (fun K hK=>?_) AllReadyIn.nil;go_simp;refine hK _ _ ?_;clear hK K)
        | (refine wpAnyIn_ready (rs:=[2]) (by decide +kernel) (by simp) ?_;refine AllReadyIn.cons rfl (fun K hK=>?_) AllReadyIn.nil;go_simp;refine hK _ _ ?_;clear hK K)
        | (refine wpAnyIn_ready (rs:=[0]) (by decide +kernel) (by simp) ?_;refine AllReadyIn.cons rfl (fun K hK=>?_) AllReadyIn.nil;go_simp;refine hK _ _ ?_;clear hK K)
        | (refine wpAnyIn_ready (rs:=[7]) (by decide +kernel) (by simp) ?_;refine AllReadyIn.cons rfl (fun K hK=>?_) AllReadyIn.nil;go_simp;refine hK _ _ ?_;clear hK K)
        | (refine wpAnyIn_ready (rs:=[0,1,2]) (by decide +kernel) (by simp) ?_)
        | (refine wpAnyIn_ready (rs:=[0,1]) (by decide +kernel) (by simp) ?_)
        | (refine wpAnyIn_ready (rs:=[0,2]) (by decide +kernel) (by simp) ?_)
        | (refine wpAnyIn_ready (rs:=[1,2]) (by decide +kernel) (by simp) ?_)
        | (refine wpAnyIn_ready (rs:=[0,3]) (by decide +kernel) (by simp) ?_)
        | (refine wpAnyIn_ready (rs:=[0,4]) (by decide +kernel) (by simp) ?_)
        | (refine wpAnyIn_ready (rs:=[0,5]) (by decide +kernel) (by simp) ?_))
      all_goals gi_wp2
      all_goals exact hfin.out
    · have hbad:Hid (∃ p ∈ places off ds ss (pr ds).toNat,(data.length:Int)≤p):=hid ⟨x,by rw [HA.out];simp,by omega⟩
      have b2:Boxed (W.setCell ⟨w.heap.size+1+1,0,none⟩ (.slice none 0 0)) (w.heap.size+1+1+1) 30 (.int .i64 0):=(Below.heap_setCell _ _ _ _ (by simp)).trans HI.out.err
      have ce2:=b2.cell
      have fe2:=b2.frozen
      have hfin:Hid (KeepsOthers W ((W.setCell ⟨w.heap.size+1+1,0,none⟩ (.slice none 0 0)).setCell ⟨w.heap.size+1+1+1,0,none⟩ (.int .i64 1)) ∧
          RdX w (w.heap.size+1+1) (w.heap.size+1+1+1) data (places off ds ss (pr ds).toNat) ((W.setCell ⟨w.heap.size+1+1,0,none⟩ (.slice none 0 0)).setCell ⟨w.heap.size+1+1+1,0,none⟩ (.int .i64 1))):=hid
        ⟨(KeepsOthers.setCell _ _ _).trans (KeepsOthers.setCell _ _ _),hbad.out,(Below.heap_setCell _ _ _ _ (by simp)).trans (HI.out.res.set _),b2.set _,(HI.out.below.setCell (p:=⟨w.heap.size+1+1,0,none⟩) (by simp;omega) _).setCell (p:=⟨w.heap.size+1+1+1,0,none⟩) (by simp;omega) _⟩
      clear b2
      gi_wp2
      exact hfin.out
  case done =>
    rintro D W hD hI hK
    obtain ⟨v,hv,hrow⟩:=hI.out
    have co:=hv.cell
    have cr:=hI.res.cell
    have fr:=hI.res.frozen
    have b2:Boxed (W.setCell ⟨w.heap.size+1+1,0,none⟩ v) (w.heap.size+1+1+1) 30 (.int .i64 0):=(Below.heap_setCell _ _ _ _ (by simp)).trans hI.err
    have ce2:=b2.cell
    have fe2:=b2.frozen
    have hr:readL off ds ss data=some ((places off ds ss (pr ds).toNat).map fun p=>data.getD p.toNat 0):=by
      unfold readL;rw [if_pos ⟨hm.out,hI.inr⟩]
    have hfin:Hid (Below w.heap.size w ((W.setCell ⟨w.heap.size+1+1,0,none⟩ v).setCell ⟨w.heap.size+1+1+1,0,none⟩ (.int .i64 0))∧((W.setCell ⟨w.heap.size+1+1,0,none⟩ v).setCell ⟨w.heap.size+1+1+1,0,none⟩ (.int .i64 0)).heap[D]?=some (.deferred (some [])) ∧
        Boxed ((W.setCell ⟨w.heap.size+1+1,0,none⟩ v).setCell ⟨w.heap.size+1+1+1,0,none⟩ (.int .i64 0)) (w.heap.size+1+1) 44 v∧Boxed ((W.setCell ⟨w.heap.size+1+1,0,none⟩ v).setCell ⟨w.heap.size+1+1+1,0,none⟩ (.int .i64 0)) (w.heap.size+1+1+1) 30 (.int .i64 0) ∧
        ((W.setCell ⟨w.heap.size+1+1,0,none⟩ v).setCell ⟨w.heap.size+1+1+1,0,none⟩ (.int .i64 0)).ownsRow (WC.heap.size+2+1) 2 1 v (places off ds ss (pr ds).toNat).length (got data (places off ds ss (pr ds).toNat))):=hid
      ⟨(hI.below.setCell (p:=⟨w.heap.size+1+1,0,none⟩) (by simp;omega) _).setCell (p:=⟨w.heap.size+1+1+1,0,none⟩) (by simp;omega) _,
       (Below.heap_setCell _ _ _ _ (by simp;omega)).trans ((Below.heap_setCell _ _ _ _ (by simp;omega)).trans hK),(Below.heap_setCell _ _ _ _ (by simp)).trans (hI.res.set _),b2.set _,
       ownsRow_setCell_below (ownsRow_setCell_below hrow (by simp;omega) _) (by simp;omega) _⟩
    have HR:=hid hr
    have HRow:=hid hrow
    clear b2 hr hI hK hrow
    have hform:v=.slice none 0 0∨∃ g n cap,v=.slice (some ⟨g,0,none⟩) n cap:=by
      rcases HRow.out.2 with ⟨rfl,_⟩ | ⟨g,cap,cur,rfl,_⟩
      · exact Or.inl rfl
      · exact Or.inr ⟨_,_,_,rfl⟩
    rcases hform with rfl | ⟨g,nn,cap,rfl⟩
    · gi_wp2
      obtain ⟨q1,q2,q3,q4,q5⟩:=hfin.out
      refine ⟨by simp,.inl ⟨_,_,rfl,run_takeDeferred q2,?_⟩⟩
      have c1:=cell_kept q3.cell (grownBy_putObj' _ D (.deferred none)) (fun r e=>by cases e;exact ⟨_,q2,rfl⟩)
      have c2:=cell_kept q4.cell (grownBy_putObj' _ D (.deferred none)) (fun r e=>by cases e;exact ⟨_,q2,rfl⟩)
      refine ⟨.tuple #[.slice none 0 0,.int .i64 0],by simp [results,Tryz.f43,go_sem,c1,c2],q1.grown (grownBy_putObj' _ D (.deferred none)) q1.size (fun k e=>by cases e;omega),Or.inl ⟨_,_,HR.out,rfl,?_⟩⟩
      have q6:=rows_mono (ownsRow_putObj q5 (.deferred none) q2 rfl) (show w.heap.size≤_ by omega)
      simpa [got,List.map_map,Function.comp_def] using q6
    · gi_wp2
      obtain ⟨q1,q2,q3,q4,q5⟩:=hfin.out
      refine ⟨by simp,.inl ⟨_,_,rfl,run_takeDeferred q2,?_⟩⟩
      have c1:=cell_kept q3.cell (grownBy_putObj' _ D (.deferred none)) (fun r e=>by cases e;exact ⟨_,q2,rfl⟩)
      have c2:=cell_kept q4.cell (grownBy_putObj' _ D (.deferred none)) (fun r e=>by cases e;exact ⟨_,q2,rfl⟩)
      refine ⟨.tuple #[.slice (some ⟨g,0,none⟩) nn cap,.int .i64 0],by simp [results,Tryz.f43,go_sem,c1,c2],q1.grown (grownBy_putObj' _ D (.deferred none)) q1.size (fun k e=>by cases e;omega),Or.inl ⟨_,_,HR.out,rfl,?_⟩⟩
      have q6:=rows_mono (ownsRow_putObj q5 (.deferred none) q2 rfl) (show w.heap.size≤_ by omega)
      simpa [got,List.map_map,Function.comp_def] using q6
  case stop =>
    rintro D pre W hD hX hK
    have hr:readL off ds ss data=none:=by
      unfold readL
      rw [if_neg]
      rintro ⟨_,h⟩
      obtain ⟨p,hp,hge⟩:=hX.bad
      have:=h p hp
      omega
    have hfin:Hid (RdX w (w.heap.size+1+1) (w.heap.size+1+1+1) data (places off ds ss (pr ds).toNat) W∧W.heap[D]?=some (.deferred (some []))):=hid ⟨hX,hK⟩
    have HR:=hid hr
    clear hr hX hK
    gi_wp2
    obtain ⟨q1,q2⟩:=hfin.out
    refine ⟨by simp,.inl ⟨_,_,rfl,run_takeDeferred q2,?_⟩⟩
    have c1:=cell_kept q1.res.cell (grownBy_putObj' _ D (.deferred none)) (fun r e=>by cases e;exact ⟨_,q2,rfl⟩)
    have c2:=cell_kept q1.err.cell (grownBy_putObj' _ D (.deferred none)) (fun r e=>by cases e;exact ⟨_,q2,rfl⟩)
    exact ⟨.tuple #[.slice none 0 0,.int .i64 1],by simp [results,Tryz.f43,go_sem,c1,c2],q1.below.grown (grownBy_putObj' _ D (.deferred none)) q1.below.size (fun k e=>by cases e;omega),Or.inr ⟨HR.out,rfl⟩⟩
attribute [local irreducible] readL
end Go.Proofs.YtijhdmidffenbaaGreatDoor.Vx
namespace Go.Proofs.YtijhdmidffenbaaGreatDoor.Vx
open Go.RowKit Vw
theorem cnt_ok:∀ {zs:List Int} {n m:Int},(∀ d ∈ zs,1≤d)→1≤n→n≤65536→cntLoop n zs=(m,0)→m=n * pr zs∧n * pr zs≤65536∧∀ d ∈ zs,d≤65536
 | [],n,m,_,h1,h2,h=>by
  simp only [cntLoop,Prod.mk.injEq,and_true] at h
  simp [pr,←h,h2]
 | d :: ds,n,m,hp,h1,h2,h=>by
  have hd:=hp d (by simp)
  simp only [cntLoop] at h
  by_cases g:65536 < n * d
  ·rw [if_pos g] at h;simp at h
  ·rw [if_neg g] at h
   have hn:=mul_pos' h1 hd
   obtain ⟨a,b,c⟩:=cnt_ok (zs:=ds) (n:=n * d) (m:=m) (fun x hx=>hp x (by simp [hx])) hn (by omega) h
   have e:n * d * pr ds=n * pr (d :: ds):=by simp [pr,Int.mul_assoc]
   refine ⟨by rw [←e];exact a,by rw [←e];exact b,?_⟩
   intro x hx
   rcases List.mem_cons.1 hx with rfl | hx
   ·by_cases h3:65536 < x
    ·exact absurd (mul_big h1 h3) g
    ·omega
   ·exact c x hx
theorem cnt_good {zs:List Int} (h:(cnt zs).2=0):(∀ d ∈ zs,1≤d∧d≤65536)∧zs.length≤6∧(cnt zs).1=pr zs∧pr zs≤65536:=by
 cases ha:zs.any (fun d=>decide (d < 1))
 ·by_cases g:6 < zs.length
  ·rw [cnt_long ha g] at h;simp at h
  ·rw [cnt_loop ha g] at h ⊢
   have hp:∀ d ∈ zs,1≤d:=fun d hd=>by
    have:=List.any_eq_false.1 ha d hd
    simpa using this
   obtain ⟨a,b,c⟩:=cnt_ok (n:=1) (m:=(cntLoop 1 zs).1) hp (by decide) (by decide) (by rw [←h])
   rw [Int.one_mul] at a b
   exact ⟨fun d hd=>⟨hp d hd,c d hd⟩,by omega,a,b⟩
 ·rw [cnt_low ha] at h;simp at h
theorem may_good {off:Int} {ds ss:List Int} (h:mayV off ds ss=true):(∀ d ∈ ds,1≤d∧d≤65536)∧ds.length≤6∧(cnt ds).1=pr ds∧pr ds≤65536∧ss.length=ds.length∧0≤off∧off≤65535∧(∀ s ∈ ss,0≤s∧s≤65536):=by
 unfold mayV at h
 simp only [Bool.and_eq_true,decide_eq_true_eq,Bool.not_eq_true'] at h
 obtain ⟨⟨⟨⟨h1,h2⟩,h3⟩,h4⟩,h5⟩:=h
 obtain ⟨a,b,c,d⟩:=cnt_good h1
 refine ⟨a,b,c,d,h2,h3,by omega,fun s hs=>?_⟩
 have:=List.any_eq_false.1 h5 s hs
 unfold farS at this
 simp at this;omega
theorem may_none {off:Int} {ds ss data:List Int} (h:mayV off ds ss=false):readL off ds ss data=none:=by
 unfold readL;rw [h];simp
set_option maxHeartbeats 1000000 in
theorem read_not (off:Int) (a1 a2:Option Addr) (dv:Value) (n1 n2 c1 c2:Nat) (ds ss:List Int) (w:World)
  (hd:Hid (IntsIn w (.slice a1 n1 c1) ds)) (hs:Hid (IntsIn w (.slice a2 n2 c2) ss)) (hm:Hid (mayV off ds ss=false)) (a0:Option Addr) (n0 c0:Nat) (hdv:dv=.slice a0 n0 c0) :
  Calls Tryz.prog 43 #[.agg #[.int .i64 off,.slice a1 n1 c1,.slice a2 n2 c2],dv] w fun e w' =>
   Below w.heap.size w w'∧e=.returned (.tuple #[.slice none 0 0,.int .i64 1]):=by
 subst hdv
 obtain ⟨WA,hWA⟩:∃ WA,(((w.alloc (.cells #[.int .i64 off,.slice a1 n1 c1,.slice a2 n2 c2] 78)).alloc (.cells #[.slice a0 n0 c0] 44)).alloc (.cells #[.slice none 0 0] 44)).alloc (.cells #[.int .i64 0] 30)=WA:=⟨_,rfl⟩
 have zA:Hid (WA.heap.size=w.heap.size+4):=hid (by rw [←hWA];simp)
 have bA:Hid (Below w.heap.size w WA):=hid (by
  rw [←hWA]
  exact ((((Below.refl _ w).alloc (Nat.le_refl _) _).alloc (by simp) _).alloc (by simp;omega) _).alloc (by simp;omega) _)
 have xr:Hid (Boxed WA (w.heap.size+1+1) 44 (.slice none 0 0)):=hid (by
  rw [←hWA]
  have:=(Boxed.new ((w.alloc (.cells #[.int .i64 off,.slice a1 n1 c1,.slice a2 n2 c2] 78)).alloc (.cells #[.slice a0 n0 c0] 44)) 44 (.slice none 0 0)).alloc (.cells #[.int .i64 0] 30)
  rwa [World.size_alloc,World.size_alloc] at this)
 have xe:Hid (Boxed WA (w.heap.size+1+1+1) 30 (.int .i64 0)):=hid (by
  rw [←hWA]
  have:=Boxed.new (((w.alloc (.cells #[.int .i64 off,.slice a1 n1 c1,.slice a2 n2 c2] 78)).alloc (.cells #[.slice a0 n0 c0] 44)).alloc (.cells #[.slice none 0 0] 44)) 30 (.int .i64 0)
  rwa [World.size_alloc,World.size_alloc,World.size_alloc] at this)
 have HF:=hid (fine_any (off:=off) (hd.out.below bA.out) (hs.out.below bA.out))
 rw [hm.out,←hWA] at HF
 have hEq:=hid hWA
 clear hWA
 go_enter Tryz.func43,Tryz.ntmps43
 go_wp2_with (go_at_call 84;refine HF.out.mono ?_;rintro e w1 ⟨rfl,hB1⟩;rw [hEq.out] at hB1;have yr:Boxed w1 (w.heap.size+1+1) 44 (.slice none 0 0):=((hB1.block _ (by have:=zA.out;omega)).trans xr.out);have ye:Boxed (w1.setCell ⟨w.heap.size+1+1,0,none⟩ (.slice none 0 0)) (w.heap.size+1+1+1) 30 (.int .i64 0):=(Below.heap_setCell _ _ _ _ (by simp)).trans ((hB1.block _ (by have:=zA.out;omega)).trans xe.out);have y1:=yr.cell;have y2:=yr.frozen;have y3:=ye.cell;have y4:=ye.frozen;have YR:=hid yr;have YE:=hid ye;clear yr ye;have HB1:=hid hB1;clear hB1)
 have b2:Below w.heap.size w ((w1.setCell ⟨w.heap.size+1+1,0,none⟩ (.slice none 0 0)).setCell ⟨w.heap.size+1+1+1,0,none⟩ (.int .i64 1)):=((bA.out.trans (HB1.out.mono (by have:=zA.out;omega))).setCell (p:=⟨w.heap.size+1+1,0,none⟩) (by simp;omega) _).setCell (p:=⟨w.heap.size+1+1+1,0,none⟩) (by simp;omega) _
 have r1:Boxed ((w1.setCell ⟨w.heap.size+1+1,0,none⟩ (.slice none 0 0)).setCell ⟨w.heap.size+1+1+1,0,none⟩ (.int .i64 1)) (w.heap.size+1+1) 44 (.slice none 0 0):=(Below.heap_setCell _ _ _ _ (by simp)).trans (YR.out.set _)
 have r2:Boxed ((w1.setCell ⟨w.heap.size+1+1,0,none⟩ (.slice none 0 0)).setCell ⟨w.heap.size+1+1+1,0,none⟩ (.int .i64 1)) (w.heap.size+1+1+1) 30 (.int .i64 1):=YE.out.set _
 have c1:=r1.cell
 have c2:=r2.cell
 exact bodyPost_ret (v:=.tuple #[.slice none 0 0,.int .i64 1]) (by simp [results,Tryz.f43,go_sem,c1,c2]) rfl ⟨b2,rfl⟩
def ReadOut (w:World) (o:Option (List Int)) (e:Ending) (w':World):Prop :=
 Below w.heap.size w w'∧((∃ l v,o=some l∧e=.returned (.tuple #[v,.int .i64 0])∧w'.ownsRow w.heap.size 2 1 v l.length (l.map (Value.int .i64)))∨(o=none∧e=.returned (.tuple #[.slice none 0 0,.int .i64 1])))
theorem read_any {w:World} {off:Int} {d s dv:Value} {ds ss data:List Int} (hd:IntsIn w d ds) (hs:IntsIn w s ss) (hdat:IntsIn w dv data) :
  Calls Tryz.prog 43 #[.agg #[.int .i64 off,d,s],dv] w (ReadOut w (readL off ds ss data)):=by
 obtain ⟨a1,c1,rfl⟩:=hd.form
 obtain ⟨a2,c2,rfl⟩:=hs.form
 obtain ⟨a3,c3,rfl⟩:=hdat.form
 cases hm:mayV off ds ss
 ·refine (read_not off a1 a2 _ _ _ c1 c2 ds ss w (hid hd) (hid hs) (hid hm) a3 _ c3 rfl).mono ?_
  rintro e w' ⟨h1,h2⟩
  exact ⟨h1,Or.inr ⟨may_none hm,h2⟩⟩
 ·obtain ⟨h1,h2,h3,h4,h5,h6,h7,h8⟩:=may_good hm
  have hs':=hs
  rw [h5] at hs' ⊢
  exact (callsIn_wide (n:=8)).1 (read_may 8 (by decide) off a1 a2 a3 c1 c2 c3 ds ss data w (hid hd) (hid hs') (hid hdat) (hid hm) (hid h5) h2 (hid h1) (hid h8) h6 h7 (hid h4))
end Go.Proofs.YtijhdmidffenbaaGreatDoor.Vx
namespace Go.Proofs.YtijhdmidffenbaaGreatDoor.Vx
open Go.RowKit Vw
def strd:List Int→List Int
 | []=>[]
 | _ :: ds=>pr ds :: strd ds
theorem strd_length:∀ {ds:List Int},(strd ds).length=ds.length
 | []=>rfl
 | _ :: ds=>by simp [strd,strd_length]
theorem pr_drop:∀ {zs:List Int} {j:Nat},(∀ d ∈ zs,1≤d)→1≤pr (zs.drop j)∧pr (zs.drop j)≤pr zs
 | zs,0,h=>⟨pr_pos h,by simp⟩
 | [],j+1,h=>by simp [pr]
 | d :: ds,j+1,h=>by
  have ih:=pr_drop (zs:=ds) (j:=j) (fun x hx=>h x (by simp [hx]))
  have h1:=h d (by simp)
  have h2:1 * pr ds≤d * pr ds:=Int.mul_le_mul_of_nonneg_right h1 (by omega)
  simp only [List.drop_succ_cons,pr]
  omega
def strRow (zs:List Int) (m:Nat):List Int:=List.replicate m 0++strd (zs.drop m)
theorem strRow_length {zs:List Int} {m:Nat} (h:m≤zs.length):(strRow zs m).length=zs.length:=by
 simp [strRow,strd_length];omega
theorem strRow_step {zs:List Int} {j:Nat} (h:j < zs.length):(strRow zs (j+1)).set j (pr (zs.drop (j+1)))=strRow zs j:=by
 unfold strRow
 rw [drop_next h,List.replicate_succ',List.append_assoc,List.set_append_right _ _ (by simp)]
 simp [strd]
theorem strRow_zero (zs:List Int):strRow zs 0=strd zs:=by simp [strRow]
theorem strRow_full (zs:List Int):strRow zs zs.length=List.replicate zs.length 0:=by simp [strRow,strd]
theorem pr_next {zs:List Int} {j:Nat} (h:j < zs.length):pr (zs.drop (j+1)) * zs.getD j 0=pr (zs.drop j):=by
 rw [drop_next h];simp [pr,Int.mul_comm]
attribute [local irreducible] cnt strd pr strRow
theorem strides_bad {w:World} {v:Value} {zs:List Int} (h:Hid (IntsIn w v zs)) (he:Hid ((cnt zs).2≠0)) (w:World) (h2:Hid (IntsIn w v zs)) :
  Calls Tryz.prog 83 #[v] w fun e w'=>e=.returned (.tuple #[.slice none 0 0,.int .i64 (cnt zs).2])∧w=w':=by
 have HC:=hid (count_any h2.out)
 have hne:=he.out
 generalize cnt zs=cc at *
 go_enter Tryz.func83,Tryz.ntmps83
 go_wp2_with (go_at_call 31;refine HC.out.mono ?_;rintro e w' ⟨rfl,rfl⟩)
 all_goals first
  | (go_ret2;exact ⟨rfl,rfl⟩)
  | (exfalso;have h3:=he.out;simp_all)
set_option maxHeartbeats 1000000 in
theorem strides_row (b off cap:Nat) (zs:List Int) (w:World) (hlen:zs.length≤6) (hb:b < w.heap.size) (hr:Hid (Reads w b off zs)) (hin:Hid (IntsIn w (.slice (some ⟨b,off,none⟩) zs.length cap) zs)) (hp:Hid (∀ d ∈ zs,1≤d∧d≤65536)) (hN:Hid (pr zs≤65536)) (he:Hid ((cnt zs).2=0)) :
  Calls Tryz.prog 83 #[.slice (some ⟨b,off,none⟩) zs.length cap] w fun e w'=>e=.returned (.tuple #[.slice (some ⟨w.heap.size,0,none⟩) zs.length zs.length,.int .i64 0])∧RowAt w' w.heap.size (strd zs)∧Below w.heap.size w w':=by
 have HC:=hid (count_any hin.out)
 rw [show cnt zs=((cnt zs).1,0) by rw [←he.out]] at HC
 generalize (cnt zs).1=c1 at *
 have hmk:=fun w=>run_make_ints w zs.length (by omega)
 have hrow:Hid (RowAt (w.alloc (.cells (intCells (List.replicate zs.length 0)) 3)) w.heap.size (strRow zs zs.length)):=hid (by rw [strRow_full];exact RowAt.new w _)
 have hbel:Hid (Below w.heap.size w (w.alloc (.cells (intCells (List.replicate zs.length 0)) 3))):=hid ((Below.refl _ w).alloc (Nat.le_refl _) _)
 have hpr0:Hid (pr (zs.drop zs.length)=1):=hid (by rw [List.drop_length];unfold pr;rfl)
 go_enter Tryz.func83,Tryz.ntmps83
 go_wp2_with (go_at_call 31;refine HC.out.mono ?_;rintro e w' ⟨rfl,rfl⟩)
 go_loopw [7,23] (fun n i wr=>∃ m k:Nat,Hid (k+m=zs.length)∧n=.int .i64 (pr (zs.drop m))∧i=.int .i64 (k:Int)∧Hid (RowAt wr w.heap.size (strRow zs m))∧Hid (Below w.heap.size w wr)) (fun _ i _=>zs.length - (intOf i).toNat)
 case atStart=>exact ⟨zs.length,0,hid (by omega),by rw [hpr0.out],rfl,hrow,hbel⟩
 case round =>
  obtain ⟨m,k,hkm,rfl,rfl,hrw,hbl⟩:=hrel
  have hm:m≤zs.length:=by have:=hkm.out;omega
  rcases (match m with | 0=>Or.inl rfl | i+1=>Or.inr ⟨i,rfl⟩:m=0∨∃ i,m=i+1) with e0 | ⟨j,e0⟩
  ·subst e0
   obtain rfl:k=zs.length:=by have:=hkm.out;omega
   go_wp2
   go_ret2
   exact ⟨rfl,by rw [←strRow_zero];exact hrw.out,hbl.out⟩
  ·subst e0
   have hj:j < zs.length:=by omega
   have hcx:=(hbl.out.cell (p:=⟨b,off+j,none⟩) hb).trans (hr.out j hj)
   have hfz:=hrw.out.frozen j
   have hcell:=hrw.out.cell (j:=j) (by rw [strRow_length hm];omega)
   have hset:Hid (RowAt (wr.setCell ⟨w.heap.size,j,none⟩ (.int .i64 (pr (zs.drop (j+1))))) w.heap.size (strRow zs j)):=hid (by rw [←strRow_step hj];exact hrw.out.set j _)
   have hb3:Hid (Below w.heap.size w (wr.setCell ⟨w.heap.size,j,none⟩ (.int .i64 (pr (zs.drop (j+1)))))):=hid (hbl.out.setCell (p:=⟨w.heap.size,j,none⟩) (Nat.le_refl _) _)
   have hcx2:=(hb3.out.cell (p:=⟨b,off+j,none⟩) hb).trans (hr.out j hj)
   have hpn:=hid (pr_next hj)
   have hd:=hp.out _ (getD_mem hj)
   have hq:=pr_drop (zs:=zs) (j:=j+1) (fun d hd=>(hp.out d hd).1)
   have hq2:=pr_drop (zs:=zs) (j:=j) (fun d hd=>(hp.out d hd).1)
   have hN2:=hN.out
   have hkl:k < zs.length:=by have:=hkm.out;omega
   have hidx:(zs.length:Int) - 1 - (k:Int)=(j:Int):=by have:=hkm.out;omega
   generalize hpj:pr (zs.drop (j+1))=pj at *
   have hmul:pj * zs.getD j 0=pr (zs.drop j):=hpn.out
   generalize zs.getD j 0=z at *
   generalize hpj2:pr (zs.drop j)=pj2 at *
   have HP2:=hid hpj2
   clear hpj hpj2
   go_wp2
   go_roundw
   case rel=>exact ⟨j,k+1,hid (by have:=hkm.out;omega),by rw [HP2.out],by go_num,hset,hb3⟩
   case measure=>simp [intOf];omega
def Fresh (B:Nat) (w':World) (v:Value) (zs:List Int):Prop :=
 (zs=[]∧∃ a0 cap,v=.slice a0 0 cap)∨∃ g cap cur,v=.slice (some ⟨g,0,none⟩) zs.length cap∧B≤g∧w'.heap[g]?=some (.cells cur 3 (0,0))∧zs.length≤cap∧cur.toList.take zs.length=zs.map (Value.int .i64)
theorem Fresh.ints {B:Nat} {w':World} {v:Value} {zs:List Int} (h:Fresh B w' v zs) (hlen:zs.length * 8≤140737488351232) (hw:∀ z ∈ zs,InI z):IntsIn w' v zs:=by
 rcases h with ⟨rfl,a0,cap,rfl⟩ | ⟨g,cap,cur,rfl,hB,hg,hc,ht⟩
 ·exact .empty a0 cap
 ·by_cases h0:zs=[]
  ·subst h0;exact .empty _ cap
  ·refine .row g 0 cap zs h0 hc (Array.getElem?_eq_some_iff.1 hg).1 (fun j hj=>?_) hlen hw
   have h2:(cur.toList.take zs.length)[j]?=(zs.map (Value.int .i64))[j]?:=by rw [ht]
   rw [List.getElem?_take_of_lt hj,List.getElem?_map,List.getElem?_eq_getElem hj] at h2
   simp only [Option.map_some,Array.getElem?_toList] at h2
   have h3:w'.cell? ⟨g,0+j,none⟩=cur[0+j]?:=by simp [World.cell?,hg]
   rw [h3,Nat.zero_add,h2]
   simp [List.getD,List.getElem?_eq_getElem hj]
theorem Fresh.row {B g:Nat} {w':World} {zs:List Int} {n:Nat} (h:RowAt w' g zs) (hB:B≤g) (hn:n=zs.length):Fresh B w' (.slice (some ⟨g,0,none⟩) n n) zs:=by
 subst hn
 exact Or.inr ⟨g,zs.length,_,rfl,hB,h,Nat.le_refl _,by simp [intCells,List.take_of_length_le]⟩
theorem Fresh.below {B:Nat} {w w':World} {v:Value} {zs:List Int} (h:Fresh B w v zs) (hb:Below w.heap.size w w'):Fresh B w' v zs:=by
 rcases h with h | ⟨g,cap,cur,e,hB,hg,hc,ht⟩
 ·exact Or.inl h
 ·exact Or.inr ⟨g,cap,cur,e,hB,(hb.block g (Array.getElem?_eq_some_iff.1 hg).1).trans hg,hc,ht⟩
theorem strides_empty (a0:Option Addr) (cap:Nat) (w:World) :
  Calls Tryz.prog 83 #[.slice a0 0 cap] w fun e w'=>e=.returned (.tuple #[.slice (some ⟨w.heap.size,0,none⟩) 0 0,.int .i64 0])∧RowAt w' w.heap.size (strd [])∧Below w.heap.size w w':=by
 have HC:=hid (count_any (IntsIn.empty (w:=w) a0 cap))
 rw [show cnt []=(1,0) by unfold cnt cntLoop;decide] at HC
 have hmk:∀ w:World,(Instr.makeSlice 27 (.int .i64 0) (.int .i64 0)).run Tryz.prog w=.ok (.slice (some ⟨w.heap.size,0,none⟩) 0 0) (w.alloc (.cells (intCells (List.replicate 0 0)) 3)):=fun w=>run_make_ints w 0 (by omega)
 have hrow:Hid (RowAt (w.alloc (.cells (intCells (List.replicate 0 0)) 3)) w.heap.size (strd [])):=hid (by unfold strd;exact RowAt.new w _)
 have hbel:Hid (Below w.heap.size w (w.alloc (.cells (intCells (List.replicate 0 0)) 3))):=hid ((Below.refl _ w).alloc (Nat.le_refl _) _)
 go_enter Tryz.func83,Tryz.ntmps83
 go_wp2_with (go_at_call 31;refine HC.out.mono ?_;rintro e w' ⟨rfl,rfl⟩)
 go_rounds 1
 go_ret2
 exact ⟨rfl,hrow.out,hbel.out⟩
def StrOut (w:World) (zs:List Int) (e:Ending) (w':World):Prop :=
 Below w.heap.size w w'∧(((cnt zs).2≠0∧e=.returned (.tuple #[.slice none 0 0,.int .i64 (cnt zs).2]))∨((cnt zs).2=0∧∃ v,e=.returned (.tuple #[v,.int .i64 0])∧Fresh w.heap.size w' v (strd zs)))
theorem strides_any {w:World} {v:Value} {zs:List Int} (h:IntsIn w v zs):Calls Tryz.prog 83 #[v] w (StrOut w zs):=by
 by_cases he:(cnt zs).2=0
 ·have hg:=cnt_good he
  have h':=h
  cases h with
  | empty a0 cap =>
   refine (strides_empty a0 cap w).mono ?_
   rintro e w' ⟨h1,h2,h3⟩
   exact ⟨h3,Or.inr ⟨he,_,h1,Fresh.row h2 (Nat.le_refl _) (by unfold strd;rfl)⟩⟩
  | row b off cap _ h0 hc hb hr hlen hw =>
   refine (strides_row b off cap zs w hg.2.1 hb (hid hr) (hid h') (hid hg.1) (hid hg.2.2.2) (hid he)).mono ?_
   rintro e w' ⟨h1,h2,h3⟩
   exact ⟨h3,Or.inr ⟨he,_,h1,Fresh.row h2 (Nat.le_refl _) (by rw [strd_length])⟩⟩
 ·refine (strides_bad (w:=w) (hid h) (hid he) w (hid h)).mono ?_
  rintro e w' ⟨h1,rfl⟩
  exact ⟨Below.refl _ _,Or.inl ⟨he,h1⟩⟩
end Go.Proofs.YtijhdmidffenbaaGreatDoor.Vx
namespace Go.Proofs.YtijhdmidffenbaaGreatDoor.Vx
open Go.RowKit Vw
theorem getD_inI {zs:List Int} (h:∀ z ∈ zs,InI z) (j:Nat):InI (zs.getD j 0):=by
 by_cases hj:j < zs.length
 ·exact h _ (getD_mem hj)
 ·rw [List.getD,List.getElem?_eq_none (by omega)];constructor<;>decide
theorem cnt_pos {ds:List Int} (h:(cnt ds).2=0):Pos ds:=fun d hd=>((cnt_good h).1 d hd).1
theorem Fresh.of_owns {B:Nat} {w:World} {v:Value} {zs:List Int} (h:w.ownsRow B 3 1 v zs.length (zs.map (Value.int .i64))):Fresh B w v zs:=by
 obtain ⟨h1,h2⟩:=h
 rcases h2 with ⟨rfl,h0⟩ | ⟨g,cap,cur,rfl,hb,hg,hn,hc,hs,ht⟩
 ·exact Or.inl ⟨List.length_eq_zero_iff.1 h0,none,0,rfl⟩
 ·exact Or.inr ⟨g,cap,cur,rfl,hb,hg,hn,by simpa using ht⟩
theorem clone_any {w:World} {v:Value} {zs:List Int} (h:IntsIn w v zs) :
  Calls Tryz.prog 35 #[v] w fun e w'=>∃ v',e=.returned v'∧Fresh w.heap.size w' v' zs∧Below w.heap.size w w':=by
 cases h with
 | empty a0 cap =>
  cases a0 with
  | none =>
   refine (Tryz.slices_Clone_int_nil 0 cap w).mono ?_
   rintro e w' ⟨rfl,rfl⟩
   exact ⟨_,rfl,Or.inl ⟨rfl,none,0,rfl⟩,Below.refl _ _⟩
  | some a =>
   refine (Tryz.slices_Clone_int_zero a cap w).mono ?_
   rintro e w' ⟨v',rfl,h1,_,h2⟩
   exact ⟨v',rfl,Fresh.of_owns (zs:=[]) h1,h2⟩
 | row b off cap _ h0 hc hb hr hlen hw =>
  refine (Tryz.slices_Clone_int b off zs.length cap zs w (Nat.le_refl _) (by omega) hr).mono ?_
  rintro e w' ⟨v',rfl,h1,_,h2⟩
  rw [List.take_length] at h1
  exact ⟨v',rfl,Fresh.of_owns h1,h2⟩
theorem Fresh.form {B:Nat} {w:World} {v:Value} {zs:List Int} (h:Fresh B w v zs):∃ a cap,v=.slice a zs.length cap:=by
 rcases h with ⟨rfl,a0,cap,rfl⟩ | ⟨g,cap,cur,rfl,_⟩
 ·exact ⟨a0,cap,rfl⟩
 ·exact ⟨_,cap,rfl⟩
end Go.Proofs.YtijhdmidffenbaaGreatDoor.Vx
namespace Go.Proofs.YtijhdmidffenbaaGreatDoor.Vb
open Go.RowKit Vx Vx.Vw
def Fresh (B:Nat) (w:World) (v:Value) (zs:List Int):Prop:=w.ownsRow B 3 1 v zs.length (zs.map (Value.int .i64))
theorem Fresh.of_owns {B:Nat} {w:World} {v:Value} {zs:List Int} (h:w.ownsRow B 3 1 v zs.length (zs.map (Value.int .i64))):Fresh B w v zs:=h
theorem Fresh.ints {B:Nat} {w':World} {v:Value} {zs:List Int} (h:Fresh B w' v zs) (hlen:zs.length * 8≤140737488351232) (hw:∀ z ∈ zs,InI z):IntsIn w' v zs:=IntsIn.of_owns (B:=B) (t:=3) h (by omega) hw
theorem Fresh.below {B:Nat} {w w':World} {v:Value} {zs:List Int} (h:Fresh B w v zs) (hb:Below w.heap.size w w'):Fresh B w' v zs:=owns_below h hb
theorem Fresh.form {B:Nat} {w:World} {v:Value} {zs:List Int} (h:Fresh B w v zs):∃ a cap,v=.slice a zs.length cap:=owns_form h
theorem Fresh.at {B:Nat} {w:World} {a:Option Addr} {n c j:Nat} {xs:List Int} (h:Fresh B w (.slice a n c) xs) (hn:xs.length=n) (hj:j < n):∃ g,a=some ⟨g,0,none⟩∧B≤g∧w.cell? ⟨g,j,none⟩=some (.int .i64 (xs.getD j 0))∧w.frozen? ⟨g,j,none⟩=false∧∀ x:Int,Fresh B (w.setCell ⟨g,j,none⟩ (.int .i64 x)) (.slice (some ⟨g,0,none⟩) n c) (xs.set j x):=by
 subst hn
 obtain ⟨g,cap,e,hB,hg⟩:=World.ownsRow.form h (by omega)
 obtain ⟨rfl,-,rfl⟩:=Value.slice.inj e
 refine ⟨g,rfl,hB,?_,World.ownsRow.frozenAt h j,fun x=>?_⟩
 ·have:=World.ownsRow.cells h (g:=g) rfl j (.int .i64 (xs.getD j 0)) (by rw [List.getElem?_map,int_at hj];rfl)
  rwa [show (⟨g,0,none⟩:Addr).add j=⟨g,j,none⟩ from by rw [add_some,Nat.zero_add]] at this
 ·unfold Fresh
  rw [List.length_set,List.map_set]
  exact (World.ownsRow.stored h j _).1
theorem clone_any {w:World} {v:Value} {zs:List Int} (h:IntsIn w v zs) :
  Calls Tryz.prog 35 #[v] w fun e w'=>∃ v',e=.returned v'∧Fresh w.heap.size w' v' zs∧Below w.heap.size w w':=by
 cases h with
 | empty a0 cap =>
  cases a0 with
  | none =>
   refine (Tryz.slices_Clone_int_nil 0 cap w).mono ?_
   rintro e w' ⟨rfl,rfl⟩
   exact ⟨_,rfl,World.ownsRow_nil _ _ _ _,Below.refl _ _⟩
  | some a =>
   refine (Tryz.slices_Clone_int_zero a cap w).mono ?_
   rintro e w' ⟨v',rfl,h1,_,h2⟩
   exact ⟨v',rfl,Fresh.of_owns (zs:=[]) h1,h2⟩
 | row b off cap _ h0 hc hb hr hlen hw =>
  refine (Tryz.slices_Clone_int b off zs.length cap zs w (Nat.le_refl _) (by omega) hr).mono ?_
  rintro e w' ⟨v',rfl,h1,_,h2⟩
  rw [List.take_length] at h1
  exact ⟨v',rfl,Fresh.of_owns h1,h2⟩
end Go.Proofs.YtijhdmidffenbaaGreatDoor.Vb
namespace Go.Proofs.YtijhdmidffenbaaGreatDoor.Vb
open Go.RowKit Vx Vx.Vw
def bk (zs:List Int) (i:Nat):Int:=if zs.length≤i then 1 else zs.getD (zs.length - 1 - i) 0
def outL (a b:List Int):List Int:=(List.range (max a.length b.length)).map fun j=>max (bk a (max a.length b.length - 1 - j)) (bk b (max a.length b.length - 1 - j))
def Co1 (a b:List Int) (i:Nat):Prop:=bk a i=bk b i∨bk a i=1∨bk b i=1
def Co (a b:List Int) (k:Nat):Prop:=∀ i,i < k→Co1 a b i
instance (a b:List Int) (k:Nat):Decidable (Co a b k):=by unfold Co Co1;infer_instance
def bcO (a b:List Int):Int × List Int:=if (cnt a).2≠0 then ((cnt a).2,[]) else if (cnt b).2≠0 then ((cnt b).2,[]) else if Co a b (max a.length b.length) then (if (cnt (outL a b)).2≠0 then ((cnt (outL a b)).2,[]) else (0,outL a b)) else (4,[])
theorem outL_length (a b:List Int):(outL a b).length=max a.length b.length:=by simp [outL]
theorem outL_get {a b:List Int} {j:Nat} (h:j < max a.length b.length):(outL a b).getD j 0=max (bk a (max a.length b.length - 1 - j)) (bk b (max a.length b.length - 1 - j)):=by
 simp [outL,List.getD,h]
theorem outL_comm (a b:List Int):outL a b=outL b a:=by
 unfold outL
 rw [Nat.max_comm]
 apply List.map_congr_left
 intro j _
 exact Int.max_comm _ _
theorem Co.comm {a b:List Int} {k:Nat} (h:Co a b k):Co b a k:=fun i hi=>by
 rcases h i hi with h | h | h
 ·exact Or.inl h.symm
 ·exact Or.inr (Or.inr h)
 ·exact Or.inr (Or.inl h)
theorem bk_inI {zs:List Int} (h:∀ z ∈ zs,InI z) (i:Nat):InI (bk zs i):=by
 unfold bk
 by_cases h1:zs.length≤i
 ·rw [if_pos h1];constructor<;>decide
 ·rw [if_neg h1];exact getD_inI h _
theorem outL_inI {a b:List Int} (ha:∀ z ∈ a,InI z) (hb:∀ z ∈ b,InI z):∀ z ∈ outL a b,InI z:=by
 intro z hz
 obtain ⟨j,_,rfl⟩:=List.mem_map.1 hz
 have h1:=bk_inI ha (max a.length b.length - 1 - j)
 have h2:=bk_inI hb (max a.length b.length - 1 - j)
 unfold InI at *
 omega
theorem bk_pos {zs:List Int} (h:Pos zs) (i:Nat):1≤bk zs i:=by
 unfold bk
 by_cases h1:zs.length≤i
 ·rw [if_pos h1];omega
 ·rw [if_neg h1];exact h _ (getD_mem (by omega))
theorem bk_out {zs:List Int} {i:Nat} (h:zs.length≤i):bk zs i=1:=by unfold bk;rw [if_pos h]
theorem bk_in {zs:List Int} {i:Nat} (h:i < zs.length):bk zs i=zs.getD (zs.length - 1 - i) 0:=by unfold bk;rw [if_neg (by omega)]
def BcTo (L S:List Int) (i:Nat) (xs:List Int):Prop:=xs.length=L.length∧(∀ j,j < L.length - S.length+i→xs.getD j 0=(outL L S).getD j 0)∧(∀ j,L.length - S.length+i≤j→xs.getD j 0=L.getD j 0)
theorem BcTo.len {L S xs:List Int} {i:Nat} (h:BcTo L S i xs):xs.length=L.length:=h.1
theorem BcTo.here {L S xs:List Int} {i:Nat} (h:BcTo L S i xs):xs.getD (L.length - S.length+i) 0=L.getD (L.length - S.length+i) 0:=h.2.2 _ (Nat.le_refl _)
theorem BcTo.zero {L S:List Int} (hL:Pos L) (hl:S.length≤L.length):BcTo L S 0 L:=by
 refine ⟨rfl,fun j hj=>?_,fun j _=>rfl⟩
 have hm:max L.length S.length=L.length:=by omega
 rw [outL_get (by omega),hm,bk_in (by omega),bk_out (zs:=S) (by omega),show L.length - 1 - (L.length - 1 - j)=j by omega]
 have:=hL _ (getD_mem (zs:=L) (k:=j) (by omega))
 omega
theorem bc_pair {L S:List Int} {i:Nat} (hl:S.length≤L.length) (hi:i < S.length):(outL L S).getD (L.length - S.length+i) 0=max (L.getD (L.length - S.length+i) 0) (S.getD i 0)∧(Co1 L S (S.length - 1 - i)↔(L.getD (L.length - S.length+i) 0=S.getD i 0∨L.getD (L.length - S.length+i) 0=1∨S.getD i 0=1)):=by
 have hm:max L.length S.length=L.length:=by omega
 have e1:bk L (S.length - 1 - i)=L.getD (L.length - S.length+i) 0:=by rw [bk_in (by omega),show L.length - 1 - (S.length - 1 - i)=L.length - S.length+i by omega]
 have e2:bk S (S.length - 1 - i)=S.getD i 0:=by rw [bk_in (by omega),show S.length - 1 - (S.length - 1 - i)=i by omega]
 refine ⟨?_,by unfold Co1;rw [e1,e2]⟩
 rw [outL_get (by omega),hm,show L.length - 1 - (L.length - S.length+i)=S.length - 1 - i by omega,e1,e2]
theorem BcTo.put {L S xs:List Int} {i:Nat} (h:BcTo L S i xs) (hl:S.length≤L.length) (hi:i < S.length) (h1:L.getD (L.length - S.length+i) 0=1) (h2:1≤S.getD i 0):BcTo L S (i+1) (xs.set (L.length - S.length+i) (S.getD i 0)):=by
 refine ⟨by rw [List.length_set];exact h.1,fun j hj=>?_,fun j hj=>?_⟩
 ·by_cases e:j=L.length - S.length+i
  ·subst e
   rw [(bc_pair hl hi).1,h1]
   have:(xs.set (L.length - S.length+i) (S.getD i 0)).getD (L.length - S.length+i) 0=S.getD i 0:=by
    have hlt:L.length - S.length+i < xs.length:=by have:=h.1;omega
    simp [List.getD,hlt]
   rw [this];omega
  ·have:(xs.set (L.length - S.length+i) (S.getD i 0)).getD j 0=xs.getD j 0:=by simp [List.getD,List.getElem?_set_ne (Ne.symm e)]
   rw [this];exact h.2.1 j (by omega)
 ·have:(xs.set (L.length - S.length+i) (S.getD i 0)).getD j 0=xs.getD j 0:=by simp [List.getD,List.getElem?_set_ne (show L.length - S.length+i≠j by omega)]
  rw [this];exact h.2.2 j (by omega)
theorem BcTo.stay {L S xs:List Int} {i:Nat} (h:BcTo L S i xs) (hl:S.length≤L.length) (hi:i < S.length) (hL:1≤L.getD (L.length - S.length+i) 0) (h1:S.getD i 0=1∨S.getD i 0=L.getD (L.length - S.length+i) 0):BcTo L S (i+1) xs:=by
 refine ⟨h.1,fun j hj=>?_,fun j hj=>h.2.2 j (by omega)⟩
 by_cases e:j=L.length - S.length+i
 ·subst e
  rw [(bc_pair hl hi).1,h.here]
  rcases h1 with h1 | h1<;>rw [h1]<;>omega
 ·exact h.2.1 j (by omega)
theorem BcTo.all {L S xs:List Int} (h:BcTo L S S.length xs) (hl:S.length≤L.length):xs=outL L S:=by
 refine List.ext_getElem (by rw [h.1,outL_length];omega) fun j h1 h2=>?_
 have:=h.2.1 j (by have:=h.1;omega)
 simpa [List.getD,List.getElem?_eq_getElem h1,List.getElem?_eq_getElem h2] using this
def CoS (L S:List Int) (i:Nat):Prop:=∀ k,k < i→Co1 L S (S.length - 1 - k)
theorem CoS.zero (L S:List Int):CoS L S 0:=fun k hk=>by omega
theorem CoS.next {L S:List Int} {i:Nat} (h:CoS L S i) (g:Co1 L S (S.length - 1 - i)):CoS L S (i+1):=fun k hk=>by
 by_cases e:k=i
 ·subst e;exact g
 ·exact h k (by omega)
theorem CoS.all {L S:List Int} (h:CoS L S S.length) (n:Nat):Co L S n:=fun i hi=>by
 by_cases h1:i < S.length
 ·have:=h (S.length - 1 - i) (by omega)
  rwa [show S.length - 1 - (S.length - 1 - i)=i by omega] at this
 ·exact Or.inr (Or.inr (bk_out (by omega)))
def BOut (w:World) (o:Int × List Int) (e:Ending) (w':World):Prop :=
 Below w.heap.size w w'∧((o.1≠0∧e=.returned (.tuple #[.slice none 0 0,.int .i64 o.1]))∨(o.1=0∧∃ v,e=.returned (.tuple #[v,.int .i64 0])∧Fresh w.heap.size w' v o.2))
attribute [local irreducible] cnt outL Co1 Co BcTo CoS bk
theorem fresh_base {B B':Nat} {w:World} {v:Value} {zs:List Int} (h:Fresh B w v zs) (hB:B'≤B):Fresh B' w v zs:=owns_base h hB
theorem fresh_drewN {B:Nat} {w:World} {v:Value} {zs:List Int} (h:Fresh B w v zs) (q:Nat):Fresh B (w.drewN q) v zs:=h
theorem co_at {a b:List Int} {n i:Nat} (h:Co a b n) (hi:i < n):Co1 a b i:=by unfold Co at h;exact h i hi
def Two (xa xb:List Int) (k:Nat):Prop:=(1≤k→(cnt xa).2=0)∧(2≤k→(cnt xb).2=0)
set_option maxRecDepth 100000 in
set_option maxHeartbeats 8000000 in
theorem broadcast_any {w:World} {va vb:Value} {xa xb:List Int} (ha:IntsIn w va xa) (hb0:IntsIn w vb xb):Calls Tryz.prog 85 #[va,vb] w (BOut w (bcO xa xb)):=by
 obtain ⟨a1,c1,rfl⟩:=ha.form
 obtain ⟨a2,c2,rfl⟩:=hb0.form
 have Ixa:=hid ha
 have Ixb:=hid hb0
 have HRxa:=hid ha.rowsV.2
 have HRxb:=hid hb0.rowsV.2
 clear ha hb0
 obtain ⟨W1,hW1⟩:∃ W1,Hid (w.alloc (.cells #[.slice a1 xa.length c1,.slice a2 xb.length c2] 27)=W1):=⟨_,hid rfl⟩
 have b1:Hid (Below w.heap.size w W1):=hid (by rw [←hW1.out];exact (Below.refl _ w).alloc (Nat.le_refl _) _)
 have hblk:W1.heap[w.heap.size]?=some (.cells #[.slice a1 xa.length c1,.slice a2 xb.length c2] 27 (0,0)):=by rw [←hW1.out];exact World.alloc_heap_new w _
 have q0:W1.cell? ⟨w.heap.size,0,none⟩=some (.slice a1 xa.length c1):=by simp [World.cell?,hblk]
 have q1:W1.cell? ⟨w.heap.size,1,none⟩=some (.slice a2 xb.length c2):=by simp [World.cell?,hblk]
 have E1:Hid ((cnt xa).2≠0→bcO xa xb=((cnt xa).2,[])):=hid fun h=>by unfold bcO;rw [if_pos h]
 have E2:Hid ((cnt xa).2=0→(cnt xb).2≠0→bcO xa xb=((cnt xb).2,[])):=hid fun h g=>by unfold bcO;rw [if_neg (by rw [h];decide),if_pos g]
 clear hblk
 go_enter Tryz.func85,Tryz.ntmps85
 go_wp2_with fail
 rw [hW1.out]
 go_loop [20] (fun i=>∃ k:Nat,k≤2∧i=.int .i64 (k:Int)∧Hid (Two xa xb k)) (fun i=>2 - (intOf i).toNat)
 case atStart=>exact ⟨0,Nat.zero_le _,rfl,hid ⟨fun h=>by omega,fun h=>by omega⟩⟩
 case round =>
  obtain ⟨k,hk,rfl,h2⟩:=hrel
  rcases (match k,hk with | 0,_=>Or.inl rfl | 1,_=>Or.inr (Or.inl rfl) | 2,_=>Or.inr (Or.inr rfl):k=0∨k=1∨k=2) with e | e | e
  ·subst e
   go_wp2_with fail
   refine (Vx.count_any (Ixa.out.below b1.out)).mono ?_
   rintro e _ ⟨rfl,rfl⟩
   by_cases hce:(cnt xa).2=0
   ·have HT:Hid (Two xa xb 1):=hid ⟨fun _=>hce,fun h=>by omega⟩
    rw [hce]
    clear hce
    go_wp2_with fail
    go_round
    case rel=>exact ⟨1,by omega,rfl,HT⟩
    case measure=>simp [intOf]
   ·have NX:=hid (E1.out hce)
    have HNE:=hid hce
    generalize (cnt xa).2=ce at *
    have hb1:(ce != 0)=true:=by simpa using hce
    clear hce
    go_wp2_with fail
    go_ret2
    rw [NX.out]
    exact ⟨b1.out,Or.inl ⟨HNE.out,rfl⟩⟩
  ·subst e
   go_wp2_with fail
   refine (Vx.count_any (Ixb.out.below b1.out)).mono ?_
   rintro e _ ⟨rfl,rfl⟩
   by_cases hce:(cnt xb).2=0
   ·have HT:Hid (Two xa xb 2):=hid ⟨fun _=>h2.out.1 (by omega),fun _=>hce⟩
    rw [hce]
    clear hce
    go_wp2_with fail
    go_round
    case rel=>exact ⟨2,by omega,rfl,HT⟩
    case measure=>simp [intOf]
   ·have NX:=hid (E2.out (h2.out.1 (by omega)) hce)
    have HNE:=hid hce
    generalize (cnt xb).2=ce at *
    have hb1:(ce != 0)=true:=by simpa using hce
    clear hce
    go_wp2_with fail
    go_ret2
    rw [NX.out]
    exact ⟨b1.out,Or.inl ⟨HNE.out,rfl⟩⟩
  ·subst e
   have HA:=hid (h2.out.1 (by omega))
   have HB:=hid (h2.out.2 (by omega))
   have HPxa:=hid (cnt_pos HA.out)
   have HPxb:=hid (cnt_pos HB.out)
   have hl1:=(cnt_good HA.out).2.1
   have hl2:=(cnt_good HB.out).2.1
   clear E1 E2 q0 q1
   by_cases hlt:xa.length < xb.length
   ·have hlti:(xa.length:Int) < (xb.length:Int):=by omega
    have E3:Hid (¬ Co xb xa (max xb.length xa.length)→bcO xa xb=(4,[])):=hid fun h=>by unfold bcO;rw [if_neg (by rw [HA.out];decide),if_neg (by rw [HB.out];decide),if_neg (fun g=>h (by rw [Nat.max_comm];exact g.comm))]
    have E4:Hid (Co xb xa (max xb.length xa.length)→(cnt (outL xb xa)).2≠0→bcO xa xb=((cnt (outL xb xa)).2,[])):=hid fun g h=>by unfold bcO;rw [if_neg (by rw [HA.out];decide),if_neg (by rw [HB.out];decide),if_pos (by rw [Nat.max_comm];exact g.comm),outL_comm,if_pos h]
    have E5:Hid (Co xb xa (max xb.length xa.length)→(cnt (outL xb xa)).2=0→bcO xa xb=(0,outL xb xa)):=hid fun g h=>by unfold bcO;rw [if_neg (by rw [HA.out];decide),if_neg (by rw [HB.out];decide),if_pos (by rw [Nat.max_comm];exact g.comm),outL_comm,if_neg (by rw [h];decide)]
    have hLS:xa.length≤xb.length:=by omega
    obtain ⟨ah,hah⟩:∃ ah:Nat,ah=xb.length - xa.length:=⟨_,rfl⟩
    have hsub:(xb.length:Int) - (xa.length:Int)=(ah:Int):=by omega
    have HAH:=hid hah
    clear hah
    go_wp2_with fail
    refine (clone_any (Ixb.out.below b1.out)).mono ?_
    rintro e w2 ⟨v,rfl,hf,B2⟩
    obtain ⟨a5,c5,rfl⟩:=hf.form
    have b2:=hid (b1.out.trans (B2.mono b1.out.size))
    have hf2:Hid (Fresh w.heap.size w2 (.slice a5 xb.length c5) xb):=hid (fresh_base hf b1.out.size)
    clear hf B2
    go_wp2_with fail
    go_loopw [49] (fun i wr=>∃ k:Nat,k≤xa.length∧i=.int .i64 (k:Int)∧Hid (CoS xb xa k)∧Hid (∃ xs,Fresh w.heap.size wr (.slice a5 xb.length c5) xs∧BcTo xb xa k xs)∧Hid (Below w.heap.size w wr)) (fun i _=>xa.length - (intOf i).toNat)
    case atStart=>exact ⟨0,Nat.zero_le _,rfl,hid (CoS.zero _ _),hid ⟨_,hf2.out,BcTo.zero HPxb.out hLS⟩,b2⟩
    case round =>
     obtain ⟨k,hk,rfl,hco,hx,hb⟩:=hrel
     obtain ⟨xs,hfr,hbc⟩:=hx.out
     by_cases hkl:k < xa.length
     ·have hki:(k:Int) < (xa.length:Int):=by omega
      obtain ⟨p,hp⟩:∃ p:Nat,p=ah+k:=⟨_,rfl⟩
      have hpi:(ah:Int)+(k:Int)=(p:Int):=by omega
      have hpL:p < xb.length:=by have:=HAH.out;omega
      have hpl:(p:Int) < (xb.length:Int):=by omega
      have hpe:xb.length - xa.length+k=p:=by rw [←HAH.out,hp]
      have hpair:=bc_pair hLS hkl
      have hput:=hbc.put hLS hkl
      have hstay:=hbc.stay hLS hkl
      have hhere:=hbc.here
      rw [hpe] at hpair hput hstay hhere
      obtain ⟨g,rfl,hBg,hcell,hfz,hst⟩:=hfr.at hbc.len hpL
      obtain ⟨b,o,rfl,hbb,hrd⟩:=HRxa.out k hkl
      have hcx:=(hb.out.cell (p:=⟨b,o+k,none⟩) hbb).trans (hrd k hkl)
      rw [hhere] at hcell
      have d1:=HPxb.out _ (getD_mem hpL)
      have s1:=HPxa.out _ (getD_mem hkl)
      have HCN:=hid hco.out.next
      have HPR:=hid hpair.2
      have HCO:=hid (fun (h:¬ Co1 xb xa (xa.length - 1 - k)) (g:Co xb xa (max xb.length xa.length))=>h (co_at g (by omega)))
      clear hpair hp hpe hhere
      generalize xb.getD p 0=d at *
      generalize xa.getD k 0=s at *
      by_cases hd1:d=1
      ·have HPT:=hid (hput hd1 s1)
       have HNX:=hid (HCN.out (HPR.out.2 (Or.inr (Or.inl hd1))))
       have hsf:=hid (hst s)
       have hbs:Hid (Below w.heap.size w (wr.setCell ⟨g,p,none⟩ (.int .i64 s))):=hid (hb.out.setCell (p:=⟨g,p,none⟩) hBg _)
       clear hput hstay hfr hbc hx hst hBg
       subst hd1
       go_wp2
       go_roundw
       case rel=>exact ⟨k+1,by omega,by go_num,HNX,hid ⟨_,hsf.out,HPT.out⟩,hbs⟩
       case measure=>simp [intOf];omega
      ·have b1':(d==1)=false:=by simpa using hd1
       by_cases hs1:s=1
       ·have b2':(s != 1)=false:=by simp [hs1]
        have HST:=hid (hstay d1 (Or.inl hs1))
        have HNX:=hid (HCN.out (HPR.out.2 (Or.inr (Or.inr hs1))))
        have hfr2:=hid hfr
        clear hput hstay hfr hbc hx hst hBg hd1 hs1
        go_wp2
        go_quiet (fail)
        go_wp2
        go_roundw
        case rel=>exact ⟨k+1,by omega,by go_num,HNX,hid ⟨_,fresh_drewN hfr2.out _,HST.out⟩,hid (below_drewN hb.out _)⟩
        case measure=>simp [intOf];omega
       ·have b2':(s != 1)=true:=by simpa using hs1
        by_cases hsd:s=d
        ·have b3':(s != d)=false:=by simp [hsd]
         have HST:=hid (hstay d1 (Or.inr hsd))
         have HNX:=hid (HCN.out (HPR.out.2 (Or.inl hsd.symm)))
         have hfr2:=hid hfr
         clear hput hstay hfr hbc hx hst hBg hd1 hs1 hsd
         go_wp2
         go_quiet (fail)
         go_wp2
         go_roundw
         case rel=>exact ⟨k+1,by omega,by go_num,HNX,hid ⟨_,fresh_drewN hfr2.out _,HST.out⟩,hid (below_drewN hb.out _)⟩
         case measure=>simp [intOf];omega
        ·have b3':(s != d)=true:=by simpa using hsd
         have NO:=hid (E3.out (HCO.out (fun h=>by rcases HPR.out.1 h with h | h | h;exact hsd h.symm;exact hd1 h;exact hs1 h)))
         clear hput hstay hfr hbc hx hst hBg hd1 hs1 hsd
         go_wp2
         go_quiet (fail)
         go_wp2
         go_ret2
         rw [NO.out]
         exact ⟨below_drewN hb.out _,Or.inl ⟨by decide,rfl⟩⟩
     ·obtain rfl:k=xa.length:=by omega
      have hxe:=hbc.all hLS
      subst hxe
      have HCA:=hid (hco.out.all (max xb.length xa.length))
      have hol:Hid ((outL xb xa).length=xb.length):=hid hbc.len
      have io:Hid (IntsIn wr (.slice a5 xb.length c5) (outL xb xa)):=hid (hfr.ints (by rw [hol.out];omega) (outL_inI Ixb.out.wf.2 Ixa.out.wf.2))
      have hfr2:=hid hfr
      have HE4:=hid (E4.out HCA.out)
      have HE5:=hid (E5.out HCA.out)
      clear hfr hbc hx
      go_wp2_with fail
      refine (Vx.count_any io.out).mono ?_
      rintro e _ ⟨rfl,rfl⟩
      by_cases hce:(cnt (outL xb xa)).2=0
      ·have NX:=hid (HE5.out hce)
       rw [hce]
       clear hce
       go_wp2_with fail
       go_ret2
       rw [NX.out]
       exact ⟨hb.out,Or.inr ⟨rfl,_,rfl,hfr2.out⟩⟩
      ·have NX:=hid (HE4.out hce)
       have HNE:=hid hce
       generalize (cnt (outL xb xa)).2=ce at *
       have hb1:(ce != 0)=true:=by simpa using hce
       clear hce
       go_wp2_with fail
       go_ret2
       rw [NX.out]
       exact ⟨hb.out,Or.inl ⟨HNE.out,rfl⟩⟩
   ·have hlti:¬ (xa.length:Int) < (xb.length:Int):=by omega
    have E3:Hid (¬ Co xa xb (max xa.length xb.length)→bcO xa xb=(4,[])):=hid fun h=>by unfold bcO;rw [if_neg (by rw [HA.out];decide),if_neg (by rw [HB.out];decide),if_neg h]
    have E4:Hid (Co xa xb (max xa.length xb.length)→(cnt (outL xa xb)).2≠0→bcO xa xb=((cnt (outL xa xb)).2,[])):=hid fun g h=>by unfold bcO;rw [if_neg (by rw [HA.out];decide),if_neg (by rw [HB.out];decide),if_pos g,if_pos h]
    have E5:Hid (Co xa xb (max xa.length xb.length)→(cnt (outL xa xb)).2=0→bcO xa xb=(0,outL xa xb)):=hid fun g h=>by unfold bcO;rw [if_neg (by rw [HA.out];decide),if_neg (by rw [HB.out];decide),if_pos g,if_neg (by rw [h];decide)]
    have hLS:xb.length≤xa.length:=by omega
    obtain ⟨ah,hah⟩:∃ ah:Nat,ah=xa.length - xb.length:=⟨_,rfl⟩
    have hsub:(xa.length:Int) - (xb.length:Int)=(ah:Int):=by omega
    have HAH:=hid hah
    clear hah
    go_wp2_with fail
    refine (clone_any (Ixa.out.below b1.out)).mono ?_
    rintro e w2 ⟨v,rfl,hf,B2⟩
    obtain ⟨a5,c5,rfl⟩:=hf.form
    have b2:=hid (b1.out.trans (B2.mono b1.out.size))
    have hf2:Hid (Fresh w.heap.size w2 (.slice a5 xa.length c5) xa):=hid (fresh_base hf b1.out.size)
    clear hf B2
    go_wp2_with fail
    go_loopw [49] (fun i wr=>∃ k:Nat,k≤xb.length∧i=.int .i64 (k:Int)∧Hid (CoS xa xb k)∧Hid (∃ xs,Fresh w.heap.size wr (.slice a5 xa.length c5) xs∧BcTo xa xb k xs)∧Hid (Below w.heap.size w wr)) (fun i _=>xb.length - (intOf i).toNat)
    case atStart=>exact ⟨0,Nat.zero_le _,rfl,hid (CoS.zero _ _),hid ⟨_,hf2.out,BcTo.zero HPxa.out hLS⟩,b2⟩
    case round =>
     obtain ⟨k,hk,rfl,hco,hx,hb⟩:=hrel
     obtain ⟨xs,hfr,hbc⟩:=hx.out
     by_cases hkl:k < xb.length
     ·have hki:(k:Int) < (xb.length:Int):=by omega
      obtain ⟨p,hp⟩:∃ p:Nat,p=ah+k:=⟨_,rfl⟩
      have hpi:(ah:Int)+(k:Int)=(p:Int):=by omega
      have hpL:p < xa.length:=by have:=HAH.out;omega
      have hpl:(p:Int) < (xa.length:Int):=by omega
      have hpe:xa.length - xb.length+k=p:=by rw [←HAH.out,hp]
      have hpair:=bc_pair hLS hkl
      have hput:=hbc.put hLS hkl
      have hstay:=hbc.stay hLS hkl
      have hhere:=hbc.here
      rw [hpe] at hpair hput hstay hhere
      obtain ⟨g,rfl,hBg,hcell,hfz,hst⟩:=hfr.at hbc.len hpL
      obtain ⟨b,o,rfl,hbb,hrd⟩:=HRxb.out k hkl
      have hcx:=(hb.out.cell (p:=⟨b,o+k,none⟩) hbb).trans (hrd k hkl)
      rw [hhere] at hcell
      have d1:=HPxa.out _ (getD_mem hpL)
      have s1:=HPxb.out _ (getD_mem hkl)
      have HCN:=hid hco.out.next
      have HPR:=hid hpair.2
      have HCO:=hid (fun (h:¬ Co1 xa xb (xb.length - 1 - k)) (g:Co xa xb (max xa.length xb.length))=>h (co_at g (by omega)))
      clear hpair hp hpe hhere
      generalize xa.getD p 0=d at *
      generalize xb.getD k 0=s at *
      by_cases hd1:d=1
      ·have HPT:=hid (hput hd1 s1)
       have HNX:=hid (HCN.out (HPR.out.2 (Or.inr (Or.inl hd1))))
       have hsf:=hid (hst s)
       have hbs:Hid (Below w.heap.size w (wr.setCell ⟨g,p,none⟩ (.int .i64 s))):=hid (hb.out.setCell (p:=⟨g,p,none⟩) hBg _)
       clear hput hstay hfr hbc hx hst hBg
       subst hd1
       go_wp2
       go_roundw
       case rel=>exact ⟨k+1,by omega,by go_num,HNX,hid ⟨_,hsf.out,HPT.out⟩,hbs⟩
       case measure=>simp [intOf];omega
      ·have b1':(d==1)=false:=by simpa using hd1
       by_cases hs1:s=1
       ·have b2':(s != 1)=false:=by simp [hs1]
        have HST:=hid (hstay d1 (Or.inl hs1))
        have HNX:=hid (HCN.out (HPR.out.2 (Or.inr (Or.inr hs1))))
        have hfr2:=hid hfr
        clear hput hstay hfr hbc hx hst hBg hd1 hs1
        go_wp2
        go_quiet (fail)
        go_wp2
        go_roundw
        case rel=>exact ⟨k+1,by omega,by go_num,HNX,hid ⟨_,fresh_drewN hfr2.out _,HST.out⟩,hid (below_drewN hb.out _)⟩
        case measure=>simp [intOf];omega
       ·have b2':(s != 1)=true:=by simpa using hs1
        by_cases hsd:s=d
        ·have b3':(s != d)=false:=by simp [hsd]
         have HST:=hid (hstay d1 (Or.inr hsd))
         have HNX:=hid (HCN.out (HPR.out.2 (Or.inl hsd.symm)))
         have hfr2:=hid hfr
         clear hput hstay hfr hbc hx hst hBg hd1 hs1 hsd
         go_wp2
         go_quiet (fail)
         go_wp2
         go_roundw
         case rel=>exact ⟨k+1,by omega,by go_num,HNX,hid ⟨_,fresh_drewN hfr2.out _,HST.out⟩,hid (below_drewN hb.out _)⟩
         case measure=>simp [intOf];omega
        ·have b3':(s != d)=true:=by simpa using hsd
         have NO:=hid (E3.out (HCO.out (fun h=>by rcases HPR.out.1 h with h | h | h;exact hsd h.symm;exact hd1 h;exact hs1 h)))
         clear hput hstay hfr hbc hx hst hBg hd1 hs1 hsd
         go_wp2
         go_quiet (fail)
         go_wp2
         go_ret2
         rw [NO.out]
         exact ⟨below_drewN hb.out _,Or.inl ⟨by decide,rfl⟩⟩
     ·obtain rfl:k=xb.length:=by omega
      have hxe:=hbc.all hLS
      subst hxe
      have HCA:=hid (hco.out.all (max xa.length xb.length))
      have hol:Hid ((outL xa xb).length=xa.length):=hid hbc.len
      have io:Hid (IntsIn wr (.slice a5 xa.length c5) (outL xa xb)):=hid (hfr.ints (by rw [hol.out];omega) (outL_inI Ixa.out.wf.2 Ixb.out.wf.2))
      have hfr2:=hid hfr
      have HE4:=hid (E4.out HCA.out)
      have HE5:=hid (E5.out HCA.out)
      clear hfr hbc hx
      go_wp2_with fail
      refine (Vx.count_any io.out).mono ?_
      rintro e _ ⟨rfl,rfl⟩
      by_cases hce:(cnt (outL xa xb)).2=0
      ·have NX:=hid (HE5.out hce)
       rw [hce]
       clear hce
       go_wp2_with fail
       go_ret2
       rw [NX.out]
       exact ⟨hb.out,Or.inr ⟨rfl,_,rfl,hfr2.out⟩⟩
      ·have NX:=hid (HE4.out hce)
       have HNE:=hid hce
       generalize (cnt (outL xa xb)).2=ce at *
       have hb1:(ce != 0)=true:=by simpa using hce
       clear hce
       go_wp2_with fail
       go_ret2
       rw [NX.out]
       exact ⟨hb.out,Or.inl ⟨HNE.out,rfl⟩⟩
end Go.Proofs.YtijhdmidffenbaaGreatDoor.Vb
namespace Go.Proofs.YtijhdmidffenbaaGreatDoor.Vb
open Go.RowKit Vx Vx.Vw
def RbTo (a b:List Int) (n k:Nat) (xs:List Int):Prop:=xs.length=n∧∀ i,i < k→xs.getD (n - 1 - i) 0=(outL a b).getD (n - 1 - i) 0
theorem RbTo.step {a b xs:List Int} {n k p:Nat} (h:RbTo a b n k xs) (hn:n=max a.length b.length) (hk:k < n) (hp:p=n - 1 - k):RbTo a b n (k+1) (xs.set p (max (bk a k) (bk b k))):=by
 refine ⟨by rw [List.length_set];exact h.1,fun i hi=>?_⟩
 by_cases e:i=k
 ·subst e
  rw [outL_get (by omega),←hn,show n - 1 - (n - 1 - i)=i by omega,hp]
  have hlt:n - 1 - i < xs.length:=by have:=h.1;omega
  simp [List.getD,hlt]
 ·have:(xs.set p (max (bk a k) (bk b k))).getD (n - 1 - i) 0=xs.getD (n - 1 - i) 0:=by simp [List.getD,List.getElem?_set_ne (show p≠n - 1 - i by omega)]
  rw [this];exact h.2 i (by omega)
attribute [local irreducible] cnt outL Co1 Co bk RbTo
end Go.Proofs.YtijhdmidffenbaaGreatDoor.Vb
