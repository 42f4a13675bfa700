import Derived.Test.YtijhdmidffenbaaGreatDoorViewArm
import Derived.RangeFuncFrom
import Derived.RangeFuncBox
import Derived.RangeFuncLeaves
import Derived.Shelf.Abstract
import Derived.OwnWalkIn
import Derived.TacticsInMore
import Derived.LoopNIn
import Derived.LoopIn
import Derived.Maps.AppendAt
import Derived.Deep.Draws
import Derived.Sort.QuietIn
import Derived.RegionIn
import Derived.Shelf.RegionOpen
import Derived.Test.YtijhdmidffenbaaGreatDoorShelfrm
import Derived.Test.YtijhdmidffenbaaGreatDoorSchCorm
import Derived.Test.YtijhdmidffenbaaGreatDoorOpenrm
import Derived.Laws.OwnMore
open Go.Lib (hid)
set_option linter.unusedVariables false
set_option linter.unusedSimpArgs false
namespace Go.Proofs.YtijhdmidffenbaaGreatDoor.Vx
open Go.RowKit
theorem cnt_low {zs:List Int} (h:zs.any (fun d=>decide (d < 1))=true):cnt zs=(0,4):=by unfold cnt;rw [if_pos h]
theorem cnt_long {zs:List Int} (h:zs.any (fun d=>decide (d < 1))=false) (g:6 < zs.length):cnt zs=(0,6):=by
 unfold cnt;rw [h,if_neg (by decide),if_pos g]
theorem cnt_loop {zs:List Int} (h:zs.any (fun d=>decide (d < 1))=false) (g:¬ 6 < zs.length):cnt zs=cntLoop 1 zs:=by
 unfold cnt;rw [h,if_neg (by decide),if_neg g]
theorem low_not {zs:List Int} (h:zs.any (fun d=>decide (d < 1))=false) {k:Nat} (hk:k < zs.length):1≤zs.getD k 0:=by
 have:=List.any_eq_false.1 h _ (getD_mem hk)
 simpa using this
theorem any_end {zs:List Int} {k:Nat} (p:Int→Bool) (h:¬ k < zs.length):(zs.drop k).any p=false:=by
 rw [List.drop_eq_nil_of_le (by omega)];rfl
theorem loop_next {zs:List Int} {k:Nat} {n:Int} (h:k < zs.length):cntLoop n (zs.drop k)=if 65536 < n * zs.getD k 0 then (0,6) else cntLoop (n * zs.getD k 0) (zs.drop (k+1)):=by
 rw [drop_next h];rfl
theorem loop_end {zs:List Int} {k:Nat} {n:Int} (h:¬ k < zs.length):cntLoop n (zs.drop k)=(n,0):=by
 rw [List.drop_eq_nil_of_le (by omega)];rfl
theorem mul_big {n d:Int} (h1:1≤n) (h:65536 < d):65536 < n * d:=by
 have:1 * d≤n * d:=Int.mul_le_mul_of_nonneg_right h1 (by omega);omega
theorem mul_pos' {n d:Int} (h1:1≤n) (h:1≤d):1≤n * d:=by
 have:1 * 1≤n * d:=Int.mul_le_mul h1 h (by decide) (by omega);omega
attribute [local irreducible] cnt cntLoop
set_option maxHeartbeats 1000000 in
theorem rcount_row (b off cap:Nat) (zs:List Int) (hlen:zs.length * 8≤140737488351232) (hw:Hid (∀ z ∈ zs,InI z)) (w:World) (hr:Hid (Reads w b off zs)) :
  Calls Tryz.prog 14 #[.slice (some ⟨b,off,none⟩) zs.length cap] w fun e w'=>e=.returned (.tuple #[.int .i64 (cnt zs).1,.int .i64 (cnt zs).2])∧w=w':=by
 go_enter Tryz.func14,Tryz.ntmps14
 go_wp2
 go_loop [4] (fun i=>∃ k:Nat,k≤zs.length∧i=.int .i64 (k:Int)∧Hid (zs.any (fun d=>decide (d < 1))=(zs.drop k).any (fun d=>decide (d < 1)))) (fun i=>zs.length - (intOf i).toNat)
 case atStart=>exact ⟨0,Nat.zero_le _,rfl,hid (by simp)⟩
 case round =>
  obtain ⟨k,hk,rfl,hany⟩:=hrel;by_cases hkl:k < zs.length
  ·have hcx:=hr.out k hkl;have hn:=hid (any_next hkl (fun d=>decide (d < 1)));generalize zs.getD k 0=z at *;go_wp2
   ·rename_i hz
    go_ret2
    have e:=cnt_low (zs:=zs) (by rw [hany.out,hn.out];simp;omega);rw [e];exact ⟨rfl,rfl⟩
   ·go_round
    case rel=>exact ⟨k+1,by omega,by go_num,hid (by rw [hany.out,hn.out];simp;omega)⟩
    case measure=>simp [intOf];omega
  ·have hlow:=hid (by rw [hany.out,any_end _ hkl]:zs.any (fun d=>decide (d < 1))=false);have ek:k=zs.length:=by omega
   go_wp2
   ·rename_i hz
    go_ret2
    have e:=cnt_long hlow.out (by omega);rw [e];exact ⟨rfl,rfl⟩
   ·have h6:zs.length≤6:=by omega
    go_loop [5,6] (fun n i=>∃ (m:Int) (k:Nat),k≤zs.length∧1≤m∧m≤65536∧n=.int .i64 m∧i=.int .i64 (k:Int)∧Hid (cnt zs=cntLoop m (zs.drop k))) (fun _ i=>zs.length - (intOf i).toNat)
    case atStart=>exact ⟨1,0,Nat.zero_le _,by omega,by omega,rfl,rfl,hid (by rw [cnt_loop hlow.out (by omega)];simp)⟩
    case round =>
     obtain ⟨m,k,hk,hm1,hm2,rfl,rfl,hc⟩:=hrel;by_cases hkl:k < zs.length
     ·have hcx:=hr.out k hkl;have hn:=hid (loop_next (n:=m) hkl);have h1:=low_not hlow.out hkl;generalize zs.getD k 0=z at *;by_cases hbig:65536 < z
      ·have e:cnt zs=(0,6):=by rw [hc.out,hn.out,if_pos (mul_big hm1 hbig)]
       rw [e];go_wp2
       go_ret2
       exact ⟨rfl,rfl⟩
      ·have ht:=mul_top hm1 hm2 h1 (by omega);have hp:=mul_pos' hm1 h1;by_cases hb2:65536 < m * z
       ·have e:cnt zs=(0,6):=by rw [hc.out,hn.out,if_pos hb2]
        rw [e];go_wp2
        go_ret2
        exact ⟨rfl,rfl⟩
       ·have e:Hid (cnt zs=cntLoop (m * z) (zs.drop (k+1))):=hid (by rw [hc.out,hn.out,if_neg hb2]);go_wp2
        go_round
        case rel=>exact ⟨m * z,k+1,by omega,hp,by omega,by go_num,by go_num,e⟩
        case measure=>simp [intOf];omega
     ·have e:cnt zs=(m,0):=by rw [hc.out,loop_end hkl]
      have ek:k=zs.length:=by omega
      rw [e];go_wp2
      go_ret2
      exact ⟨rfl,rfl⟩
def LowF (fn:Value) (p:Int→Bool):Prop:=(fn=.func (.func 61) #[] #[]∧p=fun d=>decide (d < 1))∨(fn=.func (.func 140) #[] #[]∧p=fun d=>decide (d < 0∨65536 < d))
def fidx (p:Int→Bool) (zs:List Int):Int:=if zs.any p then (zs.findIdx p:Int) else -1
theorem findIdx_at {p:Int→Bool} {zs:List Int} {k:Nat} (hk:k < zs.length) (h:(zs.take k).any p=false) (g:p (zs.getD k 0)=true):fidx p zs=k:=by
 have e:zs=zs.take k++zs.getD k 0 :: zs.drop (k+1):=by rw [←drop_next hk,List.take_append_drop]
 have ha:zs.any p=true:=List.any_eq_true.2 ⟨_,getD_mem hk,g⟩;unfold fidx;rw [if_pos ha];have h3:zs.findIdx p=k:=by
  rw [List.findIdx_eq (by omega)];have h5:zs[k]=zs.getD k 0:=by simp [List.getD,List.getElem?_eq_getElem hk]
  refine ⟨by rw [h5];exact g,fun j hj=>?_⟩;have h4:=List.any_eq_false.1 h (zs[j]'(by omega)) (by
   rw [List.mem_take_iff_getElem];exact ⟨j,by omega,rfl⟩)
  simpa using h4
 rw [h3]
theorem take_any_next {p:Int→Bool} {zs:List Int} {k:Nat} (hk:k < zs.length) (h:(zs.take k).any p=false) (g:p (zs.getD k 0)=false):(zs.take (k+1)).any p=false:=by
 rw [List.take_add_one,List.any_append,h];have h5:zs[k]?=some (zs.getD k 0):=by simp [List.getD,List.getElem?_eq_getElem hk]
 rw [h5]
 simpa using g
set_option maxHeartbeats 1000000 in
theorem indexLow_row (b off cap:Nat) (zs:List Int) (hlen:zs.length * 8≤140737488351232) (hw:Hid (∀ z ∈ zs,InI z)) (w:World) (hr:Hid (Reads w b off zs)) (fn:Value) (p:Int→Bool) (hp:LowF fn p) :
    Calls Tryz.prog 111 #[.slice (some ⟨b,off,none⟩) zs.length cap,fn] w fun e w'=>e=.returned (.int .i64 (fidx p zs))∧w=w':=by
  rcases hp with ⟨rfl,hp⟩ | ⟨rfl,hp⟩
  all_goals
    have HP:=hid hp;clear hp;go_enter Tryz.func111,Tryz.ntmps111
    go_wp2
    go_loop [8] (fun i=>∃ k:Nat,k≤zs.length∧i=.int .i64 (k:Int)∧Hid ((zs.take k).any p=false)) (fun i=>zs.length - (intOf i).toNat)
    case atStart=>exact ⟨0,Nat.zero_le _,rfl,hid (by simp)⟩
    case round =>
      obtain ⟨k,hk,rfl,hany⟩:=hrel;by_cases hkl:k < zs.length
      · have hcx:=hr.out k hkl
        have hn:=hid (@findIdx_at p _ _ hkl hany.out);have hn2:=hid (@take_any_next p _ _ hkl hany.out);have hI:=(hw.out _ (getD_mem hkl)).1;have hI2:=(hw.out _ (getD_mem hkl)).2;generalize zs.getD k 0=z at *;go_wp2
        all_goals first
          | (go_ret
             refine ⟨ret_val (int_val ?_),rfl⟩;exact (hn.out (by rw [HP.out];simp;omega)).symm)
          | (go_round
             case rel=>exact ⟨k+1,by omega,by go_num,hid (hn2.out (by rw [HP.out];simp;omega))⟩
             case measure=>simp [intOf];omega)
      · have ek:k=zs.length:=by omega
        have e:Hid (fidx p zs=-1):=hid (by
          have:=hany.out;rw [ek,List.take_length] at this;unfold fidx;rw [this];rfl)
        go_wp2
        go_ret
        exact ⟨ret_val (int_val e.out.symm),rfl⟩
theorem indexLow_empty (a0:Option Addr) (cap:Nat) (w:World) (fn:Value) (p:Int→Bool) (hp:LowF fn p) :
  Calls Tryz.prog 111 #[.slice a0 0 cap,fn] w fun e w'=>e=.returned (.int .i64 (fidx p []))∧w=w':=by
 have e:fidx p []=-1:=rfl;rw [e];rcases hp with ⟨rfl,hp⟩ | ⟨rfl,hp⟩
 all_goals
  go_enter Tryz.func111,Tryz.ntmps111
  go_wp2
  go_rounds 1
  go_ret
  exact ⟨rfl,rfl⟩
theorem indexLow_any {w:World} {v:Value} {zs:List Int} (h:IntsIn w v zs) (fn:Value) (p:Int→Bool) (hp:LowF fn p) :
  Calls Tryz.prog 111 #[v,fn] w fun e w'=>e=.returned (.int .i64 (fidx p zs))∧w=w':=by
 cases h with
 | empty a0 cap=>exact indexLow_empty a0 cap w fn p hp
 | row b off cap _ h0 hc hb hr hlen hw=>exact indexLow_row b off cap zs hlen (hid hw) w (hid hr) fn p hp
theorem fidx_ge (p:Int→Bool) (zs:List Int):decide (0≤fidx p zs)=zs.any p:=by
 unfold fidx;cases zs.any p
 ·rfl
 ·simp
theorem containsLow_any {w:World} {v:Value} {zs:List Int} (h:IntsIn w v zs) (fn:Value) (p:Int→Bool) (hp:LowF fn p) :
  Calls Tryz.prog 60 #[v,fn] w fun e w'=>e=.returned (.bool (zs.any p))∧w=w':=by
 have H:=hid (indexLow_any h fn p hp);have hg:=hid (fidx_ge p zs);go_enter Tryz.func60,Tryz.ntmps60
 go_wp2_with (go_at_call 111;refine H.out.mono ?_;rintro e w' ⟨rfl,rfl⟩)
 go_ret
 refine ⟨ret_val (bool_val ?_),rfl⟩;have:=hg.out
 simpa using this
set_option maxHeartbeats 1000000 in
theorem count_row (b off cap:Nat) (zs:List Int) (hlen:zs.length * 8≤140737488351232) (hw:Hid (∀ z ∈ zs,InI z)) (w:World) (hr:Hid (Reads w b off zs)) (hin:Hid (IntsIn w (.slice (some ⟨b,off,none⟩) zs.length cap) zs)) :
  Calls Tryz.prog 31 #[.slice (some ⟨b,off,none⟩) zs.length cap] w fun e w'=>e=.returned (.tuple #[.int .i64 (cnt zs).1,.int .i64 (cnt zs).2])∧w=w':=by
 have H:=hid (containsLow_any hin.out (.func (.func 61) #[] #[]) _ (Or.inl ⟨rfl,rfl⟩));cases hb1:zs.any (fun d=>decide (d < 1))
 ·rw [hb1] at H;by_cases h6:6 < zs.length
  ·have e:cnt zs=(0,6):=cnt_long hb1 h6;rw [e];clear hb1;go_enter Tryz.func31,Tryz.ntmps31
   go_wp2_with (go_at_call 60;refine H.out.mono ?_;rintro e w' ⟨rfl,rfl⟩)
   go_ret2
   exact ⟨rfl,rfl⟩
  ·have hlow:=hid hb1;have h6':zs.length≤6:=by omega
   clear hb1;go_enter Tryz.func31,Tryz.ntmps31
   go_wp2_with (go_at_call 60;refine H.out.mono ?_;rintro e w' ⟨rfl,rfl⟩)
   go_loop [4,14] (fun n i=>∃ (m:Int) (k:Nat),k≤zs.length∧1≤m∧m≤65536∧n=.int .i64 m∧i=.int .i64 (k:Int)∧Hid (cnt zs=cntLoop m (zs.drop k))) (fun _ i=>zs.length - (intOf i).toNat)
   case atStart=>exact ⟨1,0,Nat.zero_le _,by omega,by omega,rfl,rfl,hid (by rw [cnt_loop hlow.out (by omega)];simp)⟩
   case round =>
    obtain ⟨m,k,hk,hm1,hm2,rfl,rfl,hc⟩:=hrel;by_cases hkl:k < zs.length
    ·have hcx:=hr.out k hkl;have hn:=hid (loop_next (n:=m) hkl);have h1:=low_not hlow.out hkl;have hI2:=(hw.out _ (getD_mem hkl)).2;generalize zs.getD k 0=z at *;have hq:=quo_test (n:=m) (d:=z) hm1;rw [Int.tdiv_eq_ediv_of_nonneg (by decide)] at hq;have hq0:wrap64 (65536 / m)=65536 / m:=by
      have h3:65536 / m≤65536:=Int.ediv_le_self _ (by decide);have h4:0≤65536 / m:=Int.ediv_nonneg (by decide) (by omega);unfold wrap64;omega
     have hm0:(m==0)=false:=by simp;omega
     by_cases hb2:65536 < m * z
     ·have e:Hid (cnt zs=(0,6)):=hid (by rw [hc.out,hn.out,if_pos hb2]);have hlt:65536 / m < z:=hq.2 hb2;clear hq hb2
      skip
      go_wp2
      go_ret2
      exact ⟨ret2_val (int_val (by rw [e.out])) (int_val (by rw [e.out])),rfl⟩
     ·have e:Hid (cnt zs=cntLoop (m * z) (zs.drop (k+1))):=hid (by rw [hc.out,hn.out,if_neg hb2]);have hp:=mul_pos' hm1 h1;have hle:¬ 65536 / m < z:=fun h=>hb2 (hq.1 h);clear hq
      skip
      go_wp2
      go_round
      case rel=>exact ⟨m * z,k+1,by omega,hp,by omega,by go_num,by go_num,e⟩
      case measure=>simp [intOf];omega
    ·have e:Hid (cnt zs=(m,0)):=hid (by rw [hc.out,loop_end hkl]);have ek:k=zs.length:=by omega
     go_wp2
     go_ret2
     exact ⟨ret2_val (int_val (by rw [e.out])) (int_val (by rw [e.out])),rfl⟩
 ·rw [hb1] at H;have e:cnt zs=(0,4):=cnt_low hb1;rw [e];clear hb1;go_enter Tryz.func31,Tryz.ntmps31
  go_wp2_with (go_at_call 60;refine H.out.mono ?_;rintro e w' ⟨rfl,rfl⟩)
  go_ret2
  exact ⟨rfl,rfl⟩
theorem count_empty (a0:Option Addr) (cap:Nat) (w:World) :
  Calls Tryz.prog 31 #[.slice a0 0 cap] w fun e w'=>e=.returned (.tuple #[.int .i64 (cnt []).1,.int .i64 (cnt []).2])∧w=w':=by
 have H:=hid (containsLow_any (IntsIn.empty (w:=w) a0 cap) (.func (.func 61) #[] #[]) _ (Or.inl ⟨rfl,rfl⟩));have e:cnt []=(1,0):=by unfold cnt;unfold cntLoop;decide
 rw [e];rw [show ([]:List Int).any (fun d=>decide (d < 1))=false from rfl] at H;go_enter Tryz.func31,Tryz.ntmps31
 go_wp2_with (go_at_call 60;refine H.out.mono ?_;rintro e w' ⟨rfl,rfl⟩)
 go_rounds 1
 go_ret2
 exact ⟨rfl,rfl⟩
theorem count_any {w:World} {v:Value} {zs:List Int} (h:IntsIn w v zs) :
  Calls Tryz.prog 31 #[v] w fun e w'=>e=.returned (.tuple #[.int .i64 (cnt zs).1,.int .i64 (cnt zs).2])∧w=w':=by
 have h':=h;cases h with
 | empty a0 cap=>exact count_empty a0 cap w
 | row b off cap _ h0 hc hb hr hlen hw=>exact count_row b off cap zs hlen (hid hw) w (hid hr) (hid h')
end Go.Proofs.YtijhdmidffenbaaGreatDoor.Vx
namespace Go.Proofs.YtijhdmidffenbaaGreatDoor.Vx
namespace Vw
def pr:List Int→Int
 | []=>1
 | d :: ds=>d * pr ds
def crd:List Int→Int→List Int
 | [],_=>[]
 | _ :: ds,k=>k / pr ds :: crd ds (k % pr ds)
def plc:List Int→List Int→Int
 | s :: ss,c :: cs=>c * s+plc ss cs
 | _,_=>0
def zeros:List Int→List Int
 | []=>[]
 | _ :: ds=>0 :: zeros ds
def Pos (ds:List Int):Prop:=∀ d ∈ ds,1≤d
theorem Pos.head {d:Int} {ds:List Int} (h:Pos (d :: ds)):1≤d:=h d (by simp)
theorem Pos.tail {d:Int} {ds:List Int} (h:Pos (d :: ds)):Pos ds:=fun x hx=>h x (by simp [hx])
theorem pr_pos:∀ {ds:List Int},Pos ds→1≤pr ds
 | [],_=>by decide
 | d :: ds,h=>mul_pos' h.head (pr_pos h.tail)
theorem crd_zero:∀ {ds:List Int},crd ds 0=zeros ds
 | []=>rfl
 | d :: ds=>by simp [crd,zeros,crd_zero]
theorem crd_length:∀ {ds:List Int} {k:Int},(crd ds k).length=ds.length
 | [],_=>rfl
 | d :: ds,k=>by simp [crd,crd_length]
end Vw
end Go.Proofs.YtijhdmidffenbaaGreatDoor.Vx
namespace Go.Proofs.YtijhdmidffenbaaGreatDoor.Vx
open Go Go.RowKit
variable {F:Fence} {n:Nat} {P:Program}
def AbC {β:Type} (B:Nat) (J:β→World→Prop):Prop :=
 ∀ s A A' row,J s A→A.grownBy A' row→(∀ r,row=some r→r=B)→J s A'
end Go.Proofs.YtijhdmidffenbaaGreatDoor.Vx
namespace Go.Proofs.YtijhdmidffenbaaGreatDoor.Vx
open Go.RowKit
theorem _root_.Go.Proofs.YtijhdmidffenbaaGreatDoor.IntsIn.form {w:World} {v:Value} {zs:List Int} (h:IntsIn w v zs):∃ a cap,v=.slice a zs.length cap:=by
 cases h with
 | empty a0 cap=>exact ⟨a0,cap,rfl⟩
 | row b off cap _ h0 hc hb hr hlen hw=>exact ⟨_,cap,rfl⟩
def farS (d:Int):Bool:=decide (d < 0∨65536 < d)
def mayV (off:Int) (ds ss:List Int):Bool:=decide ((cnt ds).2=0)&&decide (ss.length=ds.length)&&decide (0≤off)&&decide (off < 65536) && !ss.any farS
attribute [local irreducible] cnt
end Go.Proofs.YtijhdmidffenbaaGreatDoor.Vx
namespace Go.Proofs.YtijhdmidffenbaaGreatDoor.Vx
open Go.RowKit Go.Shelf Vw
attribute [local go_sem] Oper.semAt_some
def intCells (xs:List Int):Array Value:=(xs.map (Value.int .i64)).toArray
def RowAt (w:World) (B:Nat) (xs:List Int):Prop:=w.heap[B]?=some (.cells (intCells xs) 3 (0,0))
theorem RowAt.lt {w:World} {B:Nat} {xs:List Int} (h:RowAt w B xs):B < w.heap.size:=(Array.getElem?_eq_some_iff.1 h).1
theorem RowAt.cell {w:World} {B:Nat} {xs:List Int} (h:RowAt w B xs) {j:Nat} (hj:j < xs.length):w.cell? ⟨B,j,none⟩=some (.int .i64 (xs.getD j 0)):=by
 simp [World.cell?,show w.heap[B]?=_ from h,intCells,List.getElem?_eq_getElem hj,List.getD]
theorem RowAt.frozen {w:World} {B:Nat} {xs:List Int} (h:RowAt w B xs) (j:Nat):w.frozen? ⟨B,j,none⟩=false:=by
 simp [World.frozen?,show w.heap[B]?=_ from h]
theorem RowAt.set {w:World} {B:Nat} {xs:List Int} (h:RowAt w B xs) (j:Nat) (x:Int):RowAt (w.setCell ⟨B,j,none⟩ (.int .i64 x)) B (xs.set j x):=by
 obtain ⟨hlt,hk⟩:=Array.getElem?_eq_some_iff.1 h;show (w.heap.modify B _)[B]?=_;rw [Array.getElem?_eq_getElem (by rw [Array.size_modify];exact hlt),Array.getElem_modify_self,hk];simp [intCells,List.map_set]
theorem RowAt.keep {w w':World} {B:Nat} {xs:List Int} (h:RowAt w B xs) (g:w'.heap[B]?=w.heap[B]?):RowAt w' B xs:=g.trans h
theorem RowAt.new (w:World) (xs:List Int):RowAt (w.alloc (.cells (intCells xs) 3)) w.heap.size xs:=World.alloc_heap_new w _
theorem info_int:(Tryz.prog.info? 3).map (fun i=>(i.zero,i.size,i.bytes))=some (some (.int .i64 0),1,8):=by kernel_rfl
theorem run_make_ints (w:World) (r:Nat) (hr:r≤100000):(Instr.makeSlice 27 (.int .i64 (r:Int)) (.int .i64 (r:Int))).run Tryz.prog w=.ok (.slice (some ⟨w.heap.size,0,none⟩) r r) (w.alloc (.cells (intCells (List.replicate r 0)) 3)):=by
 obtain ⟨i0,hi,hz0,hz1,hz2⟩:=info_parts info_int;have:=run_make (P:=Tryz.prog) w 27 3 i0 (.int .i64 0) Tryz.underlying27 hi hz0 .i64 .i64 (r:Int) (r:Int) (by omega) (by omega) (by rw [hz2];omega) (by omega);rw [this];have e:madeCells (Value.int .i64 0).cells (((r:Int).toNat) * i0.size)=intCells (List.replicate r 0):=by
  rw [hz1];refine Array.toList_inj.1 ?_;have h2:=toList_madeCells_one (.int .i64 0) r
  simpa [intCells,Value.cells] using h2
 rw [e];simp
theorem zeros_rep:∀ {ds:List Int},zeros ds=List.replicate ds.length 0
 | []=>rfl
 | d :: ds=>by simp [zeros,zeros_rep,List.replicate_succ]
theorem crd_inj:∀ {ds:List Int} {k m:Int},Pos ds→0≤k→k < pr ds→0≤m→m < pr ds→crd ds k=crd ds m→k=m
 | [],k,m,_,h0,h1,g0,g1,_=>by simp [pr] at h1 g1;omega
 | d :: ds,k,m,h,h0,h1,g0,g1,e=>by
  have hP:=pr_pos h.tail;simp only [crd,List.cons.injEq] at e;have:=crd_inj (ds:=ds) h.tail (Int.emod_nonneg k (by omega)) (Int.emod_lt_of_pos k (by omega)) (Int.emod_nonneg m (by omega)) (Int.emod_lt_of_pos m (by omega)) e.2;have h2:=Int.mul_ediv_add_emod k (pr ds);have h3:=Int.mul_ediv_add_emod m (pr ds);rw [e.1] at h2;omega
open Classical in
noncomputable def left (B:Nat) (ds:List Int) (w:World):Nat :=
 if h:∃ k:Int,0≤k∧k < pr ds∧RowAt w B (crd ds k) then (pr ds - Classical.choose h).toNat else 0
def places (off:Int) (ds ss:List Int) (n:Nat):List Int:=(List.range n).map fun (k:Nat)=>off+plc ss (crd ds (k:Int))
end Go.Proofs.YtijhdmidffenbaaGreatDoor.Vx
namespace Go.Proofs.YtijhdmidffenbaaGreatDoor.Vx
open Go.RowKit Go.Shelf Vw
attribute [local go_sem] Oper.semAt_some
theorem grown_drew (W:World) (row:Option Nat):W.grownBy W.drew row:=⟨rfl,rfl,rfl,Nat.le_refl _,fun _ _ _=>rfl⟩
structure Stands (w0:World) (bv:Nat) (off:Int) (a1 a2:Option Addr) (c1 c2 r:Nat) (W:World):Prop where
 box:W.heap[bv]?=some (.cells #[.int .i64 off,.slice a1 r c1,.slice a2 r c2] 78 (0,0))
 below:Below w0.heap.size w0 W
def St (w0:World) (bv B:Nat) (off:Int) (a1 a2:Option Addr) (c1 c2 r:Nat) (J:List Int→World→Prop) (pre xs:List Int) (W:World):Prop :=
 Stands w0 bv off a1 a2 c1 c2 r W∧RowAt W B xs∧J pre W
variable {w0:World} {bv B:Nat} {off:Int} {a1 a2:Option Addr} {c1 c2 r:Nat} {J:List Int→World→Prop} {pre xs:List Int} {W:World}
theorem St.drew (h:St w0 bv B off a1 a2 c1 c2 r J pre xs W) (hJ:AbC B J):St w0 bv B off a1 a2 c1 c2 r J pre xs W.drew :=
 ⟨⟨h.1.box,h.1.below.drew⟩,h.2.1,hJ _ _ _ none h.2.2 (grown_drew W none) (fun r e=>by cases e)⟩
theorem St.drewN (h:St w0 bv B off a1 a2 c1 c2 r J pre xs W) (hJ:AbC B J) (q:Nat):St w0 bv B off a1 a2 c1 c2 r J pre xs (W.drewN q) :=
 ⟨⟨h.1.box,⟨h.1.below.os,h.1.below.tape,h.1.below.output,h.1.below.size,h.1.below.block⟩⟩,h.2.1,hJ _ _ _ none h.2.2 ⟨rfl,rfl,rfl,Nat.le_refl _,fun _ _ _=>rfl⟩ (fun r e=>by cases e)⟩
end Go.Proofs.YtijhdmidffenbaaGreatDoor.Vx
namespace Go.Proofs.YtijhdmidffenbaaGreatDoor.Vx
open Go.RowKit Go.Shelf Vw
attribute [local go_sem] Oper.semAt_some
attribute [local irreducible] crd plc zeros pr places
def RowsAt (w0:World) (a:Option Addr) (zs:List Int):Prop:=∀ m,m < zs.length→∃ b o,a=some ⟨b,o,none⟩∧b < w0.heap.size∧Reads w0 b o zs
theorem _root_.Go.Proofs.YtijhdmidffenbaaGreatDoor.IntsIn.rowsV {w:World} {a:Option Addr} {n c:Nat} {zs:List Int} (h:IntsIn w (.slice a n c) zs):n=zs.length∧RowsAt w a zs:=by
 cases h with
 | empty a0 cap=>exact ⟨rfl,fun m hm=>by simp at hm⟩
 | row b off cap _ h0 hc hb hr hlen hw=>exact ⟨rfl,fun m _=>⟨b,off,rfl,hb,hr⟩⟩
end Go.Proofs.YtijhdmidffenbaaGreatDoor.Vx
namespace Go.Proofs.YtijhdmidffenbaaGreatDoor.Vx
open Go.RowKit Go.Shelf Vw
attribute [local go_sem] Oper.semAt_some
variable {w0:World} {R1 R2 R3 S B:Nat} {dv:Value} {data all pre:List Int}
def readL (off:Int) (ds ss data:List Int):Option (List Int) :=
 if mayV off ds ss=true∧∀ p ∈ places off ds ss (pr ds).toNat,p < data.length then some ((places off ds ss (pr ds).toNat).map fun p=>data.getD p.toNat 0) else none
attribute [local irreducible] crd plc zeros pr places mayV
attribute [local irreducible] readL
end Go.Proofs.YtijhdmidffenbaaGreatDoor.Vx
namespace Go.Proofs.YtijhdmidffenbaaGreatDoor.Vx
open Go.RowKit Vw
theorem cnt_ok:∀ {zs:List Int} {n m:Int},(∀ d ∈ zs,1≤d)→1≤n→n≤65536→cntLoop n zs=(m,0)→m=n * pr zs∧n * pr zs≤65536∧∀ d ∈ zs,d≤65536
 | [],n,m,_,h1,h2,h=>by
  simp only [cntLoop,Prod.mk.injEq,and_true] at h;simp [pr,←h,h2]
 | d :: ds,n,m,hp,h1,h2,h=>by
  have hd:=hp d (by simp);simp only [cntLoop] at h;by_cases g:65536 < n * d
  ·rw [if_pos g] at h;simp at h
  ·rw [if_neg g] at h;have hn:=mul_pos' h1 hd;obtain ⟨a,b,c⟩:=cnt_ok (zs:=ds) (n:=n * d) (m:=m) (fun x hx=>hp x (by simp [hx])) hn (by omega) h;have e:n * d * pr ds=n * pr (d :: ds):=by simp [pr,Int.mul_assoc]
   refine ⟨by rw [←e];exact a,by rw [←e];exact b,?_⟩;intro x hx;rcases List.mem_cons.1 hx with rfl | hx
   ·by_cases h3:65536 < x
    ·exact absurd (mul_big h1 h3) g
    ·omega
   ·exact c x hx
theorem cnt_good {zs:List Int} (h:(cnt zs).2=0):(∀ d ∈ zs,1≤d∧d≤65536)∧zs.length≤6∧(cnt zs).1=pr zs∧pr zs≤65536:=by
 cases ha:zs.any (fun d=>decide (d < 1))
 ·by_cases g:6 < zs.length
  ·rw [cnt_long ha g] at h;simp at h
  ·rw [cnt_loop ha g] at h ⊢;have hp:∀ d ∈ zs,1≤d:=fun d hd=>by
    have:=List.any_eq_false.1 ha d hd
    simpa using this
   obtain ⟨a,b,c⟩:=cnt_ok (n:=1) (m:=(cntLoop 1 zs).1) hp (by decide) (by decide) (by rw [←h]);rw [Int.one_mul] at a b;exact ⟨fun d hd=>⟨hp d hd,c d hd⟩,by omega,a,b⟩
 ·rw [cnt_low ha] at h;simp at h
end Go.Proofs.YtijhdmidffenbaaGreatDoor.Vx
namespace Go.Proofs.YtijhdmidffenbaaGreatDoor.Vx
open Go.RowKit Vw
def strd:List Int→List Int
 | []=>[]
 | _ :: ds=>pr ds :: strd ds
theorem strd_length:∀ {ds:List Int},(strd ds).length=ds.length
 | []=>rfl
 | _ :: ds=>by simp [strd,strd_length]
theorem pr_drop:∀ {zs:List Int} {j:Nat},(∀ d ∈ zs,1≤d)→1≤pr (zs.drop j)∧pr (zs.drop j)≤pr zs
 | zs,0,h=>⟨pr_pos h,by simp⟩
 | [],j+1,h=>by simp [pr]
 | d :: ds,j+1,h=>by
  have ih:=pr_drop (zs:=ds) (j:=j) (fun x hx=>h x (by simp [hx]));have h1:=h d (by simp);have h2:1 * pr ds≤d * pr ds:=Int.mul_le_mul_of_nonneg_right h1 (by omega);simp only [List.drop_succ_cons,pr];omega
def strRow (zs:List Int) (m:Nat):List Int:=List.replicate m 0++strd (zs.drop m)
theorem strRow_length {zs:List Int} {m:Nat} (h:m≤zs.length):(strRow zs m).length=zs.length:=by
 simp [strRow,strd_length];omega
theorem strRow_step {zs:List Int} {j:Nat} (h:j < zs.length):(strRow zs (j+1)).set j (pr (zs.drop (j+1)))=strRow zs j:=by
 unfold strRow;rw [drop_next h,List.replicate_succ',List.append_assoc,List.set_append_right _ _ (by simp)];simp [strd]
theorem strRow_zero (zs:List Int):strRow zs 0=strd zs:=by simp [strRow]
theorem strRow_full (zs:List Int):strRow zs zs.length=List.replicate zs.length 0:=by simp [strRow,strd]
theorem pr_next {zs:List Int} {j:Nat} (h:j < zs.length):pr (zs.drop (j+1)) * zs.getD j 0=pr (zs.drop j):=by
 rw [drop_next h];simp [pr,Int.mul_comm]
attribute [local irreducible] cnt strd pr strRow
theorem strides_bad {w:World} {v:Value} {zs:List Int} (h:Hid (IntsIn w v zs)) (he:Hid ((cnt zs).2≠0)) (w:World) (h2:Hid (IntsIn w v zs)) :
  Calls Tryz.prog 83 #[v] w fun e w'=>e=.returned (.tuple #[.slice none 0 0,.int .i64 (cnt zs).2])∧w=w':=by
 have HC:=hid (count_any h2.out);have hne:=he.out;generalize cnt zs=cc at *;go_enter Tryz.func83,Tryz.ntmps83
 go_wp2_with (go_at_call 31;refine HC.out.mono ?_;rintro e w' ⟨rfl,rfl⟩)
 all_goals first
  | (go_ret2;exact ⟨rfl,rfl⟩)
  | (exfalso;have h3:=he.out;simp_all)
set_option maxHeartbeats 1000000 in
theorem strides_row (b off cap:Nat) (zs:List Int) (w:World) (hlen:zs.length≤6) (hb:b < w.heap.size) (hr:Hid (Reads w b off zs)) (hin:Hid (IntsIn w (.slice (some ⟨b,off,none⟩) zs.length cap) zs)) (hp:Hid (∀ d ∈ zs,1≤d∧d≤65536)) (hN:Hid (pr zs≤65536)) (he:Hid ((cnt zs).2=0)) :
  Calls Tryz.prog 83 #[.slice (some ⟨b,off,none⟩) zs.length cap] w fun e w'=>e=.returned (.tuple #[.slice (some ⟨w.heap.size,0,none⟩) zs.length zs.length,.int .i64 0])∧RowAt w' w.heap.size (strd zs)∧Below w.heap.size w w':=by
 have HC:=hid (count_any hin.out);rw [show cnt zs=((cnt zs).1,0) by rw [←he.out]] at HC;generalize (cnt zs).1=c1 at *;have hmk:=fun w=>run_make_ints w zs.length (by omega);have hrow:Hid (RowAt (w.alloc (.cells (intCells (List.replicate zs.length 0)) 3)) w.heap.size (strRow zs zs.length)):=hid (by rw [strRow_full];exact RowAt.new w _);have hbel:Hid (Below w.heap.size w (w.alloc (.cells (intCells (List.replicate zs.length 0)) 3))):=hid ((Below.refl _ w).alloc (Nat.le_refl _) _);have hpr0:Hid (pr (zs.drop zs.length)=1):=hid (by rw [List.drop_length];unfold pr;rfl);go_enter Tryz.func83,Tryz.ntmps83
 go_wp2_with (go_at_call 31;refine HC.out.mono ?_;rintro e w' ⟨rfl,rfl⟩)
 go_loopw [7,23] (fun n i wr=>∃ m k:Nat,Hid (k+m=zs.length)∧n=.int .i64 (pr (zs.drop m))∧i=.int .i64 (k:Int)∧Hid (RowAt wr w.heap.size (strRow zs m))∧Hid (Below w.heap.size w wr)) (fun _ i _=>zs.length - (intOf i).toNat)
 case atStart=>exact ⟨zs.length,0,hid (by omega),by rw [hpr0.out],rfl,hrow,hbel⟩
 case round =>
  obtain ⟨m,k,hkm,rfl,rfl,hrw,hbl⟩:=hrel;have hm:m≤zs.length:=by have:=hkm.out;omega
  rcases (match m with | 0=>Or.inl rfl | i+1=>Or.inr ⟨i,rfl⟩:m=0∨∃ i,m=i+1) with e0 | ⟨j,e0⟩
  ·subst e0;obtain rfl:k=zs.length:=by have:=hkm.out;omega
   go_wp2
   go_ret2
   exact ⟨rfl,by rw [←strRow_zero];exact hrw.out,hbl.out⟩
  ·subst e0;have hj:j < zs.length:=by omega
   have hcx:=(hbl.out.cell (p:=⟨b,off+j,none⟩) hb).trans (hr.out j hj);have hfz:=hrw.out.frozen j;have hcell:=hrw.out.cell (j:=j) (by rw [strRow_length hm];omega);have hset:Hid (RowAt (wr.setCell ⟨w.heap.size,j,none⟩ (.int .i64 (pr (zs.drop (j+1))))) w.heap.size (strRow zs j)):=hid (by rw [←strRow_step hj];exact hrw.out.set j _);have hb3:Hid (Below w.heap.size w (wr.setCell ⟨w.heap.size,j,none⟩ (.int .i64 (pr (zs.drop (j+1)))))):=hid (hbl.out.setCell (p:=⟨w.heap.size,j,none⟩) (Nat.le_refl _) _);have hcx2:=(hb3.out.cell (p:=⟨b,off+j,none⟩) hb).trans (hr.out j hj);have hpn:=hid (pr_next hj);have hd:=hp.out _ (getD_mem hj);have hq:=pr_drop (zs:=zs) (j:=j+1) (fun d hd=>(hp.out d hd).1);have hq2:=pr_drop (zs:=zs) (j:=j) (fun d hd=>(hp.out d hd).1);have hN2:=hN.out;have hkl:k < zs.length:=by have:=hkm.out;omega
   have hidx:(zs.length:Int) - 1 - (k:Int)=(j:Int):=by have:=hkm.out;omega
   generalize hpj:pr (zs.drop (j+1))=pj at *;have hmul:pj * zs.getD j 0=pr (zs.drop j):=hpn.out;generalize zs.getD j 0=z at *;generalize hpj2:pr (zs.drop j)=pj2 at *;have HP2:=hid hpj2;clear hpj hpj2;go_wp2
   go_roundw
   case rel=>exact ⟨j,k+1,hid (by have:=hkm.out;omega),by rw [HP2.out],by go_num,hset,hb3⟩
   case measure=>simp [intOf];omega
def Fresh (B:Nat) (w':World) (v:Value) (zs:List Int):Prop :=
 (zs=[]∧∃ a0 cap,v=.slice a0 0 cap)∨∃ g cap cur,v=.slice (some ⟨g,0,none⟩) zs.length cap∧B≤g∧w'.heap[g]?=some (.cells cur 3 (0,0))∧zs.length≤cap∧cur.toList.take zs.length=zs.map (Value.int .i64)
theorem Fresh.ints {B:Nat} {w':World} {v:Value} {zs:List Int} (h:Fresh B w' v zs) (hlen:zs.length * 8≤140737488351232) (hw:∀ z ∈ zs,InI z):IntsIn w' v zs:=by
 rcases h with ⟨rfl,a0,cap,rfl⟩ | ⟨g,cap,cur,rfl,hB,hg,hc,ht⟩
 ·exact .empty a0 cap
 ·by_cases h0:zs=[]
  ·subst h0;exact .empty _ cap
  ·refine .row g 0 cap zs h0 hc (Array.getElem?_eq_some_iff.1 hg).1 (fun j hj=>?_) hlen hw;have h2:(cur.toList.take zs.length)[j]?=(zs.map (Value.int .i64))[j]?:=by rw [ht]
   rw [List.getElem?_take_of_lt hj,List.getElem?_map,List.getElem?_eq_getElem hj] at h2;simp only [Option.map_some,Array.getElem?_toList] at h2;have h3:w'.cell? ⟨g,0+j,none⟩=cur[0+j]?:=by simp [World.cell?,hg]
   rw [h3,Nat.zero_add,h2];simp [List.getD,List.getElem?_eq_getElem hj]
theorem Fresh.row {B g:Nat} {w':World} {zs:List Int} {n:Nat} (h:RowAt w' g zs) (hB:B≤g) (hn:n=zs.length):Fresh B w' (.slice (some ⟨g,0,none⟩) n n) zs:=by
 subst hn;exact Or.inr ⟨g,zs.length,_,rfl,hB,h,Nat.le_refl _,by simp [intCells,List.take_of_length_le]⟩
theorem strides_empty (a0:Option Addr) (cap:Nat) (w:World) :
  Calls Tryz.prog 83 #[.slice a0 0 cap] w fun e w'=>e=.returned (.tuple #[.slice (some ⟨w.heap.size,0,none⟩) 0 0,.int .i64 0])∧RowAt w' w.heap.size (strd [])∧Below w.heap.size w w':=by
 have HC:=hid (count_any (IntsIn.empty (w:=w) a0 cap));rw [show cnt []=(1,0) by unfold cnt cntLoop;decide] at HC;have hmk:∀ w:World,(Instr.makeSlice 27 (.int .i64 0) (.int .i64 0)).run Tryz.prog w=.ok (.slice (some ⟨w.heap.size,0,none⟩) 0 0) (w.alloc (.cells (intCells (List.replicate 0 0)) 3)):=fun w=>run_make_ints w 0 (by omega);have hrow:Hid (RowAt (w.alloc (.cells (intCells (List.replicate 0 0)) 3)) w.heap.size (strd [])):=hid (by unfold strd;exact RowAt.new w _);have hbel:Hid (Below w.heap.size w (w.alloc (.cells (intCells (List.replicate 0 0)) 3))):=hid ((Below.refl _ w).alloc (Nat.le_refl _) _);go_enter Tryz.func83,Tryz.ntmps83
 go_wp2_with (go_at_call 31;refine HC.out.mono ?_;rintro e w' ⟨rfl,rfl⟩)
 go_rounds 1
 go_ret2
 exact ⟨rfl,hrow.out,hbel.out⟩
def StrOut (w:World) (zs:List Int) (e:Ending) (w':World):Prop :=
 Below w.heap.size w w'∧(((cnt zs).2≠0∧e=.returned (.tuple #[.slice none 0 0,.int .i64 (cnt zs).2]))∨((cnt zs).2=0∧∃ v,e=.returned (.tuple #[v,.int .i64 0])∧Fresh w.heap.size w' v (strd zs)))
theorem strides_any {w:World} {v:Value} {zs:List Int} (h:IntsIn w v zs):Calls Tryz.prog 83 #[v] w (StrOut w zs):=by
 by_cases he:(cnt zs).2=0
 ·have hg:=cnt_good he;have h':=h;cases h with
  | empty a0 cap =>
   refine (strides_empty a0 cap w).mono ?_;rintro e w' ⟨h1,h2,h3⟩;exact ⟨h3,Or.inr ⟨he,_,h1,Fresh.row h2 (Nat.le_refl _) (by unfold strd;rfl)⟩⟩
  | row b off cap _ h0 hc hb hr hlen hw =>
   refine (strides_row b off cap zs w hg.2.1 hb (hid hr) (hid h') (hid hg.1) (hid hg.2.2.2) (hid he)).mono ?_;rintro e w' ⟨h1,h2,h3⟩;exact ⟨h3,Or.inr ⟨he,_,h1,Fresh.row h2 (Nat.le_refl _) (by rw [strd_length])⟩⟩
 ·refine (strides_bad (w:=w) (hid h) (hid he) w (hid h)).mono ?_;rintro e w' ⟨h1,rfl⟩;exact ⟨Below.refl _ _,Or.inl ⟨he,h1⟩⟩
end Go.Proofs.YtijhdmidffenbaaGreatDoor.Vx
namespace Go.Proofs.YtijhdmidffenbaaGreatDoor.Vx
open Go.RowKit Vw
theorem getD_inI {zs:List Int} (h:∀ z ∈ zs,InI z) (j:Nat):InI (zs.getD j 0):=by
 by_cases hj:j < zs.length
 ·exact h _ (getD_mem hj)
 ·rw [List.getD,List.getElem?_eq_none (by omega)];constructor<;>decide
theorem cnt_pos {ds:List Int} (h:(cnt ds).2=0):Pos ds:=fun d hd=>((cnt_good h).1 d hd).1
theorem Fresh.form {B:Nat} {w:World} {v:Value} {zs:List Int} (h:Fresh B w v zs):∃ a cap,v=.slice a zs.length cap:=by
 rcases h with ⟨rfl,a0,cap,rfl⟩ | ⟨g,cap,cur,rfl,_⟩
 ·exact ⟨a0,cap,rfl⟩
 ·exact ⟨_,cap,rfl⟩
end Go.Proofs.YtijhdmidffenbaaGreatDoor.Vx
namespace Go.Proofs.YtijhdmidffenbaaGreatDoor.Vb
open Go.RowKit Vx Vx.Vw
def Fresh (B:Nat) (w:World) (v:Value) (zs:List Int):Prop:=w.ownsRow B 3 1 v zs.length (zs.map (Value.int .i64))
theorem Fresh.of_owns {B:Nat} {w:World} {v:Value} {zs:List Int} (h:w.ownsRow B 3 1 v zs.length (zs.map (Value.int .i64))):Fresh B w v zs:=h
theorem Fresh.ints {B:Nat} {w':World} {v:Value} {zs:List Int} (h:Fresh B w' v zs) (hlen:zs.length * 8≤140737488351232) (hw:∀ z ∈ zs,InI z):IntsIn w' v zs:=IntsIn.of_owns (B:=B) (t:=3) h (by omega) hw
theorem Fresh.below {B:Nat} {w w':World} {v:Value} {zs:List Int} (h:Fresh B w v zs) (hb:Below w.heap.size w w'):Fresh B w' v zs:=owns_below h hb
theorem Fresh.form {B:Nat} {w:World} {v:Value} {zs:List Int} (h:Fresh B w v zs):∃ a cap,v=.slice a zs.length cap:=owns_form h
theorem Fresh.row {B g:Nat} {w':World} {zs:List Int} {n:Nat} (h:RowAt w' g zs) (hB:B≤g) (hn:n=zs.length) (hm:n≤1000000):Fresh B w' (.slice (some ⟨g,0,none⟩) n n) zs:=by
 subst hn;refine ⟨by simp,.inr ⟨g,zs.length,intCells zs,rfl,hB,h,Nat.le_refl _,?_,?_,?_⟩⟩
 ·unfold maxLen;omega
 ·simp [intCells]
 ·simp only [intCells,Nat.mul_one];rw [List.take_of_length_le (by simp)]
theorem Fresh.at {B:Nat} {w:World} {a:Option Addr} {n c j:Nat} {xs:List Int} (h:Fresh B w (.slice a n c) xs) (hn:xs.length=n) (hj:j < n):∃ g,a=some ⟨g,0,none⟩∧B≤g∧w.cell? ⟨g,j,none⟩=some (.int .i64 (xs.getD j 0))∧w.frozen? ⟨g,j,none⟩=false∧∀ x:Int,Fresh B (w.setCell ⟨g,j,none⟩ (.int .i64 x)) (.slice (some ⟨g,0,none⟩) n c) (xs.set j x):=by
 subst hn;obtain ⟨g,cap,e,hB,hg⟩:=World.ownsRow.form h (by omega);obtain ⟨rfl,-,rfl⟩:=Value.slice.inj e;refine ⟨g,rfl,hB,?_,World.ownsRow.frozenAt h j,fun x=>?_⟩
 ·have:=World.ownsRow.cells h (g:=g) rfl j (.int .i64 (xs.getD j 0)) (by rw [List.getElem?_map,int_at hj];rfl)
  rwa [show (⟨g,0,none⟩:Addr).add j=⟨g,j,none⟩ from by rw [add_some,Nat.zero_add]] at this
 ·unfold Fresh;rw [List.length_set,List.map_set];exact (World.ownsRow.stored h j _).1
theorem clone_any {w:World} {v:Value} {zs:List Int} (h:IntsIn w v zs) :
  Calls Tryz.prog 35 #[v] w fun e w'=>∃ v',e=.returned v'∧Fresh w.heap.size w' v' zs∧Below w.heap.size w w':=by
 cases h with
 | empty a0 cap =>
  cases a0 with
  | none =>
   refine (Tryz.slices_Clone_int_nil 0 cap w).mono ?_;rintro e w' ⟨rfl,rfl⟩;exact ⟨_,rfl,World.ownsRow_nil _ _ _ _,Below.refl _ _⟩
  | some a =>
   refine (Tryz.slices_Clone_int_zero a cap w).mono ?_;rintro e w' ⟨v',rfl,h1,_,h2⟩;exact ⟨v',rfl,Fresh.of_owns (zs:=[]) h1,h2⟩
 | row b off cap _ h0 hc hb hr hlen hw =>
  refine (Tryz.slices_Clone_int b off zs.length cap zs w (Nat.le_refl _) (by omega) hr).mono ?_;rintro e w' ⟨v',rfl,h1,_,h2⟩;rw [List.take_length] at h1;exact ⟨v',rfl,Fresh.of_owns h1,h2⟩
end Go.Proofs.YtijhdmidffenbaaGreatDoor.Vb
namespace Go.Proofs.YtijhdmidffenbaaGreatDoor.Vb
open Go.RowKit Vx Vx.Vw
def bk (zs:List Int) (i:Nat):Int:=if zs.length≤i then 1 else zs.getD (zs.length - 1 - i) 0
def outL (a b:List Int):List Int:=(List.range (max a.length b.length)).map fun j=>max (bk a (max a.length b.length - 1 - j)) (bk b (max a.length b.length - 1 - j))
def Co1 (a b:List Int) (i:Nat):Prop:=bk a i=bk b i∨bk a i=1∨bk b i=1
def Co (a b:List Int) (k:Nat):Prop:=∀ i,i < k→Co1 a b i
instance (a b:List Int) (k:Nat):Decidable (Co a b k):=by unfold Co Co1;infer_instance
def bcO (a b:List Int):Int × List Int:=if (cnt a).2≠0 then ((cnt a).2,[]) else if (cnt b).2≠0 then ((cnt b).2,[]) else if Co a b (max a.length b.length) then (if (cnt (outL a b)).2≠0 then ((cnt (outL a b)).2,[]) else (0,outL a b)) else (4,[])
theorem outL_length (a b:List Int):(outL a b).length=max a.length b.length:=by simp [outL]
theorem outL_get {a b:List Int} {j:Nat} (h:j < max a.length b.length):(outL a b).getD j 0=max (bk a (max a.length b.length - 1 - j)) (bk b (max a.length b.length - 1 - j)):=by
 simp [outL,List.getD,h]
theorem outL_comm (a b:List Int):outL a b=outL b a:=by
 unfold outL;rw [Nat.max_comm];apply List.map_congr_left;intro j _;exact Int.max_comm _ _
theorem Co.comm {a b:List Int} {k:Nat} (h:Co a b k):Co b a k:=fun i hi=>by
 rcases h i hi with h | h | h
 ·exact Or.inl h.symm
 ·exact Or.inr (Or.inr h)
 ·exact Or.inr (Or.inl h)
theorem bk_inI {zs:List Int} (h:∀ z ∈ zs,InI z) (i:Nat):InI (bk zs i):=by
 unfold bk;by_cases h1:zs.length≤i
 ·rw [if_pos h1];constructor<;>decide
 ·rw [if_neg h1];exact getD_inI h _
theorem outL_inI {a b:List Int} (ha:∀ z ∈ a,InI z) (hb:∀ z ∈ b,InI z):∀ z ∈ outL a b,InI z:=by
 intro z hz;obtain ⟨j,_,rfl⟩:=List.mem_map.1 hz;have h1:=bk_inI ha (max a.length b.length - 1 - j);have h2:=bk_inI hb (max a.length b.length - 1 - j);unfold InI at *;omega
theorem bk_out {zs:List Int} {i:Nat} (h:zs.length≤i):bk zs i=1:=by unfold bk;rw [if_pos h]
theorem bk_in {zs:List Int} {i:Nat} (h:i < zs.length):bk zs i=zs.getD (zs.length - 1 - i) 0:=by unfold bk;rw [if_neg (by omega)]
def BcTo (L S:List Int) (i:Nat) (xs:List Int):Prop:=xs.length=L.length∧(∀ j,j < L.length - S.length+i→xs.getD j 0=(outL L S).getD j 0)∧(∀ j,L.length - S.length+i≤j→xs.getD j 0=L.getD j 0)
theorem BcTo.len {L S xs:List Int} {i:Nat} (h:BcTo L S i xs):xs.length=L.length:=h.1
theorem BcTo.here {L S xs:List Int} {i:Nat} (h:BcTo L S i xs):xs.getD (L.length - S.length+i) 0=L.getD (L.length - S.length+i) 0:=h.2.2 _ (Nat.le_refl _)
theorem BcTo.zero {L S:List Int} (hL:Pos L) (hl:S.length≤L.length):BcTo L S 0 L:=by
 refine ⟨rfl,fun j hj=>?_,fun j _=>rfl⟩;have hm:max L.length S.length=L.length:=by omega
 rw [outL_get (by omega),hm,bk_in (by omega),bk_out (zs:=S) (by omega),show L.length - 1 - (L.length - 1 - j)=j by omega];have:=hL _ (getD_mem (zs:=L) (k:=j) (by omega));omega
theorem bc_pair {L S:List Int} {i:Nat} (hl:S.length≤L.length) (hi:i < S.length):(outL L S).getD (L.length - S.length+i) 0=max (L.getD (L.length - S.length+i) 0) (S.getD i 0)∧(Co1 L S (S.length - 1 - i)↔(L.getD (L.length - S.length+i) 0=S.getD i 0∨L.getD (L.length - S.length+i) 0=1∨S.getD i 0=1)):=by
 have hm:max L.length S.length=L.length:=by omega
 have e1:bk L (S.length - 1 - i)=L.getD (L.length - S.length+i) 0:=by rw [bk_in (by omega),show L.length - 1 - (S.length - 1 - i)=L.length - S.length+i by omega]
 have e2:bk S (S.length - 1 - i)=S.getD i 0:=by rw [bk_in (by omega),show S.length - 1 - (S.length - 1 - i)=i by omega]
 refine ⟨?_,by unfold Co1;rw [e1,e2]⟩;rw [outL_get (by omega),hm,show L.length - 1 - (L.length - S.length+i)=S.length - 1 - i by omega,e1,e2]
theorem BcTo.put {L S xs:List Int} {i:Nat} (h:BcTo L S i xs) (hl:S.length≤L.length) (hi:i < S.length) (h1:L.getD (L.length - S.length+i) 0=1) (h2:1≤S.getD i 0):BcTo L S (i+1) (xs.set (L.length - S.length+i) (S.getD i 0)):=by
 refine ⟨by rw [List.length_set];exact h.1,fun j hj=>?_,fun j hj=>?_⟩
 ·by_cases e:j=L.length - S.length+i
  ·subst e;rw [(bc_pair hl hi).1,h1];have:(xs.set (L.length - S.length+i) (S.getD i 0)).getD (L.length - S.length+i) 0=S.getD i 0:=by
    have hlt:L.length - S.length+i < xs.length:=by have:=h.1;omega
    simp [List.getD,hlt]
   rw [this];omega
  ·have:(xs.set (L.length - S.length+i) (S.getD i 0)).getD j 0=xs.getD j 0:=by simp [List.getD,List.getElem?_set_ne (Ne.symm e)]
   rw [this];exact h.2.1 j (by omega)
 ·have:(xs.set (L.length - S.length+i) (S.getD i 0)).getD j 0=xs.getD j 0:=by simp [List.getD,List.getElem?_set_ne (show L.length - S.length+i≠j by omega)]
  rw [this];exact h.2.2 j (by omega)
theorem BcTo.stay {L S xs:List Int} {i:Nat} (h:BcTo L S i xs) (hl:S.length≤L.length) (hi:i < S.length) (hL:1≤L.getD (L.length - S.length+i) 0) (h1:S.getD i 0=1∨S.getD i 0=L.getD (L.length - S.length+i) 0):BcTo L S (i+1) xs:=by
 refine ⟨h.1,fun j hj=>?_,fun j hj=>h.2.2 j (by omega)⟩;by_cases e:j=L.length - S.length+i
 ·subst e;rw [(bc_pair hl hi).1,h.here];rcases h1 with h1 | h1<;>rw [h1]<;>omega
 ·exact h.2.1 j (by omega)
theorem BcTo.all {L S xs:List Int} (h:BcTo L S S.length xs) (hl:S.length≤L.length):xs=outL L S:=by
 refine List.ext_getElem (by rw [h.1,outL_length];omega) fun j h1 h2=>?_;have:=h.2.1 j (by have:=h.1;omega)
 simpa [List.getD,List.getElem?_eq_getElem h1,List.getElem?_eq_getElem h2] using this
def CoS (L S:List Int) (i:Nat):Prop:=∀ k,k < i→Co1 L S (S.length - 1 - k)
theorem CoS.zero (L S:List Int):CoS L S 0:=fun k hk=>by omega
theorem CoS.next {L S:List Int} {i:Nat} (h:CoS L S i) (g:Co1 L S (S.length - 1 - i)):CoS L S (i+1):=fun k hk=>by
 by_cases e:k=i
 ·subst e;exact g
 ·exact h k (by omega)
theorem CoS.all {L S:List Int} (h:CoS L S S.length) (n:Nat):Co L S n:=fun i hi=>by
 by_cases h1:i < S.length
 ·have:=h (S.length - 1 - i) (by omega)
  rwa [show S.length - 1 - (S.length - 1 - i)=i by omega] at this
 ·exact Or.inr (Or.inr (bk_out (by omega)))
def BOut (w:World) (o:Int × List Int) (e:Ending) (w':World):Prop :=
 Below w.heap.size w w'∧((o.1≠0∧e=.returned (.tuple #[.slice none 0 0,.int .i64 o.1]))∨(o.1=0∧∃ v,e=.returned (.tuple #[v,.int .i64 0])∧Fresh w.heap.size w' v o.2))
attribute [local irreducible] cnt outL Co1 Co BcTo CoS bk
theorem fresh_base {B B':Nat} {w:World} {v:Value} {zs:List Int} (h:Fresh B w v zs) (hB:B'≤B):Fresh B' w v zs:=owns_base h hB
theorem fresh_drewN {B:Nat} {w:World} {v:Value} {zs:List Int} (h:Fresh B w v zs) (q:Nat):Fresh B (w.drewN q) v zs:=h
theorem co_at {a b:List Int} {n i:Nat} (h:Co a b n) (hi:i < n):Co1 a b i:=by unfold Co at h;exact h i hi
def Two (xa xb:List Int) (k:Nat):Prop:=(1≤k→(cnt xa).2=0)∧(2≤k→(cnt xb).2=0)
set_option maxRecDepth 100000 in
set_option maxHeartbeats 8000000 in
theorem broadcast_any {w:World} {va vb:Value} {xa xb:List Int} (ha:IntsIn w va xa) (hb0:IntsIn w vb xb):Calls Tryz.prog 85 #[va,vb] w (BOut w (bcO xa xb)):=by
 obtain ⟨a1,c1,rfl⟩:=ha.form;obtain ⟨a2,c2,rfl⟩:=hb0.form;have Ixa:=hid ha;have Ixb:=hid hb0;have HRxa:=hid ha.rowsV.2;have HRxb:=hid hb0.rowsV.2;clear ha hb0;obtain ⟨W1,hW1⟩:∃ W1,Hid (w.alloc (.cells #[.slice a1 xa.length c1,.slice a2 xb.length c2] 27)=W1):=⟨_,hid rfl⟩;have b1:Hid (Below w.heap.size w W1):=hid (by rw [←hW1.out];exact (Below.refl _ w).alloc (Nat.le_refl _) _);have hblk:W1.heap[w.heap.size]?=some (.cells #[.slice a1 xa.length c1,.slice a2 xb.length c2] 27 (0,0)):=by rw [←hW1.out];exact World.alloc_heap_new w _
 have q0:W1.cell? ⟨w.heap.size,0,none⟩=some (.slice a1 xa.length c1):=by simp [World.cell?,hblk]
 have q1:W1.cell? ⟨w.heap.size,1,none⟩=some (.slice a2 xb.length c2):=by simp [World.cell?,hblk]
 have E1:Hid ((cnt xa).2≠0→bcO xa xb=((cnt xa).2,[])):=hid fun h=>by unfold bcO;rw [if_pos h]
 have E2:Hid ((cnt xa).2=0→(cnt xb).2≠0→bcO xa xb=((cnt xb).2,[])):=hid fun h g=>by unfold bcO;rw [if_neg (by rw [h];decide),if_pos g]
 clear hblk;go_enter Tryz.func85,Tryz.ntmps85
 go_wp2_with fail
 rw [hW1.out];go_loop [20] (fun i=>∃ k:Nat,k≤2∧i=.int .i64 (k:Int)∧Hid (Two xa xb k)) (fun i=>2 - (intOf i).toNat)
 case atStart=>exact ⟨0,Nat.zero_le _,rfl,hid ⟨fun h=>by omega,fun h=>by omega⟩⟩
 case round =>
  obtain ⟨k,hk,rfl,h2⟩:=hrel;rcases (match k,hk with | 0,_=>Or.inl rfl | 1,_=>Or.inr (Or.inl rfl) | 2,_=>Or.inr (Or.inr rfl):k=0∨k=1∨k=2) with e | e | e
  ·subst e;go_wp2_with fail
   refine (Vx.count_any (Ixa.out.below b1.out)).mono ?_;rintro e _ ⟨rfl,rfl⟩;by_cases hce:(cnt xa).2=0
   ·have HT:Hid (Two xa xb 1):=hid ⟨fun _=>hce,fun h=>by omega⟩;rw [hce];clear hce;go_wp2_with fail
    go_round
    case rel=>exact ⟨1,by omega,rfl,HT⟩
    case measure=>simp [intOf]
   ·have NX:=hid (E1.out hce);have HNE:=hid hce;generalize (cnt xa).2=ce at *;have hb1:(ce != 0)=true:=by simpa using hce
    clear hce;go_wp2_with fail
    go_ret2
    rw [NX.out];exact ⟨b1.out,Or.inl ⟨HNE.out,rfl⟩⟩
  ·subst e;go_wp2_with fail
   refine (Vx.count_any (Ixb.out.below b1.out)).mono ?_;rintro e _ ⟨rfl,rfl⟩;by_cases hce:(cnt xb).2=0
   ·have HT:Hid (Two xa xb 2):=hid ⟨fun _=>h2.out.1 (by omega),fun _=>hce⟩;rw [hce];clear hce;go_wp2_with fail
    go_round
    case rel=>exact ⟨2,by omega,rfl,HT⟩
    case measure=>simp [intOf]
   ·have NX:=hid (E2.out (h2.out.1 (by omega)) hce);have HNE:=hid hce;generalize (cnt xb).2=ce at *;have hb1:(ce != 0)=true:=by simpa using hce
    clear hce;go_wp2_with fail
    go_ret2
    rw [NX.out];exact ⟨b1.out,Or.inl ⟨HNE.out,rfl⟩⟩
  ·subst e;have HA:=hid (h2.out.1 (by omega));have HB:=hid (h2.out.2 (by omega));have HPxa:=hid (cnt_pos HA.out);have HPxb:=hid (cnt_pos HB.out);have hl1:=(cnt_good HA.out).2.1;have hl2:=(cnt_good HB.out).2.1;clear E1 E2 q0 q1;by_cases hlt:xa.length < xb.length
   ·have hlti:(xa.length:Int) < (xb.length:Int):=by omega
    have E3:Hid (¬ Co xb xa (max xb.length xa.length)→bcO xa xb=(4,[])):=hid fun h=>by unfold bcO;rw [if_neg (by rw [HA.out];decide),if_neg (by rw [HB.out];decide),if_neg (fun g=>h (by rw [Nat.max_comm];exact g.comm))]
    have E4:Hid (Co xb xa (max xb.length xa.length)→(cnt (outL xb xa)).2≠0→bcO xa xb=((cnt (outL xb xa)).2,[])):=hid fun g h=>by unfold bcO;rw [if_neg (by rw [HA.out];decide),if_neg (by rw [HB.out];decide),if_pos (by rw [Nat.max_comm];exact g.comm),outL_comm,if_pos h]
    have E5:Hid (Co xb xa (max xb.length xa.length)→(cnt (outL xb xa)).2=0→bcO xa xb=(0,outL xb xa)):=hid fun g h=>by unfold bcO;rw [if_neg (by rw [HA.out];decide),if_neg (by rw [HB.out];decide),if_pos (by rw [Nat.max_comm];exact g.comm),outL_comm,if_neg (by rw [h];decide)]
    have hLS:xa.length≤xb.length:=by omega
    obtain ⟨ah,hah⟩:∃ ah:Nat,ah=xb.length - xa.length:=⟨_,rfl⟩;have hsub:(xb.length:Int) - (xa.length:Int)=(ah:Int):=by omega
    have HAH:=hid hah;clear hah;go_wp2_with fail
    refine (clone_any (Ixb.out.below b1.out)).mono ?_;rintro e w2 ⟨v,rfl,hf,B2⟩;obtain ⟨a5,c5,rfl⟩:=hf.form;have b2:=hid (b1.out.trans (B2.mono b1.out.size));have hf2:Hid (Fresh w.heap.size w2 (.slice a5 xb.length c5) xb):=hid (fresh_base hf b1.out.size);clear hf B2;go_wp2_with fail
    go_loopw [49] (fun i wr=>∃ k:Nat,k≤xa.length∧i=.int .i64 (k:Int)∧Hid (CoS xb xa k)∧Hid (∃ xs,Fresh w.heap.size wr (.slice a5 xb.length c5) xs∧BcTo xb xa k xs)∧Hid (Below w.heap.size w wr)) (fun i _=>xa.length - (intOf i).toNat)
    case atStart=>exact ⟨0,Nat.zero_le _,rfl,hid (CoS.zero _ _),hid ⟨_,hf2.out,BcTo.zero HPxb.out hLS⟩,b2⟩
    case round =>
     obtain ⟨k,hk,rfl,hco,hx,hb⟩:=hrel;obtain ⟨xs,hfr,hbc⟩:=hx.out;by_cases hkl:k < xa.length
     ·have hki:(k:Int) < (xa.length:Int):=by omega
      obtain ⟨p,hp⟩:∃ p:Nat,p=ah+k:=⟨_,rfl⟩;have hpi:(ah:Int)+(k:Int)=(p:Int):=by omega
      have hpL:p < xb.length:=by have:=HAH.out;omega
      have hpl:(p:Int) < (xb.length:Int):=by omega
      have hpe:xb.length - xa.length+k=p:=by rw [←HAH.out,hp]
      have hpair:=bc_pair hLS hkl;have hput:=hbc.put hLS hkl;have hstay:=hbc.stay hLS hkl;have hhere:=hbc.here;rw [hpe] at hpair hput hstay hhere;obtain ⟨g,rfl,hBg,hcell,hfz,hst⟩:=hfr.at hbc.len hpL;obtain ⟨b,o,rfl,hbb,hrd⟩:=HRxa.out k hkl;have hcx:=(hb.out.cell (p:=⟨b,o+k,none⟩) hbb).trans (hrd k hkl);rw [hhere] at hcell;have d1:=HPxb.out _ (getD_mem hpL);have s1:=HPxa.out _ (getD_mem hkl);have HCN:=hid hco.out.next;have HPR:=hid hpair.2;have HCO:=hid (fun (h:¬ Co1 xb xa (xa.length - 1 - k)) (g:Co xb xa (max xb.length xa.length))=>h (co_at g (by omega)));clear hpair hp hpe hhere;generalize xb.getD p 0=d at *;generalize xa.getD k 0=s at *;by_cases hd1:d=1
      ·have HPT:=hid (hput hd1 s1);have HNX:=hid (HCN.out (HPR.out.2 (Or.inr (Or.inl hd1))));have hsf:=hid (hst s);have hbs:Hid (Below w.heap.size w (wr.setCell ⟨g,p,none⟩ (.int .i64 s))):=hid (hb.out.setCell (p:=⟨g,p,none⟩) hBg _);clear hput hstay hfr hbc hx hst hBg;subst hd1;go_wp2
       go_roundw
       case rel=>exact ⟨k+1,by omega,by go_num,HNX,hid ⟨_,hsf.out,HPT.out⟩,hbs⟩
       case measure=>simp [intOf];omega
      ·have b1':(d==1)=false:=by simpa using hd1
       by_cases hs1:s=1
       ·have b2':(s != 1)=false:=by simp [hs1]
        have HST:=hid (hstay d1 (Or.inl hs1));have HNX:=hid (HCN.out (HPR.out.2 (Or.inr (Or.inr hs1))));have hfr2:=hid hfr;clear hput hstay hfr hbc hx hst hBg hd1 hs1;go_wp2
        go_quiet (fail)
        go_wp2
        go_roundw
        case rel=>exact ⟨k+1,by omega,by go_num,HNX,hid ⟨_,fresh_drewN hfr2.out _,HST.out⟩,hid (below_drewN hb.out _)⟩
        case measure=>simp [intOf];omega
       ·have b2':(s != 1)=true:=by simpa using hs1
        by_cases hsd:s=d
        ·have b3':(s != d)=false:=by simp [hsd]
         have HST:=hid (hstay d1 (Or.inr hsd));have HNX:=hid (HCN.out (HPR.out.2 (Or.inl hsd.symm)));have hfr2:=hid hfr;clear hput hstay hfr hbc hx hst hBg hd1 hs1 hsd;go_wp2
         go_quiet (fail)
         go_wp2
         go_roundw
         case rel=>exact ⟨k+1,by omega,by go_num,HNX,hid ⟨_,fresh_drewN hfr2.out _,HST.out⟩,hid (below_drewN hb.out _)⟩
         case measure=>simp [intOf];omega
        ·have b3':(s != d)=true:=by simpa using hsd
         have NO:=hid (E3.out (HCO.out (fun h=>by rcases HPR.out.1 h with h | h | h;exact hsd h.symm;exact hd1 h;exact hs1 h)));clear hput hstay hfr hbc hx hst hBg hd1 hs1 hsd;go_wp2
         go_quiet (fail)
         go_wp2
         go_ret2
         rw [NO.out];exact ⟨below_drewN hb.out _,Or.inl ⟨by decide,rfl⟩⟩
     ·obtain rfl:k=xa.length:=by omega
      have hxe:=hbc.all hLS;subst hxe;have HCA:=hid (hco.out.all (max xb.length xa.length));have hol:Hid ((outL xb xa).length=xb.length):=hid hbc.len;have io:Hid (IntsIn wr (.slice a5 xb.length c5) (outL xb xa)):=hid (hfr.ints (by rw [hol.out];omega) (outL_inI Ixb.out.wf.2 Ixa.out.wf.2));have hfr2:=hid hfr;have HE4:=hid (E4.out HCA.out);have HE5:=hid (E5.out HCA.out);clear hfr hbc hx;go_wp2_with fail
      refine (Vx.count_any io.out).mono ?_;rintro e _ ⟨rfl,rfl⟩;by_cases hce:(cnt (outL xb xa)).2=0
      ·have NX:=hid (HE5.out hce);rw [hce];clear hce;go_wp2_with fail
       go_ret2
       rw [NX.out];exact ⟨hb.out,Or.inr ⟨rfl,_,rfl,hfr2.out⟩⟩
      ·have NX:=hid (HE4.out hce);have HNE:=hid hce;generalize (cnt (outL xb xa)).2=ce at *;have hb1:(ce != 0)=true:=by simpa using hce
       clear hce;go_wp2_with fail
       go_ret2
       rw [NX.out];exact ⟨hb.out,Or.inl ⟨HNE.out,rfl⟩⟩
   ·have hlti:¬ (xa.length:Int) < (xb.length:Int):=by omega
    have E3:Hid (¬ Co xa xb (max xa.length xb.length)→bcO xa xb=(4,[])):=hid fun h=>by unfold bcO;rw [if_neg (by rw [HA.out];decide),if_neg (by rw [HB.out];decide),if_neg h]
    have E4:Hid (Co xa xb (max xa.length xb.length)→(cnt (outL xa xb)).2≠0→bcO xa xb=((cnt (outL xa xb)).2,[])):=hid fun g h=>by unfold bcO;rw [if_neg (by rw [HA.out];decide),if_neg (by rw [HB.out];decide),if_pos g,if_pos h]
    have E5:Hid (Co xa xb (max xa.length xb.length)→(cnt (outL xa xb)).2=0→bcO xa xb=(0,outL xa xb)):=hid fun g h=>by unfold bcO;rw [if_neg (by rw [HA.out];decide),if_neg (by rw [HB.out];decide),if_pos g,if_neg (by rw [h];decide)]
    have hLS:xb.length≤xa.length:=by omega
    obtain ⟨ah,hah⟩:∃ ah:Nat,ah=xa.length - xb.length:=⟨_,rfl⟩;have hsub:(xa.length:Int) - (xb.length:Int)=(ah:Int):=by omega
    have HAH:=hid hah;clear hah;go_wp2_with fail
    refine (clone_any (Ixa.out.below b1.out)).mono ?_;rintro e w2 ⟨v,rfl,hf,B2⟩;obtain ⟨a5,c5,rfl⟩:=hf.form;have b2:=hid (b1.out.trans (B2.mono b1.out.size));have hf2:Hid (Fresh w.heap.size w2 (.slice a5 xa.length c5) xa):=hid (fresh_base hf b1.out.size);clear hf B2;go_wp2_with fail
    go_loopw [49] (fun i wr=>∃ k:Nat,k≤xb.length∧i=.int .i64 (k:Int)∧Hid (CoS xa xb k)∧Hid (∃ xs,Fresh w.heap.size wr (.slice a5 xa.length c5) xs∧BcTo xa xb k xs)∧Hid (Below w.heap.size w wr)) (fun i _=>xb.length - (intOf i).toNat)
    case atStart=>exact ⟨0,Nat.zero_le _,rfl,hid (CoS.zero _ _),hid ⟨_,hf2.out,BcTo.zero HPxa.out hLS⟩,b2⟩
    case round =>
     obtain ⟨k,hk,rfl,hco,hx,hb⟩:=hrel;obtain ⟨xs,hfr,hbc⟩:=hx.out;by_cases hkl:k < xb.length
     ·have hki:(k:Int) < (xb.length:Int):=by omega
      obtain ⟨p,hp⟩:∃ p:Nat,p=ah+k:=⟨_,rfl⟩;have hpi:(ah:Int)+(k:Int)=(p:Int):=by omega
      have hpL:p < xa.length:=by have:=HAH.out;omega
      have hpl:(p:Int) < (xa.length:Int):=by omega
      have hpe:xa.length - xb.length+k=p:=by rw [←HAH.out,hp]
      have hpair:=bc_pair hLS hkl;have hput:=hbc.put hLS hkl;have hstay:=hbc.stay hLS hkl;have hhere:=hbc.here;rw [hpe] at hpair hput hstay hhere;obtain ⟨g,rfl,hBg,hcell,hfz,hst⟩:=hfr.at hbc.len hpL;obtain ⟨b,o,rfl,hbb,hrd⟩:=HRxb.out k hkl;have hcx:=(hb.out.cell (p:=⟨b,o+k,none⟩) hbb).trans (hrd k hkl);rw [hhere] at hcell;have d1:=HPxa.out _ (getD_mem hpL);have s1:=HPxb.out _ (getD_mem hkl);have HCN:=hid hco.out.next;have HPR:=hid hpair.2;have HCO:=hid (fun (h:¬ Co1 xa xb (xb.length - 1 - k)) (g:Co xa xb (max xa.length xb.length))=>h (co_at g (by omega)));clear hpair hp hpe hhere;generalize xa.getD p 0=d at *;generalize xb.getD k 0=s at *;by_cases hd1:d=1
      ·have HPT:=hid (hput hd1 s1);have HNX:=hid (HCN.out (HPR.out.2 (Or.inr (Or.inl hd1))));have hsf:=hid (hst s);have hbs:Hid (Below w.heap.size w (wr.setCell ⟨g,p,none⟩ (.int .i64 s))):=hid (hb.out.setCell (p:=⟨g,p,none⟩) hBg _);clear hput hstay hfr hbc hx hst hBg;subst hd1;go_wp2
       go_roundw
       case rel=>exact ⟨k+1,by omega,by go_num,HNX,hid ⟨_,hsf.out,HPT.out⟩,hbs⟩
       case measure=>simp [intOf];omega
      ·have b1':(d==1)=false:=by simpa using hd1
       by_cases hs1:s=1
       ·have b2':(s != 1)=false:=by simp [hs1]
        have HST:=hid (hstay d1 (Or.inl hs1));have HNX:=hid (HCN.out (HPR.out.2 (Or.inr (Or.inr hs1))));have hfr2:=hid hfr;clear hput hstay hfr hbc hx hst hBg hd1 hs1;go_wp2
        go_quiet (fail)
        go_wp2
        go_roundw
        case rel=>exact ⟨k+1,by omega,by go_num,HNX,hid ⟨_,fresh_drewN hfr2.out _,HST.out⟩,hid (below_drewN hb.out _)⟩
        case measure=>simp [intOf];omega
       ·have b2':(s != 1)=true:=by simpa using hs1
        by_cases hsd:s=d
        ·have b3':(s != d)=false:=by simp [hsd]
         have HST:=hid (hstay d1 (Or.inr hsd));have HNX:=hid (HCN.out (HPR.out.2 (Or.inl hsd.symm)));have hfr2:=hid hfr;clear hput hstay hfr hbc hx hst hBg hd1 hs1 hsd;go_wp2
         go_quiet (fail)
         go_wp2
         go_roundw
         case rel=>exact ⟨k+1,by omega,by go_num,HNX,hid ⟨_,fresh_drewN hfr2.out _,HST.out⟩,hid (below_drewN hb.out _)⟩
         case measure=>simp [intOf];omega
        ·have b3':(s != d)=true:=by simpa using hsd
         have NO:=hid (E3.out (HCO.out (fun h=>by rcases HPR.out.1 h with h | h | h;exact hsd h.symm;exact hd1 h;exact hs1 h)));clear hput hstay hfr hbc hx hst hBg hd1 hs1 hsd;go_wp2
         go_quiet (fail)
         go_wp2
         go_ret2
         rw [NO.out];exact ⟨below_drewN hb.out _,Or.inl ⟨by decide,rfl⟩⟩
     ·obtain rfl:k=xb.length:=by omega
      have hxe:=hbc.all hLS;subst hxe;have HCA:=hid (hco.out.all (max xa.length xb.length));have hol:Hid ((outL xa xb).length=xa.length):=hid hbc.len;have io:Hid (IntsIn wr (.slice a5 xa.length c5) (outL xa xb)):=hid (hfr.ints (by rw [hol.out];omega) (outL_inI Ixa.out.wf.2 Ixb.out.wf.2));have hfr2:=hid hfr;have HE4:=hid (E4.out HCA.out);have HE5:=hid (E5.out HCA.out);clear hfr hbc hx;go_wp2_with fail
      refine (Vx.count_any io.out).mono ?_;rintro e _ ⟨rfl,rfl⟩;by_cases hce:(cnt (outL xa xb)).2=0
      ·have NX:=hid (HE5.out hce);rw [hce];clear hce;go_wp2_with fail
       go_ret2
       rw [NX.out];exact ⟨hb.out,Or.inr ⟨rfl,_,rfl,hfr2.out⟩⟩
      ·have NX:=hid (HE4.out hce);have HNE:=hid hce;generalize (cnt (outL xa xb)).2=ce at *;have hb1:(ce != 0)=true:=by simpa using hce
       clear hce;go_wp2_with fail
       go_ret2
       rw [NX.out];exact ⟨hb.out,Or.inl ⟨HNE.out,rfl⟩⟩
end Go.Proofs.YtijhdmidffenbaaGreatDoor.Vb
namespace Go.Proofs.YtijhdmidffenbaaGreatDoor.Vb
open Go.RowKit Vx Vx.Vw
def RbTo (a b:List Int) (n k:Nat) (xs:List Int):Prop:=xs.length=n∧∀ i,i < k→xs.getD (n - 1 - i) 0=(outL a b).getD (n - 1 - i) 0
theorem RbTo.step {a b xs:List Int} {n k p:Nat} (h:RbTo a b n k xs) (hn:n=max a.length b.length) (hk:k < n) (hp:p=n - 1 - k):RbTo a b n (k+1) (xs.set p (max (bk a k) (bk b k))):=by
 refine ⟨by rw [List.length_set];exact h.1,fun i hi=>?_⟩;by_cases e:i=k
 ·subst e;rw [outL_get (by omega),←hn,show n - 1 - (n - 1 - i)=i by omega,hp];have hlt:n - 1 - i < xs.length:=by have:=h.1;omega
  simp [List.getD,hlt]
 ·have:(xs.set p (max (bk a k) (bk b k))).getD (n - 1 - i) 0=xs.getD (n - 1 - i) 0:=by simp [List.getD,List.getElem?_set_ne (show p≠n - 1 - i by omega)]
  rw [this];exact h.2 i (by omega)
attribute [local irreducible] cnt outL Co1 Co bk RbTo
end Go.Proofs.YtijhdmidffenbaaGreatDoor.Vb
