import Derived.Test.YtijhdmidffenbaaGreatDoorGrArm
import Derived.Test.YtijhdmidffenbaaGreatDoorSchCorm
set_option linter.unusedVariables false
set_option linter.unusedSimpArgs false
namespace Go.Proofs.YtijhdmidffenbaaGreatDoor
open Go.RowKit
def valC (x:Vl) (d:Value):List Value:=[.string x.name,.int .i64 x.typ,d]
def rowV:List Vl→List Value→List Value
 | x :: l,d :: ds=>valC x d++rowV l ds
 | _,_=>[]
theorem rowV_snoc:∀ {l:List Vl} {ds:List Value} (x:Vl) (d:Value),l.length=ds.length→rowV (l++[x]) (ds++[d])=rowV l ds++valC x d
 | [],[],x,d,_=>by simp [rowV]
 | [],_ :: _,_,_,h=>by simp at h
 | _ :: _,[],_,_,h=>by simp at h
 | b :: l,u :: ds,x,d,h=>by
  simp only [List.cons_append,rowV];rw [rowV_snoc x d (by simpa using h),List.append_assoc]
theorem rowV_get:∀ {l:List Vl} {ds:List Value} {j:Nat} {x:Vl} {d:Value} {i:Nat} {u:Value},l[j]?=some x→ds[j]?=some d→(valC x d)[i]?=some u→(rowV l ds)[j * 3+i]?=some u
 | [],_,j,x,d,i,u,h,_,_=>by simp at h
 | _ :: _,[],j,x,d,i,u,_,h,_=>by simp at h
 | b :: l,c :: ds,0,x,d,i,u,h1,h2,h3=>by
  obtain rfl:=Option.some.inj h1;obtain rfl:=Option.some.inj h2;have hi:=(List.getElem?_eq_some_iff.1 h3).1;rw [rowV,Nat.zero_mul,Nat.zero_add,List.getElem?_append_left hi];exact h3
 | b :: l,c :: ds,j+1,x,d,i,u,h1,h2,h3=>by
  rw [rowV,List.getElem?_append_right (by simp [valC];omega)];have e:(j+1) * 3+i - (valC b c).length=j * 3+i:=by simp [valC];omega
  rw [e];exact rowV_get (by simpa using h1) (by simpa using h2) h3
end Go.Proofs.YtijhdmidffenbaaGreatDoor
