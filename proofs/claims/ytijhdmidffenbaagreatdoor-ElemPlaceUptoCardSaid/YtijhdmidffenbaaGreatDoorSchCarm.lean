import Derived.Test.YtijhdmidffenbaaGreatDoorSchTgrm
import Derived.Deep.AppendLies
set_option linter.unusedVariables false
set_option linter.unusedSimpArgs false
namespace Go.Proofs.YtijhdmidffenbaaGreatDoor
open Go.RowKit
theorem reads_cells {w:World} {b o:Nat} {zs:List Int} (h:Reads w b o zs):∀ j u,(zs.map (Value.int .i64))[j]?=some u→w.cell? ((⟨b,o,none⟩:Addr).add j)=some u:=by
 intro j u hu;rw [List.getElem?_map] at hu;by_cases hj:j < zs.length
 ·rw [List.getElem?_eq_getElem hj] at hu;have:=h j hj;simp only [Option.map_some,Option.some.injEq] at hu;rw [←hu];have e:(⟨b,o,none⟩:Addr).add j=⟨b,o+j,none⟩:=by
   unfold Addr.add;split
   ·rename_i h0;subst h0;rfl
   ·rfl
  rw [e,this];simp [List.getD,List.getElem?_eq_getElem hj]
 ·rw [List.getElem?_eq_none (by omega)] at hu;simp at hu
theorem ints_one (zs:List Int):∀ u ∈ zs.map (Value.int .i64),u.oneCell'=true:=by
 intro u hu;obtain ⟨z,_,rfl⟩:=List.mem_map.1 hu
 rfl
theorem IntsIn.of_owns {B:Nat} {t:TypeId} {w':World} {v:Value} {zs:List Int} (h:w'.ownsRow B t 1 v zs.length (zs.map (Value.int .i64))) (hlen:zs.length * 8≤140737488351232) (hw:∀ z ∈ zs,InI z):IntsIn w' v zs:=by
 obtain ⟨h1,h2⟩:=h;rcases h2 with ⟨rfl,h0⟩ | ⟨g,cap,cur,rfl,hb,hg,hn,hc,hs,ht⟩
 ·rw [List.length_eq_zero_iff.1 h0];exact .empty none 0
 ·by_cases h0:zs=[]
  ·subst h0;exact .empty _ cap
  ·refine .row g 0 cap zs h0 hn (Array.getElem?_eq_some_iff.1 hg).1 (fun j hj=>?_) hlen hw;have ht':cur.toList.take zs.length=zs.map (Value.int .i64):=by simpa using ht
   have h2:(cur.toList.take zs.length)[j]?=(zs.map (Value.int .i64))[j]?:=by rw [ht']
   rw [List.getElem?_take_of_lt hj,List.getElem?_map,List.getElem?_eq_getElem hj] at h2;simp only [Option.map_some,Array.getElem?_toList] at h2;have h3:w'.cell? ⟨g,0+j,none⟩=cur[0+j]?:=by simp [World.cell?,hg]
   rw [h3,Nat.zero_add,h2];simp [List.getD,List.getElem?_eq_getElem hj]
theorem info_int:(Tryz.prog.info? 3).map (fun i=>(i.zero,i.size,i.bytes))=some (some (.int .i64 0),1,8):=by kernel_rfl
theorem info_int64:(Tryz.prog.info? 2).map (fun i=>(i.zero,i.size,i.bytes))=some (some (.int .i64 0),1,8):=by kernel_rfl
end Go.Proofs.YtijhdmidffenbaaGreatDoor
