import Derived.Test.YtijhdmidffenbaaGreatDoorSchTgim
import Derived.Deep.AppendLies
set_option linter.unusedVariables false
set_option linter.unusedSimpArgs false
namespace Go.Proofs.YtijhdmidffenbaaGreatDoor
open Go.RowKit
theorem reads_cells {w:World} {b o:Nat} {zs:List Int} (h:Reads w b o zs):∀ j u,(zs.map (Value.int .i64))[j]?=some u→w.cell? ((⟨b,o,none⟩:Addr).add j)=some u:=by
 intro j u hu
 rw [List.getElem?_map] at hu
 by_cases hj:j < zs.length
 ·rw [List.getElem?_eq_getElem hj] at hu
  have:=h j hj
  simp only [Option.map_some,Option.some.injEq] at hu
  rw [←hu]
  have e:(⟨b,o,none⟩:Addr).add j=⟨b,o+j,none⟩:=by
   unfold Addr.add
   split
   ·rename_i h0;subst h0;rfl
   ·rfl
  rw [e,this]
  simp [List.getD,List.getElem?_eq_getElem hj]
 ·rw [List.getElem?_eq_none (by omega)] at hu;simp at hu
theorem ints_one (zs:List Int):∀ u ∈ zs.map (Value.int .i64),u.oneCell'=true:=by
 intro u hu
 obtain ⟨z,_,rfl⟩:=List.mem_map.1 hu
 rfl
theorem IntsIn.of_owns {B:Nat} {t:TypeId} {w':World} {v:Value} {zs:List Int} (h:w'.ownsRow B t 1 v zs.length (zs.map (Value.int .i64))) (hlen:zs.length * 8≤140737488351232) (hw:∀ z ∈ zs,InI z):IntsIn w' v zs:=by
 obtain ⟨h1,h2⟩:=h
 rcases h2 with ⟨rfl,h0⟩ | ⟨g,cap,cur,rfl,hb,hg,hn,hc,hs,ht⟩
 ·rw [List.length_eq_zero_iff.1 h0];exact .empty none 0
 ·by_cases h0:zs=[]
  ·subst h0;exact .empty _ cap
  ·refine .row g 0 cap zs h0 hn (Array.getElem?_eq_some_iff.1 hg).1 (fun j hj=>?_) hlen hw
   have ht':cur.toList.take zs.length=zs.map (Value.int .i64):=by simpa using ht
   have h2:(cur.toList.take zs.length)[j]?=(zs.map (Value.int .i64))[j]?:=by rw [ht']
   rw [List.getElem?_take_of_lt hj,List.getElem?_map,List.getElem?_eq_getElem hj] at h2
   simp only [Option.map_some,Array.getElem?_toList] at h2
   have h3:w'.cell? ⟨g,0+j,none⟩=cur[0+j]?:=by simp [World.cell?,hg]
   rw [h3,Nat.zero_add,h2]
   simp [List.getD,List.getElem?_eq_getElem hj]
def NewsIn (w:World) (xv:Value) (m size bytes:Nat) (news:List Value):Prop :=
 (∃ a0 cap,xv=.slice a0 0 cap∧m=0∧news=[]) ∨
 ∃ b off cap,xv=.slice (some ⟨b,off,none⟩) m cap∧news.length=m * size∧(∀ j u,news[j]?=some u→w.cell? ((⟨b,off,none⟩:Addr).add j)=some u)∧(∀ u ∈ news,u.oneCell'=true)∧m≤maxLen∧m * bytes≤140737488355328
theorem IntsIn.news {w:World} {v:Value} {zs:List Int} (h:IntsIn w v zs):NewsIn w v zs.length 1 8 (zs.map (Value.int .i64)):=by
 cases h with
 | empty a0 cap=>exact .inl ⟨a0,cap,rfl,rfl,rfl⟩
 | row b off cap _ h0 hc hb hr hlen hw=>exact .inr ⟨b,off,cap,rfl,by simp,reads_cells hr,ints_one zs,by unfold maxLen;omega,by omega⟩
theorem StrsIn.news {w:World} {v:Value} {ss:List ByteArray} (h:StrsIn w v ss):NewsIn w v ss.length 1 16 (ss.map Value.string):=by
 cases h with
 | empty a0 cap=>exact .inl ⟨a0,cap,rfl,rfl,rfl⟩
 | row b off cap _ h0 hc hb hr hlen =>
  refine .inr ⟨b,off,cap,rfl,by simp,fun j u hu=>?_,fun u hu=>?_,by unfold maxLen;omega,by omega⟩
  ·rw [List.getElem?_map] at hu
   obtain ⟨s,hs,rfl⟩:=Option.map_eq_some_iff.1 hu
   have e:(⟨b,off,none⟩:Addr).add j=⟨b,off+j,none⟩:=by
    unfold Addr.add
    split
    ·rename_i h0;subst h0;rfl
    ·rfl
   rw [e];exact hr j s hs
  ·obtain ⟨s,_,rfl⟩:=List.mem_map.1 hu;rfl
theorem run_append_copy {P:Program} {w:World} {t ty e:TypeId} {i:TypeInfo} {z:Value} {size bytes:Nat} (ht:P.underlying t=some (.slice e)) (hi:P.info? e=some i) (hz:i.zero=some z)
  (hsize:i.size=size) (hby:i.bytes=bytes) (hzs:z.cells.size=size) (hsz:0 < size) {xv:Value} {m:Nat} {news:List Value} (hx:NewsIn w xv m size bytes news) :
  ∃ v' w',(Builtin.append_ #[t,t] ty #[.slice none 0 0,xv]).run P w=.ok v' w'∧w'.ownsRow w.heap.size e size v' m news∧Below w.heap.size w w':=by
 rcases hx with ⟨a0,cap,rfl,rfl,rfl⟩ | ⟨b,off,cap,rfl,hl,hn,h1,h63,hb⟩
 ·cases a0 with
  | none =>
   refine ⟨.slice none 0 0,w,?_,World.ownsRow_nil _ _ _ _,Below.refl _ _⟩
   simp [Builtin.append_,run_underlying ht,sizeOf,typeInfo,hi,Builtin.lenOf,Builtin.firstCells]
  | some ad =>
   obtain ⟨v',w',hr,h2,h3,_,h5⟩:=run_append_own_at (P:=P) w w.heap.size t ty e i z size bytes ht hi hz hsize hby hzs hsz (.slice none 0 0) 0 [] (World.ownsRow_nil _ _ _ _) ad 0 cap [] (by simp) (fun j u hu=>by simp at hu) (fun u hu=>by simp at hu) (by unfold maxLen;omega) (by omega) (Nat.le_refl _)
   exact ⟨v',w',hr,h2,(Below.refl _ w).grown h3 (Nat.le_refl _) (fun g hg=>by simp [Value.ownBlock] at hg)⟩
 ·obtain ⟨v',w',hr,h2,h3,_,h5⟩:=run_append_own_at (P:=P) w w.heap.size t ty e i z size bytes ht hi hz hsize hby hzs hsz (.slice none 0 0) 0 [] (World.ownsRow_nil _ _ _ _) ⟨b,off,none⟩ m cap news hl hn h1 (by rw [Nat.zero_add];exact h63) (by rw [Nat.zero_add];exact hb) (Nat.le_refl _)
  refine ⟨v',w',hr,?_,(Below.refl _ w).grown h3 (Nat.le_refl _) (fun g hg=>by simp [Value.ownBlock] at hg)⟩
  simpa using h2
theorem wp_append_copy {P:Program} {w:World} {o:Oper} {a:Act} {K:Act→World→Prop} {Q:Exit→Act→World→Prop} (s x:Operand) (t:TypeId)
  (ho:o.op=.call { callee:=.builtin .append,args:=#[s,x],argTypes:=#[t,t] })
  {e:TypeId} {i:TypeInfo} {z:Value} {size bytes:Nat} (ht:P.underlying t=some (.slice e)) (hi:P.info? e=some i) (hz:i.zero=some z)
  (hsize:i.size=size) (hby:i.bytes=bytes) (hzs:z.cells.size=size) (hsz:0 < size) {xv:Value} {m:Nat} {news:List Value} (hs:a.eval s=.slice none 0 0) (hx:a.eval x=xv) (hn:NewsIn w xv m size bytes news)
  (h:∀ v' w',w'.ownsRow w.heap.size e size v' m news→Below w.heap.size w w'→K (a.put o.dst v') w'):o.wp P a w K Q:=by
 obtain ⟨v',w',hr,h2,h3⟩:=run_append_copy (P:=P) (ty:=o.type) ht hi hz hsize hby hzs hsz hn
 unfold Oper.wp execOp
 simp only [ho,resolve,invoke,builtin,Sem.run_bind,Sem.run_pure,Result.andThen_ok,List.map_toArray,List.map_cons,List.map_nil,hs,hx,hr]
 exact h v' w' h2 h3
theorem wpList_append_copy {P:Program} {w:World} {ops:Array Oper} {rest:List Oper} {o:Oper} {a:Act} {Q:Exit→Act→World→Prop} (hgd:o.guard=none) (s x:Operand) (t:TypeId)
  (ho:o.op=.call { callee:=.builtin .append,args:=#[s,x],argTypes:=#[t,t] })
  {e:TypeId} {i:TypeInfo} {z:Value} {size bytes:Nat} (ht:P.underlying t=some (.slice e)) (hi:P.info? e=some i) (hz:i.zero=some z)
  (hsize:i.size=size) (hby:i.bytes=bytes) (hzs:z.cells.size=size) (hsz:0 < size) {xv:Value} {m:Nat} {news:List Value} (hs:a.eval s=.slice none 0 0) (hx:a.eval x=xv) (hn:NewsIn w xv m size bytes news)
  (h:∀ v' w',w'.ownsRow w.heap.size e size v' m news→Below w.heap.size w w'→wpList P ops Q rest (a.put o.dst v') w'):wpList P ops Q (o :: rest) a w :=
 wpList_plain hgd fun K hK=>wp_append_copy s x t ho ht hi hz hsize hby hzs hsz hs hx hn fun v' w' h2 h3=>hK _ _ (h v' w' h2 h3)
theorem step_append_copy {P:Program} {w:World} {ops:Array Oper} {o:Oper} {a:Act} {K:Act→World→Prop} {Q:Exit→Act→World→Prop} {E:Prop} (hgd:o.guard=none) (s x:Operand) (t:TypeId)
  (ho:o.op=.call { callee:=.builtin .append,args:=#[s,x],argTypes:=#[t,t] })
  {e:TypeId} {i:TypeInfo} {z:Value} {size bytes:Nat} (ht:P.underlying t=some (.slice e)) (hi:P.info? e=some i) (hz:i.zero=some z)
  (hsize:i.size=size) (hby:i.bytes=bytes) (hzs:z.cells.size=size) (hsz:0 < size) {xv:Value} {m:Nat} {news:List Value} (hs:a.eval s=.slice none 0 0) (hx:a.eval x=xv) (hn:NewsIn w xv m size bytes news)
  (h:∀ v' w',w'.ownsRow w.heap.size e size v' m news→Below w.heap.size w w'→K (a.put o.dst v') w') :
  if Region.wanted o (yielded ops a.tmps)=true then Oper.wp P o a w K Q else E:=by
 have hw:Region.wanted o (yielded ops a.tmps)=true:=by simp [Region.wanted,hgd]
 rw [if_pos hw]
 exact wp_append_copy s x t ho ht hi hz hsize hby hzs hsz hs hx hn h
theorem info_int:(Tryz.prog.info? 3).map (fun i=>(i.zero,i.size,i.bytes))=some (some (.int .i64 0),1,8):=by kernel_rfl
theorem info_int64:(Tryz.prog.info? 2).map (fun i=>(i.zero,i.size,i.bytes))=some (some (.int .i64 0),1,8):=by kernel_rfl
theorem info_attr:(Tryz.prog.info? 69).map (fun i=>(i.zero,i.size,i.bytes))=some (some (.agg #[.string ⟨#[]⟩,.int .i64 0,.int .i64 0,.int .i64 0,.string ⟨#[]⟩,.int .i64 0,.slice none 0 0,.slice none 0 0,.slice none 0 0]),9,136):=by kernel_rfl
end Go.Proofs.YtijhdmidffenbaaGreatDoor
