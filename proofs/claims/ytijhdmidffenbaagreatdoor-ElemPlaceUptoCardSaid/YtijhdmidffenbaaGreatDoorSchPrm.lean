import Derived.Test.YtijhdmidffenbaaGreatDoorSchRrm
import Derived.Test.YtijhdmidffenbaaGreatDoorSchTrm
import Derived.Test.YtijhdmidffenbaaGreatDoorSchBrm
set_option linter.unusedVariables false
set_option linter.unusedSimpArgs false
namespace Go.Proofs.YtijhdmidffenbaaGreatDoor
open Go.RowKit
def ruleB (r:Rul):ByteArray:=⟨r.words.toArray⟩
def hasS (ss:List ByteArray) (x:ByteArray):Bool:=ss.any fun s=>decide (s=x)
theorem hasS_iff {ss:List ByteArray} {x:ByteArray}:hasS ss x=true↔x ∈ ss:=by
 unfold hasS;rw [List.any_eq_true];constructor
 ·rintro ⟨s,hs,e⟩;rw [decide_eq_true_eq] at e;exact e ▸ hs
 ·intro h;exact ⟨x,h,by simp⟩
def checkP (n:Nd):Int :=
 if (rulP n.op).2=false then 5
 else if (n.ins.length:Int) < (rulP n.op).1.least then 4
 else if (rulP n.op).1.most < (n.ins.length:Int) then 4
 else if n.out=⟨#[]⟩ then 5
 else if hasS n.ins ⟨#[]⟩=true then 5
 else if attrsE n.attrs (wordsL (ruleB (rulP n.op).1))≠0 then attrsE n.attrs (wordsL (ruleB (rulP n.op).1))
 else if (thenE n.attrs).2≠0 then (thenE n.attrs).2
 else match findA n.attrs ⟨#[118,97,108,117,101]⟩ 4 with
  | none=>0
  | some a=>if n.op=⟨#[67,111,110,115,116,97,110,116]⟩ then pbE a.typ a.dims a.data else 0
theorem good_of {s:ByteArray} (h1:s.size≤1000) (h2:s.data.toList.getLast? ≠ some 32):GoodW s where
 small:=h1
 more:=by
  intro nm h;unfold hasW Lib.hasPrefix at h;obtain ⟨t,ht⟩:=List.isPrefixOf_iff_prefix.1 h;have hl:s.data.toList.length=nm.data.toList.length+1+t.length:=by rw [←ht,List.length_append,List.length_append];rfl
  have e1:s.size=s.data.toList.length:=Array.length_toList.symm;have e2:nm.size=nm.data.toList.length:=Array.length_toList.symm;cases t with
  | nil =>
   exfalso;apply h2;rw [←ht,List.append_nil];simp
  | cons a t=>simp at hl;omega
def goodQ (r:Rul):Bool:=decide (r.words.length≤1000)&&(wordsL (ruleB r)).all fun s=>decide (s.size≤1000)&&decide (s.data.toList.getLast? ≠ some 32)
theorem goodQ_out {r:Rul} (h:goodQ r=true):(ruleB r).size≤1000∧∀ s ∈ wordsL (ruleB r),GoodW s:=by
 unfold goodQ at h;rw [Bool.and_eq_true,List.all_eq_true] at h;refine ⟨by simpa [ruleB,ByteArray.size] using h.1,fun s hs=>?_⟩;have:=h.2 s hs;rw [Bool.and_eq_true] at this;exact good_of (by simpa using this.1) (by simpa using this.2)
theorem look_mem {tab:List (List UInt8 × Rul)} {op:ByteArray} {r:Rul} (h:look tab op=some r):∃ l,(l,r) ∈ tab:=by
 induction tab with
 | nil=>cases h
 | cons p t ih =>
  obtain ⟨l,r2⟩:=p;unfold look at h;split at h
  ·cases h;exact ⟨l,List.mem_cons_self ..⟩
  ·obtain ⟨l2,h2⟩:=ih h;exact ⟨l2,List.mem_cons_of_mem _ h2⟩
theorem tab_good:(tab0.map Prod.snd).all goodQ=true:=by decide +kernel
theorem one_good:goodQ ⟨1,1,[]⟩=true:=by decide +kernel
theorem rulP_good (op:ByteArray):goodQ (rulP op).1=true:=by
 unfold rulP;split
 ·rename_i r h
  obtain ⟨l,hl⟩:=look_mem h;exact List.all_eq_true.1 tab_good r (List.mem_map.2 ⟨_,hl,rfl⟩)
 ·exact one_good
theorem rulP_size (op:ByteArray):(ruleB (rulP op).1).size≤1000:=(goodQ_out (rulP_good op)).1
theorem rulP_words (op:ByteArray):∀ s ∈ wordsL (ruleB (rulP op).1),GoodW s:=(goodQ_out (rulP_good op)).2
theorem contains_any {w:World} {v:Value} {ss:List ByteArray} (h:StrsIn w v ss) (x:ByteArray) :
  Calls Tryz.prog 55 #[v,.string x] w fun e w'=>e=.returned (.bool (hasS ss x))∧w=w':=by
 cases h with
 | empty a0 cap =>
  refine (Tryz.slices_Contains_string_empty a0 cap x w).mono ?_;rintro e w' ⟨rfl,rfl⟩;exact ⟨rfl,rfl⟩
 | row b off cap _ h0 hc hb hr hlen =>
  refine (Tryz.slices_Contains_string b off ss.length cap ss x w (Nat.le_refl _) (by omega) (fun j hj=>by
   rw [hr j _ (List.getElem?_eq_getElem hj)];simp [List.getD,List.getElem?_eq_getElem hj])).mono ?_
  rintro e w' ⟨rfl,rfl⟩;refine ⟨?_,rfl⟩;rw [List.take_length]
  congr 2
  rw [Bool.eq_iff_iff,Lib.containsS_iff,hasS_iff]
theorem checkP_none {n:Nd} (h:(rulP n.op).2=false):checkP n=5:=by unfold checkP;rw [if_pos h]
theorem checkP_least {n:Nd} (h:(rulP n.op).2=true) (g:(n.ins.length:Int) < (rulP n.op).1.least):checkP n=4:=by unfold checkP;rw [if_neg (by rw [h];decide),if_pos g]
theorem checkP_most {n:Nd} (h:(rulP n.op).2=true) (g:¬ (n.ins.length:Int) < (rulP n.op).1.least) (m:(rulP n.op).1.most < (n.ins.length:Int)):checkP n=4:=by unfold checkP;rw [if_neg (by rw [h];decide),if_neg g,if_pos m]
theorem checkP_out {n:Nd} (h:(rulP n.op).2=true) (g:¬ (n.ins.length:Int) < (rulP n.op).1.least) (m:¬ (rulP n.op).1.most < (n.ins.length:Int)) (o:n.out=⟨#[]⟩):checkP n=5:=by unfold checkP;rw [if_neg (by rw [h];decide),if_neg g,if_neg m,if_pos o]
structure Fine (n:Nd):Prop where
 ok:(rulP n.op).2=true
 least:¬ (n.ins.length:Int) < (rulP n.op).1.least
 most:¬ (rulP n.op).1.most < (n.ins.length:Int)
 out:¬ n.out=⟨#[]⟩
theorem checkP_ins {n:Nd} (h:Fine n) (i:hasS n.ins ⟨#[]⟩=true):checkP n=5:=by unfold checkP;rw [if_neg (by rw [h.ok];decide),if_neg h.least,if_neg h.most,if_neg h.out,if_pos i]
theorem checkP_attrs {n:Nd} (h:Fine n) (i:¬ hasS n.ins ⟨#[]⟩=true) (a:attrsE n.attrs (wordsL (ruleB (rulP n.op).1))≠0):checkP n=attrsE n.attrs (wordsL (ruleB (rulP n.op).1)):=by
 unfold checkP;rw [if_neg (by rw [h.ok];decide),if_neg h.least,if_neg h.most,if_neg h.out,if_neg i,if_pos a]
theorem checkP_then {n:Nd} (h:Fine n) (i:¬ hasS n.ins ⟨#[]⟩=true) (a:attrsE n.attrs (wordsL (ruleB (rulP n.op).1))=0) (t:(thenE n.attrs).2≠0):checkP n=(thenE n.attrs).2:=by
 unfold checkP;rw [if_neg (by rw [h.ok];decide),if_neg h.least,if_neg h.most,if_neg h.out,if_neg i,if_neg (fun k=>k a),if_pos t]
theorem checkP_end {n:Nd} (h:Fine n) (i:¬ hasS n.ins ⟨#[]⟩=true) (a:attrsE n.attrs (wordsL (ruleB (rulP n.op).1))=0) (t:(thenE n.attrs).2=0) (f:findA n.attrs ⟨#[118,97,108,117,101]⟩ 4=none):checkP n=0:=by
 unfold checkP;rw [if_neg (by rw [h.ok];decide),if_neg h.least,if_neg h.most,if_neg h.out,if_neg i,if_neg (fun k=>k a),if_neg (fun k=>k t),f]
theorem checkP_other {n:Nd} (h:Fine n) (i:¬ hasS n.ins ⟨#[]⟩=true) (a:attrsE n.attrs (wordsL (ruleB (rulP n.op).1))=0) (t:(thenE n.attrs).2=0) {x:At} (f:findA n.attrs ⟨#[118,97,108,117,101]⟩ 4=some x) (c:¬ n.op=⟨#[67,111,110,115,116,97,110,116]⟩):checkP n=0:=by
 unfold checkP;rw [if_neg (by rw [h.ok];decide),if_neg h.least,if_neg h.most,if_neg h.out,if_neg i,if_neg (fun k=>k a),if_neg (fun k=>k t),f];simp only [];rw [if_neg c]
theorem checkP_const {n:Nd} (h:Fine n) (i:¬ hasS n.ins ⟨#[]⟩=true) (a:attrsE n.attrs (wordsL (ruleB (rulP n.op).1))=0) (t:(thenE n.attrs).2=0) {x:At} (f:findA n.attrs ⟨#[118,97,108,117,101]⟩ 4=some x) (c:n.op=⟨#[67,111,110,115,116,97,110,116]⟩):checkP n=pbE x.typ x.dims x.data:=by
 unfold checkP;rw [if_neg (by rw [h.ok];decide),if_neg h.least,if_neg h.most,if_neg h.out,if_neg i,if_neg (fun k=>k a),if_neg (fun k=>k t),f];simp only [];rw [if_pos c]
end Go.Proofs.YtijhdmidffenbaaGreatDoor
