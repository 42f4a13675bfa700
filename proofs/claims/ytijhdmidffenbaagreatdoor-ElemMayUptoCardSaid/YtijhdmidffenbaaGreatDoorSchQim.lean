import Derived.Test.YtijhdmidffenbaaGreatDoorSchPim
open Go.Lib (hid)
set_option linter.unusedVariables false
set_option linter.unusedSimpArgs false
namespace Go.Proofs.YtijhdmidffenbaaGreatDoor
open Go.RowKit
attribute [local irreducible] rulP attrsE wordsL thenE findA pbE hasS checkP ruleB
theorem empty_of {s:ByteArray} (h:(s.toList==([]:List UInt8))=true):s=⟨#[]⟩:=toList_inj (by
 have:s.toList=[]:=by simpa using h
 rw [this,ByteArray.toList_eq])
theorem empty_not {s:ByteArray} (h:(s.toList==([]:List UInt8))=false):¬ s=⟨#[]⟩:=fun e=>by
 rw [e,ByteArray.toList_eq] at h
 simp at h
theorem lit_eq {s:ByteArray} {l:List UInt8} (h:(s.toList==l)=true):s=⟨l.toArray⟩:=toList_inj (by
 have:s.toList=l:=by simpa using h
 rw [this,ByteArray.toList_eq])
theorem lit_ne {s:ByteArray} {l:List UInt8} (h:(s.toList==l)=false):¬ s=⟨l.toArray⟩:=fun e=>by
 rw [e,ByteArray.toList_eq] at h
 simp at h
set_option maxRecDepth 100000 in
set_option maxHeartbeats 4000000 in
theorem scheck_any {w:World} {v:Value} {n:Nd} (h:NodeV w v n) (hG:Glob w) :
  Calls Tryz.prog 28 #[v] w fun e w'=>e=.returned (.int .i64 (checkP n))∧Below w.heap.size w w':=by
 obtain ⟨vin,vat,rfl,hn⟩:=h
 obtain ⟨a1,c1,rfl⟩:=hn.is.form
 obtain ⟨a2,c2,rfl⟩:=hn.ia.form
 have hlen:=hn.is.len
 have HN:=hid hn
 have HG:=hid hG
 clear hn hG
 unfold Nd.val
 go_enter Tryz.func28,Tryz.ntmps28
 go_wp2_with fail
 generalize hw1:w.alloc (Obj.cells #[Value.string n.op,Value.string n.name,Value.slice a1 n.ins.length c1,Value.string n.out,Value.slice a2 n.attrs.length c2] 25)=W1
 have hB0:Hid (Below w.heap.size w W1):=hid (by rw [←hw1];exact (Below.refl _ w).alloc (Nat.le_refl _) _)
 have hX0:Hid (BoxN W1 w.heap.size #[Value.string n.op,Value.string n.name,Value.slice a1 n.ins.length c1,Value.string n.out,Value.slice a2 n.attrs.length c2] 25):=hid (by rw [←hw1];exact BoxN.new w _ _)
 clear hw1
 refine (rule_any n.op (HG.out.below hB0.out)).mono ?_
 rintro e w2 ⟨rfl,B2⟩
 have hr1:=hid (rulP_size n.op)
 have hr2:=hid (rulP_words n.op)
 have HRB:=hid (show (⟨(rulP n.op).1.words.toArray⟩:ByteArray)=ruleB (rulP n.op).1 by unfold ruleB;rfl)
 rw [HRB.out]
 generalize hrb:ruleB (rulP n.op).1=rb at hr1 hr2
 have HRB:=hid hrb
 clear hrb
 generalize hle:(rulP n.op).1.least=le
 generalize hmo:(rulP n.op).1.most=mo
 have HLE:=hid hle
 have HMO:=hid hmo
 clear hle hmo
 have HB2:=hid (hB0.out.trans (B2.mono hB0.out.size))
 have HX2:=hid (hX0.out.below' B2)
 clear B2
 cases hok:(rulP n.op).2 with
 | false =>
  have e:=hid (checkP_none hok)
  clear hok
  go_wp2_with fail
  go_ret
  exact ⟨ret_val (int_val e.out.symm),HB2.out.alloc HB2.out.size _⟩
 | true =>
  have HOK:=hid hok
  clear hok
  have HB3:Hid (Below w.heap.size w (w2.alloc (Obj.cells #[.int .i64 le,.int .i64 mo,.string rb] 95))):=hid (HB2.out.alloc HB2.out.size _)
  have HX3:Hid (BoxN (w2.alloc (Obj.cells #[.int .i64 le,.int .i64 mo,.string rb] 95)) w.heap.size #[Value.string n.op,Value.string n.name,Value.slice a1 n.ins.length c1,Value.string n.out,Value.slice a2 n.attrs.length c2] 25):=hid (HX2.out.below' ((Below.refl _ w2).alloc (Nat.le_refl _) _))
  have HR3:Hid (BoxN (w2.alloc (Obj.cells #[.int .i64 le,.int .i64 mo,.string rb] 95)) w2.heap.size #[.int .i64 le,.int .i64 mo,.string rb] 95):=hid (BoxN.new w2 _ _)
  have k0:(w2.alloc (Obj.cells #[.int .i64 le,.int .i64 mo,.string rb] 95)).cell? ⟨w.heap.size,0,none⟩=some (.string n.op):=HX3.out.cell 0 rfl
  have k1:(w2.alloc (Obj.cells #[.int .i64 le,.int .i64 mo,.string rb] 95)).cell? ⟨w.heap.size,1,none⟩=some (.string n.name):=HX3.out.cell 1 rfl
  have k2:(w2.alloc (Obj.cells #[.int .i64 le,.int .i64 mo,.string rb] 95)).cell? ⟨w.heap.size,2,none⟩=some (.slice a1 n.ins.length c1):=HX3.out.cell 2 rfl
  have k3:(w2.alloc (Obj.cells #[.int .i64 le,.int .i64 mo,.string rb] 95)).cell? ⟨w.heap.size,3,none⟩=some (.string n.out):=HX3.out.cell 3 rfl
  have k4:(w2.alloc (Obj.cells #[.int .i64 le,.int .i64 mo,.string rb] 95)).cell? ⟨w.heap.size,4,none⟩=some (.slice a2 n.attrs.length c2):=HX3.out.cell 4 rfl
  have r0:(w2.alloc (Obj.cells #[.int .i64 le,.int .i64 mo,.string rb] 95)).cell? ⟨w2.heap.size,0,none⟩=some (.int .i64 le):=HR3.out.cell 0 rfl
  have r1:(w2.alloc (Obj.cells #[.int .i64 le,.int .i64 mo,.string rb] 95)).cell? ⟨w2.heap.size,1,none⟩=some (.int .i64 mo):=HR3.out.cell 1 rfl
  have r2:(w2.alloc (Obj.cells #[.int .i64 le,.int .i64 mo,.string rb] 95)).cell? ⟨w2.heap.size,2,none⟩=some (.string rb):=HR3.out.cell 2 rfl
  by_cases h1:(n.ins.length:Int) < le
  ·have e:=hid (checkP_least HOK.out (by rw [HLE.out];exact h1))
   go_wp2_with fail
   go_ret
   exact ⟨ret_val (int_val e.out.symm),HB3.out⟩
  ·have H1:=hid h1
   by_cases h2:mo < (n.ins.length:Int)
   ·have e:=hid (checkP_most HOK.out (by rw [HLE.out];exact h1) (by rw [HMO.out];exact h2))
    go_wp2_with fail
    go_ret
    exact ⟨ret_val (int_val e.out.symm),HB3.out⟩
   ·have H2:=hid h2
    cases h3:(n.out.toList==([]:List UInt8)) with
    | true =>
     have e:=hid (checkP_out HOK.out (by rw [HLE.out];exact h1) (by rw [HMO.out];exact h2) (empty_of h3))
     go_wp2_with fail
     go_ret
     exact ⟨ret_val (int_val e.out.symm),HB3.out⟩
    | false =>
     have HF:Hid (Fine n):=hid ⟨HOK.out,by rw [HLE.out];exact H1.out,by rw [HMO.out];exact H2.out,empty_not h3⟩
     have HC:=hid (contains_any (HN.out.is.below HB3.out) ⟨#[]⟩)
     cases hs:hasS n.ins ⟨#[]⟩ with
     | true =>
      have e:=hid (checkP_ins HF.out hs)
      rw [hs] at HC
      clear hs
      go_wp2_with (go_at_call 55;refine HC.out.mono ?_;rintro e w3 ⟨rfl,rfl⟩)
      go_ret
      exact ⟨ret_val (int_val e.out.symm),HB3.out⟩
     | false =>
      have HI:Hid (¬ hasS n.ins ⟨#[]⟩=true):=hid (by rw [hs];decide)
      rw [hs] at HC
      clear hs
      have HA:=hid (attrs_any ⟨_,_,rfl,HN.out.below HB3.out⟩ (HG.out.below HB3.out) rb hr1.out hr2.out)
      generalize hea:attrsE n.attrs (wordsL rb)=ea at HA
      have EA:Hid (attrsE n.attrs (wordsL (ruleB (rulP n.op).1))=ea):=hid (by rw [HRB.out];exact hea)
      clear hea
      by_cases h5:ea=0
      ·subst h5
       have HT:Hid (∀ W,Below w.heap.size w W→Calls Tryz.prog 57 #[.agg #[.string n.op,.string n.name,.slice a1 n.ins.length c1,.string n.out,.slice a2 n.attrs.length c2]] W fun e w'=>Below W.heap.size W w'∧∃ v',e=.returned (.tuple #[v',.int .i64 (thenE n.attrs).2])∧StrsIn w' v' (thenE n.attrs).1):=hid (fun W hW=>then_any ⟨_,_,rfl,HN.out.below hW⟩ (HG.out.below hW))
       generalize het:(thenE n.attrs).2=et at HT
       have ET:=hid het
       clear het
       by_cases h6:et=0
       ·subst h6
        have HFi:Hid (∀ W,Below w.heap.size w W→Calls Tryz.prog 58 #[.agg #[.string n.op,.string n.name,.slice a1 n.ins.length c1,.string n.out,.slice a2 n.attrs.length c2],.string ⟨#[118,97,108,117,101]⟩,.int .i64 4] W fun e w'=>Below W.heap.size W w'∧∃ va,e=.returned (.tuple #[va,.bool (findA n.attrs ⟨#[118,97,108,117,101]⟩ 4).isSome])∧AttrV w' va ((findA n.attrs ⟨#[118,97,108,117,101]⟩ 4).getD At.zero)):=hid (fun W hW=>find_any ⟨_,_,rfl,HN.out.below hW⟩ _ _)
        cases hfa:findA n.attrs ⟨#[118,97,108,117,101]⟩ 4 with
        | none =>
         have e:=hid (checkP_end HF.out HI.out EA.out ET.out hfa)
         rw [hfa] at HFi
         simp only [Option.isSome_none,Option.getD_none] at HFi
         clear hfa
         go_wp2_with (first | (go_at_call 55;refine HC.out.mono ?_;rintro e w3 ⟨rfl,rfl⟩) | (go_at_call 56;refine HA.out.mono ?_;rintro e w4 ⟨rfl,B4⟩;have HB4:=hid (HB3.out.trans (B4.mono HB3.out.size));have HX4:=hid (HX3.out.below' B4);clear B4;have w4k0:w4.cell? ⟨w.heap.size,0,none⟩=some (.string n.op):=HX4.out.cell 0 rfl;have w4k1:w4.cell? ⟨w.heap.size,1,none⟩=some (.string n.name):=HX4.out.cell 1 rfl;have w4k2:w4.cell? ⟨w.heap.size,2,none⟩=some (.slice a1 n.ins.length c1):=HX4.out.cell 2 rfl;have w4k3:w4.cell? ⟨w.heap.size,3,none⟩=some (.string n.out):=HX4.out.cell 3 rfl;have w4k4:w4.cell? ⟨w.heap.size,4,none⟩=some (.slice a2 n.attrs.length c2):=HX4.out.cell 4 rfl) | (go_at_call 57;refine (HT.out _ HB4.out).mono ?_;rintro e w5 ⟨B5,v5,rfl,hs5⟩;obtain ⟨a5,c5,rfl⟩:=hs5.form;have HB5:=hid (HB4.out.trans (B5.mono HB4.out.size));have HX5:=hid (HX4.out.below' B5);clear B5 hs5;have w5k0:w5.cell? ⟨w.heap.size,0,none⟩=some (.string n.op):=HX5.out.cell 0 rfl;have w5k1:w5.cell? ⟨w.heap.size,1,none⟩=some (.string n.name):=HX5.out.cell 1 rfl;have w5k2:w5.cell? ⟨w.heap.size,2,none⟩=some (.slice a1 n.ins.length c1):=HX5.out.cell 2 rfl;have w5k3:w5.cell? ⟨w.heap.size,3,none⟩=some (.string n.out):=HX5.out.cell 3 rfl;have w5k4:w5.cell? ⟨w.heap.size,4,none⟩=some (.slice a2 n.attrs.length c2):=HX5.out.cell 4 rfl) | (go_at_call 58;refine (HFi.out _ HB5.out).mono ?_;rintro e w6 ⟨B6,va,rfl,vd,vx,vi,rfl,hna⟩;have HNA:=hid hna;obtain ⟨ad,cd,rfl⟩:=hna.id.shape;obtain ⟨ax,cx,rfl⟩:=hna.ix.shape;obtain ⟨ai,ci,rfl⟩:=hna.ii.shape;clear hna;unfold At.val;have HB6:=hid (HB5.out.trans (B6.mono HB5.out.size));have HX6:=hid (HX5.out.below' B6);clear B6;have w6k0:w6.cell? ⟨w.heap.size,0,none⟩=some (.string n.op):=HX6.out.cell 0 rfl;have w6k1:w6.cell? ⟨w.heap.size,1,none⟩=some (.string n.name):=HX6.out.cell 1 rfl;have w6k2:w6.cell? ⟨w.heap.size,2,none⟩=some (.slice a1 n.ins.length c1):=HX6.out.cell 2 rfl;have w6k3:w6.cell? ⟨w.heap.size,3,none⟩=some (.string n.out):=HX6.out.cell 3 rfl;have w6k4:w6.cell? ⟨w.heap.size,4,none⟩=some (.slice a2 n.attrs.length c2):=HX6.out.cell 4 rfl))
         go_ret
         exact ⟨ret_val (int_val e.out.symm),HB6.out.alloc HB6.out.size _⟩
        | some a =>
         have HFA:=hid hfa
         rw [hfa] at HFi
         simp only [Option.isSome_some,Option.getD_some] at HFi
         clear hfa
         cases hcn:(n.op.toList==([67,111,110,115,116,97,110,116]:List UInt8)) with
         | false =>
          have e:=hid (checkP_other HF.out HI.out EA.out ET.out HFA.out (lit_ne hcn))
          go_wp2_with (first | (go_at_call 55;refine HC.out.mono ?_;rintro e w3 ⟨rfl,rfl⟩) | (go_at_call 56;refine HA.out.mono ?_;rintro e w4 ⟨rfl,B4⟩;have HB4:=hid (HB3.out.trans (B4.mono HB3.out.size));have HX4:=hid (HX3.out.below' B4);clear B4;have w4k0:w4.cell? ⟨w.heap.size,0,none⟩=some (.string n.op):=HX4.out.cell 0 rfl;have w4k1:w4.cell? ⟨w.heap.size,1,none⟩=some (.string n.name):=HX4.out.cell 1 rfl;have w4k2:w4.cell? ⟨w.heap.size,2,none⟩=some (.slice a1 n.ins.length c1):=HX4.out.cell 2 rfl;have w4k3:w4.cell? ⟨w.heap.size,3,none⟩=some (.string n.out):=HX4.out.cell 3 rfl;have w4k4:w4.cell? ⟨w.heap.size,4,none⟩=some (.slice a2 n.attrs.length c2):=HX4.out.cell 4 rfl) | (go_at_call 57;refine (HT.out _ HB4.out).mono ?_;rintro e w5 ⟨B5,v5,rfl,hs5⟩;obtain ⟨a5,c5,rfl⟩:=hs5.form;have HB5:=hid (HB4.out.trans (B5.mono HB4.out.size));have HX5:=hid (HX4.out.below' B5);clear B5 hs5;have w5k0:w5.cell? ⟨w.heap.size,0,none⟩=some (.string n.op):=HX5.out.cell 0 rfl;have w5k1:w5.cell? ⟨w.heap.size,1,none⟩=some (.string n.name):=HX5.out.cell 1 rfl;have w5k2:w5.cell? ⟨w.heap.size,2,none⟩=some (.slice a1 n.ins.length c1):=HX5.out.cell 2 rfl;have w5k3:w5.cell? ⟨w.heap.size,3,none⟩=some (.string n.out):=HX5.out.cell 3 rfl;have w5k4:w5.cell? ⟨w.heap.size,4,none⟩=some (.slice a2 n.attrs.length c2):=HX5.out.cell 4 rfl) | (go_at_call 58;refine (HFi.out _ HB5.out).mono ?_;rintro e w6 ⟨B6,va,rfl,vd,vx,vi,rfl,hna⟩;have HNA:=hid hna;obtain ⟨ad,cd,rfl⟩:=hna.id.shape;obtain ⟨ax,cx,rfl⟩:=hna.ix.shape;obtain ⟨ai,ci,rfl⟩:=hna.ii.shape;clear hna;unfold At.val;have HB6:=hid (HB5.out.trans (B6.mono HB5.out.size));have HX6:=hid (HX5.out.below' B6);clear B6;have w6k0:w6.cell? ⟨w.heap.size,0,none⟩=some (.string n.op):=HX6.out.cell 0 rfl;have w6k1:w6.cell? ⟨w.heap.size,1,none⟩=some (.string n.name):=HX6.out.cell 1 rfl;have w6k2:w6.cell? ⟨w.heap.size,2,none⟩=some (.slice a1 n.ins.length c1):=HX6.out.cell 2 rfl;have w6k3:w6.cell? ⟨w.heap.size,3,none⟩=some (.string n.out):=HX6.out.cell 3 rfl;have w6k4:w6.cell? ⟨w.heap.size,4,none⟩=some (.slice a2 n.attrs.length c2):=HX6.out.cell 4 rfl;have HX7:=hid (HX6.out.below' ((Below.refl _ w6).alloc (Nat.le_refl _) (Obj.cells #[.string a.name,.int .i64 a.kind,.int .i64 a.f,.int .i64 a.i,.string a.s,.int .i64 a.typ,.slice ad a.dims.length cd,.slice ax a.data.length cx,.slice ai a.ints.length ci] 69)));have w7k0:(w6.alloc (Obj.cells #[.string a.name,.int .i64 a.kind,.int .i64 a.f,.int .i64 a.i,.string a.s,.int .i64 a.typ,.slice ad a.dims.length cd,.slice ax a.data.length cx,.slice ai a.ints.length ci] 69)).cell? ⟨w.heap.size,0,none⟩=some (.string n.op):=HX7.out.cell 0 rfl))
          go_ret
          exact ⟨ret_val (int_val e.out.symm),HB6.out.alloc HB6.out.size _⟩
         | true =>
          have e:=hid (checkP_const HF.out HI.out EA.out ET.out HFA.out (lit_eq hcn))
          go_wp2_with (first | (go_at_call 55;refine HC.out.mono ?_;rintro e w3 ⟨rfl,rfl⟩) | (go_at_call 56;refine HA.out.mono ?_;rintro e w4 ⟨rfl,B4⟩;have HB4:=hid (HB3.out.trans (B4.mono HB3.out.size));have HX4:=hid (HX3.out.below' B4);clear B4;have w4k0:w4.cell? ⟨w.heap.size,0,none⟩=some (.string n.op):=HX4.out.cell 0 rfl;have w4k1:w4.cell? ⟨w.heap.size,1,none⟩=some (.string n.name):=HX4.out.cell 1 rfl;have w4k2:w4.cell? ⟨w.heap.size,2,none⟩=some (.slice a1 n.ins.length c1):=HX4.out.cell 2 rfl;have w4k3:w4.cell? ⟨w.heap.size,3,none⟩=some (.string n.out):=HX4.out.cell 3 rfl;have w4k4:w4.cell? ⟨w.heap.size,4,none⟩=some (.slice a2 n.attrs.length c2):=HX4.out.cell 4 rfl) | (go_at_call 57;refine (HT.out _ HB4.out).mono ?_;rintro e w5 ⟨B5,v5,rfl,hs5⟩;obtain ⟨a5,c5,rfl⟩:=hs5.form;have HB5:=hid (HB4.out.trans (B5.mono HB4.out.size));have HX5:=hid (HX4.out.below' B5);clear B5 hs5;have w5k0:w5.cell? ⟨w.heap.size,0,none⟩=some (.string n.op):=HX5.out.cell 0 rfl;have w5k1:w5.cell? ⟨w.heap.size,1,none⟩=some (.string n.name):=HX5.out.cell 1 rfl;have w5k2:w5.cell? ⟨w.heap.size,2,none⟩=some (.slice a1 n.ins.length c1):=HX5.out.cell 2 rfl;have w5k3:w5.cell? ⟨w.heap.size,3,none⟩=some (.string n.out):=HX5.out.cell 3 rfl;have w5k4:w5.cell? ⟨w.heap.size,4,none⟩=some (.slice a2 n.attrs.length c2):=HX5.out.cell 4 rfl) | (go_at_call 58;refine (HFi.out _ HB5.out).mono ?_;rintro e w6 ⟨B6,va,rfl,vd,vx,vi,rfl,hna⟩;have HNA:=hid hna;obtain ⟨ad,cd,rfl⟩:=hna.id.shape;obtain ⟨ax,cx,rfl⟩:=hna.ix.shape;obtain ⟨ai,ci,rfl⟩:=hna.ii.shape;clear hna;unfold At.val;have HB6:=hid (HB5.out.trans (B6.mono HB5.out.size));have HX6:=hid (HX5.out.below' B6);clear B6;have w6k0:w6.cell? ⟨w.heap.size,0,none⟩=some (.string n.op):=HX6.out.cell 0 rfl;have w6k1:w6.cell? ⟨w.heap.size,1,none⟩=some (.string n.name):=HX6.out.cell 1 rfl;have w6k2:w6.cell? ⟨w.heap.size,2,none⟩=some (.slice a1 n.ins.length c1):=HX6.out.cell 2 rfl;have w6k3:w6.cell? ⟨w.heap.size,3,none⟩=some (.string n.out):=HX6.out.cell 3 rfl;have w6k4:w6.cell? ⟨w.heap.size,4,none⟩=some (.slice a2 n.attrs.length c2):=HX6.out.cell 4 rfl;have HX7:=hid (HX6.out.below' ((Below.refl _ w6).alloc (Nat.le_refl _) (Obj.cells #[.string a.name,.int .i64 a.kind,.int .i64 a.f,.int .i64 a.i,.string a.s,.int .i64 a.typ,.slice ad a.dims.length cd,.slice ax a.data.length cx,.slice ai a.ints.length ci] 69)));have w7k0:(w6.alloc (Obj.cells #[.string a.name,.int .i64 a.kind,.int .i64 a.f,.int .i64 a.i,.string a.s,.int .i64 a.typ,.slice ad a.dims.length cd,.slice ax a.data.length cx,.slice ai a.ints.length ci] 69)).cell? ⟨w.heap.size,0,none⟩=some (.string n.op):=HX7.out.cell 0 rfl) | (go_at_call 59;refine (pb_any a.typ a.dims a.data (HNA.out.id.below ((Below.refl _ w6).alloc (Nat.le_refl _) _)) (HNA.out.ix.below ((Below.refl _ w6).alloc (Nat.le_refl _) _))).mono ?_;rintro e w8 ⟨rfl,B8⟩;have HB8:=hid ((HB6.out.alloc HB6.out.size _).trans (B8.mono (HB6.out.alloc HB6.out.size _).size));clear B8))
          go_ret
          exact ⟨ret_val (int_val e.out.symm),HB8.out⟩
       ·have e:=hid ((checkP_then HF.out HI.out EA.out (by rw [ET.out];exact h6)).trans ET.out)
        go_wp2_with (first | (go_at_call 55;refine HC.out.mono ?_;rintro e w3 ⟨rfl,rfl⟩) | (go_at_call 56;refine HA.out.mono ?_;rintro e w4 ⟨rfl,B4⟩;have HB4:=hid (HB3.out.trans (B4.mono HB3.out.size));have HX4:=hid (HX3.out.below' B4);clear B4;have w4k0:w4.cell? ⟨w.heap.size,0,none⟩=some (.string n.op):=HX4.out.cell 0 rfl;have w4k1:w4.cell? ⟨w.heap.size,1,none⟩=some (.string n.name):=HX4.out.cell 1 rfl;have w4k2:w4.cell? ⟨w.heap.size,2,none⟩=some (.slice a1 n.ins.length c1):=HX4.out.cell 2 rfl;have w4k3:w4.cell? ⟨w.heap.size,3,none⟩=some (.string n.out):=HX4.out.cell 3 rfl;have w4k4:w4.cell? ⟨w.heap.size,4,none⟩=some (.slice a2 n.attrs.length c2):=HX4.out.cell 4 rfl) | (go_at_call 57;refine (HT.out _ HB4.out).mono ?_;rintro e w5 ⟨B5,v5,rfl,hs5⟩;obtain ⟨a5,c5,rfl⟩:=hs5.form;have HB5:=hid (HB4.out.trans (B5.mono HB4.out.size));have HX5:=hid (HX4.out.below' B5);clear B5 hs5;have w5k0:w5.cell? ⟨w.heap.size,0,none⟩=some (.string n.op):=HX5.out.cell 0 rfl;have w5k1:w5.cell? ⟨w.heap.size,1,none⟩=some (.string n.name):=HX5.out.cell 1 rfl;have w5k2:w5.cell? ⟨w.heap.size,2,none⟩=some (.slice a1 n.ins.length c1):=HX5.out.cell 2 rfl;have w5k3:w5.cell? ⟨w.heap.size,3,none⟩=some (.string n.out):=HX5.out.cell 3 rfl;have w5k4:w5.cell? ⟨w.heap.size,4,none⟩=some (.slice a2 n.attrs.length c2):=HX5.out.cell 4 rfl))
        go_ret
        exact ⟨ret_val (int_val e.out.symm),HB5.out⟩
      ·have e:=hid ((checkP_attrs HF.out HI.out (by rw [EA.out];exact h5)).trans EA.out)
       go_wp2_with (first | (go_at_call 55;refine HC.out.mono ?_;rintro e w3 ⟨rfl,rfl⟩) | (go_at_call 56;refine HA.out.mono ?_;rintro e w4 ⟨rfl,B4⟩;have HB4:=hid (HB3.out.trans (B4.mono HB3.out.size));have HX4:=hid (HX3.out.below' B4);clear B4;have w4k0:w4.cell? ⟨w.heap.size,0,none⟩=some (.string n.op):=HX4.out.cell 0 rfl;have w4k1:w4.cell? ⟨w.heap.size,1,none⟩=some (.string n.name):=HX4.out.cell 1 rfl;have w4k2:w4.cell? ⟨w.heap.size,2,none⟩=some (.slice a1 n.ins.length c1):=HX4.out.cell 2 rfl;have w4k3:w4.cell? ⟨w.heap.size,3,none⟩=some (.string n.out):=HX4.out.cell 3 rfl;have w4k4:w4.cell? ⟨w.heap.size,4,none⟩=some (.slice a2 n.attrs.length c2):=HX4.out.cell 4 rfl))
       go_ret
       exact ⟨ret_val (int_val e.out.symm),HB4.out⟩
end Go.Proofs.YtijhdmidffenbaaGreatDoor
