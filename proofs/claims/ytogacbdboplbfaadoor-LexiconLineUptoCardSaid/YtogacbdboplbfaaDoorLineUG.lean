/- Part 7 of the texts of this claim: the evaluator, and what it says of the program's functions. -/
import Derived.Test.YtogacbdboplbfaaDoorLineUF
import Derived.Test.YtogacbdboplbfaaDoorLineUD
import Derived.JoinedCond
set_option linter.unusedSectionVars false
set_option linter.unusedVariables false
set_option linter.unusedSimpArgs false
set_option linter.constructorNameAsVariable false
/- Lexicon: the small functions of the reference: a field, a word, a byte's place. -/
section
open Go Go.Vm Go.Proofs
namespace Go.Proofs.Lex
/-- The place of a byte, or the length. -/
def idxB (c:UInt8) (l:List UInt8):Nat:=l.findIdx (· == c)
def mkB (l:List UInt8):ByteArray:=⟨l.toArray⟩
theorem mkB_data (l:List UInt8):(mkB l).data.toList=l:=rfl
theorem size_list (s:ByteArray):s.size=s.data.toList.length:=by simp
/-- A string up to its first blank, and the rest. -/
def wordF (s:ByteArray):ByteArray × ByteArray × Bool :=
  if idxB 32 s.data.toList < s.data.toList.length then (mkB (s.data.toList.take (idxB 32 s.data.toList)),mkB (s.data.toList.drop (idxB 32 s.data.toList + 1)),true) else (s,emp,false)
section
variable {X:Ext} {call:Caller} {lf:Nat}
theorem byteN_list {s:ByteArray} {i:Nat} (h:i < s.data.toList.length):byteN s i=s.data.toList[i].toNat:=by
  have h' : i < s.data.size:=by simpa using h
  unfold byteN Array.getD
  rw [dif_pos h']
  rfl
theorem u8_ne {b c:UInt8} (h:b ≠ c):((b.toNat:Int) == (c.toNat:Int))=false:=by
  rw [beq_eq_false_iff_ne]
  intro e
  exact h (UInt8.toNat_inj.1 (by omega))
end
section
variable [Fixed] {X:Ext}
abbrev aW:Arg (ByteArray × ByteArray × Bool):=Arg.tup3 aS aS aB
theorem call51 (hX:ExtOk Tryd.prog X) (hL:XL X) (s:ByteArray):CallAt Tryd.prog 51 [aS.enc s] [] 0 (aS.enc (dashS s)) []:=by
  refine run_res (B:=aS) (lf:=0) (fg:=noFg) (σ' := []) (r:=st (dashS s)) hX (callerOf_ok (SpecOk.none' (P:=Tryd.prog))) (hL.dom 51 rfl rfl) Tryd.func51 (by kernel_rfl) ?_ (aS.de _)
  unfold dashS
  by_cases e:s=emp
  · rw [if_pos e]
    exact (f51_P0 s X _ 0).1 (by unfold f51_q0; rw [show (s.toList == (ByteArray.mk #[]).toList)=true from eqB_iff.2 e])
  · rw [if_neg e]
    exact (f51_P0 s X _ 0).2 (by unfold f51_q0; rw [show (s.toList == (ByteArray.mk #[]).toList)=false from eqB_ne.2 e])
end
end Go.Proofs.Lex
end
/- Lexicon: the reference texts, walked (printed) -/
section
open Go Go.Vm Go.Proofs
namespace Go.Proofs.Lex
def f52_F0 (F0:List Feat)(z3:Nat→ByteArray)(i0:Nat):St :=
  stOf 30 [5,6,7,8,9,10,11,12,13,14,15,16,17,18,19,20,21,22,23,24,25,26,27,28] [(0,lro F0.length 2 (F0.flatMap featC)),(2,st (ByteArray.mk #[])),(3,st (z3 i0)),(4,i6 (↑i0:Int))] []
def f52_S0 (F0:List Feat):St :=
  stOf 30 [] [(0,lro F0.length 2 (F0.flatMap featC)),(2,st (ByteArray.mk #[])),(3,st (ByteArray.mk #[])),(4,i6 0)] []
abbrev f52_D0:List Nat:=[10,9,28,27,26,25,24,23,22,21,20,19,18,17,16,15,14,13,12,11,8,7,6,5]
theorem f52_L0 (F0:List Feat)(z3:Nat→ByteArray)(X:Ext)(call:Caller)(lf n:Nat)(x:Ex) (S' : St)
 (e0:z3 0=ByteArray.mk #[])
 (hn:n<lf)
 (hs:∀ j,j<n→∃ Sx,vexec Tryd.prog X call lf 0 noFg (loopN Tryd.f52 0) (f52_F0 F0 z3 j)=some (Ex.normal,Sx)∧forget f52_D0 Sx=(f52_F0 F0 z3 (j + 1)))
 (he:vexec Tryd.prog X call lf 0 noFg (loopN Tryd.f52 0) (f52_F0 F0 z3 n)=some (x,S'))
 (hx:x ≠ Ex.normal):vexec Tryd.prog X call lf 0 noFg (Go.Code.loop (loopN Tryd.f52 0)) (f52_S0 F0)=some (x,S') :=
  loop_runK (by kernel_rfl) (fun j=>(f52_F0 F0 z3 j)) n hn (by show forget f52_D0 (f52_S0 F0)=(f52_F0 F0 z3 0); unfold f52_F0; rw [e0]; show _=_; kernel_rfl) hs he hx
theorem f52_s0_tt (F0:List Feat)(z3:Nat→ByteArray)(X:Ext)(call:Caller)(lf i0:Nat)(x14 a c:ByteArray)(r18:List AV)(x21 x22 d e:ByteArray)(r25:List AV)(x28:ByteArray)
 (h0:decide ((↑i0:Int)<(↑F0.length:Int))=true)
 (h1:decide ((↑i0:Int)>0)=true)
 (h2:keep [] (binv Tryd.prog BinOp.add 9 (st (z3 i0)) (st (ByteArray.mk #[32])))=some (st x14,[]))
 (h3:keep [] (indexAddrv Tryd.prog 31 [] (lro F0.length 2 (F0.flatMap featC)) (i6 (↑i0:Int)))=some (AV.eaddr (st a::st c::r18),[]))
 (h4:keep [] (binv Tryd.prog BinOp.add 9 (st x14) (st a))=some (st x21,[]))
 (h5:keep [] (binv Tryd.prog BinOp.add 9 (st x21) (st (ByteArray.mk #[61])))=some (st x22,[]))
 (h6:keep [] (indexAddrv Tryd.prog 31 [] (lro F0.length 2 (F0.flatMap featC)) (i6 (↑i0:Int)))=some (AV.eaddr (st d::st e::r25),[]))
 (h7:keep [] (binv Tryd.prog BinOp.add 9 (st x22) (st e))=some (st x28,[]))
 (e0:z3 (i0 + 1)=x28)
 (e1:(↑(i0 + 1):Int)=w6 ((↑i0:Int) + 1)):∃ Sx,vexec Tryd.prog X call lf 0 noFg (loopN Tryd.f52 0) (f52_F0 F0 z3 i0)=some (Ex.normal,Sx)∧forget f52_D0 Sx=(f52_F0 F0 z3 (i0 + 1)) :=
  ⟨stOf 30 [] [(0,lro F0.length 2 (F0.flatMap featC)),(2,st (ByteArray.mk #[])),(3,st x28),(4,i6 (w6 ((↑i0:Int) + 1))),(5,i6 (↑i0:Int)),(6,lro F0.length 2 (F0.flatMap featC)),(7,i6 (↑F0.length:Int)),(8,bo true),(9,i6 (↑i0:Int)),(10,i6 (w6 ((↑i0:Int) + 1))),(11,i6 (↑i0:Int)),(12,bo true),(13,st (z3 i0)),(14,st x14),(15,st x14),(16,lro F0.length 2 (F0.flatMap featC)),(17,i6 (↑i0:Int)),(18,AV.eaddr (st a::st c::r18)),(19,AV.eaddr (st a::st c::r18)),(20,st a),(21,st x21),(22,st x22),(23,lro F0.length 2 (F0.flatMap featC)),(24,i6 (↑i0:Int)),(25,AV.eaddr (st d::st e::r25)),(26,AV.eaddr (st e::r25)),(27,st e),(28,st x28)] [],around_sound (ans:=[(4,Ans.b true),(8,Ans.b true),(12,Ans.v (st x14)),(18,Ans.v (AV.eaddr (st a::st c::r18))),(21,Ans.v (st x21)),(22,Ans.v (st x22)),(25,Ans.v (AV.eaddr (st d::st e::r25))),(28,Ans.v (st x28))]) (by kernel_rfl) (ai h0 (ai h1 (ai h2 (ai h3 (ai h4 (ai h5 (ai h6 (ai h7 trivial)))))))),by unfold f52_F0; rw [e0,e1]; show _=_; kernel_rfl⟩
theorem f52_s0_tf (F0:List Feat)(z3:Nat→ByteArray)(X:Ext)(call:Caller)(lf i0:Nat)(a c:ByteArray)(r18:List AV)(x21 x22 d e:ByteArray)(r25:List AV)(x28:ByteArray)
 (h0:decide ((↑i0:Int)<(↑F0.length:Int))=true)
 (h1:decide ((↑i0:Int)>0)=false)
 (h2:keep [] (indexAddrv Tryd.prog 31 [] (lro F0.length 2 (F0.flatMap featC)) (i6 (↑i0:Int)))=some (AV.eaddr (st a::st c::r18),[]))
 (h3:keep [] (binv Tryd.prog BinOp.add 9 (st (z3 i0)) (st a))=some (st x21,[]))
 (h4:keep [] (binv Tryd.prog BinOp.add 9 (st x21) (st (ByteArray.mk #[61])))=some (st x22,[]))
 (h5:keep [] (indexAddrv Tryd.prog 31 [] (lro F0.length 2 (F0.flatMap featC)) (i6 (↑i0:Int)))=some (AV.eaddr (st d::st e::r25),[]))
 (h6:keep [] (binv Tryd.prog BinOp.add 9 (st x22) (st e))=some (st x28,[]))
 (e0:z3 (i0 + 1)=x28)
 (e1:(↑(i0 + 1):Int)=w6 ((↑i0:Int) + 1)):∃ Sx,vexec Tryd.prog X call lf 0 noFg (loopN Tryd.f52 0) (f52_F0 F0 z3 i0)=some (Ex.normal,Sx)∧forget f52_D0 Sx=(f52_F0 F0 z3 (i0 + 1)) :=
  ⟨stOf 30 [13,14] [(0,lro F0.length 2 (F0.flatMap featC)),(2,st (ByteArray.mk #[])),(3,st x28),(4,i6 (w6 ((↑i0:Int) + 1))),(5,i6 (↑i0:Int)),(6,lro F0.length 2 (F0.flatMap featC)),(7,i6 (↑F0.length:Int)),(8,bo true),(9,i6 (↑i0:Int)),(10,i6 (w6 ((↑i0:Int) + 1))),(11,i6 (↑i0:Int)),(12,bo false),(15,st (z3 i0)),(16,lro F0.length 2 (F0.flatMap featC)),(17,i6 (↑i0:Int)),(18,AV.eaddr (st a::st c::r18)),(19,AV.eaddr (st a::st c::r18)),(20,st a),(21,st x21),(22,st x22),(23,lro F0.length 2 (F0.flatMap featC)),(24,i6 (↑i0:Int)),(25,AV.eaddr (st d::st e::r25)),(26,AV.eaddr (st e::r25)),(27,st e),(28,st x28)] [],around_sound (ans:=[(4,Ans.b true),(8,Ans.b false),(14,Ans.v (AV.eaddr (st a::st c::r18))),(17,Ans.v (st x21)),(18,Ans.v (st x22)),(21,Ans.v (AV.eaddr (st d::st e::r25))),(24,Ans.v (st x28))]) (by kernel_rfl) (ai h0 (ai h1 (ai h2 (ai h3 (ai h4 (ai h5 (ai h6 trivial))))))),by unfold f52_F0; rw [e0,e1]; show _=_; kernel_rfl⟩
def f52_S1 (F0:List Feat)(z3:Nat→ByteArray)(i0:Nat):St :=
  stOf 30 [9,10,11,12,13,14,15,16,17,18,19,20,21,22,23,24,25,26,27,28] [(0,lro F0.length 2 (F0.flatMap featC)),(2,st (ByteArray.mk #[])),(3,st (z3 i0)),(4,i6 (↑i0:Int)),(5,i6 (↑i0:Int)),(6,lro F0.length 2 (F0.flatMap featC)),(7,i6 (↑F0.length:Int)),(8,bo false)] []
theorem f52_r0_f (F0:List Feat)(z3:Nat→ByteArray)(X:Ext)(call:Caller)(lf i0:Nat)
 (h0:decide ((↑i0:Int)<(↑F0.length:Int))=false):vexec Tryd.prog X call lf 0 noFg (loopN Tryd.f52 0) (f52_F0 F0 z3 i0)=some (Ex.exit 0,(f52_S1 F0 z3 i0)) :=
  around_sound (ans:=[(4,Ans.b false)]) (by kernel_rfl) (ai h0 trivial)
theorem f52_plf (F0:List Feat)(z3:Nat→ByteArray)(X:Ext)(call:Caller)(lf i0:Nat)
 (h0:vexec Tryd.prog X call lf 0 noFg (Code.loop (loopN Tryd.f52 0)) (f52_S0 F0)=some (Ex.exit 0,(f52_S1 F0 z3 i0))):vbody Tryd.prog X call lf noFg Tryd.f52 (codeOf Tryd.f52) [featsV F0] [] 0=some (st (z3 i0),[]) :=
  along_sound (ans:=[(6,Ans.l (Ex.exit 0) (f52_S1 F0 z3 i0))]) (by kernel_rfl) (ai h0 trivial)
end Go.Proofs.Lex
end
/- Lexicon: the reference's text of a record. -/
section
open Go Go.Vm Go.Proofs
namespace Go.Proofs.Lex
theorem append_mk (x y:ByteArray):x ++ y=mkB (x.data.toList ++ y.data.toList):=by
  apply Go.WideShapes.bytes_inj
  rw [mkB_data,ByteArray.data_append,Array.toList_append]
theorem addB {x y:ByteArray} {σ:List Ob} (h:x.data.toList.length + y.data.toList.length ≤ big):keep σ (binv Tryd.prog BinOp.add 9 (st x) (st y))=some (st (mkB (x.data.toList ++ y.data.toList)),σ):=by
  have h' : x.data.toList.length + y.data.toList.length ≤ 140737488355328:=h
  rw [← append_mk]
  have hs : ¬ (((x.size + y.size : Nat) : Int) > IntKind.i64.max) := by
    rw [size_list,size_list]
    show ¬ (_ > (9223372036854775807:Int))
    omega
  show keep σ (strOp .add x y)=_
  unfold strOp
  simp only
  rw [if_neg hs]
  rfl
section
variable {X:Ext} {call:Caller} {lf:Nat}
theorem text52 {F:List Feat} (hF:F.length ≤ big) (ht:(textF F).length ≤ big) (hlf:F.length < lf):vbody Tryd.prog X call lf noFg Tryd.f52 (codeOf Tryd.f52) [featsV F] [] 0=some (st (mkB (textF F)),[]):=by
  have mono : ∀ i, i ≤ F.length → (textN F i).length ≤ (textF F).length := by
    intro i hi
    have : ∀ k, (textN F i).length ≤ (textN F (i + k)).length := by
      intro k
      induction k with
      | zero=>exact Nat.le_refl _
      | succ k ih=>exact Nat.le_trans ih (textN_le F (i + k))
    have:=this (F.length - i)
    rwa [Nat.add_sub_cancel' hi] at this
  refine f52_plf F (fun i=>mkB (textN F i)) X call lf F.length (f52_L0 F (fun i=>mkB (textN F i)) X call lf F.length _ _ rfl hlf (fun j hj => ?_) (f52_r0_f F _ X call lf F.length (decide_eq_false (by omega))) (by simp))
  have hd:decide ((j:Int) < (F.length:Int))=true:=decide_eq_true (by omega)
  have hm:=mono (j + 1) hj
  have hb:(textF F).length ≤ 140737488355328:=ht
  by_cases h0:0 < j
  · have e : textN F (j + 1) = ((textN F j ++ [32] ++ (nF F j).name.data.toList) ++ [61]) ++ (nF F j).value.data.toList := by
      show ((cond (decide (0 < j)) (textN F j ++ [32]) [] ++ _) ++ _) ++ _=_
      rw [decide_eq_true h0]
      rfl
    rw [e] at hm
    simp only [List.length_append,List.length_cons,List.length_nil] at hm
    refine f52_s0_tt F (fun i=>mkB (textN F i)) X call lf j _ _ _ _ _ _ _ _ _ _ hd (decide_eq_true (by omega)) (addB ?_) (at_feat hj) (addB ?_) (addB ?_) (at_feat hj) (addB ?_) ?_ (up hj hF)
    all_goals try (simp only [mkB_data,List.length_append,List.length_cons,List.length_nil]; show _ ≤ 140737488355328; omega)
    · show mkB (textN F (j + 1)) = _
      rw [e]
      rfl
  · have hj0 : j = 0 := by omega
    subst hj0
    have e:textN F (0 + 1)=(([] ++ (nF F 0).name.data.toList) ++ [61]) ++ (nF F 0).value.data.toList:=rfl
    rw [e] at hm
    simp only [List.length_append,List.length_cons,List.length_nil] at hm
    refine f52_s0_tf F (fun i=>mkB (textN F i)) X call lf 0 _ _ _ _ _ _ _ _ _ hd (by decide) (at_feat hj) (addB ?_) (addB ?_) (at_feat hj) (addB ?_) ?_ (up hj hF)
    · show (0:Nat) + (nF F 0).name.data.toList.length ≤ 140737488355328; omega
    · show (([] : List UInt8) ++ (nF F 0).name.data.toList).length + 1 ≤ 140737488355328
      simp only [List.length_append,List.length_cons,List.length_nil]; omega
    · show ((([] : List UInt8) ++ (nF F 0).name.data.toList) ++ [61]).length + (nF F 0).value.data.toList.length ≤ 140737488355328
      simp only [List.length_append,List.length_cons,List.length_nil]; omega
    · show mkB (textN F (0 + 1)) = _
      rw [e]
      rfl
end
section
variable [Fixed] {X:Ext}
theorem call52 (hX:ExtOk Tryd.prog X) (hL:XL X) {F:List Feat} (hF:F.length ≤ big) (ht:(textF F).length ≤ big):CallAt Tryd.prog 52 [aFs.enc F] [] 0 (aS.enc (mkB (textF F))) [] :=
  run_res (B:=aS) hX (callerOf_ok (SpecOk.none' (P:=Tryd.prog))) (hL.dom 52 rfl rfl) Tryd.func52 (by kernel_rfl) (text52 (lf:=F.length + 1) hF ht (Nat.lt_succ_self _)) (aS.de _)
end
end Go.Proofs.Lex
end
/- Lexicon: where the parts of a text lie; its parts cut at the equals sign. -/
section
open Go Go.Vm Go.Proofs
namespace Go.Proofs.Lex
end Go.Proofs.Lex
end
/- Lexicon: the reference's Parse of a record. -/
section
open Go Go.Vm Go.Proofs
namespace Go.Proofs.Lex
/-! ### the parts' text -/
/-! ### the record of a text -/
def parseB (s:ByteArray):List Feat × Bool:=match parseF s with
  | some F=>(F,true)
  | none=>([],false)
end Go.Proofs.Lex
end
/- Lexicon: the reference's Parse of a record, walked. -/
section
open Go Go.Vm Go.Proofs
namespace Go.Proofs.Lex
section
variable [Fixed] {X:Ext}
abbrev aFsB:Arg (List Feat × Bool):=Arg.tup2 aFs aB
def okX (F:List Feat):Prop:=F.length ≤ big∧(textF F).length ≤ big
instance:DecidablePred okX:=fun F=>inferInstanceAs (Decidable (_∧_))
theorem emp_test {s:ByteArray} (h:s ≠ emp):(!s.toList == (ByteArray.mk #[]).toList)=true:=by
  rw [show (s.toList == (ByteArray.mk #[]).toList)=false from eqB_ne.2 h]
  rfl
theorem eq_test {s t:ByteArray} (h:s=t):(!s.toList == t.toList)=false:=by
  rw [show (s.toList == t.toList)=true from eqB_iff.2 h]
  rfl
end
end Go.Proofs.Lex
end
/- Lexicon: the reference lines and the law of inverses, walked (printed) -/
section
open Go Go.Vm Go.Proofs
namespace Go.Proofs.Lex
def fg22:Nat→List Nat
  | 2=>[5,6,7,8]
  | 4=>[12,13,14,15,16,17,18,19,20,21,22]
  | 6=>[24,25,26,27,28,29,30,31,32,33,34,35,36,37,38,39,40,41,42,43,44,45,46,47,48,49,50,51,52,53,54,55,56,57,58,59]
  | 8=>[61,62,63,64,65,66,67,68,69,70,71,72,73,74,75,76]
  | 9=>[77,78,79]
  | 10=>[81,82,83,84,85,86]
  | _=>[]
def f22_F0 (x0:Lexm)(i0:Nat):St :=
  stOf 88 [2,5,6,7,8,9,10,11,12,13,14,15,16,17,18,19,20,21,22,23] [(0,AV.agg [st (Lexm.id x0),st (Lexm.cat x0),st (Lexm.stem x0),st (Lexm.par x0),lro (List.length (Lexm.feats x0)) 2 (List.flatMap featC (Lexm.feats x0))]),(1,AV.ref 0 0),(3,i6 (↑i0:Int))] [Ob.cells [st (Lexm.id x0),st (Lexm.cat x0),st (Lexm.stem x0),st (Lexm.par x0),lro (List.length (Lexm.feats x0)) 2 (List.flatMap featC (Lexm.feats x0))]]
def f22_S0 (x0:Lexm):St :=
  stOf 88 [] [(0,AV.agg [st (Lexm.id x0),st (Lexm.cat x0),st (Lexm.stem x0),st (Lexm.par x0),lro (List.length (Lexm.feats x0)) 2 (List.flatMap featC (Lexm.feats x0))]),(1,AV.ref 0 0),(2,st (ByteArray.mk #[])),(3,i6 0)] [Ob.cells [st (Lexm.id x0),st (Lexm.cat x0),st (Lexm.stem x0),st (Lexm.par x0),lro (List.length (Lexm.feats x0)) 2 (List.flatMap featC (Lexm.feats x0))]]
abbrev f22_D0:List Nat:=[11,10,2,23,22,21,20,19,18,17,16,15,14,13,12,9,8,7,6,5]
theorem f22_L0 (x0:Lexm)(X:Ext)(call:Caller)(lf n:Nat)(x:Ex) (S' : St)
 (hn:n<lf)
 (hs:∀ j,j<n→∃ Sx,vexec Tryd.prog X call lf 0 fg22 (loopN Tryd.f22 0) (f22_F0 x0 j)=some (Ex.normal,Sx)∧forget f22_D0 Sx=(f22_F0 x0 (j + 1)))
 (he:vexec Tryd.prog X call lf 0 fg22 (loopN Tryd.f22 0) (f22_F0 x0 n)=some (x,S'))
 (hx:x ≠ Ex.normal):vexec Tryd.prog X call lf 0 fg22 (Go.Code.loop (loopN Tryd.f22 0)) (f22_S0 x0)=some (x,S') :=
  loop_runK (by kernel_rfl) (fun j=>(f22_F0 x0 j)) n hn (by show forget f22_D0 (f22_S0 x0)=(f22_F0 x0 0); unfold f22_F0; show _=_; kernel_rfl) hs he hx
def f22_S1 (x0:Lexm)(i0:Nat):St :=
  stOf 88 [5,6,7,8,10,11,12,13,14,15,16,17,18,19,20,21,22] [(0,AV.agg [st (Lexm.id x0),st (Lexm.cat x0),st (Lexm.stem x0),st (Lexm.par x0),lro (List.length (Lexm.feats x0)) 2 (List.flatMap featC (Lexm.feats x0))]),(1,AV.ref 0 0),(2,st (ByteArray.mk #[])),(3,i6 (↑i0:Int)),(9,bo true),(23,bo true)] [Ob.cells [st (Lexm.id x0),st (Lexm.cat x0),st (Lexm.stem x0),st (Lexm.par x0),lro (List.length (Lexm.feats x0)) 2 (List.flatMap featC (Lexm.feats x0))]]
theorem f22_r0_tt (x0:Lexm)(X:Ext)(call:Caller)(lf i0:Nat)(n15:Int)
 (h0:decide ((↑i0:Int)<(↑(ByteArray.size (Lexm.stem x0)):Int))=true)
 (h1:keep [Ob.cells [st (Lexm.id x0),st (Lexm.cat x0),st (Lexm.stem x0),st (Lexm.par x0),lro (List.length (Lexm.feats x0)) 2 (List.flatMap featC (Lexm.feats x0))]] (indexv Tryd.prog 9 (st (Lexm.stem x0)) (i6 (↑i0:Int)))=some (AV.int IntKind.u8 n15,[Ob.cells [st (Lexm.id x0),st (Lexm.cat x0),st (Lexm.stem x0),st (Lexm.par x0),lro (List.length (Lexm.feats x0)) 2 (List.flatMap featC (Lexm.feats x0))]]))
 (h2:(n15 == 32)=true):vexec Tryd.prog X call lf 0 fg22 (loopN Tryd.f22 0) (f22_F0 x0 i0)=some (Ex.ret,(f22_S1 x0 i0)) :=
  around_sound (ans:=[(5,Ans.b true),(11,Ans.v (AV.int IntKind.u8 n15)),(12,Ans.b true)]) (by kernel_rfl) (ai h0 (ai h1 (ai h2 trivial)))
theorem f22_pltt (x0:Lexm)(X:Ext)(call:Caller)(lf i0:Nat)
 (h0:vexec Tryd.prog X call lf 0 fg22 (Code.loop (loopN Tryd.f22 0)) (f22_S0 x0)=some (Ex.ret,(f22_S1 x0 i0))):vbody Tryd.prog X call lf fg22 Tryd.f22 (codeOf Tryd.f22) [AV.agg (lexC x0)] [] 0=some (st (ByteArray.mk #[]),[Ob.cells [st (Lexm.id x0),st (Lexm.cat x0),st (Lexm.stem x0),st (Lexm.par x0),lro (List.length (Lexm.feats x0)) 2 (List.flatMap featC (Lexm.feats x0))]]) :=
  along_sound (ans:=[(5,Ans.l Ex.ret (f22_S1 x0 i0))]) (by kernel_rfl) (ai h0 trivial)
theorem f22_r0_tft (x0:Lexm)(X:Ext)(call:Caller)(lf i0:Nat)(n15 n21:Int)
 (h0:decide ((↑i0:Int)<(↑(ByteArray.size (Lexm.stem x0)):Int))=true)
 (h1:keep [Ob.cells [st (Lexm.id x0),st (Lexm.cat x0),st (Lexm.stem x0),st (Lexm.par x0),lro (List.length (Lexm.feats x0)) 2 (List.flatMap featC (Lexm.feats x0))]] (indexv Tryd.prog 9 (st (Lexm.stem x0)) (i6 (↑i0:Int)))=some (AV.int IntKind.u8 n15,[Ob.cells [st (Lexm.id x0),st (Lexm.cat x0),st (Lexm.stem x0),st (Lexm.par x0),lro (List.length (Lexm.feats x0)) 2 (List.flatMap featC (Lexm.feats x0))]]))
 (h2:(n15 == 32)=false)
 (h3:keep [Ob.cells [st (Lexm.id x0),st (Lexm.cat x0),st (Lexm.stem x0),st (Lexm.par x0),lro (List.length (Lexm.feats x0)) 2 (List.flatMap featC (Lexm.feats x0))]] (indexv Tryd.prog 9 (st (Lexm.stem x0)) (i6 (↑i0:Int)))=some (AV.int IntKind.u8 n21,[Ob.cells [st (Lexm.id x0),st (Lexm.cat x0),st (Lexm.stem x0),st (Lexm.par x0),lro (List.length (Lexm.feats x0)) 2 (List.flatMap featC (Lexm.feats x0))]]))
 (h4:(n21 == 10)=true):vexec Tryd.prog X call lf 0 fg22 (loopN Tryd.f22 0) (f22_F0 x0 i0)=some (Ex.ret,(f22_S1 x0 i0)) :=
  around_sound (ans:=[(5,Ans.b true),(11,Ans.v (AV.int IntKind.u8 n15)),(12,Ans.b false),(21,Ans.v (AV.int IntKind.u8 n21)),(23,Ans.b true)]) (by kernel_rfl) (ai h0 (ai h1 (ai h2 (ai h3 (ai h4 trivial)))))
theorem f22_pltft (x0:Lexm)(X:Ext)(call:Caller)(lf i0:Nat)
 (h0:vexec Tryd.prog X call lf 0 fg22 (Code.loop (loopN Tryd.f22 0)) (f22_S0 x0)=some (Ex.ret,(f22_S1 x0 i0))):vbody Tryd.prog X call lf fg22 Tryd.f22 (codeOf Tryd.f22) [AV.agg (lexC x0)] [] 0=some (st (ByteArray.mk #[]),[Ob.cells [st (Lexm.id x0),st (Lexm.cat x0),st (Lexm.stem x0),st (Lexm.par x0),lro (List.length (Lexm.feats x0)) 2 (List.flatMap featC (Lexm.feats x0))]]) :=
  along_sound (ans:=[(5,Ans.l Ex.ret (f22_S1 x0 i0))]) (by kernel_rfl) (ai h0 trivial)
theorem f22_s0_tff (x0:Lexm)(X:Ext)(call:Caller)(lf i0:Nat)(n15 n21:Int)
 (h0:decide ((↑i0:Int)<(↑(ByteArray.size (Lexm.stem x0)):Int))=true)
 (h1:keep [Ob.cells [st (Lexm.id x0),st (Lexm.cat x0),st (Lexm.stem x0),st (Lexm.par x0),lro (List.length (Lexm.feats x0)) 2 (List.flatMap featC (Lexm.feats x0))]] (indexv Tryd.prog 9 (st (Lexm.stem x0)) (i6 (↑i0:Int)))=some (AV.int IntKind.u8 n15,[Ob.cells [st (Lexm.id x0),st (Lexm.cat x0),st (Lexm.stem x0),st (Lexm.par x0),lro (List.length (Lexm.feats x0)) 2 (List.flatMap featC (Lexm.feats x0))]]))
 (h2:(n15 == 32)=false)
 (h3:keep [Ob.cells [st (Lexm.id x0),st (Lexm.cat x0),st (Lexm.stem x0),st (Lexm.par x0),lro (List.length (Lexm.feats x0)) 2 (List.flatMap featC (Lexm.feats x0))]] (indexv Tryd.prog 9 (st (Lexm.stem x0)) (i6 (↑i0:Int)))=some (AV.int IntKind.u8 n21,[Ob.cells [st (Lexm.id x0),st (Lexm.cat x0),st (Lexm.stem x0),st (Lexm.par x0),lro (List.length (Lexm.feats x0)) 2 (List.flatMap featC (Lexm.feats x0))]]))
 (h4:(n21 == 10)=false)
 (e0:(↑(i0 + 1):Int)=w6 ((↑i0:Int) + 1)):∃ Sx,vexec Tryd.prog X call lf 0 fg22 (loopN Tryd.f22 0) (f22_F0 x0 i0)=some (Ex.normal,Sx)∧forget f22_D0 Sx=(f22_F0 x0 (i0 + 1)) :=
  ⟨stOf 88 [2,5,6,7,8,12,13,14,15,16,17,18,19,20,21,22] [(0,AV.agg [st (Lexm.id x0),st (Lexm.cat x0),st (Lexm.stem x0),st (Lexm.par x0),lro (List.length (Lexm.feats x0)) 2 (List.flatMap featC (Lexm.feats x0))]),(1,AV.ref 0 0),(3,i6 (w6 ((↑i0:Int) + 1))),(9,bo true),(10,i6 (↑i0:Int)),(11,i6 (w6 ((↑i0:Int) + 1))),(23,bo false)] [Ob.cells [st (Lexm.id x0),st (Lexm.cat x0),st (Lexm.stem x0),st (Lexm.par x0),lro (List.length (Lexm.feats x0)) 2 (List.flatMap featC (Lexm.feats x0))]],around_sound (ans:=[(5,Ans.b true),(11,Ans.v (AV.int IntKind.u8 n15)),(12,Ans.b false),(21,Ans.v (AV.int IntKind.u8 n21)),(23,Ans.b false)]) (by kernel_rfl) (ai h0 (ai h1 (ai h2 (ai h3 (ai h4 trivial))))),by unfold f22_F0; rw [e0]; show _=_; kernel_rfl⟩
def f22_S2 (x0:Lexm)(i0:Nat):St :=
  stOf 88 [2,5,6,7,8,10,11,12,13,14,15,16,17,18,19,20,21,22,23] [(0,AV.agg [st (Lexm.id x0),st (Lexm.cat x0),st (Lexm.stem x0),st (Lexm.par x0),lro (List.length (Lexm.feats x0)) 2 (List.flatMap featC (Lexm.feats x0))]),(1,AV.ref 0 0),(3,i6 (↑i0:Int)),(9,bo false)] [Ob.cells [st (Lexm.id x0),st (Lexm.cat x0),st (Lexm.stem x0),st (Lexm.par x0),lro (List.length (Lexm.feats x0)) 2 (List.flatMap featC (Lexm.feats x0))]]
theorem f22_r0_f (x0:Lexm)(X:Ext)(call:Caller)(lf i0:Nat)
 (h0:decide ((↑i0:Int)<(↑(ByteArray.size (Lexm.stem x0)):Int))=false):vexec Tryd.prog X call lf 0 fg22 (loopN Tryd.f22 0) (f22_F0 x0 i0)=some (Ex.exit 0,(f22_S2 x0 i0)) :=
  around_sound (ans:=[(5,Ans.b false)]) (by kernel_rfl) (ai h0 trivial)
def f22_S3 (x0:Lexm)(i0:Nat):St :=
  stOf 88 [2,5,6,7,8,10,11,12,13,14,15,16,17,18,19,20,21,22,23,24,25,26,27,28,29,30,31,32,33,34,35,36,37,38,39,40,41,42,43,44,45,46,47,48,49,50,51,52,53,54,55,56,57,58,59] [(0,AV.agg [st (Lexm.id x0),st (Lexm.cat x0),st (Lexm.stem x0),st (Lexm.par x0),lro (List.length (Lexm.feats x0)) 2 (List.flatMap featC (Lexm.feats x0))]),(1,AV.ref 0 0),(3,i6 (↑i0:Int)),(9,bo false),(60,bo true)] [Ob.cells [st (Lexm.id x0),st (Lexm.cat x0),st (Lexm.stem x0),st (Lexm.par x0),lro (List.length (Lexm.feats x0)) 2 (List.flatMap featC (Lexm.feats x0))]]
theorem f22_g6_ttt (x0:Lexm)(X:Ext)(call:Caller)(lf i0:Nat)
 (h0:callv X call false 49 [st (Lexm.id x0)] [Ob.cells [st (Lexm.id x0),st (Lexm.cat x0),st (Lexm.stem x0),st (Lexm.par x0),lro (List.length (Lexm.feats x0)) 2 (List.flatMap featC (Lexm.feats x0))]] 0=some (bo true,[Ob.cells [st (Lexm.id x0),st (Lexm.cat x0),st (Lexm.stem x0),st (Lexm.par x0),lro (List.length (Lexm.feats x0)) 2 (List.flatMap featC (Lexm.feats x0))]]))
 (h1:callv X call false 49 [st (Lexm.cat x0)] [Ob.cells [st (Lexm.id x0),st (Lexm.cat x0),st (Lexm.stem x0),st (Lexm.par x0),lro (List.length (Lexm.feats x0)) 2 (List.flatMap featC (Lexm.feats x0))]] 0=some (bo true,[Ob.cells [st (Lexm.id x0),st (Lexm.cat x0),st (Lexm.stem x0),st (Lexm.par x0),lro (List.length (Lexm.feats x0)) 2 (List.flatMap featC (Lexm.feats x0))]]))
 (h2:(ByteArray.toList (Lexm.stem x0) == ByteArray.toList (ByteArray.mk #[45]))=true):vexec Tryd.prog X call lf 0 fg22 (regN Tryd.f22 6) (f22_S2 x0 i0)=some (Ex.normal,(f22_S3 x0 i0)) :=
  around_sound (ans:=[(3,Ans.v (bo true)),(11,Ans.v (bo true)),(21,Ans.b true)]) (by kernel_rfl) (ai h0 (ai h1 (ai h2 trivial)))
theorem f22_g6_ttfttt (x0:Lexm)(X:Ext)(call:Caller)(lf i0:Nat)
 (h0:callv X call false 49 [st (Lexm.id x0)] [Ob.cells [st (Lexm.id x0),st (Lexm.cat x0),st (Lexm.stem x0),st (Lexm.par x0),lro (List.length (Lexm.feats x0)) 2 (List.flatMap featC (Lexm.feats x0))]] 0=some (bo true,[Ob.cells [st (Lexm.id x0),st (Lexm.cat x0),st (Lexm.stem x0),st (Lexm.par x0),lro (List.length (Lexm.feats x0)) 2 (List.flatMap featC (Lexm.feats x0))]]))
 (h1:callv X call false 49 [st (Lexm.cat x0)] [Ob.cells [st (Lexm.id x0),st (Lexm.cat x0),st (Lexm.stem x0),st (Lexm.par x0),lro (List.length (Lexm.feats x0)) 2 (List.flatMap featC (Lexm.feats x0))]] 0=some (bo true,[Ob.cells [st (Lexm.id x0),st (Lexm.cat x0),st (Lexm.stem x0),st (Lexm.par x0),lro (List.length (Lexm.feats x0)) 2 (List.flatMap featC (Lexm.feats x0))]]))
 (h2:(ByteArray.toList (Lexm.stem x0) == ByteArray.toList (ByteArray.mk #[45]))=false)
 (h3:(!ByteArray.toList (Lexm.par x0) == ByteArray.toList (ByteArray.mk #[]))=true)
 (h4:callv X call false 49 [st (Lexm.par x0)] [Ob.cells [st (Lexm.id x0),st (Lexm.cat x0),st (Lexm.stem x0),st (Lexm.par x0),lro (List.length (Lexm.feats x0)) 2 (List.flatMap featC (Lexm.feats x0))]] 0=some (bo true,[Ob.cells [st (Lexm.id x0),st (Lexm.cat x0),st (Lexm.stem x0),st (Lexm.par x0),lro (List.length (Lexm.feats x0)) 2 (List.flatMap featC (Lexm.feats x0))]]))
 (h5:(ByteArray.toList (Lexm.par x0) == ByteArray.toList (ByteArray.mk #[45]))=true):vexec Tryd.prog X call lf 0 fg22 (regN Tryd.f22 6) (f22_S2 x0 i0)=some (Ex.normal,(f22_S3 x0 i0)) :=
  around_sound (ans:=[(3,Ans.v (bo true)),(11,Ans.v (bo true)),(21,Ans.b false),(29,Ans.b true),(37,Ans.v (bo true)),(49,Ans.b true)]) (by kernel_rfl) (ai h0 (ai h1 (ai h2 (ai h3 (ai h4 (ai h5 trivial))))))
def f22_S4 (x0:Lexm)(i0:Nat):St :=
  stOf 88 [2,5,6,7,8,10,11,12,13,14,15,16,17,18,19,20,21,22,23,24,25,26,27,28,29,30,31,32,33,34,35,36,37,38,39,40,41,42,43,44,45,46,47,48,49,50,51,52,53,54,55,56,57,58,59] [(0,AV.agg [st (Lexm.id x0),st (Lexm.cat x0),st (Lexm.stem x0),st (Lexm.par x0),lro (List.length (Lexm.feats x0)) 2 (List.flatMap featC (Lexm.feats x0))]),(1,AV.ref 0 0),(3,i6 (↑i0:Int)),(9,bo false),(60,bo false)] [Ob.cells [st (Lexm.id x0),st (Lexm.cat x0),st (Lexm.stem x0),st (Lexm.par x0),lro (List.length (Lexm.feats x0)) 2 (List.flatMap featC (Lexm.feats x0))]]
theorem f22_g6_ttfttft (x0:Lexm)(X:Ext)(call:Caller)(lf i0:Nat)
 (h0:callv X call false 49 [st (Lexm.id x0)] [Ob.cells [st (Lexm.id x0),st (Lexm.cat x0),st (Lexm.stem x0),st (Lexm.par x0),lro (List.length (Lexm.feats x0)) 2 (List.flatMap featC (Lexm.feats x0))]] 0=some (bo true,[Ob.cells [st (Lexm.id x0),st (Lexm.cat x0),st (Lexm.stem x0),st (Lexm.par x0),lro (List.length (Lexm.feats x0)) 2 (List.flatMap featC (Lexm.feats x0))]]))
 (h1:callv X call false 49 [st (Lexm.cat x0)] [Ob.cells [st (Lexm.id x0),st (Lexm.cat x0),st (Lexm.stem x0),st (Lexm.par x0),lro (List.length (Lexm.feats x0)) 2 (List.flatMap featC (Lexm.feats x0))]] 0=some (bo true,[Ob.cells [st (Lexm.id x0),st (Lexm.cat x0),st (Lexm.stem x0),st (Lexm.par x0),lro (List.length (Lexm.feats x0)) 2 (List.flatMap featC (Lexm.feats x0))]]))
 (h2:(ByteArray.toList (Lexm.stem x0) == ByteArray.toList (ByteArray.mk #[45]))=false)
 (h3:(!ByteArray.toList (Lexm.par x0) == ByteArray.toList (ByteArray.mk #[]))=true)
 (h4:callv X call false 49 [st (Lexm.par x0)] [Ob.cells [st (Lexm.id x0),st (Lexm.cat x0),st (Lexm.stem x0),st (Lexm.par x0),lro (List.length (Lexm.feats x0)) 2 (List.flatMap featC (Lexm.feats x0))]] 0=some (bo true,[Ob.cells [st (Lexm.id x0),st (Lexm.cat x0),st (Lexm.stem x0),st (Lexm.par x0),lro (List.length (Lexm.feats x0)) 2 (List.flatMap featC (Lexm.feats x0))]]))
 (h5:(ByteArray.toList (Lexm.par x0) == ByteArray.toList (ByteArray.mk #[45]))=false)
 (h6:callv X call false 50 [lro (List.length (Lexm.feats x0)) 2 (List.flatMap featC (Lexm.feats x0))] [Ob.cells [st (Lexm.id x0),st (Lexm.cat x0),st (Lexm.stem x0),st (Lexm.par x0),lro (List.length (Lexm.feats x0)) 2 (List.flatMap featC (Lexm.feats x0))]] 0=some (bo true,[Ob.cells [st (Lexm.id x0),st (Lexm.cat x0),st (Lexm.stem x0),st (Lexm.par x0),lro (List.length (Lexm.feats x0)) 2 (List.flatMap featC (Lexm.feats x0))]])):vexec Tryd.prog X call lf 0 fg22 (regN Tryd.f22 6) (f22_S2 x0 i0)=some (Ex.normal,(f22_S4 x0 i0)) :=
  around_sound (ans:=[(3,Ans.v (bo true)),(11,Ans.v (bo true)),(21,Ans.b false),(29,Ans.b true),(37,Ans.v (bo true)),(49,Ans.b false),(57,Ans.v (bo true))]) (by kernel_rfl) (ai h0 (ai h1 (ai h2 (ai h3 (ai h4 (ai h5 (ai h6 trivial)))))))
theorem f22_g6_ttfttff (x0:Lexm)(X:Ext)(call:Caller)(lf i0:Nat)
 (h0:callv X call false 49 [st (Lexm.id x0)] [Ob.cells [st (Lexm.id x0),st (Lexm.cat x0),st (Lexm.stem x0),st (Lexm.par x0),lro (List.length (Lexm.feats x0)) 2 (List.flatMap featC (Lexm.feats x0))]] 0=some (bo true,[Ob.cells [st (Lexm.id x0),st (Lexm.cat x0),st (Lexm.stem x0),st (Lexm.par x0),lro (List.length (Lexm.feats x0)) 2 (List.flatMap featC (Lexm.feats x0))]]))
 (h1:callv X call false 49 [st (Lexm.cat x0)] [Ob.cells [st (Lexm.id x0),st (Lexm.cat x0),st (Lexm.stem x0),st (Lexm.par x0),lro (List.length (Lexm.feats x0)) 2 (List.flatMap featC (Lexm.feats x0))]] 0=some (bo true,[Ob.cells [st (Lexm.id x0),st (Lexm.cat x0),st (Lexm.stem x0),st (Lexm.par x0),lro (List.length (Lexm.feats x0)) 2 (List.flatMap featC (Lexm.feats x0))]]))
 (h2:(ByteArray.toList (Lexm.stem x0) == ByteArray.toList (ByteArray.mk #[45]))=false)
 (h3:(!ByteArray.toList (Lexm.par x0) == ByteArray.toList (ByteArray.mk #[]))=true)
 (h4:callv X call false 49 [st (Lexm.par x0)] [Ob.cells [st (Lexm.id x0),st (Lexm.cat x0),st (Lexm.stem x0),st (Lexm.par x0),lro (List.length (Lexm.feats x0)) 2 (List.flatMap featC (Lexm.feats x0))]] 0=some (bo true,[Ob.cells [st (Lexm.id x0),st (Lexm.cat x0),st (Lexm.stem x0),st (Lexm.par x0),lro (List.length (Lexm.feats x0)) 2 (List.flatMap featC (Lexm.feats x0))]]))
 (h5:(ByteArray.toList (Lexm.par x0) == ByteArray.toList (ByteArray.mk #[45]))=false)
 (h6:callv X call false 50 [lro (List.length (Lexm.feats x0)) 2 (List.flatMap featC (Lexm.feats x0))] [Ob.cells [st (Lexm.id x0),st (Lexm.cat x0),st (Lexm.stem x0),st (Lexm.par x0),lro (List.length (Lexm.feats x0)) 2 (List.flatMap featC (Lexm.feats x0))]] 0=some (bo false,[Ob.cells [st (Lexm.id x0),st (Lexm.cat x0),st (Lexm.stem x0),st (Lexm.par x0),lro (List.length (Lexm.feats x0)) 2 (List.flatMap featC (Lexm.feats x0))]])):vexec Tryd.prog X call lf 0 fg22 (regN Tryd.f22 6) (f22_S2 x0 i0)=some (Ex.normal,(f22_S3 x0 i0)) :=
  around_sound (ans:=[(3,Ans.v (bo true)),(11,Ans.v (bo true)),(21,Ans.b false),(29,Ans.b true),(37,Ans.v (bo true)),(49,Ans.b false),(57,Ans.v (bo false))]) (by kernel_rfl) (ai h0 (ai h1 (ai h2 (ai h3 (ai h4 (ai h5 (ai h6 trivial)))))))
theorem f22_g6_ttftf (x0:Lexm)(X:Ext)(call:Caller)(lf i0:Nat)
 (h0:callv X call false 49 [st (Lexm.id x0)] [Ob.cells [st (Lexm.id x0),st (Lexm.cat x0),st (Lexm.stem x0),st (Lexm.par x0),lro (List.length (Lexm.feats x0)) 2 (List.flatMap featC (Lexm.feats x0))]] 0=some (bo true,[Ob.cells [st (Lexm.id x0),st (Lexm.cat x0),st (Lexm.stem x0),st (Lexm.par x0),lro (List.length (Lexm.feats x0)) 2 (List.flatMap featC (Lexm.feats x0))]]))
 (h1:callv X call false 49 [st (Lexm.cat x0)] [Ob.cells [st (Lexm.id x0),st (Lexm.cat x0),st (Lexm.stem x0),st (Lexm.par x0),lro (List.length (Lexm.feats x0)) 2 (List.flatMap featC (Lexm.feats x0))]] 0=some (bo true,[Ob.cells [st (Lexm.id x0),st (Lexm.cat x0),st (Lexm.stem x0),st (Lexm.par x0),lro (List.length (Lexm.feats x0)) 2 (List.flatMap featC (Lexm.feats x0))]]))
 (h2:(ByteArray.toList (Lexm.stem x0) == ByteArray.toList (ByteArray.mk #[45]))=false)
 (h3:(!ByteArray.toList (Lexm.par x0) == ByteArray.toList (ByteArray.mk #[]))=true)
 (h4:callv X call false 49 [st (Lexm.par x0)] [Ob.cells [st (Lexm.id x0),st (Lexm.cat x0),st (Lexm.stem x0),st (Lexm.par x0),lro (List.length (Lexm.feats x0)) 2 (List.flatMap featC (Lexm.feats x0))]] 0=some (bo false,[Ob.cells [st (Lexm.id x0),st (Lexm.cat x0),st (Lexm.stem x0),st (Lexm.par x0),lro (List.length (Lexm.feats x0)) 2 (List.flatMap featC (Lexm.feats x0))]])):vexec Tryd.prog X call lf 0 fg22 (regN Tryd.f22 6) (f22_S2 x0 i0)=some (Ex.normal,(f22_S3 x0 i0)) :=
  around_sound (ans:=[(3,Ans.v (bo true)),(11,Ans.v (bo true)),(21,Ans.b false),(29,Ans.b true),(37,Ans.v (bo false))]) (by kernel_rfl) (ai h0 (ai h1 (ai h2 (ai h3 (ai h4 trivial)))))
theorem f22_g6_ttffft (x0:Lexm)(X:Ext)(call:Caller)(lf i0:Nat)
 (h0:callv X call false 49 [st (Lexm.id x0)] [Ob.cells [st (Lexm.id x0),st (Lexm.cat x0),st (Lexm.stem x0),st (Lexm.par x0),lro (List.length (Lexm.feats x0)) 2 (List.flatMap featC (Lexm.feats x0))]] 0=some (bo true,[Ob.cells [st (Lexm.id x0),st (Lexm.cat x0),st (Lexm.stem x0),st (Lexm.par x0),lro (List.length (Lexm.feats x0)) 2 (List.flatMap featC (Lexm.feats x0))]]))
 (h1:callv X call false 49 [st (Lexm.cat x0)] [Ob.cells [st (Lexm.id x0),st (Lexm.cat x0),st (Lexm.stem x0),st (Lexm.par x0),lro (List.length (Lexm.feats x0)) 2 (List.flatMap featC (Lexm.feats x0))]] 0=some (bo true,[Ob.cells [st (Lexm.id x0),st (Lexm.cat x0),st (Lexm.stem x0),st (Lexm.par x0),lro (List.length (Lexm.feats x0)) 2 (List.flatMap featC (Lexm.feats x0))]]))
 (h2:(ByteArray.toList (Lexm.stem x0) == ByteArray.toList (ByteArray.mk #[45]))=false)
 (h3:(!ByteArray.toList (Lexm.par x0) == ByteArray.toList (ByteArray.mk #[]))=false)
 (h4:(ByteArray.toList (Lexm.par x0) == ByteArray.toList (ByteArray.mk #[45]))=false)
 (h5:callv X call false 50 [lro (List.length (Lexm.feats x0)) 2 (List.flatMap featC (Lexm.feats x0))] [Ob.cells [st (Lexm.id x0),st (Lexm.cat x0),st (Lexm.stem x0),st (Lexm.par x0),lro (List.length (Lexm.feats x0)) 2 (List.flatMap featC (Lexm.feats x0))]] 0=some (bo true,[Ob.cells [st (Lexm.id x0),st (Lexm.cat x0),st (Lexm.stem x0),st (Lexm.par x0),lro (List.length (Lexm.feats x0)) 2 (List.flatMap featC (Lexm.feats x0))]])):vexec Tryd.prog X call lf 0 fg22 (regN Tryd.f22 6) (f22_S2 x0 i0)=some (Ex.normal,(f22_S4 x0 i0)) :=
  around_sound (ans:=[(3,Ans.v (bo true)),(11,Ans.v (bo true)),(21,Ans.b false),(29,Ans.b false),(45,Ans.b false),(53,Ans.v (bo true))]) (by kernel_rfl) (ai h0 (ai h1 (ai h2 (ai h3 (ai h4 (ai h5 trivial))))))
theorem f22_g6_ttffff (x0:Lexm)(X:Ext)(call:Caller)(lf i0:Nat)
 (h0:callv X call false 49 [st (Lexm.id x0)] [Ob.cells [st (Lexm.id x0),st (Lexm.cat x0),st (Lexm.stem x0),st (Lexm.par x0),lro (List.length (Lexm.feats x0)) 2 (List.flatMap featC (Lexm.feats x0))]] 0=some (bo true,[Ob.cells [st (Lexm.id x0),st (Lexm.cat x0),st (Lexm.stem x0),st (Lexm.par x0),lro (List.length (Lexm.feats x0)) 2 (List.flatMap featC (Lexm.feats x0))]]))
 (h1:callv X call false 49 [st (Lexm.cat x0)] [Ob.cells [st (Lexm.id x0),st (Lexm.cat x0),st (Lexm.stem x0),st (Lexm.par x0),lro (List.length (Lexm.feats x0)) 2 (List.flatMap featC (Lexm.feats x0))]] 0=some (bo true,[Ob.cells [st (Lexm.id x0),st (Lexm.cat x0),st (Lexm.stem x0),st (Lexm.par x0),lro (List.length (Lexm.feats x0)) 2 (List.flatMap featC (Lexm.feats x0))]]))
 (h2:(ByteArray.toList (Lexm.stem x0) == ByteArray.toList (ByteArray.mk #[45]))=false)
 (h3:(!ByteArray.toList (Lexm.par x0) == ByteArray.toList (ByteArray.mk #[]))=false)
 (h4:(ByteArray.toList (Lexm.par x0) == ByteArray.toList (ByteArray.mk #[45]))=false)
 (h5:callv X call false 50 [lro (List.length (Lexm.feats x0)) 2 (List.flatMap featC (Lexm.feats x0))] [Ob.cells [st (Lexm.id x0),st (Lexm.cat x0),st (Lexm.stem x0),st (Lexm.par x0),lro (List.length (Lexm.feats x0)) 2 (List.flatMap featC (Lexm.feats x0))]] 0=some (bo false,[Ob.cells [st (Lexm.id x0),st (Lexm.cat x0),st (Lexm.stem x0),st (Lexm.par x0),lro (List.length (Lexm.feats x0)) 2 (List.flatMap featC (Lexm.feats x0))]])):vexec Tryd.prog X call lf 0 fg22 (regN Tryd.f22 6) (f22_S2 x0 i0)=some (Ex.normal,(f22_S3 x0 i0)) :=
  around_sound (ans:=[(3,Ans.v (bo true)),(11,Ans.v (bo true)),(21,Ans.b false),(29,Ans.b false),(45,Ans.b false),(53,Ans.v (bo false))]) (by kernel_rfl) (ai h0 (ai h1 (ai h2 (ai h3 (ai h4 (ai h5 trivial))))))
theorem f22_g6_tf (x0:Lexm)(X:Ext)(call:Caller)(lf i0:Nat)
 (h0:callv X call false 49 [st (Lexm.id x0)] [Ob.cells [st (Lexm.id x0),st (Lexm.cat x0),st (Lexm.stem x0),st (Lexm.par x0),lro (List.length (Lexm.feats x0)) 2 (List.flatMap featC (Lexm.feats x0))]] 0=some (bo true,[Ob.cells [st (Lexm.id x0),st (Lexm.cat x0),st (Lexm.stem x0),st (Lexm.par x0),lro (List.length (Lexm.feats x0)) 2 (List.flatMap featC (Lexm.feats x0))]]))
 (h1:callv X call false 49 [st (Lexm.cat x0)] [Ob.cells [st (Lexm.id x0),st (Lexm.cat x0),st (Lexm.stem x0),st (Lexm.par x0),lro (List.length (Lexm.feats x0)) 2 (List.flatMap featC (Lexm.feats x0))]] 0=some (bo false,[Ob.cells [st (Lexm.id x0),st (Lexm.cat x0),st (Lexm.stem x0),st (Lexm.par x0),lro (List.length (Lexm.feats x0)) 2 (List.flatMap featC (Lexm.feats x0))]])):vexec Tryd.prog X call lf 0 fg22 (regN Tryd.f22 6) (f22_S2 x0 i0)=some (Ex.normal,(f22_S3 x0 i0)) :=
  around_sound (ans:=[(3,Ans.v (bo true)),(11,Ans.v (bo false))]) (by kernel_rfl) (ai h0 (ai h1 trivial))
theorem f22_g6_f (x0:Lexm)(X:Ext)(call:Caller)(lf i0:Nat)
 (h0:callv X call false 49 [st (Lexm.id x0)] [Ob.cells [st (Lexm.id x0),st (Lexm.cat x0),st (Lexm.stem x0),st (Lexm.par x0),lro (List.length (Lexm.feats x0)) 2 (List.flatMap featC (Lexm.feats x0))]] 0=some (bo false,[Ob.cells [st (Lexm.id x0),st (Lexm.cat x0),st (Lexm.stem x0),st (Lexm.par x0),lro (List.length (Lexm.feats x0)) 2 (List.flatMap featC (Lexm.feats x0))]])):vexec Tryd.prog X call lf 0 fg22 (regN Tryd.f22 6) (f22_S2 x0 i0)=some (Ex.normal,(f22_S3 x0 i0)) :=
  around_sound (ans:=[(3,Ans.v (bo false))]) (by kernel_rfl) (ai h0 trivial)
def f22_S5 (x0:Lexm)(b60:Bool)(i0:Nat):St :=
  stOf 88 [2,5,6,7,8,10,11,12,13,14,15,16,17,18,19,20,21,22,23,24,25,26,27,28,29,30,31,32,33,34,35,36,37,38,39,40,41,42,43,44,45,46,47,48,49,50,51,52,53,54,55,56,57,58,59] [(0,AV.agg [st (Lexm.id x0),st (Lexm.cat x0),st (Lexm.stem x0),st (Lexm.par x0),lro (List.length (Lexm.feats x0)) 2 (List.flatMap featC (Lexm.feats x0))]),(1,AV.ref 0 0),(3,i6 (↑i0:Int)),(9,bo false),(60,bo b60)] [Ob.cells [st (Lexm.id x0),st (Lexm.cat x0),st (Lexm.stem x0),st (Lexm.par x0),lro (List.length (Lexm.feats x0)) 2 (List.flatMap featC (Lexm.feats x0))]]
theorem f22_plft (x0:Lexm)(b60:Bool)(X:Ext)(call:Caller)(lf i0:Nat)
 (h0:vexec Tryd.prog X call lf 0 fg22 (Code.loop (loopN Tryd.f22 0)) (f22_S0 x0)=some (Ex.exit 0,(f22_S2 x0 i0)))
 (h1:vexec Tryd.prog X call lf 0 fg22 (regN Tryd.f22 6) (f22_S2 x0 i0)=some (Ex.normal,(f22_S5 x0 b60 i0)))
 (h2:b60=true):vbody Tryd.prog X call lf fg22 Tryd.f22 (codeOf Tryd.f22) [AV.agg (lexC x0)] [] 0=some (st (ByteArray.mk #[]),[Ob.cells [st (Lexm.id x0),st (Lexm.cat x0),st (Lexm.stem x0),st (Lexm.par x0),lro (List.length (Lexm.feats x0)) 2 (List.flatMap featC (Lexm.feats x0))]]) :=
  along_sound (ans:=[(5,Ans.l (Ex.exit 0) (f22_S2 x0 i0)),(6,Ans.l Ex.normal (f22_S5 x0 b60 i0)),(7,Ans.b true)]) (by kernel_rfl) (ai h0 (ai h1 (ai h2 trivial)))
theorem f22_g8_ (x0:Lexm)(b60:Bool)(X:Ext)(call:Caller)(lf i0:Nat)(x63 x66 x67 x70 x71 x72 x75 x76:ByteArray)
 (h0:keep [Ob.cells [st (Lexm.id x0),st (Lexm.cat x0),st (Lexm.stem x0),st (Lexm.par x0),lro (List.length (Lexm.feats x0)) 2 (List.flatMap featC (Lexm.feats x0))]] (binv Tryd.prog BinOp.add 9 (st (Lexm.id x0)) (st (ByteArray.mk #[32])))=some (st x63,[Ob.cells [st (Lexm.id x0),st (Lexm.cat x0),st (Lexm.stem x0),st (Lexm.par x0),lro (List.length (Lexm.feats x0)) 2 (List.flatMap featC (Lexm.feats x0))]]))
 (h1:keep [Ob.cells [st (Lexm.id x0),st (Lexm.cat x0),st (Lexm.stem x0),st (Lexm.par x0),lro (List.length (Lexm.feats x0)) 2 (List.flatMap featC (Lexm.feats x0))]] (binv Tryd.prog BinOp.add 9 (st x63) (st (Lexm.cat x0)))=some (st x66,[Ob.cells [st (Lexm.id x0),st (Lexm.cat x0),st (Lexm.stem x0),st (Lexm.par x0),lro (List.length (Lexm.feats x0)) 2 (List.flatMap featC (Lexm.feats x0))]]))
 (h2:keep [Ob.cells [st (Lexm.id x0),st (Lexm.cat x0),st (Lexm.stem x0),st (Lexm.par x0),lro (List.length (Lexm.feats x0)) 2 (List.flatMap featC (Lexm.feats x0))]] (binv Tryd.prog BinOp.add 9 (st x66) (st (ByteArray.mk #[32])))=some (st x67,[Ob.cells [st (Lexm.id x0),st (Lexm.cat x0),st (Lexm.stem x0),st (Lexm.par x0),lro (List.length (Lexm.feats x0)) 2 (List.flatMap featC (Lexm.feats x0))]]))
 (h3:callv X call true 51 [st (Lexm.stem x0)] [Ob.cells [st (Lexm.id x0),st (Lexm.cat x0),st (Lexm.stem x0),st (Lexm.par x0),lro (List.length (Lexm.feats x0)) 2 (List.flatMap featC (Lexm.feats x0))]] 0=some (st x70,[Ob.cells [st (Lexm.id x0),st (Lexm.cat x0),st (Lexm.stem x0),st (Lexm.par x0),lro (List.length (Lexm.feats x0)) 2 (List.flatMap featC (Lexm.feats x0))]]))
 (h4:keep [Ob.cells [st (Lexm.id x0),st (Lexm.cat x0),st (Lexm.stem x0),st (Lexm.par x0),lro (List.length (Lexm.feats x0)) 2 (List.flatMap featC (Lexm.feats x0))]] (binv Tryd.prog BinOp.add 9 (st x67) (st x70))=some (st x71,[Ob.cells [st (Lexm.id x0),st (Lexm.cat x0),st (Lexm.stem x0),st (Lexm.par x0),lro (List.length (Lexm.feats x0)) 2 (List.flatMap featC (Lexm.feats x0))]]))
 (h5:keep [Ob.cells [st (Lexm.id x0),st (Lexm.cat x0),st (Lexm.stem x0),st (Lexm.par x0),lro (List.length (Lexm.feats x0)) 2 (List.flatMap featC (Lexm.feats x0))]] (binv Tryd.prog BinOp.add 9 (st x71) (st (ByteArray.mk #[32])))=some (st x72,[Ob.cells [st (Lexm.id x0),st (Lexm.cat x0),st (Lexm.stem x0),st (Lexm.par x0),lro (List.length (Lexm.feats x0)) 2 (List.flatMap featC (Lexm.feats x0))]]))
 (h6:callv X call true 51 [st (Lexm.par x0)] [Ob.cells [st (Lexm.id x0),st (Lexm.cat x0),st (Lexm.stem x0),st (Lexm.par x0),lro (List.length (Lexm.feats x0)) 2 (List.flatMap featC (Lexm.feats x0))]] 0=some (st x75,[Ob.cells [st (Lexm.id x0),st (Lexm.cat x0),st (Lexm.stem x0),st (Lexm.par x0),lro (List.length (Lexm.feats x0)) 2 (List.flatMap featC (Lexm.feats x0))]]))
 (h7:keep [Ob.cells [st (Lexm.id x0),st (Lexm.cat x0),st (Lexm.stem x0),st (Lexm.par x0),lro (List.length (Lexm.feats x0)) 2 (List.flatMap featC (Lexm.feats x0))]] (binv Tryd.prog BinOp.add 9 (st x72) (st x75))=some (st x76,[Ob.cells [st (Lexm.id x0),st (Lexm.cat x0),st (Lexm.stem x0),st (Lexm.par x0),lro (List.length (Lexm.feats x0)) 2 (List.flatMap featC (Lexm.feats x0))]])):vexec Tryd.prog X call lf 0 fg22 (regN Tryd.f22 8) (f22_S5 x0 b60 i0)=some (Ex.normal,stOf 88 [2,5,6,7,8,10,11,12,13,14,15,16,17,18,19,20,21,22,23,24,25,26,27,28,29,30,31,32,33,34,35,36,37,38,39,40,41,42,43,44,45,46,47,48,49,50,51,52,53,54,55,56,57,58,59,61,62,63,64,65,66,67,68,69,70,71,72,73,74,75,76] [(0,AV.agg [st (Lexm.id x0),st (Lexm.cat x0),st (Lexm.stem x0),st (Lexm.par x0),lro (List.length (Lexm.feats x0)) 2 (List.flatMap featC (Lexm.feats x0))]),(1,AV.ref 0 0),(3,i6 (↑i0:Int)),(4,st x76),(9,bo false),(60,bo b60)] [Ob.cells [st (Lexm.id x0),st (Lexm.cat x0),st (Lexm.stem x0),st (Lexm.par x0),lro (List.length (Lexm.feats x0)) 2 (List.flatMap featC (Lexm.feats x0))]]) :=
  around_sound (ans:=[(3,Ans.v (st x63)),(6,Ans.v (st x66)),(7,Ans.v (st x67)),(10,Ans.v (st x70)),(11,Ans.v (st x71)),(12,Ans.v (st x72)),(15,Ans.v (st x75)),(16,Ans.v (st x76))]) (by kernel_rfl) (ai h0 (ai h1 (ai h2 (ai h3 (ai h4 (ai h5 (ai h6 (ai h7 trivial))))))))
def f22_S6 (x0:Lexm)(b60:Bool)(y4:ByteArray)(i0:Nat):St :=
  stOf 88 [2,5,6,7,8,10,11,12,13,14,15,16,17,18,19,20,21,22,23,24,25,26,27,28,29,30,31,32,33,34,35,36,37,38,39,40,41,42,43,44,45,46,47,48,49,50,51,52,53,54,55,56,57,58,59,61,62,63,64,65,66,67,68,69,70,71,72,73,74,75,76] [(0,AV.agg [st (Lexm.id x0),st (Lexm.cat x0),st (Lexm.stem x0),st (Lexm.par x0),lro (List.length (Lexm.feats x0)) 2 (List.flatMap featC (Lexm.feats x0))]),(1,AV.ref 0 0),(3,i6 (↑i0:Int)),(4,st y4),(9,bo false),(60,bo b60)] [Ob.cells [st (Lexm.id x0),st (Lexm.cat x0),st (Lexm.stem x0),st (Lexm.par x0),lro (List.length (Lexm.feats x0)) 2 (List.flatMap featC (Lexm.feats x0))]]
theorem f22_plfft (x0:Lexm)(b60:Bool)(y4:ByteArray)(X:Ext)(call:Caller)(lf i0:Nat)(x84 x85 x86:ByteArray)
 (h0:vexec Tryd.prog X call lf 0 fg22 (Code.loop (loopN Tryd.f22 0)) (f22_S0 x0)=some (Ex.exit 0,(f22_S2 x0 i0)))
 (h1:vexec Tryd.prog X call lf 0 fg22 (regN Tryd.f22 6) (f22_S2 x0 i0)=some (Ex.normal,(f22_S5 x0 b60 i0)))
 (h2:b60=false)
 (h3:vexec Tryd.prog X call lf 0 fg22 (regN Tryd.f22 8) (f22_S5 x0 b60 i0)=some (Ex.normal,(f22_S6 x0 b60 y4 i0)))
 (h4:decide ((↑(List.length (Lexm.feats x0)):Int)>0)=true)
 (h5:callv X call false 52 [lro (List.length (Lexm.feats x0)) 2 (List.flatMap featC (Lexm.feats x0))] [Ob.cells [st (Lexm.id x0),st (Lexm.cat x0),st (Lexm.stem x0),st (Lexm.par x0),lro (List.length (Lexm.feats x0)) 2 (List.flatMap featC (Lexm.feats x0))]] 0=some (st x84,[Ob.cells [st (Lexm.id x0),st (Lexm.cat x0),st (Lexm.stem x0),st (Lexm.par x0),lro (List.length (Lexm.feats x0)) 2 (List.flatMap featC (Lexm.feats x0))]]))
 (h6:keep [Ob.cells [st (Lexm.id x0),st (Lexm.cat x0),st (Lexm.stem x0),st (Lexm.par x0),lro (List.length (Lexm.feats x0)) 2 (List.flatMap featC (Lexm.feats x0))]] (binv Tryd.prog BinOp.add 9 (st (ByteArray.mk #[32])) (st x84))=some (st x85,[Ob.cells [st (Lexm.id x0),st (Lexm.cat x0),st (Lexm.stem x0),st (Lexm.par x0),lro (List.length (Lexm.feats x0)) 2 (List.flatMap featC (Lexm.feats x0))]]))
 (h7:keep [Ob.cells [st (Lexm.id x0),st (Lexm.cat x0),st (Lexm.stem x0),st (Lexm.par x0),lro (List.length (Lexm.feats x0)) 2 (List.flatMap featC (Lexm.feats x0))]] (binv Tryd.prog BinOp.add 9 (st y4) (st x85))=some (st x86,[Ob.cells [st (Lexm.id x0),st (Lexm.cat x0),st (Lexm.stem x0),st (Lexm.par x0),lro (List.length (Lexm.feats x0)) 2 (List.flatMap featC (Lexm.feats x0))]])):vbody Tryd.prog X call lf fg22 Tryd.f22 (codeOf Tryd.f22) [AV.agg (lexC x0)] [] 0=some (st x86,[Ob.cells [st (Lexm.id x0),st (Lexm.cat x0),st (Lexm.stem x0),st (Lexm.par x0),lro (List.length (Lexm.feats x0)) 2 (List.flatMap featC (Lexm.feats x0))]]) :=
  along_sound (ans:=[(5,Ans.l (Ex.exit 0) (f22_S2 x0 i0)),(6,Ans.l Ex.normal (f22_S5 x0 b60 i0)),(7,Ans.b false),(8,Ans.l Ex.normal (f22_S6 x0 b60 y4 i0)),(13,Ans.b true),(19,Ans.v (st x84)),(20,Ans.v (st x85)),(21,Ans.v (st x86))]) (by kernel_rfl) (ai h0 (ai h1 (ai h2 (ai h3 (ai h4 (ai h5 (ai h6 (ai h7 trivial))))))))
theorem f22_plfff (x0:Lexm)(b60:Bool)(y4:ByteArray)(X:Ext)(call:Caller)(lf i0:Nat)
 (h0:vexec Tryd.prog X call lf 0 fg22 (Code.loop (loopN Tryd.f22 0)) (f22_S0 x0)=some (Ex.exit 0,(f22_S2 x0 i0)))
 (h1:vexec Tryd.prog X call lf 0 fg22 (regN Tryd.f22 6) (f22_S2 x0 i0)=some (Ex.normal,(f22_S5 x0 b60 i0)))
 (h2:b60=false)
 (h3:vexec Tryd.prog X call lf 0 fg22 (regN Tryd.f22 8) (f22_S5 x0 b60 i0)=some (Ex.normal,(f22_S6 x0 b60 y4 i0)))
 (h4:decide ((↑(List.length (Lexm.feats x0)):Int)>0)=false):vbody Tryd.prog X call lf fg22 Tryd.f22 (codeOf Tryd.f22) [AV.agg (lexC x0)] [] 0=some (st y4,[Ob.cells [st (Lexm.id x0),st (Lexm.cat x0),st (Lexm.stem x0),st (Lexm.par x0),lro (List.length (Lexm.feats x0)) 2 (List.flatMap featC (Lexm.feats x0))]]) :=
  along_sound (ans:=[(5,Ans.l (Ex.exit 0) (f22_S2 x0 i0)),(6,Ans.l Ex.normal (f22_S5 x0 b60 i0)),(7,Ans.b false),(8,Ans.l Ex.normal (f22_S6 x0 b60 y4 i0)),(13,Ans.b false)]) (by kernel_rfl) (ai h0 (ai h1 (ai h2 (ai h3 (ai h4 trivial)))))
end Go.Proofs.Lex
end
/- Lexicon: the reference's line. -/
section
open Go Go.Vm Go.Proofs
namespace Go.Proofs.Lex
theorem any_hit {s:ByteArray} {k:Nat} {x:UInt8} (hb:∀ i,i < k→∀ b,s.data.toList[i]? = some b → ¬ (b=32 ∨ b=10)) (hx:s.data.toList[k]? = some x) (h:x=32 ∨ x=10):anyBN s=true:=by
  have hno : Lib.NoAny s.data.toList [32, 10] k := fun j b hj hjb => by
    have:=hb j hj b hjb
    rw [Bool.eq_false_iff]
    intro hc
    simp only [List.contains_cons,List.contains_nil,Bool.or_false,Bool.or_eq_true,beq_iff_eq] at hc
    exact this hc
  have hc:[(32:UInt8),10].contains x=true:=by rcases h with rfl | rfl <;> decide
  unfold anyBN Lib.containsAny
  rw [Lib.indexAny_hit hno hx hc]
  exact decide_eq_true (by omega)
theorem any_none {s:ByteArray} (hb:∀ (i:Nat) (b:UInt8),s.data.toList[i]? = some b → ¬ (b=32 ∨ b=10)):anyBN s=false:=by
  have hno : Lib.NoAny s.data.toList [32, 10] s.data.toList.length := fun j b hj hjb => by
    have:=hb j b hjb
    rw [Bool.eq_false_iff]
    intro hc
    simp only [List.contains_cons,List.contains_nil,Bool.or_false,Bool.or_eq_true,beq_iff_eq] at hc
    exact this hc
  unfold anyBN Lib.containsAny
  rw [Lib.indexAny_none hno]
  rfl
theorem textF_nil {F:List Feat} (h:textF F=[]):F=[]:=by
  cases F with
  | nil=>rfl
  | cons f F =>
    exfalso
    have:textF (f::F)=((cond (decide (0 < F.length)) (textN (f::F) F.length ++ [32]) [] ++ (nF (f::F) F.length).name.data.toList) ++ [61]) ++ (nF (f::F) F.length).value.data.toList:=rfl
    rw [this] at h
    simp at h
/-- The line up to the features. -/
def headB (x:Lexm):List UInt8:=x.id.data.toList ++ [32] ++ x.cat.data.toList ++ [32] ++ (dashS x.stem).data.toList ++ [32] ++ (dashS x.par).data.toList
theorem joinB_head (x:Lexm):joinB (lineParts x) blank=if x.feats=[] then headB x else headB x ++ ([32] ++ textF x.feats):=by
  unfold lineParts partsL headB
  by_cases h:x.feats=[]
  · rw [if_pos h, if_pos (by rw [h]; rfl)]
    unfold joinB Lib.join
    simp [List.intercalate,List.intersperse,blank]
  · rw [if_neg h, if_neg (by
      intro e
      have:=congrArg (fun b:ByteArray=>b.data.toList) e
      exact h (textF_nil this))]
    unfold joinB Lib.join textS
    simp [List.intercalate,List.intersperse,blank]
section
variable [Fixed] {X:Ext}
def V22:Go.Vm.Spec:=(((Go.Vm.Spec.on (fun _ _=>none) 49 (s1 aS aB nameL okS)).on 50 (s1 aFs aB validF okF)).on 51 (s1 aS aS dashS fun _=>True)).on 52 (s1 aFs aS (fun F=>mkB (textF F)) okX)
theorem V22_ok (hX:ExtOk Tryd.prog X) (hL:XL X):SpecOk Tryd.prog V22 :=
  SpecOk.s1 (SpecOk.s1 (SpecOk.s1 (SpecOk.s1 SpecOk.none' fun s h=>call49 hX hL h) fun F h=>call50 hX hL h) fun s _=>call51 hX hL s) fun F h=>call52 hX hL h.1 h.2
theorem w49 (hL:XL X) {s:ByteArray} {b:Bool} (h:okS s) (hb:nameL s=b) (σ:List Ob):callv X (callerOf V22) false 49 [st s] σ 0=some (bo b,σ):=by
  obtain ⟨a1,a2,a3⟩:=hL.ok 49 rfl
  rw [← hb]
  exact call_on (B:=aB) (T:=V22) (y:=nameL s) (vs:=[aS.enc s]) a1 a2 a3 rfl (s1_at (A:=aS) (B:=aB) (g:=nameL) (ok:=okS) h)
theorem w50 (hL:XL X) {F:List Feat} {b:Bool} (h:okF F) (hb:validF F=b) (σ:List Ob):callv X (callerOf V22) false 50 [featsV F] σ 0=some (bo b,σ):=by
  obtain ⟨a1,a2,a3⟩:=hL.ok 50 rfl
  rw [← hb]
  exact call_on (B:=aB) (T:=V22) (y:=validF F) (vs:=[aFs.enc F]) a1 a2 a3 (by simp only [AV.ltAll,aFs.lt,Bool.and_self]) (s1_at (A:=aFs) (B:=aB) (g:=validF) (ok:=okF) h)
theorem w51 (hL:XL X) (s:ByteArray) (dr:Bool) (σ:List Ob):callv X (callerOf V22) dr 51 [st s] σ 0=some (st (dashS s),σ):=by
  obtain ⟨a1,a2,a3⟩:=hL.ok 51 rfl
  exact call_on (B:=aS) (T:=V22) (y:=dashS s) (vs:=[aS.enc s]) a1 a2 a3 rfl (s1_at (A:=aS) (B:=aS) (g:=dashS) (ok:=fun _=>True) trivial)
theorem w52 (hL:XL X) {F:List Feat} (h:okX F) (σ:List Ob):callv X (callerOf V22) false 52 [featsV F] σ 0=some (st (mkB (textF F)),σ):=by
  obtain ⟨a1,a2,a3⟩:=hL.ok 52 rfl
  exact call_on (B:=aS) (T:=V22) (y:=mkB (textF F)) (vs:=[aFs.enc F]) a1 a2 a3 (by simp only [AV.ltAll,aFs.lt,Bool.and_self]) (s1_at (A:=aFs) (B:=aS) (g:=fun F=>mkB (textF F)) (ok:=okX) h)
/-- What stands behind the stem's test: whether there is no line. -/
def noLine (x:Lexm):Bool := !(nameL x.id && (nameL x.cat && (!decide (x.stem=dash) && ((decide (x.par=emp) || nameL x.par) && (!decide (x.par=dash) && validF x.feats)))))
theorem noLine_eq {x:Lexm} (h:anyBN x.stem=false):noLine x = !lineOk x:=by
  unfold noLine lineOk
  rw [h]
  congr 1
  cases nameL x.id <;> cases nameL x.cat <;> cases decide (x.stem=dash) <;> cases decide (x.par=emp) <;> cases nameL x.par <;> cases decide (x.par=dash) <;> rfl
theorem reg6 (hL:XL X) {x:Lexm} {lf i:Nat} (h1:okS x.id) (h2:okS x.cat) (h3:okS x.par) (h4:okF x.feats):vexec Tryd.prog X (callerOf V22) lf 0 fg22 (regN Tryd.f22 6) (f22_S2 x i)=some (.normal,f22_S5 x (noLine x) i):=by
  have tt:∀ {s:ByteArray},s=dash→(s.toList == (ByteArray.mk #[45]).toList)=true:=fun h=>eqB_iff.2 h
  have tf:∀ {s:ByteArray},s ≠ dash→(s.toList == (ByteArray.mk #[45]).toList)=false:=fun h=>eqB_ne.2 h
  have S3:f22_S3 x i=f22_S5 x true i:=rfl
  have S4:f22_S4 x i=f22_S5 x false i:=rfl
  unfold noLine
  cases b0:nameL x.id with
  | false=>exact f22_g6_f x X (callerOf V22) lf i (w49 hL h1 b0 _)
  | true =>
    cases b1:nameL x.cat with
    | false=>exact f22_g6_tf x X (callerOf V22) lf i (w49 hL h1 b0 _) (w49 hL h2 b1 _)
    | true =>
      by_cases c1:x.stem=dash
      · rw [decide_eq_true c1]
        exact f22_g6_ttt x X (callerOf V22) lf i (w49 hL h1 b0 _) (w49 hL h2 b1 _) (tt c1)
      · rw [decide_eq_false c1]
        by_cases c2:x.par=emp
        · rw [decide_eq_true c2]
          have c3:x.par ≠ dash:=by rw [c2]; decide
          rw [decide_eq_false c3]
          cases b3:validF x.feats with
          | true=>exact f22_g6_ttffft x X (callerOf V22) lf i (w49 hL h1 b0 _) (w49 hL h2 b1 _) (tf c1) (eq_test c2) (tf c3) (w50 hL h4 b3 _)
          | false=>exact f22_g6_ttffff x X (callerOf V22) lf i (w49 hL h1 b0 _) (w49 hL h2 b1 _) (tf c1) (eq_test c2) (tf c3) (w50 hL h4 b3 _)
        · rw [decide_eq_false c2]
          cases b2:nameL x.par with
          | false=>exact f22_g6_ttftf x X (callerOf V22) lf i (w49 hL h1 b0 _) (w49 hL h2 b1 _) (tf c1) (emp_test c2) (w49 hL h3 b2 _)
          | true =>
            by_cases c3:x.par=dash
            · rw [decide_eq_true c3]
              exact f22_g6_ttfttt x X (callerOf V22) lf i (w49 hL h1 b0 _) (w49 hL h2 b1 _) (tf c1) (emp_test c2) (w49 hL h3 b2 _) (tt c3)
            · rw [decide_eq_false c3]
              cases b3:validF x.feats with
              | true=>exact f22_g6_ttfttft x X (callerOf V22) lf i (w49 hL h1 b0 _) (w49 hL h2 b1 _) (tf c1) (emp_test c2) (w49 hL h3 b2 _) (tf c3) (w50 hL h4 b3 _)
              | false=>exact f22_g6_ttfttff x X (callerOf V22) lf i (w49 hL h1 b0 _) (w49 hL h2 b1 _) (tf c1) (emp_test c2) (w49 hL h3 b2 _) (tf c3) (w50 hL h4 b3 _)
theorem reg8 (hL:XL X) {x:Lexm} {lf i:Nat} {b:Bool} (h:(headB x).length ≤ big):vexec Tryd.prog X (callerOf V22) lf 0 fg22 (regN Tryd.f22 8) (f22_S5 x b i)=some (.normal,f22_S6 x b (mkB (headB x)) i):=by
  have h' : (headB x).length ≤ 140737488355328:=h
  unfold headB at h'
  simp only [List.length_append,List.length_cons,List.length_nil] at h'
  refine f22_g8_ x b X (callerOf V22) lf i _ _ _ _ _ _ _ _ (addB ?_) (addB ?_) (addB ?_) (w51 hL _ _ _) (addB ?_) (addB ?_) (w51 hL _ _ _) (addB ?_)
  all_goals
    simp only [mkB_data,List.length_append,List.length_cons,List.length_nil]
    show _ ≤ 140737488355328
    omega
/-- ref09.Line. -/
theorem call22 (hX:ExtOk Tryd.prog X) (hL:XL X) {x:Lexm} (h:okLine x) (hst:okS x.stem):CallAt Tryd.prog 22 [aL.enc x] [] 0 (aS.enc (lineS x)) []:=by
  have hC:=callerOf_ok (V22_ok hX hL)
  have hsl:=size_list x.stem
  have hbody:Tryd.f22.body=some (codeOf Tryd.f22):=by kernel_rfl
  have lt_of:∀ {i:Nat},i < x.stem.size→decide ((i:Int) < (x.stem.size:Int))=true:=fun h=>decide_eq_true (by omega)
  have hbyte : ∀ {i : Nat} (h : i < x.stem.data.toList.length) (c : UInt8), ((byteN x.stem i : Int) == (c.toNat : Int)) = decide (x.stem.data.toList[i] = c) := fun {i} h c => by
    rw [byteN_list h]
    by_cases e:x.stem.data.toList[i]=c
    · rw [decide_eq_true e,e]; simp
    · rw [decide_eq_false e]; exact u8_ne e
  have empty : ∀ {σ : List Ob} {lf : Nat}, lineOk x = false → vbody Tryd.prog X (callerOf V22) lf fg22 Tryd.f22 (codeOf Tryd.f22) [.agg (lexC x)] [] 0 = some (st (ByteArray.mk #[]), σ) → CallAt Tryd.prog 22 [aL.enc x] [] 0 (aS.enc (lineS x)) [] := fun h0 hv => by
    have:lineS x=emp:=by unfold lineS; rw [h0]; rfl
    rw [this]
    exact run_res (B:=aS) hX hC (hL.dom 22 rfl rfl) Tryd.func22 hbody hv (aS.de emp)
  have step : ∀ j, j < x.stem.size → ¬ (x.stem.data.toList[j]? = some 32 ∨ x.stem.data.toList[j]? = some 10) → ∃ Sx, vexec Tryd.prog X (callerOf V22) (x.stem.size + 1) 0 fg22 (loopN Tryd.f22 0) (f22_F0 x j) = some (.normal, Sx) ∧ forget f22_D0 Sx = f22_F0 x (j + 1) := fun j hj hn => by
    have hjl:j < x.stem.data.toList.length:=by omega
    rw [List.getElem?_eq_getElem hjl] at hn
    have n1:x.stem.data.toList[j] ≠ 32:=fun e=>hn (.inl (by rw [e]))
    have n2:x.stem.data.toList[j] ≠ 10:=fun e=>hn (.inr (by rw [e]))
    exact f22_s0_tff x X (callerOf V22) (x.stem.size + 1) j (byteN x.stem j) (byteN x.stem j) (lt_of hj) (at_byte hj) (by rw [show ((byteN x.stem j:Int) == 32)=_ from hbyte hjl 32,decide_eq_false n1]) (at_byte hj) (by rw [show ((byteN x.stem j:Int) == 10)=_ from hbyte hjl 10,decide_eq_false n2]) (up hj hst)
  rcases first_fail (p:=fun j => ¬ (x.stem.data.toList[j]? = some 32 ∨ x.stem.data.toList[j]? = some 10)) x.stem.size with hall | ⟨k,hk,hbad,hbef⟩
  · have hany : anyBN x.stem = false := any_none fun i b hib hbb => by
      have hi:=(List.getElem?_eq_some_iff.1 hib).1
      refine hall i (by omega) ?_
      rw [hib]
      rcases hbb with rfl | rfl
      · exact .inl rfl
      · exact .inr rfl
    have l0:=f22_L0 x X (callerOf V22) (x.stem.size + 1) x.stem.size _ _ (Nat.lt_succ_self _) (fun j hj=>step j hj (hall j hj)) (f22_r0_f x X (callerOf V22) (x.stem.size + 1) x.stem.size (decide_eq_false (by omega))) (by simp)
    have r6:=reg6 (X:=X) hL (x:=x) (lf:=x.stem.size + 1) (i:=x.stem.size) h.id h.cat h.par h.feats
    have hno:=noLine_eq hany
    cases hok:lineOk x with
    | false =>
      rw [hok] at hno
      exact empty hok (f22_plft x (noLine x) X (callerOf V22) (x.stem.size + 1) x.stem.size l0 r6 hno)
    | true =>
      rw [hok] at hno
      have hline:=h.line hok
      have htext:=h.text hok
      have hjh:=joinB_head x
      have hls:lineS x=mkB (joinB (lineParts x) blank):=by unfold lineS; rw [hok]; rfl
      by_cases hf:x.feats=[]
      · rw [if_pos hf] at hjh
        rw [hjh] at hline hls
        rw [hls]
        exact run_res (B:=aS) hX hC (hL.dom 22 rfl rfl) Tryd.func22 hbody (f22_plfff x (noLine x) (mkB (headB x)) X (callerOf V22) (x.stem.size + 1) x.stem.size l0 r6 hno (reg8 hL hline) (decide_eq_false (by rw [hf]; decide))) (aS.de _)
      · rw [if_neg hf] at hjh
        rw [hjh] at hline hls
        have hl' : (headB x ++ ([32] ++ textF x.feats)).length ≤ 140737488355328:=hline
        simp only [List.length_append,List.length_cons,List.length_nil] at hl'
        have hpos:0 < x.feats.length:=List.length_pos_iff.2 hf
        rw [hls]
        exact run_res (B := aS) hX hC (hL.dom 22 rfl rfl) Tryd.func22 hbody (f22_plfft x (noLine x) (mkB (headB x)) X (callerOf V22) (x.stem.size + 1) x.stem.size _ _ _ l0 r6 hno (reg8 hL (by show _ ≤ 140737488355328; omega)) (decide_eq_true (by omega)) (w52 hL ⟨htext.1, by show _ ≤ 140737488355328; omega⟩ _)
          (addB (by show [32].length + (textF x.feats).length ≤ 140737488355328; rw [List.length_singleton]; omega)) (addB (by show (headB x).length + ([32] ++ textF x.feats).length ≤ 140737488355328; rw [List.length_append,List.length_singleton]; omega))) (aS.de _)
  · have hb : x.stem.data.toList[k]? = some 32 ∨ x.stem.data.toList[k]? = some 10 := Classical.not_not.1 hbad
    have hkl:k < x.stem.data.toList.length:=by omega
    have hany : anyBN x.stem = true := any_hit (k := k) (x := x.stem.data.toList[k]) (fun i hi b hib hbb => by
      refine hbef i hi ?_
      rw [hib]
      rcases hbb with rfl | rfl
      · exact .inl rfl
      · exact .inr rfl) (List.getElem?_eq_getElem hkl) (by
      rw [List.getElem?_eq_getElem hkl] at hb
      rcases hb with hb | hb
      · exact .inl (Option.some.inj hb)
      · exact .inr (Option.some.inj hb))
    have hok : lineOk x = false := by
      unfold lineOk
      rw [hany]
      cases nameL x.id <;> cases nameL x.cat <;> cases decide (x.stem=dash) <;> rfl
    rw [List.getElem?_eq_getElem hkl] at hb
    by_cases h32:x.stem.data.toList[k]=32
    · have hr := f22_r0_tt x X (callerOf V22) (x.stem.size + 1) k (byteN x.stem k) (lt_of hk) (at_byte hk) (by rw [show ((byteN x.stem k : Int) == 32) = _ from hbyte hkl 32, decide_eq_true h32])
      exact empty hok (f22_pltt x X (callerOf V22) (x.stem.size + 1) k (f22_L0 x X (callerOf V22) (x.stem.size + 1) k _ _ (by omega) (fun j hj=>step j (by omega) (hbef j hj)) hr (by simp)))
    · have h10 : x.stem.data.toList[k] = 10 := by
        rcases hb with hb | hb
        · exact absurd (Option.some.inj hb) h32
        · exact Option.some.inj hb
      have hr:=f22_r0_tft x X (callerOf V22) (x.stem.size + 1) k (byteN x.stem k) (byteN x.stem k) (lt_of hk) (at_byte hk) (by rw [show ((byteN x.stem k:Int) == 32)=_ from hbyte hkl 32,decide_eq_false h32]) (at_byte hk) (by rw [show ((byteN x.stem k:Int) == 10)=_ from hbyte hkl 10,decide_eq_true h10])
      exact empty hok (f22_pltft x X (callerOf V22) (x.stem.size + 1) k (f22_L0 x X (callerOf V22) (x.stem.size + 1) k _ _ (by omega) (fun j hj=>step j (by omega) (hbef j hj)) hr (by simp)))
end
end Go.Proofs.Lex
end
/- Lexicon: the reference's ParseLine. -/
section
open Go Go.Vm Go.Proofs
namespace Go.Proofs.Lex
section
variable [Fixed] {X:Ext}
/-- What ref09.ParseLine of this text asks. -/
def V24 (x0:Lexm):Go.Vm.Spec:=(((Go.Vm.Spec.on (fun _ _=>none) 57 (s1 aS aW wordF fun s=>s.size ≤ big)).on 58 (s1 aS aS undashS fun _=>True)).on 59 (s1 aS aFsB parseB fun s=>(s.size + 1) * 33 ≤ big)).on 22 (s1 aL aS lineS fun x=>x=x0)
theorem a59 (hL:XL X) {x0:Lexm} {s:ByteArray} {F:List Feat} {b:Bool} (hs:(s.size + 1) * 33 ≤ big) (e:parseB s=(F,b)) (σ:List Ob):callv X (callerOf (V24 x0)) false 59 [st s] σ 0=some (.tup [featsV F,bo b],σ):=by
  obtain ⟨a1,a2,a3⟩:=hL.ok 59 rfl
  have:=call_on (X:=X) (B:=aFsB) (T:=V24 x0) (y:=parseB s) (vs:=[aS.enc s]) (σ:=σ) (ro:=0) (dr:=false) a1 a2 a3 rfl (s1_at (A:=aS) (B:=aFsB) (g:=parseB) (ok:=fun s=>(s.size + 1) * 33 ≤ big) hs)
  rw [e] at this
  exact this
end
end Go.Proofs.Lex
end
/- Lexicon: plain laws: a line, read again. -/
section
open Go Go.Vm Go.Proofs
namespace Go.Proofs.Lex
/-! ### what a name's bytes are -/
/-! ### a line's words -/
theorem lineOk_parts {x:Lexm} (h:lineOk x=true):nameL x.id=true∧nameL x.cat=true∧x.stem ≠ dash∧anyBN x.stem=false∧(x.par=emp ∨ nameL x.par=true)∧x.par ≠ dash∧validF x.feats=true:=by
  unfold lineOk at h
  simp only [Bool.and_eq_true,Bool.or_eq_true,Bool.not_eq_true',decide_eq_true_eq,decide_eq_false_iff_not] at h
  simp only [h,and_self,not_false_eq_true,ne_eq]
end Go.Proofs.Lex
end
/- Lexicon: the laws of lines and of parsing, walked (printed) -/
section
open Go Go.Vm Go.Proofs
namespace Go.Proofs.Lex
theorem f5_pttt (x0:Lexm)(X:Ext)(call:Caller)(lf m7:Nat)(c7:List AV)(k7:LK)(x13 x15:ByteArray)
 (h0:callv X call false 14 [] [Ob.cells [st (Lexm.id x0),st (Lexm.cat x0),st (Lexm.stem x0),st (Lexm.par x0),lro (List.length (Lexm.feats x0)) 2 (List.flatMap featC (Lexm.feats x0))]] 0=some (bo true,[Ob.cells [st (Lexm.id x0),st (Lexm.cat x0),st (Lexm.stem x0),st (Lexm.par x0),lro (List.length (Lexm.feats x0)) 2 (List.flatMap featC (Lexm.feats x0))]]))
 (h1:bsl Tryd.prog 22 1 [Ob.cells [st (Lexm.id x0),st (Lexm.cat x0),st (Lexm.stem x0),st (Lexm.par x0),lro (List.length (Lexm.feats x0)) 2 (List.flatMap featC (Lexm.feats x0))]] false 0 [(0,AV.agg [st (Lexm.id x0),st (Lexm.cat x0),st (Lexm.stem x0),st (Lexm.par x0),lro (List.length (Lexm.feats x0)) 2 (List.flatMap featC (Lexm.feats x0))])]=some (AV.list k7 m7 5 c7,[Ob.cells [st (Lexm.id x0),st (Lexm.cat x0),st (Lexm.stem x0),st (Lexm.par x0),lro (List.length (Lexm.feats x0)) 2 (List.flatMap featC (Lexm.feats x0))]]))
 (h2:callv X call false 15 [AV.list k7 m7 5 c7] [Ob.cells [st (Lexm.id x0),st (Lexm.cat x0),st (Lexm.stem x0),st (Lexm.par x0),lro (List.length (Lexm.feats x0)) 2 (List.flatMap featC (Lexm.feats x0))]] 0=some (bo true,[Ob.cells [st (Lexm.id x0),st (Lexm.cat x0),st (Lexm.stem x0),st (Lexm.par x0),lro (List.length (Lexm.feats x0)) 2 (List.flatMap featC (Lexm.feats x0))]]))
 (h3:callv X call true 21 [AV.agg [st (Lexm.id x0),st (Lexm.cat x0),st (Lexm.stem x0),st (Lexm.par x0),lro (List.length (Lexm.feats x0)) 2 (List.flatMap featC (Lexm.feats x0))]] [Ob.cells [st (Lexm.id x0),st (Lexm.cat x0),st (Lexm.stem x0),st (Lexm.par x0),lro (List.length (Lexm.feats x0)) 2 (List.flatMap featC (Lexm.feats x0))]] 0=some (st x13,[Ob.cells [st (Lexm.id x0),st (Lexm.cat x0),st (Lexm.stem x0),st (Lexm.par x0),lro (List.length (Lexm.feats x0)) 2 (List.flatMap featC (Lexm.feats x0))]]))
 (h4:callv X call true 22 [AV.agg [st (Lexm.id x0),st (Lexm.cat x0),st (Lexm.stem x0),st (Lexm.par x0),lro (List.length (Lexm.feats x0)) 2 (List.flatMap featC (Lexm.feats x0))]] [Ob.cells [st (Lexm.id x0),st (Lexm.cat x0),st (Lexm.stem x0),st (Lexm.par x0),lro (List.length (Lexm.feats x0)) 2 (List.flatMap featC (Lexm.feats x0))]] 0=some (st x15,[Ob.cells [st (Lexm.id x0),st (Lexm.cat x0),st (Lexm.stem x0),st (Lexm.par x0),lro (List.length (Lexm.feats x0)) 2 (List.flatMap featC (Lexm.feats x0))]]))
 (h5:(ByteArray.toList x13 == ByteArray.toList x15)=true):vbody Tryd.prog X call lf noFg Tryd.f5 (codeOf Tryd.f5) [AV.agg (lexC x0)] [] 0=some (bo true,[Ob.cells [st (Lexm.id x0),st (Lexm.cat x0),st (Lexm.stem x0),st (Lexm.par x0),lro (List.length (Lexm.feats x0)) 2 (List.flatMap featC (Lexm.feats x0))]]) :=
  along_sound (ans:=[(4,Ans.v (bo true)),(10,Ans.v (AV.list k7 m7 5 c7)),(12,Ans.v (bo true)),(19,Ans.v (st x13)),(21,Ans.v (st x15)),(22,Ans.b true)]) (by kernel_rfl) (ai h0 (ai h1 (ai h2 (ai h3 (ai h4 (ai h5 trivial))))))
theorem f5_ptft (x0:Lexm)(X:Ext)(call:Caller)(lf m7:Nat)(c7:List AV)(k7:LK)
 (h0:callv X call false 14 [] [Ob.cells [st (Lexm.id x0),st (Lexm.cat x0),st (Lexm.stem x0),st (Lexm.par x0),lro (List.length (Lexm.feats x0)) 2 (List.flatMap featC (Lexm.feats x0))]] 0=some (bo true,[Ob.cells [st (Lexm.id x0),st (Lexm.cat x0),st (Lexm.stem x0),st (Lexm.par x0),lro (List.length (Lexm.feats x0)) 2 (List.flatMap featC (Lexm.feats x0))]]))
 (h1:bsl Tryd.prog 22 1 [Ob.cells [st (Lexm.id x0),st (Lexm.cat x0),st (Lexm.stem x0),st (Lexm.par x0),lro (List.length (Lexm.feats x0)) 2 (List.flatMap featC (Lexm.feats x0))]] false 0 [(0,AV.agg [st (Lexm.id x0),st (Lexm.cat x0),st (Lexm.stem x0),st (Lexm.par x0),lro (List.length (Lexm.feats x0)) 2 (List.flatMap featC (Lexm.feats x0))])]=some (AV.list k7 m7 5 c7,[Ob.cells [st (Lexm.id x0),st (Lexm.cat x0),st (Lexm.stem x0),st (Lexm.par x0),lro (List.length (Lexm.feats x0)) 2 (List.flatMap featC (Lexm.feats x0))]]))
 (h2:callv X call false 15 [AV.list k7 m7 5 c7] [Ob.cells [st (Lexm.id x0),st (Lexm.cat x0),st (Lexm.stem x0),st (Lexm.par x0),lro (List.length (Lexm.feats x0)) 2 (List.flatMap featC (Lexm.feats x0))]] 0=some (bo false,[Ob.cells [st (Lexm.id x0),st (Lexm.cat x0),st (Lexm.stem x0),st (Lexm.par x0),lro (List.length (Lexm.feats x0)) 2 (List.flatMap featC (Lexm.feats x0))]]))
 (h3:callv X call false 14 [] [Ob.cells [st (Lexm.id x0),st (Lexm.cat x0),st (Lexm.stem x0),st (Lexm.par x0),lro (List.length (Lexm.feats x0)) 2 (List.flatMap featC (Lexm.feats x0))]] 0=some (bo true,[Ob.cells [st (Lexm.id x0),st (Lexm.cat x0),st (Lexm.stem x0),st (Lexm.par x0),lro (List.length (Lexm.feats x0)) 2 (List.flatMap featC (Lexm.feats x0))]])):vbody Tryd.prog X call lf noFg Tryd.f5 (codeOf Tryd.f5) [AV.agg (lexC x0)] [] 0=some (bo true,[Ob.cells [st (Lexm.id x0),st (Lexm.cat x0),st (Lexm.stem x0),st (Lexm.par x0),lro (List.length (Lexm.feats x0)) 2 (List.flatMap featC (Lexm.feats x0))]]) :=
  along_sound (ans:=[(4,Ans.v (bo true)),(10,Ans.v (AV.list k7 m7 5 c7)),(12,Ans.v (bo false)),(18,Ans.v (bo true))]) (by kernel_rfl) (ai h0 (ai h1 (ai h2 (ai h3 trivial))))
end Go.Proofs.Lex
end
/- Lexicon: the laws of lines, of parsing, and of both. -/
section
open Go Go.Vm Go.Proofs
namespace Go.Proofs.Lex
/-- What a machine holds of a lexeme's features in the second form. -/
abbrev smallB:Nat:=184549376
def SmallF (F:List Feat):Prop:=F.length ≤ smallB∧∀ f ∈ F,f.name.size ≤ smallB∧f.value.size ≤ smallB
section
variable [Fixed]
theorem short_few {x:Lexm} (h:fewL [x]=true):x.id.size ≤ 60∧x.cat.size ≤ 60∧x.stem.size ≤ 200∧x.par.size ≤ 60∧x.feats.length ≤ 20:=by
  unfold fewL at h
  simp only [List.all_cons,List.all_nil,Bool.and_true,Bool.and_eq_true] at h
  have hs:=h.1
  unfold shortL at hs
  simp only [Bool.and_eq_true,Bool.not_eq_true',decide_eq_false_iff_not] at hs
  refine ⟨?_,?_,?_,?_,?_⟩ <;> omega
theorem valid8 {F:List Feat} (h:validF F=true):F.length ≤ 8:=by
  unfold validF at h
  simp only [Bool.and_eq_true,decide_eq_true_eq] at h
  exact h.2.2
theorem line_small {x:Lexm} (h:fewL [x]=true) (hF:SmallF x.feats) (hok:lineOk x=true):(textF x.feats).length ≤ 2952790100∧(joinB (lineParts x) blank).length ≤ 2952791000:=by
  obtain ⟨h1,h2,h3,h4,h5⟩:=short_few h
  have h8:=valid8 (lineOk_parts hok).2.2.2.2.2.2
  have ht:=textN_bound (B:=smallB) hF.2 x.feats.length (Nat.le_refl _)
  have hm:x.feats.length * (2 * smallB + 2) ≤ 8 * (2 * smallB + 2):=Nat.mul_le_mul_right _ h8
  have e:8 * (2 * smallB + 2)=2952790032:=by decide
  have htl : (textF x.feats).length ≤ 2952790032 := by
    show (textN x.feats x.feats.length).length ≤ _
    omega
  refine ⟨by omega,?_⟩
  rw [joinB_head]
  have d3:=dashS_le h3 (by omega)
  have d4:=dashS_le h4 (by omega)
  rw [size_list] at h1 h2 d3 d4
  have hh : (headB x).length ≤ 400 := by
    unfold headB
    simp only [List.length_append,List.length_singleton]
    omega
  split
  · omega
  · simp only [List.length_append, List.length_singleton]
    omega
end
section
variable [Fixed] {X:Ext}
theorem okLine_few {x:Lexm} (h:fewL [x]=true) (hF:SmallF x.feats):okLine x∧okS x.stem:=by
  obtain ⟨h1,h2,h3,h4,h5⟩:=short_few h
  refine ⟨⟨?_,?_,?_,⟨?_,fun f hf => ?_⟩,any_all ?_,fun hok=>⟨?_,?_⟩,fun hok => ?_⟩,?_⟩
  · show _ ≤ 140737488355328; omega
  · show _ ≤ 140737488355328; omega
  · show _ ≤ 140737488355328; omega
  · show _ ≤ 140737488355328; omega
  · obtain ⟨k1, k2⟩ := hF.2 f hf
    have:smallB=184549376:=rfl
    exact ⟨by show _ ≤ 140737488355328; omega,by show _ ≤ 140737488355328; omega⟩
  · show _ < 4294967281; omega
  · show _ ≤ 140737488355328; omega
  · have := (line_small h hF hok).1
    show _ ≤ 140737488355328; omega
  · have := (line_small h hF hok).2
    show _ ≤ 140737488355328; omega
  · show _ ≤ 140737488355328; omega
/-- The example; a list's test; what else these laws ask. -/
def V5 (x0:Lexm):Go.Vm.Spec:=(TB.on 21 (s1 aL aS lineS fun x=>x=x0)).on 22 (s1 aL aS lineS fun x=>x=x0)
theorem V5_ok (hX:ExtOk Tryd.prog X) (hM:XM X) (h14:CallAt Tryd.prog 14 [] [] 0 (bo true) []) {x0:Lexm} (h:okLine x0∧okS x0.stem):SpecOk Tryd.prog (V5 x0) :=
  SpecOk.s1 (SpecOk.s1 (TB_ok hX hM.toXL h14) fun x hx=>by subst hx; exact call21 hX hM h.1) fun x hx=>by subst hx; exact call22 hX hM.toXL h.1 h.2
theorem few_one {x:Lexm} {T:Go.Vm.Spec} {b:Bool} (hL:XL X) (h:T 15 [.list .clip 1 5 (lexC x)]=some (bo b)) (σ:List Ob):callv X (callerOf T) false 15 [.list .clip 1 5 (lexC x)] σ 0=some (bo b,σ):=by
  obtain ⟨a1,a2,a3⟩:=hL.ok 15 rfl
  refine call_on (B:=aB) (y:=b) a1 a2 a3 ?_ h
  have:AV.lt 0 (.list .clip 1 5 (lexC x))=true:=aLs.declt _ [x] (aLs.de [x])
  simp only [AV.ltAll,this,Bool.and_self]
theorem tb_few (x:Lexm):TB 15 [.list .clip 1 5 (lexC x)]=some (bo (fewL [x])):=by
  have hd:aLs.dec (.list .clip 1 5 (lexC x))=some [x]:=aLs.de [x]
  show s1 aLs aB fewL (fun L=>L.length ≤ big) [.list .clip 1 5 (lexC x)]=_
  unfold s1
  rw [sp1_at hd]
  exact if_pos (by show 1 ≤ 140737488355328; omega)
theorem bsl_lex (x:Lexm) (σ:List Ob):bsl Tryd.prog 22 1 σ false 0 [(0,.agg (lexC x))]=some (.list .clip 1 5 (lexC x),σ):=bsl_one Tryd.underlying22 cells33 zero33 rfl rfl (by show 5 ≤ 16777216; omega) (owns_lex _) rfl
variable (hX:ExtOk Tryd.prog X) (hM:XM X) (h14:CallAt Tryd.prog 14 [] [] 0 (bo true) [])
include hX hM h14
theorem on14 {T:Go.Vm.Spec} (h:T 14 []=some (bo true)) (σ:List Ob) (dr:Bool):callv X (callerOf T) dr 14 [] σ 0=some (bo true,σ):=by
  obtain ⟨a1,a2,a3⟩:=hM.ok 14 rfl
  exact call_on (B:=aB) (y:=true) a1 a2 a3 rfl h
theorem law5u {x:Lexm} (hF:SmallF x.feats):CallAt Tryd.prog 5 [aL.enc x] [] 0 (aB.enc true) []:=by
  have hL:=hM.toXL
  cases hf:fewL [x] with
  | false =>
    have hC:=callerOf_ok (TB_ok hX hL h14)
    have t15:=few_one (X:=X) hL (tb_few x)
    rw [hf] at t15
    exact run_res (B:=aB) hX hC (hL.dom 5 rfl rfl) Tryd.func5 (by kernel_rfl) (f5_ptft x X (callerOf TB) 0 1 (lexC x) .clip (on14 hX hM h14 rfl _ _) (bsl_lex x _) (t15 _) (on14 hX hM h14 rfl _ _)) rfl
  | true =>
    have hok:=okLine_few hf hF
    have hC:=callerOf_ok (V5_ok hX hM h14 hok)
    have t15:=few_one (X:=X) (T:=V5 x) hL (tb_few x)
    rw [hf] at t15
    have c21 : ∀ σ, callv X (callerOf (V5 x)) true 21 [.agg (lexC x)] σ 0 = some (st (lineS x), σ) := fun σ => by
      obtain ⟨a1,a2,a3⟩:=hL.ok 21 rfl
      exact call_on (B:=aS) (T:=V5 x) (y:=lineS x) (vs:=[aL.enc x]) a1 a2 a3 (by simp only [AV.ltAll,aL.lt,Bool.and_self]) (s1_at (A:=aL) (B:=aS) (g:=lineS) (ok:=fun y=>y=x) rfl)
    have c22 : ∀ σ, callv X (callerOf (V5 x)) true 22 [.agg (lexC x)] σ 0 = some (st (lineS x), σ) := fun σ => by
      obtain ⟨a1,a2,a3⟩:=hL.ok 22 rfl
      exact call_on (B:=aS) (T:=V5 x) (y:=lineS x) (vs:=[aL.enc x]) a1 a2 a3 (by simp only [AV.ltAll,aL.lt,Bool.and_self]) (s1_at (A:=aL) (B:=aS) (g:=lineS) (ok:=fun y=>y=x) rfl)
    exact run_res (B:=aB) hX hC (hL.dom 5 rfl rfl) Tryd.func5 (by kernel_rfl) (f5_pttt x X (callerOf (V5 x)) 0 1 (lexC x) .clip _ _ (on14 hX hM h14 rfl _ _) (bsl_lex x _) (t15 _) (c21 _) (c22 _) (eqB_iff.2 rfl)) rfl
end
end Go.Proofs.Lex
end
/- Lexicon: where what is read is of little bulk, no part of it is large; rows of that kind. -/
section
open Go Go.Vm Go.Proofs Go.Proofs.YtogacbdboplbfaaDoor
open Go.RowKit Go.ChangeShapes Go.WideShapes Go.Lib Go.Shelf
namespace Go.Proofs.Lex
section
variable {H:Type}
theorem bulk_pos (d:DataW H):1 ≤ Rows.uptoBulk d:=by
  cases d with
  | lit l=>cases l <;> simp [Rows.uptoBulk]
  | _=>simp [Rows.uptoBulk]
theorem bulk_len:∀ (ds:List (DataW H)),ds.length ≤ Rows.uptoBulkAll ds
  | []=>by simp [Rows.uptoBulkAll]
  | d :: ds => by
    have h1:=bulk_pos d
    have h2:=bulk_len ds
    simp only [Rows.uptoBulkAll,List.length_cons]
    omega
theorem mul_le {a b M N:Nat} (h:a ≤ b) (hM:M ≤ N):a * M ≤ N * b:=by rw [Nat.mul_comm]; exact Nat.mul_le_mul hM h
variable (P:Program) (M:Nat) (tl:List TypeId) (hok:tl.all (Go.Vm.okT P tl)=true) (hM:∀ t ∈ tl,P.bytesOf t ≤ M) (h1:1 ≤ M)
include hok in
theorem okT_slice {t e:TypeId} (ht:t ∈ tl) (hu:P.underlying t=some (.slice e)):e ∈ tl:=by
  have h:=List.all_eq_true.1 hok t ht
  unfold Go.Vm.okT at h
  rw [hu] at h
  simp only [Bool.and_eq_true] at h
  exact memN_iff h.1.2
include hok in
theorem okT_struct {t:TypeId} {fs:Array Field} (ht:t ∈ tl) (hu:P.underlying t=some (.struct fs)):∀ x ∈ fs.toList.map (·.type),x ∈ tl:=by
  have h:=List.all_eq_true.1 hok t ht
  unfold Go.Vm.okT at h
  rw [hu] at h
  simp only [Bool.and_eq_true,List.all_eq_true] at h
  intro x hx
  obtain ⟨f,hf,rfl⟩:=List.mem_map.1 hx
  exact memN_iff (h.1 f hf)
include hok in
theorem okT_other {t:TypeId} (ht:t ∈ tl):(∀ e,P.underlying t ≠ some (.pointer e))∧(∀ k e,P.underlying t ≠ some (.map k e))∧(∀ n e,P.underlying t ≠ some (.array n e)):=by
  have h:=List.all_eq_true.1 hok t ht
  unfold Go.Vm.okT at h
  refine ⟨fun e hu => ?_,fun k e hu => ?_,fun n e hu => ?_⟩ <;> rw [hu] at h <;> simp at h
include hok hM h1
mutual
theorem weights_le:∀ (d:DataW H) (t:TypeId),t ∈ tl→∀ n ∈ DataW.weights P t d,n ≤ (2 * M) * Rows.uptoBulk d
  | .lit l, t, ht, n, hn => by
    cases l with
    | string bs =>
      simp only [DataW.weights,List.mem_singleton] at hn
      subst hn
      simp only [Rows.uptoBulk]
      have:=Nat.mul_le_mul (show 1 ≤ 2 * M by omega) (Nat.le_refl (bs.length + 1))
      omega
    | _=>simp [DataW.weights] at hn
  | .nil,t,ht,n,hn=>by simp [DataW.weights] at hn
  | .ptr d, t, ht, n, hn => by
    simp only [DataW.weights] at hn
    split at hn
    · rename_i e hu
      exact absurd hu ((okT_other P tl hok ht).1 e)
    · simp at hn
  | .slice elems spare, t, ht, n, hn => by
    simp only [DataW.weights] at hn
    split at hn
    · rename_i e hu
      have he:=okT_slice P tl hok ht hu
      simp only [List.mem_cons,List.mem_append] at hn
      simp only [Rows.uptoBulk]
      rw [Nat.mul_add,Nat.mul_add]
      rcases hn with rfl | hn | hn
      · have k1 := bulk_len elems
        have k2:=bulk_len spare
        have k3:=mul_le (show elems.length + spare.length ≤ Rows.uptoBulkAll elems + Rows.uptoBulkAll spare by omega) (show P.bytesOf e ≤ 2 * M by have:=hM e he; omega)
        rw [Nat.mul_add] at k3
        omega
      · have := weightsAll_le elems e he n hn
        omega
      · have := weightsAll_le spare e he n hn
        omega
    · simp at hn
  | .agg parts, t, ht, n, hn => by
    simp only [DataW.weights] at hn
    simp only [Rows.uptoBulk]
    rw [Nat.mul_add]
    split at hn
    · rename_i fs hu
      have:=weightsEach_le parts _ (okT_struct P tl hok ht hu) n hn
      omega
    · rename_i k e hu
      exact absurd hu ((okT_other P tl hok ht).2.2 k e)
    · simp at hn
  | .iface _ _,t,ht,n,hn=>by simp [DataW.weights] at hn
  | .map entries, t, ht, n, hn => by
    simp only [DataW.weights] at hn
    split at hn
    · rename_i k e hu
      exact absurd hu ((okT_other P tl hok ht).2.1 k e)
    · simp at hn
  | .held _,t,ht,n,hn=>by simp [DataW.weights] at hn
theorem weightsAll_le:∀ (ds:List (DataW H)) (e:TypeId),e ∈ tl→∀ n ∈ DataW.weightsAll P e ds,n ≤ (2 * M) * Rows.uptoBulkAll ds
  | [],e,he,n,hn=>by simp [DataW.weightsAll] at hn
  | d :: ds, e, he, n, hn => by
    simp only [DataW.weightsAll,List.mem_append] at hn
    simp only [Rows.uptoBulkAll]
    rw [Nat.mul_add]
    rcases hn with hn | hn
    · have := weights_le d e he n hn
      omega
    · have := weightsAll_le ds e he n hn
      omega
theorem weightsEach_le:∀ (ds:List (DataW H)) (ts:List TypeId),(∀ t ∈ ts,t ∈ tl)→∀ n ∈ DataW.weightsEach P ts ds,n ≤ (2 * M) * Rows.uptoBulkAll ds
  | [],ts,ht,n,hn=>by cases ts <;> simp [DataW.weightsEach] at hn
  | d::ds,[],ht,n,hn=>by simp [DataW.weightsEach] at hn
  | d :: ds, t :: ts, ht, n, hn => by
    simp only [DataW.weightsEach,List.mem_append] at hn
    simp only [Rows.uptoBulkAll]
    rw [Nat.mul_add]
    rcases hn with hn | hn
    · have := weights_le d t (ht t (List.mem_cons_self ..)) n hn
      omega
    · have := weightsEach_le ds ts (fun u hu => ht u (List.mem_cons_of_mem _ hu)) n hn
      omega
end
end
/-- What a world of little bulk says of a lexeme's features. -/
theorem smallF {x:Lexm} (h:LexIn 184549376 x):SmallF x.feats:=by
  obtain ⟨_,_,_,_,h5,h6⟩:=h
  exact ⟨by show _ ≤ 184549376; omega,h5⟩
theorem bytes_all:(tys.all fun t=>Nat.ble (Tryd.prog.bytesOf t) 88)=true:=by kernel_rfl
/-- The bound of the second form's words. -/
abbrev bulkB:Nat:=184549376
theorem small_weights {H:Type} {ts:List TypeId} {ds:List (DataW H)} (ht:∀ t ∈ ts,t ∈ tys) (h:Rows.uptoSmall H ds=true):(DataW.weightsEach Tryd.prog ts ds).all (· ≤ bulkB)=true:=by
  rw [List.all_eq_true]
  intro n hn
  have h1:=weightsEach_le Tryd.prog 88 tys tys_ok (fun t ht=>Nat.le_of_ble_eq_true (List.all_eq_true.1 bytes_all t ht)) (by omega) ds ts ht n hn
  simp only [Rows.uptoSmall,decide_eq_true_eq] at h
  have h2:(2 * 88) * Rows.uptoBulkAll ds ≤ (2 * 88) * 1048576:=Nat.mul_le_mul_left _ h
  simp only [decide_eq_true_eq]
  have:bulkB=184549376:=rfl
  omega
set_option maxRecDepth 100000 in
/-- The second form's frame: the tables laid, and little bulk. -/
theorem upto_returns {H:Type} {enc:TypeId × Value→H} {os:Os} {f:FuncId} {fn:Func} {s:ChangeSpec} (F:Stop.Interp) (hv:s.vars=[]) (started:os.Started) (noInit:Tryd.checked.prog.inits.idxOf? f=none) (hfn:Tryd.checked.prog.funcs[f]? = some fn)
    (args0:Array Value)
    (hvar:(((wit os)).forCall (fun _ _=>0) ⟨#[],args0,[]⟩).variablesB Tryd.checked.prog=true)
    (hr : ((((wit os)).forCall (fun _ _ => 0) ⟨#[], args0, []⟩).heap.toList.drop Tryd.checked.prog.globals.size).take ((begin Tryd.checked.prog (fun _ _ => 0) default).world.heap.size - Tryd.checked.prog.globals.size) =
      (begin Tryd.checked.prog (fun _ _=>0) default).world.heap.toList.drop Tryd.checked.prog.globals.size)
    (hok:Input.okWideB Tryd.checked.prog (((wit os)).forCall (fun _ _=>0) ⟨#[],args0,[]⟩) f ⟨#[],args0,[]⟩=true)
    (hx:(match DataW.whole enc Tryd.checked.prog (((wit os)).forCall (fun _ _=>0) ⟨#[],args0,[]⟩).memory fn.params.toList s.vars false args0.toList 8 with | some x=>Rows.uptoSmall H (x.1 ++ x.2.1) | none=>false)=true)
    (hsz:s.sizedB enc Tryd.checked.prog fn false (((wit os)).forCall (fun _ _=>0) ⟨#[],args0,[]⟩).memory args0 8=true)
    (contract : ∀ (W : World) (base : Nat) (args : Array Value) (ds gs : List (DataW H)) (before : List MemPlace),
      (∀ (j:Nat) t v,fn.params[j]? = some t→args[j]? = some v→Value.okWide Tryd.checked.prog W .any base t v) →
      DataW.Whole enc Tryd.checked.prog fn.params.toList s.vars false W args.toList ds gs before →
      Rows.uptoSmall H (ds ++ gs)=true→laidMetH Tryd.prog laidL W→W.ShapedOpen Tryd.checked.prog →
      Calls Tryd.checked.prog f args W fun e W' => ∃ v,e = .returned v∧s.post enc Tryd.checked.prog fn false true false false W args v W') :
    ReturnsInHanded {} Tryd.checked os f .any (fun w args=>((Rows.OpenSpec.upto s).pre enc Tryd.prog fn [] false w args∧laidMetH Tryd.prog laidL w)∧sizedMet enc Tryd.prog fn (Rows.OpenSpec.upto s) false w args) (((Rows.OpenSpec.upto s).at F).post enc Tryd.prog fn false true false false):=by
  refine returnsInHanded_of_calls own started noInit ?_ ?_
  · refine ⟨wit os, fun _ _ => 0, ⟨#[], args0, []⟩, World.laidAll_os _ _ _, World.shaped_of_B hvar hr, rfl, (Input.okWide_of_okWideB hok).2, ⟨⟨?_, laidH (wit_met os _)⟩, ?_⟩, ?_⟩
    · split at hx
      · rename_i x hw
        exact (OpenSpec.pre_some (s:=Rows.OpenSpec.upto s) (k:=Rows.uptoSmall) rfl [] false _ _).2 ⟨x.1,x.2.1,x.2.2,DataW.Whole_of_whole hw,rfl,hx⟩
      · cases hx
    · exact sizedMet_of_sizedB hsz
    · simp only [Assume.holds]
      exact ⟨by simp,by simp,fun h=>by simp at h,by simp,by simp⟩
  · intro w tape i _ hsh _ hok hpre hholds
    obtain ⟨_,_,_,fn',hfn',_,_,_,_,hval⟩:=hok
    have e:fn' = fn:=Option.some.inj (hfn'.symm.trans hfn)
    subst e
    obtain ⟨⟨hp,hl⟩,_⟩:=hpre
    obtain ⟨ds,gs,before,hw,_,hkk'⟩:=(OpenSpec.pre_some (s:=Rows.OpenSpec.upto s) (k:=Rows.uptoSmall) rfl [] false _ _).1 hp
    have hw' := DataW.Whole.of_heap (w' := w.forCall tape i) (by rfl) hw
    have hl' : laidMetH Tryd.prog laidL (w.forCall tape i):=hl.of_heap (by rfl)
    refine (contract (w.forCall tape i) w.heap.size i.args ds gs before hval hw' hkk' hl' hsh).mono fun e W' ⟨v,he,hpo⟩ => ?_
    subst he
    exact ChangeSpec.post_blind hpo
end Go.Proofs.Lex
end
