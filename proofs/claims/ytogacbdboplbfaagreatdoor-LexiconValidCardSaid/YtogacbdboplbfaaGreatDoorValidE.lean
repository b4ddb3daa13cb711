/- Part 5 of the texts of this claim: the evaluator, and what it says of the program's functions. -/
import Derived.Test.YtogacbdboplbfaaGreatDoorValidD
import Derived.Test.YtogacbdboplbfaaGreatDoorValidC
set_option linter.unusedSectionVars false
set_option linter.unusedVariables false
set_option linter.unusedSimpArgs false
set_option linter.constructorNameAsVariable false
/- Lexicon: comparisons, walked (printed) -/
section
open Go Go.Vm Go.Proofs
namespace Go.Proofs.Lex
def fg45:Nat→List Nat
  | 5003=>[1]
  | _=>[]
def f45_F0 (F0:List Feat) (i0:Nat):St :=
  stOf 41 [2,3,4,8,9,10,11,12,13,14,15,16,17,18,19,20,21,22,23,24,25,26,27,28,29,30,31,32,33,34,35,36,37] [(0,lro (List.length F0) 2 (List.flatMap featC F0)),(5,lro (List.length F0) 2 (List.flatMap featC F0)),(6,i6 (↑(List.length F0):Int)),(7,i6 (↑i0:Int))] []
def f45_S0 (F0:List Feat):St :=
  stOf 41 [] [(0,lro (List.length F0) 2 (List.flatMap featC F0)),(2,bo false),(5,lro (List.length F0) 2 (List.flatMap featC F0)),(6,i6 (↑(List.length F0):Int)),(7,i6 0)] []
abbrev f45_D0:List Nat:=[37,2,36,35,34,33,32,31,30,29,28,27,26,25,24,23,22,21,20,19,18,17,16,15,14,13,12,3,4,11,10,9,8]
theorem f45_L0 (F0:List Feat) (X:Ext) (call:Caller) (lf:Nat) (n:Nat) (x:Ex) (S' : St)
  (hn:n < lf)
  (hs:∀ j,j < n→∃ S1,vexec Tryz.prog X call lf 0 fg45 (loopN Tryz.f17 0) (f45_F0 F0 j)=some (Ex.normal,S1)∧forget f45_D0 S1=(f45_F0 F0 (j + 1)))
  (he:vexec Tryz.prog X call lf 0 fg45 (loopN Tryz.f17 0) (f45_F0 F0 n)=some (x,S'))
  (hx:x ≠ Ex.normal):vexec Tryz.prog X call lf 0 fg45 (Go.Code.loop (loopN Tryz.f17 0)) (f45_S0 F0)=some (x,S') :=
  loop_runK (by kernel_rfl) (fun j=>(f45_F0 F0 j)) n hn (by show forget f45_D0 (f45_S0 F0)=(f45_F0 F0 0); unfold f45_F0; show _=_; kernel_rfl) hs he hx
def f45_S1 (F0:List Feat) (i0:Nat) (x10_0_0:ByteArray) (x10_0_1:ByteArray) (r10:List AV) (x29_0_0:ByteArray) (x29_0_1:ByteArray) (r29:List AV):St :=
  stOf 41 [37] [(0,lro (List.length F0) 2 (List.flatMap featC F0)),(2,bo false),(3,i6 (↑i0:Int)),(4,AV.eaddr [st x10_0_0,st x10_0_1]),(5,lro (List.length F0) 2 (List.flatMap featC F0)),(6,i6 (↑(List.length F0):Int)),(7,i6 (↑i0:Int)),(8,bo true),(9,i6 (↑i0:Int)),(10,AV.eaddr (st x10_0_0::st x10_0_1::r10)),(11,AV.agg [st x10_0_0,st x10_0_1]),(12,AV.eaddr [st x10_0_0,st x10_0_1]),(13,st x10_0_0),(14,bo true),(15,bo false),(16,bo false),(17,AV.eaddr [st x10_0_1]),(18,st x10_0_1),(19,bo true),(20,bo false),(21,bo false),(22,bo false),(23,i6 (↑i0:Int)),(24,bo true),(25,bo true),(26,lro (List.length F0) 2 (List.flatMap featC F0)),(27,i6 (↑i0:Int)),(28,i6 (w6 ((↑i0:Int) - 1))),(29,AV.eaddr (st x29_0_0::st x29_0_1::r29)),(30,AV.eaddr (st x29_0_0::st x29_0_1::r29)),(31,st x29_0_0),(32,AV.eaddr [st x10_0_0,st x10_0_1]),(33,st x10_0_0),(34,bo true),(35,bo true),(36,bo true)] []
theorem f45_r0_ttttt (F0:List Feat) (X:Ext) (call:Caller) (lf:Nat) (i0:Nat) (x10_0_0:ByteArray) (x10_0_1:ByteArray) (r10:List AV) (x29_0_0:ByteArray) (x29_0_1:ByteArray) (r29:List AV)
  (h0:decide ((↑i0:Int) < (↑(List.length F0):Int))=true)
  (h1:keep [] (indexAddrv Tryz.prog 29 [] (lro (List.length F0) 2 (List.flatMap featC F0)) (i6 (↑i0:Int)))=some (AV.eaddr (st x10_0_0::st x10_0_1::r10),[]))
  (h2:callv X call true 38 [st x10_0_0] [] 0=some (bo true,[]))
  (h3:callv X call true 38 [st x10_0_1] [] 0=some (bo true,[]))
  (h4:decide ((↑i0:Int) > 0)=true)
  (h5:keep [] (indexAddrv Tryz.prog 29 [] (lro (List.length F0) 2 (List.flatMap featC F0)) (i6 (w6 ((↑i0:Int) - 1))))=some (AV.eaddr (st x29_0_0::st x29_0_1::r29),[]))
  (h6:(!Op.bytesLess (ByteArray.toList x29_0_0) (ByteArray.toList x10_0_0))=true):vexec Tryz.prog X call lf 0 fg45 (loopN Tryz.f17 0) (f45_F0 F0 i0)=some (Ex.ret,(f45_S1 F0 i0 x10_0_0 x10_0_1 r10 x29_0_0 x29_0_1 r29)) :=
  around_sound (ans:=[(1,Ans.b true),(5,Ans.v (AV.eaddr (st x10_0_0::st x10_0_1::r10))),(10,Ans.v (bo true)),(18,Ans.v (bo true)),(26,Ans.b true),(36,Ans.v (AV.eaddr (st x29_0_0::st x29_0_1::r29))),(46,Ans.b true)]) (by kernel_rfl) (ai h0 (ai h1 (ai h2 (ai h3 (ai h4 (ai h5 (ai h6 trivial)))))))
theorem f45_plttttt (F0:List Feat) (X:Ext) (call:Caller) (lf:Nat) (i0:Nat) (x10_0_0:ByteArray) (x10_0_1:ByteArray) (r10:List AV) (x29_0_0:ByteArray) (x29_0_1:ByteArray) (r29:List AV)
  (h0:vexec Tryz.prog X call lf 0 fg45 (Code.loop (loopN Tryz.f17 0)) (f45_S0 F0)=some (Ex.ret,(f45_S1 F0 i0 x10_0_0 x10_0_1 r10 x29_0_0 x29_0_1 r29))):vbody Tryz.prog X call lf fg45 Tryz.f17 (codeOf Tryz.f17) [featsV F0] [] 0=some (bo false,[]) :=
  along_sound (ans:=[(6,Ans.l Ex.ret (f45_S1 F0 i0 x10_0_0 x10_0_1 r10 x29_0_0 x29_0_1 r29))]) (by kernel_rfl) (ai h0 trivial)
theorem f45_s0_ttttf (F0:List Feat) (X:Ext) (call:Caller) (lf:Nat) (i0:Nat) (x10_0_0:ByteArray) (x10_0_1:ByteArray) (r10:List AV) (x29_0_0:ByteArray) (x29_0_1:ByteArray) (r29:List AV)
  (h0:decide ((↑i0:Int) < (↑(List.length F0):Int))=true)
  (h1:keep [] (indexAddrv Tryz.prog 29 [] (lro (List.length F0) 2 (List.flatMap featC F0)) (i6 (↑i0:Int)))=some (AV.eaddr (st x10_0_0::st x10_0_1::r10),[]))
  (h2:callv X call true 38 [st x10_0_0] [] 0=some (bo true,[]))
  (h3:callv X call true 38 [st x10_0_1] [] 0=some (bo true,[]))
  (h4:decide ((↑i0:Int) > 0)=true)
  (h5:keep [] (indexAddrv Tryz.prog 29 [] (lro (List.length F0) 2 (List.flatMap featC F0)) (i6 (w6 ((↑i0:Int) - 1))))=some (AV.eaddr (st x29_0_0::st x29_0_1::r29),[]))
  (h6:(!Op.bytesLess (ByteArray.toList x29_0_0) (ByteArray.toList x10_0_0))=false)
  (e0:(↑(i0 + 1):Int)=w6 ((↑i0:Int) + 1)):∃ S1,vexec Tryz.prog X call lf 0 fg45 (loopN Tryz.f17 0) (f45_F0 F0 i0)=some (Ex.normal,S1)∧forget f45_D0 S1=(f45_F0 F0 (i0 + 1)) :=
  ⟨stOf 41 [2] [(0,lro (List.length F0) 2 (List.flatMap featC F0)),(3,i6 (↑i0:Int)),(4,AV.eaddr [st x10_0_0,st x10_0_1]),(5,lro (List.length F0) 2 (List.flatMap featC F0)),(6,i6 (↑(List.length F0):Int)),(7,i6 (w6 ((↑i0:Int) + 1))),(8,bo true),(9,i6 (↑i0:Int)),(10,AV.eaddr (st x10_0_0::st x10_0_1::r10)),(11,AV.agg [st x10_0_0,st x10_0_1]),(12,AV.eaddr [st x10_0_0,st x10_0_1]),(13,st x10_0_0),(14,bo true),(15,bo false),(16,bo false),(17,AV.eaddr [st x10_0_1]),(18,st x10_0_1),(19,bo true),(20,bo false),(21,bo false),(22,bo false),(23,i6 (↑i0:Int)),(24,bo true),(25,bo true),(26,lro (List.length F0) 2 (List.flatMap featC F0)),(27,i6 (↑i0:Int)),(28,i6 (w6 ((↑i0:Int) - 1))),(29,AV.eaddr (st x29_0_0::st x29_0_1::r29)),(30,AV.eaddr (st x29_0_0::st x29_0_1::r29)),(31,st x29_0_0),(32,AV.eaddr [st x10_0_0,st x10_0_1]),(33,st x10_0_0),(34,bo false),(35,bo false),(36,bo false),(37,i6 (w6 ((↑i0:Int) + 1)))] [],around_sound (ans:=[(1,Ans.b true),(5,Ans.v (AV.eaddr (st x10_0_0::st x10_0_1::r10))),(10,Ans.v (bo true)),(18,Ans.v (bo true)),(26,Ans.b true),(36,Ans.v (AV.eaddr (st x29_0_0::st x29_0_1::r29))),(46,Ans.b false)]) (by kernel_rfl) (ai h0 (ai h1 (ai h2 (ai h3 (ai h4 (ai h5 (ai h6 trivial))))))),by unfold f45_F0; rw [e0]; show _=_; kernel_rfl⟩
theorem f45_s0_tttf (F0:List Feat) (X:Ext) (call:Caller) (lf:Nat) (i0:Nat) (x10_0_0:ByteArray) (x10_0_1:ByteArray) (r10:List AV)
  (h0:decide ((↑i0:Int) < (↑(List.length F0):Int))=true)
  (h1:keep [] (indexAddrv Tryz.prog 29 [] (lro (List.length F0) 2 (List.flatMap featC F0)) (i6 (↑i0:Int)))=some (AV.eaddr (st x10_0_0::st x10_0_1::r10),[]))
  (h2:callv X call true 38 [st x10_0_0] [] 0=some (bo true,[]))
  (h3:callv X call true 38 [st x10_0_1] [] 0=some (bo true,[]))
  (h4:decide ((↑i0:Int) > 0)=false)
  (e0:(↑(i0 + 1):Int)=w6 ((↑i0:Int) + 1)):∃ S1,vexec Tryz.prog X call lf 0 fg45 (loopN Tryz.f17 0) (f45_F0 F0 i0)=some (Ex.normal,S1)∧forget f45_D0 S1=(f45_F0 F0 (i0 + 1)) :=
  ⟨stOf 41 [2] [(0,lro (List.length F0) 2 (List.flatMap featC F0)),(3,i6 (↑i0:Int)),(4,AV.eaddr [st x10_0_0,st x10_0_1]),(5,lro (List.length F0) 2 (List.flatMap featC F0)),(6,i6 (↑(List.length F0):Int)),(7,i6 (w6 ((↑i0:Int) + 1))),(8,bo true),(9,i6 (↑i0:Int)),(10,AV.eaddr (st x10_0_0::st x10_0_1::r10)),(11,AV.agg [st x10_0_0,st x10_0_1]),(12,AV.eaddr [st x10_0_0,st x10_0_1]),(13,st x10_0_0),(14,bo true),(15,bo false),(16,bo false),(17,AV.eaddr [st x10_0_1]),(18,st x10_0_1),(19,bo true),(20,bo false),(21,bo false),(22,bo false),(23,i6 (↑i0:Int)),(24,bo false),(25,bo false),(35,bo false),(36,bo false),(37,i6 (w6 ((↑i0:Int) + 1)))] [],around_sound (ans:=[(1,Ans.b true),(5,Ans.v (AV.eaddr (st x10_0_0::st x10_0_1::r10))),(10,Ans.v (bo true)),(18,Ans.v (bo true)),(26,Ans.b false)]) (by kernel_rfl) (ai h0 (ai h1 (ai h2 (ai h3 (ai h4 trivial))))),by unfold f45_F0; rw [e0]; show _=_; kernel_rfl⟩
def f45_S2 (F0:List Feat) (i0:Nat) (x10_0_0:ByteArray) (x10_0_1:ByteArray) (r10:List AV):St :=
  stOf 41 [37] [(0,lro (List.length F0) 2 (List.flatMap featC F0)),(2,bo false),(3,i6 (↑i0:Int)),(4,AV.eaddr [st x10_0_0,st x10_0_1]),(5,lro (List.length F0) 2 (List.flatMap featC F0)),(6,i6 (↑(List.length F0):Int)),(7,i6 (↑i0:Int)),(8,bo true),(9,i6 (↑i0:Int)),(10,AV.eaddr (st x10_0_0::st x10_0_1::r10)),(11,AV.agg [st x10_0_0,st x10_0_1]),(12,AV.eaddr [st x10_0_0,st x10_0_1]),(13,st x10_0_0),(14,bo true),(15,bo false),(16,bo false),(17,AV.eaddr [st x10_0_1]),(18,st x10_0_1),(19,bo false),(20,bo true),(21,bo true),(22,bo true),(36,bo true)] []
theorem f45_r0_ttf (F0:List Feat) (X:Ext) (call:Caller) (lf:Nat) (i0:Nat) (x10_0_0:ByteArray) (x10_0_1:ByteArray) (r10:List AV)
  (h0:decide ((↑i0:Int) < (↑(List.length F0):Int))=true)
  (h1:keep [] (indexAddrv Tryz.prog 29 [] (lro (List.length F0) 2 (List.flatMap featC F0)) (i6 (↑i0:Int)))=some (AV.eaddr (st x10_0_0::st x10_0_1::r10),[]))
  (h2:callv X call true 38 [st x10_0_0] [] 0=some (bo true,[]))
  (h3:callv X call true 38 [st x10_0_1] [] 0=some (bo false,[])):vexec Tryz.prog X call lf 0 fg45 (loopN Tryz.f17 0) (f45_F0 F0 i0)=some (Ex.ret,(f45_S2 F0 i0 x10_0_0 x10_0_1 r10)) :=
  around_sound (ans:=[(1,Ans.b true),(5,Ans.v (AV.eaddr (st x10_0_0::st x10_0_1::r10))),(10,Ans.v (bo true)),(18,Ans.v (bo false))]) (by kernel_rfl) (ai h0 (ai h1 (ai h2 (ai h3 trivial))))
theorem f45_plttf (F0:List Feat) (X:Ext) (call:Caller) (lf:Nat) (i0:Nat) (x10_0_0:ByteArray) (x10_0_1:ByteArray) (r10:List AV)
  (h0:vexec Tryz.prog X call lf 0 fg45 (Code.loop (loopN Tryz.f17 0)) (f45_S0 F0)=some (Ex.ret,(f45_S2 F0 i0 x10_0_0 x10_0_1 r10))):vbody Tryz.prog X call lf fg45 Tryz.f17 (codeOf Tryz.f17) [featsV F0] [] 0=some (bo false,[]) :=
  along_sound (ans:=[(6,Ans.l Ex.ret (f45_S2 F0 i0 x10_0_0 x10_0_1 r10))]) (by kernel_rfl) (ai h0 trivial)
def f45_S3 (F0:List Feat) (i0:Nat) (x10_0_0:ByteArray) (x10_0_1:ByteArray) (r10:List AV):St :=
  stOf 41 [37] [(0,lro (List.length F0) 2 (List.flatMap featC F0)),(2,bo false),(3,i6 (↑i0:Int)),(4,AV.eaddr [st x10_0_0,st x10_0_1]),(5,lro (List.length F0) 2 (List.flatMap featC F0)),(6,i6 (↑(List.length F0):Int)),(7,i6 (↑i0:Int)),(8,bo true),(9,i6 (↑i0:Int)),(10,AV.eaddr (st x10_0_0::st x10_0_1::r10)),(11,AV.agg [st x10_0_0,st x10_0_1]),(12,AV.eaddr [st x10_0_0,st x10_0_1]),(13,st x10_0_0),(14,bo false),(15,bo true),(16,bo true),(21,bo true),(22,bo true),(36,bo true)] []
theorem f45_r0_tf (F0:List Feat) (X:Ext) (call:Caller) (lf:Nat) (i0:Nat) (x10_0_0:ByteArray) (x10_0_1:ByteArray) (r10:List AV)
  (h0:decide ((↑i0:Int) < (↑(List.length F0):Int))=true)
  (h1:keep [] (indexAddrv Tryz.prog 29 [] (lro (List.length F0) 2 (List.flatMap featC F0)) (i6 (↑i0:Int)))=some (AV.eaddr (st x10_0_0::st x10_0_1::r10),[]))
  (h2:callv X call true 38 [st x10_0_0] [] 0=some (bo false,[])):vexec Tryz.prog X call lf 0 fg45 (loopN Tryz.f17 0) (f45_F0 F0 i0)=some (Ex.ret,(f45_S3 F0 i0 x10_0_0 x10_0_1 r10)) :=
  around_sound (ans:=[(1,Ans.b true),(5,Ans.v (AV.eaddr (st x10_0_0::st x10_0_1::r10))),(10,Ans.v (bo false))]) (by kernel_rfl) (ai h0 (ai h1 (ai h2 trivial)))
theorem f45_pltf (F0:List Feat) (X:Ext) (call:Caller) (lf:Nat) (i0:Nat) (x10_0_0:ByteArray) (x10_0_1:ByteArray) (r10:List AV)
  (h0:vexec Tryz.prog X call lf 0 fg45 (Code.loop (loopN Tryz.f17 0)) (f45_S0 F0)=some (Ex.ret,(f45_S3 F0 i0 x10_0_0 x10_0_1 r10))):vbody Tryz.prog X call lf fg45 Tryz.f17 (codeOf Tryz.f17) [featsV F0] [] 0=some (bo false,[]) :=
  along_sound (ans:=[(6,Ans.l Ex.ret (f45_S3 F0 i0 x10_0_0 x10_0_1 r10))]) (by kernel_rfl) (ai h0 trivial)
def f45_S4 (F0:List Feat) (i0:Nat):St :=
  stOf 41 [2,3,4,9,10,11,12,13,14,15,16,17,18,19,20,21,22,23,24,25,26,27,28,29,30,31,32,33,34,35,36,37] [(0,lro (List.length F0) 2 (List.flatMap featC F0)),(5,lro (List.length F0) 2 (List.flatMap featC F0)),(6,i6 (↑(List.length F0):Int)),(7,i6 (↑i0:Int)),(8,bo false)] []
theorem f45_r0_f (F0:List Feat) (X:Ext) (call:Caller) (lf:Nat) (i0:Nat)
  (h0:decide ((↑i0:Int) < (↑(List.length F0):Int))=false):vexec Tryz.prog X call lf 0 fg45 (loopN Tryz.f17 0) (f45_F0 F0 i0)=some (Ex.exit 0,(f45_S4 F0 i0)) :=
  around_sound (ans:=[(1,Ans.b false)]) (by kernel_rfl) (ai h0 trivial)
theorem f45_plft (F0:List Feat) (X:Ext) (call:Caller) (lf:Nat) (i0:Nat)
  (h0:vexec Tryz.prog X call lf 0 fg45 (Code.loop (loopN Tryz.f17 0)) (f45_S0 F0)=some (Ex.exit 0,(f45_S4 F0 i0)))
  (h1:decide ((↑(List.length F0):Int) ≤ 8)=true):vbody Tryz.prog X call lf fg45 Tryz.f17 (codeOf Tryz.f17) [featsV F0] [] 0=some (bo true,[]) :=
  along_sound (ans:=[(6,Ans.l (Ex.exit 0) (f45_S4 F0 i0)),(10,Ans.b true)]) (by kernel_rfl) (ai h0 (ai h1 trivial))
theorem f45_plff (F0:List Feat) (X:Ext) (call:Caller) (lf:Nat) (i0:Nat)
  (h0:vexec Tryz.prog X call lf 0 fg45 (Code.loop (loopN Tryz.f17 0)) (f45_S0 F0)=some (Ex.exit 0,(f45_S4 F0 i0)))
  (h1:decide ((↑(List.length F0):Int) ≤ 8)=false):vbody Tryz.prog X call lf fg45 Tryz.f17 (codeOf Tryz.f17) [featsV F0] [] 0=some (bo false,[]) :=
  along_sound (ans:=[(6,Ans.l (Ex.exit 0) (f45_S4 F0 i0)),(10,Ans.b false)]) (by kernel_rfl) (ai h0 (ai h1 trivial))
def f45_o0 (F0:List Feat) (i0:Nat) (x10_0_0:ByteArray) (x29_0_0:ByteArray) (b0:Bool) (b1:Bool):Nat :=
  (match decide ((↑i0:Int) < (↑(List.length F0):Int)) with
  | true => (match b0 with
    | true => (match b1 with
      | true => (match decide ((↑i0 : Int) > 0) with
        | true => (match (!Op.bytesLess (ByteArray.toList x29_0_0) (ByteArray.toList x10_0_0)) with
          | true=>1
          | false=>0)
        | false=>0)
      | false=>2)
    | false=>3)
  | false=>4)
theorem f45_B0 (F0:List Feat) (X:Ext) (call:Caller) (lf:Nat) (i0:Nat) (x10_0_0:ByteArray) (x10_0_1:ByteArray) (r10:List AV) (x29_0_0:ByteArray) (x29_0_1:ByteArray) (r29:List AV) (b0:Bool) (b1:Bool)
  (g0:decide ((↑i0:Int) < (↑(List.length F0):Int))=true→keep [] (indexAddrv Tryz.prog 29 [] (lro (List.length F0) 2 (List.flatMap featC F0)) (i6 (↑i0:Int)))=some (AV.eaddr (st x10_0_0::st x10_0_1::r10),[]))
  (g1:decide ((↑i0:Int) < (↑(List.length F0):Int))=true→callv X call true 38 [st x10_0_0] [] 0=some (bo b0,[]))
  (g2:decide ((↑i0:Int) < (↑(List.length F0):Int))=true→b0=true→callv X call true 38 [st x10_0_1] [] 0=some (bo b1,[]))
  (g3:decide ((↑i0:Int) < (↑(List.length F0):Int))=true→b0=true→b1=true→decide ((↑i0:Int) > 0)=true→keep [] (indexAddrv Tryz.prog 29 [] (lro (List.length F0) 2 (List.flatMap featC F0)) (i6 (w6 ((↑i0:Int) - 1))))=some (AV.eaddr (st x29_0_0::st x29_0_1::r29),[]))
  (e0 : decide ((↑i0 : Int) < (↑(List.length F0) : Int)) = true → (↑(i0 + 1) : Int) = w6 ((↑i0 : Int) + 1)) :
    (f45_o0 F0 i0 x10_0_0 x29_0_0 b0 b1=0→∃ S1,vexec Tryz.prog X call lf 0 fg45 (loopN Tryz.f17 0) (f45_F0 F0 i0)=some (Ex.normal,S1)∧forget f45_D0 S1=(f45_F0 F0 (i0 + 1)))∧(f45_o0 F0 i0 x10_0_0 x29_0_0 b0 b1=1→vexec Tryz.prog X call lf 0 fg45 (loopN Tryz.f17 0) (f45_F0 F0 i0)=some (Ex.ret,(f45_S1 F0 i0 x10_0_0 x10_0_1 r10 x29_0_0 x29_0_1 r29)))∧(f45_o0 F0 i0 x10_0_0 x29_0_0 b0 b1=2→vexec Tryz.prog X call lf 0 fg45 (loopN Tryz.f17 0) (f45_F0 F0 i0)=some (Ex.ret,(f45_S2 F0 i0 x10_0_0 x10_0_1 r10)))∧(f45_o0 F0 i0 x10_0_0 x29_0_0 b0 b1=3→vexec Tryz.prog X call lf 0 fg45 (loopN Tryz.f17 0) (f45_F0 F0 i0)=some (Ex.ret,(f45_S3 F0 i0 x10_0_0 x10_0_1 r10)))∧(f45_o0 F0 i0 x10_0_0 x29_0_0 b0 b1=4→vexec Tryz.prog X call lf 0 fg45 (loopN Tryz.f17 0) (f45_F0 F0 i0)=some (Ex.exit 0,(f45_S4 F0 i0))):=by
  unfold f45_o0
  cases c0:decide ((↑i0:Int) < (↑(List.length F0):Int)) with
  | true =>
    cases c1:b0 with
    | true =>
      cases c2:b1 with
      | true =>
        cases c3:decide ((↑i0:Int) > 0) with
        | true =>
          cases c4:(!Op.bytesLess (ByteArray.toList x29_0_0) (ByteArray.toList x10_0_0)) with
          | true =>
            exact ⟨fun h=>nq h,fun _=>f45_r0_ttttt F0 X call lf i0 x10_0_0 x10_0_1 r10 x29_0_0 x29_0_1 r29 c0 (g0 c0) (by have:=(g1 c0); rw [c1] at this; exact this) (by have:=(g2 c0 c1); rw [c2] at this; exact this) c3 (g3 c0 c1 c2 c3) c4,fun h=>nq h,fun h=>nq h,fun h=>nq h⟩
          | false =>
            exact ⟨fun _=>f45_s0_ttttf F0 X call lf i0 x10_0_0 x10_0_1 r10 x29_0_0 x29_0_1 r29 c0 (g0 c0) (by have:=(g1 c0); rw [c1] at this; exact this) (by have:=(g2 c0 c1); rw [c2] at this; exact this) c3 (g3 c0 c1 c2 c3) c4 (e0 c0),fun h=>nq h,fun h=>nq h,fun h=>nq h,fun h=>nq h⟩
        | false =>
          exact ⟨fun _=>f45_s0_tttf F0 X call lf i0 x10_0_0 x10_0_1 r10 c0 (g0 c0) (by have:=(g1 c0); rw [c1] at this; exact this) (by have:=(g2 c0 c1); rw [c2] at this; exact this) c3 (e0 c0),fun h=>nq h,fun h=>nq h,fun h=>nq h,fun h=>nq h⟩
      | false =>
        exact ⟨fun h=>nq h,fun h=>nq h,fun _=>f45_r0_ttf F0 X call lf i0 x10_0_0 x10_0_1 r10 c0 (g0 c0) (by have:=(g1 c0); rw [c1] at this; exact this) (by have:=(g2 c0 c1); rw [c2] at this; exact this),fun h=>nq h,fun h=>nq h⟩
    | false =>
      exact ⟨fun h=>nq h,fun h=>nq h,fun h=>nq h,fun _=>f45_r0_tf F0 X call lf i0 x10_0_0 x10_0_1 r10 c0 (g0 c0) (by have:=(g1 c0); rw [c1] at this; exact this),fun h=>nq h⟩
  | false =>
    exact ⟨fun h=>nq h,fun h=>nq h,fun h=>nq h,fun h=>nq h,fun _=>f45_r0_f F0 X call lf i0 c0⟩
theorem f45_X0 (F0:List Feat) (X:Ext) (call:Caller) (lf:Nat) (i0:Nat) (x10_0_0:ByteArray) (x10_0_1:ByteArray) (r10:List AV) (x29_0_0:ByteArray) (x29_0_1:ByteArray) (r29:List AV) (b0:Bool) (b1:Bool)
  (g0:decide ((↑i0:Int) < (↑(List.length F0):Int))=true→keep [] (indexAddrv Tryz.prog 29 [] (lro (List.length F0) 2 (List.flatMap featC F0)) (i6 (↑i0:Int)))=some (AV.eaddr (st x10_0_0::st x10_0_1::r10),[]))
  (g1:decide ((↑i0:Int) < (↑(List.length F0):Int))=true→callv X call true 38 [st x10_0_0] [] 0=some (bo b0,[]))
  (g2:decide ((↑i0:Int) < (↑(List.length F0):Int))=true→b0=true→callv X call true 38 [st x10_0_1] [] 0=some (bo b1,[]))
  (g3 : decide ((↑i0 : Int) < (↑(List.length F0) : Int)) = true → b0 = true → b1 = true → decide ((↑i0 : Int) > 0) = true → keep [] (indexAddrv Tryz.prog 29 [] (lro (List.length F0) 2 (List.flatMap featC F0)) (i6 (w6 ((↑i0 : Int) - 1)))) = some (AV.eaddr (st x29_0_0 :: st x29_0_1 :: r29), [])) :
    (f45_o0 F0 i0 x10_0_0 x29_0_0 b0 b1=1→vexec Tryz.prog X call lf 0 fg45 (loopN Tryz.f17 0) (f45_F0 F0 i0)=some (Ex.ret,(f45_S1 F0 i0 x10_0_0 x10_0_1 r10 x29_0_0 x29_0_1 r29)))∧(f45_o0 F0 i0 x10_0_0 x29_0_0 b0 b1=2→vexec Tryz.prog X call lf 0 fg45 (loopN Tryz.f17 0) (f45_F0 F0 i0)=some (Ex.ret,(f45_S2 F0 i0 x10_0_0 x10_0_1 r10)))∧(f45_o0 F0 i0 x10_0_0 x29_0_0 b0 b1=3→vexec Tryz.prog X call lf 0 fg45 (loopN Tryz.f17 0) (f45_F0 F0 i0)=some (Ex.ret,(f45_S3 F0 i0 x10_0_0 x10_0_1 r10)))∧(f45_o0 F0 i0 x10_0_0 x29_0_0 b0 b1=4→vexec Tryz.prog X call lf 0 fg45 (loopN Tryz.f17 0) (f45_F0 F0 i0)=some (Ex.exit 0,(f45_S4 F0 i0))):=by
  unfold f45_o0
  cases c0:decide ((↑i0:Int) < (↑(List.length F0):Int)) with
  | true =>
    cases c1:b0 with
    | true =>
      cases c2:b1 with
      | true =>
        cases c3:decide ((↑i0:Int) > 0) with
        | true =>
          cases c4:(!Op.bytesLess (ByteArray.toList x29_0_0) (ByteArray.toList x10_0_0)) with
          | true =>
            exact ⟨fun _=>f45_r0_ttttt F0 X call lf i0 x10_0_0 x10_0_1 r10 x29_0_0 x29_0_1 r29 c0 (g0 c0) (by have:=(g1 c0); rw [c1] at this; exact this) (by have:=(g2 c0 c1); rw [c2] at this; exact this) c3 (g3 c0 c1 c2 c3) c4,fun h=>nq h,fun h=>nq h,fun h=>nq h⟩
          | false =>
            exact ⟨fun h=>nq h,fun h=>nq h,fun h=>nq h,fun h=>nq h⟩
        | false =>
          exact ⟨fun h=>nq h,fun h=>nq h,fun h=>nq h,fun h=>nq h⟩
      | false =>
        exact ⟨fun h=>nq h,fun _=>f45_r0_ttf F0 X call lf i0 x10_0_0 x10_0_1 r10 c0 (g0 c0) (by have:=(g1 c0); rw [c1] at this; exact this) (by have:=(g2 c0 c1); rw [c2] at this; exact this),fun h=>nq h,fun h=>nq h⟩
    | false =>
      exact ⟨fun h=>nq h,fun h=>nq h,fun _=>f45_r0_tf F0 X call lf i0 x10_0_0 x10_0_1 r10 c0 (g0 c0) (by have:=(g1 c0); rw [c1] at this; exact this),fun h=>nq h⟩
  | false =>
    exact ⟨fun h=>nq h,fun h=>nq h,fun h=>nq h,fun _=>f45_r0_f F0 X call lf i0 c0⟩
theorem f45_M (F0:List Feat) (X:Ext) (call:Caller) (lf:Nat) (n:Nat) (x10_0_0:Nat→ByteArray) (x10_0_1:Nat→ByteArray) (r10:Nat→List AV) (x29_0_0:Nat→ByteArray) (x29_0_1:Nat→ByteArray) (r29:Nat→List AV) (b0:Nat→Bool) (b1:Nat→Bool)
  (hn:n < lf)
  (g0:∀ i0,i0 ≤ n→decide ((↑i0:Int) < (↑(List.length F0):Int))=true→keep [] (indexAddrv Tryz.prog 29 [] (lro (List.length F0) 2 (List.flatMap featC F0)) (i6 (↑i0:Int)))=some (AV.eaddr (st (x10_0_0 i0)::st (x10_0_1 i0)::(r10 i0)),[]))
  (g1:∀ i0,i0 ≤ n→decide ((↑i0:Int) < (↑(List.length F0):Int))=true→callv X call true 38 [st (x10_0_0 i0)] [] 0=some (bo (b0 i0),[]))
  (g2:∀ i0,i0 ≤ n→decide ((↑i0:Int) < (↑(List.length F0):Int))=true→(b0 i0)=true→callv X call true 38 [st (x10_0_1 i0)] [] 0=some (bo (b1 i0),[]))
  (g3:∀ i0,i0 ≤ n→decide ((↑i0:Int) < (↑(List.length F0):Int))=true→(b0 i0)=true→(b1 i0)=true→decide ((↑i0:Int) > 0)=true→keep [] (indexAddrv Tryz.prog 29 [] (lro (List.length F0) 2 (List.flatMap featC F0)) (i6 (w6 ((↑i0:Int) - 1))))=some (AV.eaddr (st (x29_0_0 i0)::st (x29_0_1 i0)::(r29 i0)),[]))
  (e0:∀ i0,i0 < n→decide ((↑i0:Int) < (↑(List.length F0):Int))=true→(↑(i0 + 1):Int)=w6 ((↑i0:Int) + 1))
  (hz : ∀ j, j < n → f45_o0 F0 j (x10_0_0 j) (x29_0_0 j) (b0 j) (b1 j) = 0) :
    (f45_o0 F0 n (x10_0_0 n) (x29_0_0 n) (b0 n) (b1 n)=1→vbody Tryz.prog X call lf fg45 Tryz.f17 (codeOf Tryz.f17) [featsV F0] [] 0=some (bo false,[]))∧(f45_o0 F0 n (x10_0_0 n) (x29_0_0 n) (b0 n) (b1 n)=2→vbody Tryz.prog X call lf fg45 Tryz.f17 (codeOf Tryz.f17) [featsV F0] [] 0=some (bo false,[]))∧(f45_o0 F0 n (x10_0_0 n) (x29_0_0 n) (b0 n) (b1 n)=3→vbody Tryz.prog X call lf fg45 Tryz.f17 (codeOf Tryz.f17) [featsV F0] [] 0=some (bo false,[]))∧(f45_o0 F0 n (x10_0_0 n) (x29_0_0 n) (b0 n) (b1 n)=4→decide ((↑(List.length F0):Int) ≤ 8)=true→vbody Tryz.prog X call lf fg45 Tryz.f17 (codeOf Tryz.f17) [featsV F0] [] 0=some (bo true,[]))∧(f45_o0 F0 n (x10_0_0 n) (x29_0_0 n) (b0 n) (b1 n)=4→decide ((↑(List.length F0):Int) ≤ 8)=false→vbody Tryz.prog X call lf fg45 Tryz.f17 (codeOf Tryz.f17) [featsV F0] [] 0=some (bo false,[])):=by
  have key:∀ j,j < n→_:=fun j hj=>(f45_B0 F0 X call lf j (x10_0_0 j) (x10_0_1 j) (r10 j) (x29_0_0 j) (x29_0_1 j) (r29 j) (b0 j) (b1 j) (g0 j (Nat.le_of_lt hj)) (g1 j (Nat.le_of_lt hj)) (g2 j (Nat.le_of_lt hj)) (g3 j (Nat.le_of_lt hj)) (e0 j hj)).1 (hz j hj)
  have kn:=f45_X0 F0 X call lf n (x10_0_0 n) (x10_0_1 n) (r10 n) (x29_0_0 n) (x29_0_1 n) (r29 n) (b0 n) (b1 n) (g0 n (Nat.le_refl n)) (g1 n (Nat.le_refl n)) (g2 n (Nat.le_refl n)) (g3 n (Nat.le_refl n))
  exact ⟨fun hk => f45_plttttt F0 X call lf n (x10_0_0 n) (x10_0_1 n) (r10 n) (x29_0_0 n) (x29_0_1 n) (r29 n) (f45_L0 F0 X call lf n _ _ hn key (kn.1 hk) (by simp)),
    fun hk=>f45_plttf F0 X call lf n (x10_0_0 n) (x10_0_1 n) (r10 n) (f45_L0 F0 X call lf n _ _ hn key (kn.2.1 hk) (by simp)),
    fun hk=>f45_pltf F0 X call lf n (x10_0_0 n) (x10_0_1 n) (r10 n) (f45_L0 F0 X call lf n _ _ hn key (kn.2.2.1 hk) (by simp)),
    fun hk q0=>f45_plft F0 X call lf n (f45_L0 F0 X call lf n _ _ hn key (kn.2.2.2 hk) (by simp)) q0,
    fun hk q0=>f45_plff F0 X call lf n (f45_L0 F0 X call lf n _ _ hn key (kn.2.2.2 hk) (by simp)) q0⟩
def f50_F0 (F0:List Feat) (i0:Nat):St :=
  stOf 33 [2,4,5,6,7,8,9,10,11,12,13,14,15,16,17,18,19,20,21,22,23,24,25] [(0,lro (List.length F0) 2 (List.flatMap featC F0)),(3,i6 (↑i0:Int))] []
def f50_S0 (F0:List Feat):St :=
  stOf 33 [] [(0,lro (List.length F0) 2 (List.flatMap featC F0)),(2,bo false),(3,i6 0)] []
abbrev f50_D0:List Nat:=[9,8,2,25,24,23,22,21,20,19,18,17,16,15,14,13,12,11,10,7,6,5,4]
theorem f50_L0 (F0:List Feat) (X:Ext) (call:Caller) (lf:Nat) (n:Nat) (x:Ex) (S' : St)
  (hn:n < lf)
  (hs:∀ j,j < n→∃ S1,vexec Tryz.prog X call lf 0 noFg (loopN Tryz.f43 0) (f50_F0 F0 j)=some (Ex.normal,S1)∧forget f50_D0 S1=(f50_F0 F0 (j + 1)))
  (he:vexec Tryz.prog X call lf 0 noFg (loopN Tryz.f43 0) (f50_F0 F0 n)=some (x,S'))
  (hx:x ≠ Ex.normal):vexec Tryz.prog X call lf 0 noFg (Go.Code.loop (loopN Tryz.f43 0)) (f50_S0 F0)=some (x,S') :=
  loop_runK (by kernel_rfl) (fun j=>(f50_F0 F0 j)) n hn (by show forget f50_D0 (f50_S0 F0)=(f50_F0 F0 0); unfold f50_F0; show _=_; kernel_rfl) hs he hx
theorem f50_s0_ttt (F0:List Feat) (X:Ext) (call:Caller) (lf:Nat) (i0:Nat) (x12_0_0:ByteArray) (x12_0_1:ByteArray) (r12:List AV) (x20_0_0:ByteArray) (x20_0_1:ByteArray) (r20:List AV)
  (h0:decide ((↑i0:Int) < (↑(List.length F0):Int))=true)
  (h1:keep [] (indexAddrv Tryz.prog 29 [] (lro (List.length F0) 2 (List.flatMap featC F0)) (i6 (↑i0:Int)))=some (AV.eaddr (st x12_0_0::st x12_0_1::r12),[]))
  (h2:callv X call false 58 [st x12_0_0] [] 0=some (bo true,[]))
  (h3:keep [] (indexAddrv Tryz.prog 29 [] (lro (List.length F0) 2 (List.flatMap featC F0)) (i6 (↑i0:Int)))=some (AV.eaddr (st x20_0_0::st x20_0_1::r20),[]))
  (h4:callv X call false 58 [st x20_0_1] [] 0=some (bo true,[]))
  (e0:(↑(i0 + 1):Int)=w6 ((↑i0:Int) + 1)):∃ S1,vexec Tryz.prog X call lf 0 noFg (loopN Tryz.f43 0) (f50_F0 F0 i0)=some (Ex.normal,S1)∧forget f50_D0 S1=(f50_F0 F0 (i0 + 1)) :=
  ⟨stOf 33 [2] [(0,lro (List.length F0) 2 (List.flatMap featC F0)),(3,i6 (w6 ((↑i0:Int) + 1))),(4,i6 (↑i0:Int)),(5,lro (List.length F0) 2 (List.flatMap featC F0)),(6,i6 (↑(List.length F0):Int)),(7,bo true),(8,i6 (↑i0:Int)),(9,i6 (w6 ((↑i0:Int) + 1))),(10,lro (List.length F0) 2 (List.flatMap featC F0)),(11,i6 (↑i0:Int)),(12,AV.eaddr (st x12_0_0::st x12_0_1::r12)),(13,AV.eaddr (st x12_0_0::st x12_0_1::r12)),(14,st x12_0_0),(15,bo true),(16,bo false),(17,bo false),(18,lro (List.length F0) 2 (List.flatMap featC F0)),(19,i6 (↑i0:Int)),(20,AV.eaddr (st x20_0_0::st x20_0_1::r20)),(21,AV.eaddr (st x20_0_1::r20)),(22,st x20_0_1),(23,bo true),(24,bo false),(25,bo false)] [],around_sound (ans:=[(4,Ans.b true),(9,Ans.v (AV.eaddr (st x12_0_0::st x12_0_1::r12))),(12,Ans.v (bo true)),(20,Ans.v (AV.eaddr (st x20_0_0::st x20_0_1::r20))),(26,Ans.v (bo true))]) (by kernel_rfl) (ai h0 (ai h1 (ai h2 (ai h3 (ai h4 trivial))))),by unfold f50_F0; rw [e0]; show _=_; kernel_rfl⟩
def f50_S1 (F0:List Feat) (i0:Nat) (x12_0_0:ByteArray) (x12_0_1:ByteArray) (r12:List AV) (x20_0_0:ByteArray) (x20_0_1:ByteArray) (r20:List AV):St :=
  stOf 33 [8,9] [(0,lro (List.length F0) 2 (List.flatMap featC F0)),(2,bo false),(3,i6 (↑i0:Int)),(4,i6 (↑i0:Int)),(5,lro (List.length F0) 2 (List.flatMap featC F0)),(6,i6 (↑(List.length F0):Int)),(7,bo true),(10,lro (List.length F0) 2 (List.flatMap featC F0)),(11,i6 (↑i0:Int)),(12,AV.eaddr (st x12_0_0::st x12_0_1::r12)),(13,AV.eaddr (st x12_0_0::st x12_0_1::r12)),(14,st x12_0_0),(15,bo true),(16,bo false),(17,bo false),(18,lro (List.length F0) 2 (List.flatMap featC F0)),(19,i6 (↑i0:Int)),(20,AV.eaddr (st x20_0_0::st x20_0_1::r20)),(21,AV.eaddr (st x20_0_1::r20)),(22,st x20_0_1),(23,bo false),(24,bo true),(25,bo true)] []
theorem f50_r0_ttf (F0:List Feat) (X:Ext) (call:Caller) (lf:Nat) (i0:Nat) (x12_0_0:ByteArray) (x12_0_1:ByteArray) (r12:List AV) (x20_0_0:ByteArray) (x20_0_1:ByteArray) (r20:List AV)
  (h0:decide ((↑i0:Int) < (↑(List.length F0):Int))=true)
  (h1:keep [] (indexAddrv Tryz.prog 29 [] (lro (List.length F0) 2 (List.flatMap featC F0)) (i6 (↑i0:Int)))=some (AV.eaddr (st x12_0_0::st x12_0_1::r12),[]))
  (h2:callv X call false 58 [st x12_0_0] [] 0=some (bo true,[]))
  (h3:keep [] (indexAddrv Tryz.prog 29 [] (lro (List.length F0) 2 (List.flatMap featC F0)) (i6 (↑i0:Int)))=some (AV.eaddr (st x20_0_0::st x20_0_1::r20),[]))
  (h4:callv X call false 58 [st x20_0_1] [] 0=some (bo false,[])):vexec Tryz.prog X call lf 0 noFg (loopN Tryz.f43 0) (f50_F0 F0 i0)=some (Ex.ret,(f50_S1 F0 i0 x12_0_0 x12_0_1 r12 x20_0_0 x20_0_1 r20)) :=
  around_sound (ans:=[(4,Ans.b true),(9,Ans.v (AV.eaddr (st x12_0_0::st x12_0_1::r12))),(12,Ans.v (bo true)),(20,Ans.v (AV.eaddr (st x20_0_0::st x20_0_1::r20))),(26,Ans.v (bo false))]) (by kernel_rfl) (ai h0 (ai h1 (ai h2 (ai h3 (ai h4 trivial)))))
theorem f50_plttf (F0:List Feat) (X:Ext) (call:Caller) (lf:Nat) (i0:Nat) (x12_0_0:ByteArray) (x12_0_1:ByteArray) (r12:List AV) (x20_0_0:ByteArray) (x20_0_1:ByteArray) (r20:List AV)
  (h0:vexec Tryz.prog X call lf 0 noFg (Code.loop (loopN Tryz.f43 0)) (f50_S0 F0)=some (Ex.ret,(f50_S1 F0 i0 x12_0_0 x12_0_1 r12 x20_0_0 x20_0_1 r20))):vbody Tryz.prog X call lf noFg Tryz.f43 (codeOf Tryz.f43) [featsV F0] [] 0=some (bo false,[]) :=
  along_sound (ans:=[(4,Ans.l Ex.ret (f50_S1 F0 i0 x12_0_0 x12_0_1 r12 x20_0_0 x20_0_1 r20))]) (by kernel_rfl) (ai h0 trivial)
def f50_S2 (F0:List Feat) (i0:Nat) (x12_0_0:ByteArray) (x12_0_1:ByteArray) (r12:List AV):St :=
  stOf 33 [8,9] [(0,lro (List.length F0) 2 (List.flatMap featC F0)),(2,bo false),(3,i6 (↑i0:Int)),(4,i6 (↑i0:Int)),(5,lro (List.length F0) 2 (List.flatMap featC F0)),(6,i6 (↑(List.length F0):Int)),(7,bo true),(10,lro (List.length F0) 2 (List.flatMap featC F0)),(11,i6 (↑i0:Int)),(12,AV.eaddr (st x12_0_0::st x12_0_1::r12)),(13,AV.eaddr (st x12_0_0::st x12_0_1::r12)),(14,st x12_0_0),(15,bo false),(16,bo true),(17,bo true),(25,bo true)] []
theorem f50_r0_tf (F0:List Feat) (X:Ext) (call:Caller) (lf:Nat) (i0:Nat) (x12_0_0:ByteArray) (x12_0_1:ByteArray) (r12:List AV)
  (h0:decide ((↑i0:Int) < (↑(List.length F0):Int))=true)
  (h1:keep [] (indexAddrv Tryz.prog 29 [] (lro (List.length F0) 2 (List.flatMap featC F0)) (i6 (↑i0:Int)))=some (AV.eaddr (st x12_0_0::st x12_0_1::r12),[]))
  (h2:callv X call false 58 [st x12_0_0] [] 0=some (bo false,[])):vexec Tryz.prog X call lf 0 noFg (loopN Tryz.f43 0) (f50_F0 F0 i0)=some (Ex.ret,(f50_S2 F0 i0 x12_0_0 x12_0_1 r12)) :=
  around_sound (ans:=[(4,Ans.b true),(9,Ans.v (AV.eaddr (st x12_0_0::st x12_0_1::r12))),(12,Ans.v (bo false))]) (by kernel_rfl) (ai h0 (ai h1 (ai h2 trivial)))
theorem f50_pltf (F0:List Feat) (X:Ext) (call:Caller) (lf:Nat) (i0:Nat) (x12_0_0:ByteArray) (x12_0_1:ByteArray) (r12:List AV)
  (h0:vexec Tryz.prog X call lf 0 noFg (Code.loop (loopN Tryz.f43 0)) (f50_S0 F0)=some (Ex.ret,(f50_S2 F0 i0 x12_0_0 x12_0_1 r12))):vbody Tryz.prog X call lf noFg Tryz.f43 (codeOf Tryz.f43) [featsV F0] [] 0=some (bo false,[]) :=
  along_sound (ans:=[(4,Ans.l Ex.ret (f50_S2 F0 i0 x12_0_0 x12_0_1 r12))]) (by kernel_rfl) (ai h0 trivial)
def f50_S3 (F0:List Feat) (i0:Nat):St :=
  stOf 33 [2,8,9,10,11,12,13,14,15,16,17,18,19,20,21,22,23,24,25] [(0,lro (List.length F0) 2 (List.flatMap featC F0)),(3,i6 (↑i0:Int)),(4,i6 (↑i0:Int)),(5,lro (List.length F0) 2 (List.flatMap featC F0)),(6,i6 (↑(List.length F0):Int)),(7,bo false)] []
theorem f50_r0_f (F0:List Feat) (X:Ext) (call:Caller) (lf:Nat) (i0:Nat)
  (h0:decide ((↑i0:Int) < (↑(List.length F0):Int))=false):vexec Tryz.prog X call lf 0 noFg (loopN Tryz.f43 0) (f50_F0 F0 i0)=some (Ex.exit 0,(f50_S3 F0 i0)) :=
  around_sound (ans:=[(4,Ans.b false)]) (by kernel_rfl) (ai h0 trivial)
theorem f50_plftt (F0:List Feat) (X:Ext) (call:Caller) (lf:Nat) (i0:Nat)
  (h0:vexec Tryz.prog X call lf 0 noFg (Code.loop (loopN Tryz.f43 0)) (f50_S0 F0)=some (Ex.exit 0,(f50_S3 F0 i0)))
  (h1:decide ((↑(List.length F0):Int) ≤ 8)=true)
  (h2:callv X call false 59 [lro (List.length F0) 2 (List.flatMap featC F0)] [] 0=some (bo true,[])):vbody Tryz.prog X call lf noFg Tryz.f43 (codeOf Tryz.f43) [featsV F0] [] 0=some (bo true,[]) :=
  along_sound (ans:=[(4,Ans.l (Ex.exit 0) (f50_S3 F0 i0)),(8,Ans.b true),(13,Ans.v (bo true))]) (by kernel_rfl) (ai h0 (ai h1 (ai h2 trivial)))
theorem f50_plftf (F0:List Feat) (X:Ext) (call:Caller) (lf:Nat) (i0:Nat)
  (h0:vexec Tryz.prog X call lf 0 noFg (Code.loop (loopN Tryz.f43 0)) (f50_S0 F0)=some (Ex.exit 0,(f50_S3 F0 i0)))
  (h1:decide ((↑(List.length F0):Int) ≤ 8)=true)
  (h2:callv X call false 59 [lro (List.length F0) 2 (List.flatMap featC F0)] [] 0=some (bo false,[])):vbody Tryz.prog X call lf noFg Tryz.f43 (codeOf Tryz.f43) [featsV F0] [] 0=some (bo false,[]) :=
  along_sound (ans:=[(4,Ans.l (Ex.exit 0) (f50_S3 F0 i0)),(8,Ans.b true),(13,Ans.v (bo false))]) (by kernel_rfl) (ai h0 (ai h1 (ai h2 trivial)))
theorem f50_plff (F0:List Feat) (X:Ext) (call:Caller) (lf:Nat) (i0:Nat)
  (h0:vexec Tryz.prog X call lf 0 noFg (Code.loop (loopN Tryz.f43 0)) (f50_S0 F0)=some (Ex.exit 0,(f50_S3 F0 i0)))
  (h1:decide ((↑(List.length F0):Int) ≤ 8)=false):vbody Tryz.prog X call lf noFg Tryz.f43 (codeOf Tryz.f43) [featsV F0] [] 0=some (bo false,[]) :=
  along_sound (ans:=[(4,Ans.l (Ex.exit 0) (f50_S3 F0 i0)),(8,Ans.b false)]) (by kernel_rfl) (ai h0 (ai h1 trivial))
def f50_o0 (F0:List Feat) (i0:Nat) (b0:Bool) (b1:Bool):Nat :=
  (match decide ((↑i0:Int) < (↑(List.length F0):Int)) with
  | true => (match b0 with
    | true => (match b1 with
      | true=>0
      | false=>1)
    | false=>2)
  | false=>3)
theorem f50_B0 (F0:List Feat) (X:Ext) (call:Caller) (lf:Nat) (i0:Nat) (x12_0_0:ByteArray) (x12_0_1:ByteArray) (r12:List AV) (x20_0_0:ByteArray) (x20_0_1:ByteArray) (r20:List AV) (b0:Bool) (b1:Bool)
  (g0:decide ((↑i0:Int) < (↑(List.length F0):Int))=true→keep [] (indexAddrv Tryz.prog 29 [] (lro (List.length F0) 2 (List.flatMap featC F0)) (i6 (↑i0:Int)))=some (AV.eaddr (st x12_0_0::st x12_0_1::r12),[]))
  (g1:decide ((↑i0:Int) < (↑(List.length F0):Int))=true→callv X call false 58 [st x12_0_0] [] 0=some (bo b0,[]))
  (g2:decide ((↑i0:Int) < (↑(List.length F0):Int))=true→b0=true→keep [] (indexAddrv Tryz.prog 29 [] (lro (List.length F0) 2 (List.flatMap featC F0)) (i6 (↑i0:Int)))=some (AV.eaddr (st x20_0_0::st x20_0_1::r20),[]))
  (g3:decide ((↑i0:Int) < (↑(List.length F0):Int))=true→b0=true→callv X call false 58 [st x20_0_1] [] 0=some (bo b1,[]))
  (e0 : decide ((↑i0 : Int) < (↑(List.length F0) : Int)) = true → (↑(i0 + 1) : Int) = w6 ((↑i0 : Int) + 1)) :
    (f50_o0 F0 i0 b0 b1=0→∃ S1,vexec Tryz.prog X call lf 0 noFg (loopN Tryz.f43 0) (f50_F0 F0 i0)=some (Ex.normal,S1)∧forget f50_D0 S1=(f50_F0 F0 (i0 + 1)))∧(f50_o0 F0 i0 b0 b1=1→vexec Tryz.prog X call lf 0 noFg (loopN Tryz.f43 0) (f50_F0 F0 i0)=some (Ex.ret,(f50_S1 F0 i0 x12_0_0 x12_0_1 r12 x20_0_0 x20_0_1 r20)))∧(f50_o0 F0 i0 b0 b1=2→vexec Tryz.prog X call lf 0 noFg (loopN Tryz.f43 0) (f50_F0 F0 i0)=some (Ex.ret,(f50_S2 F0 i0 x12_0_0 x12_0_1 r12)))∧(f50_o0 F0 i0 b0 b1=3→vexec Tryz.prog X call lf 0 noFg (loopN Tryz.f43 0) (f50_F0 F0 i0)=some (Ex.exit 0,(f50_S3 F0 i0))):=by
  unfold f50_o0
  cases c0:decide ((↑i0:Int) < (↑(List.length F0):Int)) with
  | true =>
    cases c1:b0 with
    | true =>
      cases c2:b1 with
      | true =>
        exact ⟨fun _=>f50_s0_ttt F0 X call lf i0 x12_0_0 x12_0_1 r12 x20_0_0 x20_0_1 r20 c0 (g0 c0) (by have:=(g1 c0); rw [c1] at this; exact this) (g2 c0 c1) (by have:=(g3 c0 c1); rw [c2] at this; exact this) (e0 c0),fun h=>nq h,fun h=>nq h,fun h=>nq h⟩
      | false =>
        exact ⟨fun h=>nq h,fun _=>f50_r0_ttf F0 X call lf i0 x12_0_0 x12_0_1 r12 x20_0_0 x20_0_1 r20 c0 (g0 c0) (by have:=(g1 c0); rw [c1] at this; exact this) (g2 c0 c1) (by have:=(g3 c0 c1); rw [c2] at this; exact this),fun h=>nq h,fun h=>nq h⟩
    | false =>
      exact ⟨fun h=>nq h,fun h=>nq h,fun _=>f50_r0_tf F0 X call lf i0 x12_0_0 x12_0_1 r12 c0 (g0 c0) (by have:=(g1 c0); rw [c1] at this; exact this),fun h=>nq h⟩
  | false =>
    exact ⟨fun h=>nq h,fun h=>nq h,fun h=>nq h,fun _=>f50_r0_f F0 X call lf i0 c0⟩
theorem f50_X0 (F0:List Feat) (X:Ext) (call:Caller) (lf:Nat) (i0:Nat) (x12_0_0:ByteArray) (x12_0_1:ByteArray) (r12:List AV) (x20_0_0:ByteArray) (x20_0_1:ByteArray) (r20:List AV) (b0:Bool) (b1:Bool)
  (g0:decide ((↑i0:Int) < (↑(List.length F0):Int))=true→keep [] (indexAddrv Tryz.prog 29 [] (lro (List.length F0) 2 (List.flatMap featC F0)) (i6 (↑i0:Int)))=some (AV.eaddr (st x12_0_0::st x12_0_1::r12),[]))
  (g1:decide ((↑i0:Int) < (↑(List.length F0):Int))=true→callv X call false 58 [st x12_0_0] [] 0=some (bo b0,[]))
  (g2:decide ((↑i0:Int) < (↑(List.length F0):Int))=true→b0=true→keep [] (indexAddrv Tryz.prog 29 [] (lro (List.length F0) 2 (List.flatMap featC F0)) (i6 (↑i0:Int)))=some (AV.eaddr (st x20_0_0::st x20_0_1::r20),[]))
  (g3 : decide ((↑i0 : Int) < (↑(List.length F0) : Int)) = true → b0 = true → callv X call false 58 [st x20_0_1] [] 0 = some (bo b1, [])) :
    (f50_o0 F0 i0 b0 b1=1→vexec Tryz.prog X call lf 0 noFg (loopN Tryz.f43 0) (f50_F0 F0 i0)=some (Ex.ret,(f50_S1 F0 i0 x12_0_0 x12_0_1 r12 x20_0_0 x20_0_1 r20)))∧(f50_o0 F0 i0 b0 b1=2→vexec Tryz.prog X call lf 0 noFg (loopN Tryz.f43 0) (f50_F0 F0 i0)=some (Ex.ret,(f50_S2 F0 i0 x12_0_0 x12_0_1 r12)))∧(f50_o0 F0 i0 b0 b1=3→vexec Tryz.prog X call lf 0 noFg (loopN Tryz.f43 0) (f50_F0 F0 i0)=some (Ex.exit 0,(f50_S3 F0 i0))):=by
  unfold f50_o0
  cases c0:decide ((↑i0:Int) < (↑(List.length F0):Int)) with
  | true =>
    cases c1:b0 with
    | true =>
      cases c2:b1 with
      | true =>
        exact ⟨fun h=>nq h,fun h=>nq h,fun h=>nq h⟩
      | false =>
        exact ⟨fun _=>f50_r0_ttf F0 X call lf i0 x12_0_0 x12_0_1 r12 x20_0_0 x20_0_1 r20 c0 (g0 c0) (by have:=(g1 c0); rw [c1] at this; exact this) (g2 c0 c1) (by have:=(g3 c0 c1); rw [c2] at this; exact this),fun h=>nq h,fun h=>nq h⟩
    | false =>
      exact ⟨fun h=>nq h,fun _=>f50_r0_tf F0 X call lf i0 x12_0_0 x12_0_1 r12 c0 (g0 c0) (by have:=(g1 c0); rw [c1] at this; exact this),fun h=>nq h⟩
  | false =>
    exact ⟨fun h=>nq h,fun h=>nq h,fun _=>f50_r0_f F0 X call lf i0 c0⟩
theorem f50_M (F0:List Feat) (X:Ext) (call:Caller) (lf:Nat) (n:Nat) (x12_0_0:Nat→ByteArray) (x12_0_1:Nat→ByteArray) (r12:Nat→List AV) (x20_0_0:Nat→ByteArray) (x20_0_1:Nat→ByteArray) (r20:Nat→List AV) (b0:Nat→Bool) (b1:Nat→Bool)
  (hn:n < lf)
  (g0:∀ i0,i0 ≤ n→decide ((↑i0:Int) < (↑(List.length F0):Int))=true→keep [] (indexAddrv Tryz.prog 29 [] (lro (List.length F0) 2 (List.flatMap featC F0)) (i6 (↑i0:Int)))=some (AV.eaddr (st (x12_0_0 i0)::st (x12_0_1 i0)::(r12 i0)),[]))
  (g1:∀ i0,i0 ≤ n→decide ((↑i0:Int) < (↑(List.length F0):Int))=true→callv X call false 58 [st (x12_0_0 i0)] [] 0=some (bo (b0 i0),[]))
  (g2:∀ i0,i0 ≤ n→decide ((↑i0:Int) < (↑(List.length F0):Int))=true→(b0 i0)=true→keep [] (indexAddrv Tryz.prog 29 [] (lro (List.length F0) 2 (List.flatMap featC F0)) (i6 (↑i0:Int)))=some (AV.eaddr (st (x20_0_0 i0)::st (x20_0_1 i0)::(r20 i0)),[]))
  (g3:∀ i0,i0 ≤ n→decide ((↑i0:Int) < (↑(List.length F0):Int))=true→(b0 i0)=true→callv X call false 58 [st (x20_0_1 i0)] [] 0=some (bo (b1 i0),[]))
  (e0:∀ i0,i0 < n→decide ((↑i0:Int) < (↑(List.length F0):Int))=true→(↑(i0 + 1):Int)=w6 ((↑i0:Int) + 1))
  (hz : ∀ j, j < n → f50_o0 F0 j (b0 j) (b1 j) = 0) :
    (f50_o0 F0 n (b0 n) (b1 n)=1→vbody Tryz.prog X call lf noFg Tryz.f43 (codeOf Tryz.f43) [featsV F0] [] 0=some (bo false,[]))∧(f50_o0 F0 n (b0 n) (b1 n)=2→vbody Tryz.prog X call lf noFg Tryz.f43 (codeOf Tryz.f43) [featsV F0] [] 0=some (bo false,[]))∧(f50_o0 F0 n (b0 n) (b1 n)=3→decide ((↑(List.length F0):Int) ≤ 8)=true→callv X call false 59 [lro (List.length F0) 2 (List.flatMap featC F0)] [] 0=some (bo true,[])→vbody Tryz.prog X call lf noFg Tryz.f43 (codeOf Tryz.f43) [featsV F0] [] 0=some (bo true,[]))∧(f50_o0 F0 n (b0 n) (b1 n)=3→decide ((↑(List.length F0):Int) ≤ 8)=true→callv X call false 59 [lro (List.length F0) 2 (List.flatMap featC F0)] [] 0=some (bo false,[])→vbody Tryz.prog X call lf noFg Tryz.f43 (codeOf Tryz.f43) [featsV F0] [] 0=some (bo false,[]))∧(f50_o0 F0 n (b0 n) (b1 n)=3→decide ((↑(List.length F0):Int) ≤ 8)=false→vbody Tryz.prog X call lf noFg Tryz.f43 (codeOf Tryz.f43) [featsV F0] [] 0=some (bo false,[])):=by
  have key:∀ j,j < n→_:=fun j hj=>(f50_B0 F0 X call lf j (x12_0_0 j) (x12_0_1 j) (r12 j) (x20_0_0 j) (x20_0_1 j) (r20 j) (b0 j) (b1 j) (g0 j (Nat.le_of_lt hj)) (g1 j (Nat.le_of_lt hj)) (g2 j (Nat.le_of_lt hj)) (g3 j (Nat.le_of_lt hj)) (e0 j hj)).1 (hz j hj)
  have kn:=f50_X0 F0 X call lf n (x12_0_0 n) (x12_0_1 n) (r12 n) (x20_0_0 n) (x20_0_1 n) (r20 n) (b0 n) (b1 n) (g0 n (Nat.le_refl n)) (g1 n (Nat.le_refl n)) (g2 n (Nat.le_refl n)) (g3 n (Nat.le_refl n))
  exact ⟨fun hk => f50_plttf F0 X call lf n (x12_0_0 n) (x12_0_1 n) (r12 n) (x20_0_0 n) (x20_0_1 n) (r20 n) (f50_L0 F0 X call lf n _ _ hn key (kn.1 hk) (by simp)),
    fun hk=>f50_pltf F0 X call lf n (x12_0_0 n) (x12_0_1 n) (r12 n) (f50_L0 F0 X call lf n _ _ hn key (kn.2.1 hk) (by simp)),
    fun hk q0 q1=>f50_plftt F0 X call lf n (f50_L0 F0 X call lf n _ _ hn key (kn.2.2 hk) (by simp)) q0 q1,
    fun hk q0 q1=>f50_plftf F0 X call lf n (f50_L0 F0 X call lf n _ _ hn key (kn.2.2 hk) (by simp)) q0 q1,
    fun hk q0=>f50_plff F0 X call lf n (f50_L0 F0 X call lf n _ _ hn key (kn.2.2 hk) (by simp)) q0⟩
def f82_F0 (F0:List Feat) (f3:Nat→Int) (i0:Nat):St :=
  stOf 22 [2,4,5,6,7,8,9,10,11,12,13,14,15,16,17,18,19,20,21] [(0,lro (List.length F0) 2 (List.flatMap featC F0)),(3,i6 (f3 i0))] []
def f82_S0 (F0:List Feat):St :=
  stOf 22 [] [(0,lro (List.length F0) 2 (List.flatMap featC F0)),(2,bo false),(3,i6 1)] []
abbrev f82_D0:List Nat:=[9,8,2,21,20,19,18,17,16,15,14,13,12,11,10,7,6,5,4]
theorem f82_L0 (F0:List Feat) (f3:Nat→Int) (X:Ext) (call:Caller) (lf:Nat) (n:Nat) (x:Ex) (S' : St)
  (e0:f3 0=1)
  (hn:n < lf)
  (hs:∀ j,j < n→∃ S1,vexec Tryz.prog X call lf 0 noFg (loopN Tryz.f59 0) (f82_F0 F0 f3 j)=some (Ex.normal,S1)∧forget f82_D0 S1=(f82_F0 F0 f3 (j + 1)))
  (he:vexec Tryz.prog X call lf 0 noFg (loopN Tryz.f59 0) (f82_F0 F0 f3 n)=some (x,S'))
  (hx:x ≠ Ex.normal):vexec Tryz.prog X call lf 0 noFg (Go.Code.loop (loopN Tryz.f59 0)) (f82_S0 F0)=some (x,S') :=
  loop_runK (by kernel_rfl) (fun j=>(f82_F0 F0 f3 j)) n hn (by show forget f82_D0 (f82_S0 F0)=(f82_F0 F0 f3 0); unfold f82_F0; rw [e0]; show _=_; kernel_rfl) hs he hx
def f82_S1 (F0:List Feat) (f3:Nat→Int) (i0:Nat) (x13_0_0:ByteArray) (x13_0_1:ByteArray) (r13:List AV) (x18_0_0:ByteArray) (x18_0_1:ByteArray) (r18:List AV):St :=
  stOf 22 [8,9] [(0,lro (List.length F0) 2 (List.flatMap featC F0)),(2,bo false),(3,i6 (f3 i0)),(4,i6 (f3 i0)),(5,lro (List.length F0) 2 (List.flatMap featC F0)),(6,i6 (↑(List.length F0):Int)),(7,bo true),(10,lro (List.length F0) 2 (List.flatMap featC F0)),(11,i6 (f3 i0)),(12,i6 (w6 (f3 i0 - 1))),(13,AV.eaddr (st x13_0_0::st x13_0_1::r13)),(14,AV.eaddr (st x13_0_0::st x13_0_1::r13)),(15,st x13_0_0),(16,lro (List.length F0) 2 (List.flatMap featC F0)),(17,i6 (f3 i0)),(18,AV.eaddr (st x18_0_0::st x18_0_1::r18)),(19,AV.eaddr (st x18_0_0::st x18_0_1::r18)),(20,st x18_0_0),(21,bo true)] []
theorem f82_r0_tt (F0:List Feat) (X:Ext) (call:Caller) (lf:Nat) (f3:Nat→Int) (i0:Nat) (x13_0_0:ByteArray) (x13_0_1:ByteArray) (r13:List AV) (x18_0_0:ByteArray) (x18_0_1:ByteArray) (r18:List AV)
  (h0:decide (f3 i0 < (↑(List.length F0):Int))=true)
  (h1:keep [] (indexAddrv Tryz.prog 29 [] (lro (List.length F0) 2 (List.flatMap featC F0)) (i6 (w6 (f3 i0 - 1))))=some (AV.eaddr (st x13_0_0::st x13_0_1::r13),[]))
  (h2:keep [] (indexAddrv Tryz.prog 29 [] (lro (List.length F0) 2 (List.flatMap featC F0)) (i6 (f3 i0)))=some (AV.eaddr (st x18_0_0::st x18_0_1::r18),[]))
  (h3:(!Op.bytesLess (ByteArray.toList x13_0_0) (ByteArray.toList x18_0_0))=true):vexec Tryz.prog X call lf 0 noFg (loopN Tryz.f59 0) (f82_F0 F0 f3 i0)=some (Ex.ret,(f82_S1 F0 f3 i0 x13_0_0 x13_0_1 r13 x18_0_0 x18_0_1 r18)) :=
  around_sound (ans:=[(4,Ans.b true),(10,Ans.v (AV.eaddr (st x13_0_0::st x13_0_1::r13))),(15,Ans.v (AV.eaddr (st x18_0_0::st x18_0_1::r18))),(18,Ans.b true)]) (by kernel_rfl) (ai h0 (ai h1 (ai h2 (ai h3 trivial))))
theorem f82_pltt (F0:List Feat) (X:Ext) (call:Caller) (lf:Nat) (f3:Nat→Int) (i0:Nat) (x13_0_0:ByteArray) (x13_0_1:ByteArray) (r13:List AV) (x18_0_0:ByteArray) (x18_0_1:ByteArray) (r18:List AV)
  (h0:vexec Tryz.prog X call lf 0 noFg (Code.loop (loopN Tryz.f59 0)) (f82_S0 F0)=some (Ex.ret,(f82_S1 F0 f3 i0 x13_0_0 x13_0_1 r13 x18_0_0 x18_0_1 r18))):vbody Tryz.prog X call lf noFg Tryz.f59 (codeOf Tryz.f59) [featsV F0] [] 0=some (bo false,[]) :=
  along_sound (ans:=[(4,Ans.l Ex.ret (f82_S1 F0 f3 i0 x13_0_0 x13_0_1 r13 x18_0_0 x18_0_1 r18))]) (by kernel_rfl) (ai h0 trivial)
theorem f82_s0_tf (F0:List Feat) (X:Ext) (call:Caller) (lf:Nat) (f3:Nat→Int) (i0:Nat) (x13_0_0:ByteArray) (x13_0_1:ByteArray) (r13:List AV) (x18_0_0:ByteArray) (x18_0_1:ByteArray) (r18:List AV)
  (h0:decide (f3 i0 < (↑(List.length F0):Int))=true)
  (h1:keep [] (indexAddrv Tryz.prog 29 [] (lro (List.length F0) 2 (List.flatMap featC F0)) (i6 (w6 (f3 i0 - 1))))=some (AV.eaddr (st x13_0_0::st x13_0_1::r13),[]))
  (h2:keep [] (indexAddrv Tryz.prog 29 [] (lro (List.length F0) 2 (List.flatMap featC F0)) (i6 (f3 i0)))=some (AV.eaddr (st x18_0_0::st x18_0_1::r18),[]))
  (h3:(!Op.bytesLess (ByteArray.toList x13_0_0) (ByteArray.toList x18_0_0))=false)
  (e0:f3 (i0 + 1)=w6 (f3 i0 + 1)):∃ S1,vexec Tryz.prog X call lf 0 noFg (loopN Tryz.f59 0) (f82_F0 F0 f3 i0)=some (Ex.normal,S1)∧forget f82_D0 S1=(f82_F0 F0 f3 (i0 + 1)) :=
  ⟨stOf 22 [2] [(0,lro (List.length F0) 2 (List.flatMap featC F0)),(3,i6 (w6 (f3 i0 + 1))),(4,i6 (f3 i0)),(5,lro (List.length F0) 2 (List.flatMap featC F0)),(6,i6 (↑(List.length F0):Int)),(7,bo true),(8,i6 (f3 i0)),(9,i6 (w6 (f3 i0 + 1))),(10,lro (List.length F0) 2 (List.flatMap featC F0)),(11,i6 (f3 i0)),(12,i6 (w6 (f3 i0 - 1))),(13,AV.eaddr (st x13_0_0::st x13_0_1::r13)),(14,AV.eaddr (st x13_0_0::st x13_0_1::r13)),(15,st x13_0_0),(16,lro (List.length F0) 2 (List.flatMap featC F0)),(17,i6 (f3 i0)),(18,AV.eaddr (st x18_0_0::st x18_0_1::r18)),(19,AV.eaddr (st x18_0_0::st x18_0_1::r18)),(20,st x18_0_0),(21,bo false)] [],around_sound (ans:=[(4,Ans.b true),(10,Ans.v (AV.eaddr (st x13_0_0::st x13_0_1::r13))),(15,Ans.v (AV.eaddr (st x18_0_0::st x18_0_1::r18))),(18,Ans.b false)]) (by kernel_rfl) (ai h0 (ai h1 (ai h2 (ai h3 trivial)))),by unfold f82_F0; rw [e0]; show _=_; kernel_rfl⟩
def f82_S2 (F0:List Feat) (f3:Nat→Int) (i0:Nat):St :=
  stOf 22 [2,8,9,10,11,12,13,14,15,16,17,18,19,20,21] [(0,lro (List.length F0) 2 (List.flatMap featC F0)),(3,i6 (f3 i0)),(4,i6 (f3 i0)),(5,lro (List.length F0) 2 (List.flatMap featC F0)),(6,i6 (↑(List.length F0):Int)),(7,bo false)] []
theorem f82_r0_f (F0:List Feat) (X:Ext) (call:Caller) (lf:Nat) (f3:Nat→Int) (i0:Nat)
  (h0:decide (f3 i0 < (↑(List.length F0):Int))=false):vexec Tryz.prog X call lf 0 noFg (loopN Tryz.f59 0) (f82_F0 F0 f3 i0)=some (Ex.exit 0,(f82_S2 F0 f3 i0)) :=
  around_sound (ans:=[(4,Ans.b false)]) (by kernel_rfl) (ai h0 trivial)
theorem f82_plf (F0:List Feat) (X:Ext) (call:Caller) (lf:Nat) (f3:Nat→Int) (i0:Nat)
  (h0:vexec Tryz.prog X call lf 0 noFg (Code.loop (loopN Tryz.f59 0)) (f82_S0 F0)=some (Ex.exit 0,(f82_S2 F0 f3 i0))):vbody Tryz.prog X call lf noFg Tryz.f59 (codeOf Tryz.f59) [featsV F0] [] 0=some (bo true,[]) :=
  along_sound (ans:=[(4,Ans.l (Ex.exit 0) (f82_S2 F0 f3 i0))]) (by kernel_rfl) (ai h0 trivial)
def f82_o0 (F0:List Feat) (f3:Nat→Int) (i0:Nat) (x13_0_0:ByteArray) (x18_0_0:ByteArray):Nat :=
  (match decide (f3 i0 < (↑(List.length F0):Int)) with
  | true => (match (!Op.bytesLess (ByteArray.toList x13_0_0) (ByteArray.toList x18_0_0)) with
    | true=>1
    | false=>0)
  | false=>2)
theorem f82_B0 (F0:List Feat) (X:Ext) (call:Caller) (lf:Nat) (f3:Nat→Int) (i0:Nat) (x13_0_0:ByteArray) (x13_0_1:ByteArray) (r13:List AV) (x18_0_0:ByteArray) (x18_0_1:ByteArray) (r18:List AV)
  (g0:decide (f3 i0 < (↑(List.length F0):Int))=true→keep [] (indexAddrv Tryz.prog 29 [] (lro (List.length F0) 2 (List.flatMap featC F0)) (i6 (w6 (f3 i0 - 1))))=some (AV.eaddr (st x13_0_0::st x13_0_1::r13),[]))
  (g1:decide (f3 i0 < (↑(List.length F0):Int))=true→keep [] (indexAddrv Tryz.prog 29 [] (lro (List.length F0) 2 (List.flatMap featC F0)) (i6 (f3 i0)))=some (AV.eaddr (st x18_0_0::st x18_0_1::r18),[]))
  (e0 : decide (f3 i0 < (↑(List.length F0) : Int)) = true → f3 (i0 + 1) = w6 (f3 i0 + 1)) :
    (f82_o0 F0 f3 i0 x13_0_0 x18_0_0=0→∃ S1,vexec Tryz.prog X call lf 0 noFg (loopN Tryz.f59 0) (f82_F0 F0 f3 i0)=some (Ex.normal,S1)∧forget f82_D0 S1=(f82_F0 F0 f3 (i0 + 1)))∧(f82_o0 F0 f3 i0 x13_0_0 x18_0_0=1→vexec Tryz.prog X call lf 0 noFg (loopN Tryz.f59 0) (f82_F0 F0 f3 i0)=some (Ex.ret,(f82_S1 F0 f3 i0 x13_0_0 x13_0_1 r13 x18_0_0 x18_0_1 r18)))∧(f82_o0 F0 f3 i0 x13_0_0 x18_0_0=2→vexec Tryz.prog X call lf 0 noFg (loopN Tryz.f59 0) (f82_F0 F0 f3 i0)=some (Ex.exit 0,(f82_S2 F0 f3 i0))):=by
  unfold f82_o0
  cases c0:decide (f3 i0 < (↑(List.length F0):Int)) with
  | true =>
    cases c1:(!Op.bytesLess (ByteArray.toList x13_0_0) (ByteArray.toList x18_0_0)) with
    | true =>
      exact ⟨fun h=>nq h,fun _=>f82_r0_tt F0 X call lf f3 i0 x13_0_0 x13_0_1 r13 x18_0_0 x18_0_1 r18 c0 (g0 c0) (g1 c0) c1,fun h=>nq h⟩
    | false =>
      exact ⟨fun _=>f82_s0_tf F0 X call lf f3 i0 x13_0_0 x13_0_1 r13 x18_0_0 x18_0_1 r18 c0 (g0 c0) (g1 c0) c1 (e0 c0),fun h=>nq h,fun h=>nq h⟩
  | false =>
    exact ⟨fun h=>nq h,fun h=>nq h,fun _=>f82_r0_f F0 X call lf f3 i0 c0⟩
theorem f82_X0 (F0:List Feat) (X:Ext) (call:Caller) (lf:Nat) (f3:Nat→Int) (i0:Nat) (x13_0_0:ByteArray) (x13_0_1:ByteArray) (r13:List AV) (x18_0_0:ByteArray) (x18_0_1:ByteArray) (r18:List AV)
  (g0:decide (f3 i0 < (↑(List.length F0):Int))=true→keep [] (indexAddrv Tryz.prog 29 [] (lro (List.length F0) 2 (List.flatMap featC F0)) (i6 (w6 (f3 i0 - 1))))=some (AV.eaddr (st x13_0_0::st x13_0_1::r13),[]))
  (g1 : decide (f3 i0 < (↑(List.length F0) : Int)) = true → keep [] (indexAddrv Tryz.prog 29 [] (lro (List.length F0) 2 (List.flatMap featC F0)) (i6 (f3 i0))) = some (AV.eaddr (st x18_0_0 :: st x18_0_1 :: r18), [])) :
    (f82_o0 F0 f3 i0 x13_0_0 x18_0_0=1→vexec Tryz.prog X call lf 0 noFg (loopN Tryz.f59 0) (f82_F0 F0 f3 i0)=some (Ex.ret,(f82_S1 F0 f3 i0 x13_0_0 x13_0_1 r13 x18_0_0 x18_0_1 r18)))∧(f82_o0 F0 f3 i0 x13_0_0 x18_0_0=2→vexec Tryz.prog X call lf 0 noFg (loopN Tryz.f59 0) (f82_F0 F0 f3 i0)=some (Ex.exit 0,(f82_S2 F0 f3 i0))):=by
  unfold f82_o0
  cases c0:decide (f3 i0 < (↑(List.length F0):Int)) with
  | true =>
    cases c1:(!Op.bytesLess (ByteArray.toList x13_0_0) (ByteArray.toList x18_0_0)) with
    | true =>
      exact ⟨fun _=>f82_r0_tt F0 X call lf f3 i0 x13_0_0 x13_0_1 r13 x18_0_0 x18_0_1 r18 c0 (g0 c0) (g1 c0) c1,fun h=>nq h⟩
    | false =>
      exact ⟨fun h=>nq h,fun h=>nq h⟩
  | false =>
    exact ⟨fun h=>nq h,fun _=>f82_r0_f F0 X call lf f3 i0 c0⟩
theorem f82_M (F0:List Feat) (f3:Nat→Int) (X:Ext) (call:Caller) (lf:Nat) (n:Nat) (x13_0_0:Nat→ByteArray) (x13_0_1:Nat→ByteArray) (r13:Nat→List AV) (x18_0_0:Nat→ByteArray) (x18_0_1:Nat→ByteArray) (r18:Nat→List AV)
  (z0:f3 0=1)
  (hn:n < lf)
  (g0:∀ i0,i0 ≤ n→decide (f3 i0 < (↑(List.length F0):Int))=true→keep [] (indexAddrv Tryz.prog 29 [] (lro (List.length F0) 2 (List.flatMap featC F0)) (i6 (w6 (f3 i0 - 1))))=some (AV.eaddr (st (x13_0_0 i0)::st (x13_0_1 i0)::(r13 i0)),[]))
  (g1:∀ i0,i0 ≤ n→decide (f3 i0 < (↑(List.length F0):Int))=true→keep [] (indexAddrv Tryz.prog 29 [] (lro (List.length F0) 2 (List.flatMap featC F0)) (i6 (f3 i0)))=some (AV.eaddr (st (x18_0_0 i0)::st (x18_0_1 i0)::(r18 i0)),[]))
  (e0:∀ i0,i0 < n→decide (f3 i0 < (↑(List.length F0):Int))=true→f3 (i0 + 1)=w6 (f3 i0 + 1))
  (hz : ∀ j, j < n → f82_o0 F0 f3 j (x13_0_0 j) (x18_0_0 j) = 0) :
    (f82_o0 F0 f3 n (x13_0_0 n) (x18_0_0 n)=1→vbody Tryz.prog X call lf noFg Tryz.f59 (codeOf Tryz.f59) [featsV F0] [] 0=some (bo false,[]))∧(f82_o0 F0 f3 n (x13_0_0 n) (x18_0_0 n)=2→vbody Tryz.prog X call lf noFg Tryz.f59 (codeOf Tryz.f59) [featsV F0] [] 0=some (bo true,[])):=by
  have key:∀ j,j < n→_:=fun j hj=>(f82_B0 F0 X call lf f3 j (x13_0_0 j) (x13_0_1 j) (r13 j) (x18_0_0 j) (x18_0_1 j) (r18 j) (g0 j (Nat.le_of_lt hj)) (g1 j (Nat.le_of_lt hj)) (e0 j hj)).1 (hz j hj)
  have kn:=f82_X0 F0 X call lf f3 n (x13_0_0 n) (x13_0_1 n) (r13 n) (x18_0_0 n) (x18_0_1 n) (r18 n) (g0 n (Nat.le_refl n)) (g1 n (Nat.le_refl n))
  exact ⟨fun hk => f82_pltt F0 X call lf f3 n (x13_0_0 n) (x13_0_1 n) (r13 n) (x18_0_0 n) (x18_0_1 n) (r18 n) (f82_L0 F0 f3 X call lf n _ _ z0 hn key (kn.1 hk) (by simp)),
    fun hk=>f82_plf F0 X call lf f3 n (f82_L0 F0 f3 X call lf n _ _ z0 hn key (kn.2 hk) (by simp))⟩
def fg15:Nat→List Nat
  | 5004=>[1]
  | _=>[]
def f15_F0 (L0:List Lexm) (i0:Nat):St :=
  stOf 46 [2,4,5,6,7,8,9,10,11,12,13,14,15,16,17,18,19,20,21,22,23,24,25,26,27,28,29,30,31,32,33,34,35,36,37,38,39,40,41,42] [(0,lro (List.length L0) 5 (List.flatMap lexC L0)),(3,i6 (↑i0:Int))] []
def f15_S0 (L0:List Lexm):St :=
  stOf 46 [] [(0,lro (List.length L0) 5 (List.flatMap lexC L0)),(2,bo false),(3,i6 0)] []
abbrev f15_D0:List Nat:=[10,9,2,42,41,40,39,38,37,36,35,34,33,32,31,30,29,28,27,26,25,24,23,22,21,20,19,18,17,16,15,4,14,13,12,11,8,7,6,5]
theorem f15_L0 (L0:List Lexm) (X:Ext) (call:Caller) (lf:Nat) (n:Nat) (x:Ex) (S' : St)
  (hn:n < lf)
  (hs:∀ j,j < n→∃ S1,vexec Tryz.prog X call lf 0 fg15 (loopN Tryz.f5 0) (f15_F0 L0 j)=some (Ex.normal,S1)∧forget f15_D0 S1=(f15_F0 L0 (j + 1)))
  (he:vexec Tryz.prog X call lf 0 fg15 (loopN Tryz.f5 0) (f15_F0 L0 n)=some (x,S'))
  (hx:x ≠ Ex.normal):vexec Tryz.prog X call lf 0 fg15 (Go.Code.loop (loopN Tryz.f5 0)) (f15_S0 L0)=some (x,S') :=
  loop_runK (by kernel_rfl) (fun j=>(f15_F0 L0 j)) n hn (by show forget f15_D0 (f15_S0 L0)=(f15_F0 L0 0); unfold f15_F0; show _=_; kernel_rfl) hs he hx
def f15_S1 (L0:List Lexm) (i0:Nat) (x13_0_0:ByteArray) (x13_0_1:ByteArray) (x13_0_2:ByteArray) (x13_0_3:ByteArray) (m13_0_4:Nat) (c13_0_4:List AV) (r13:List AV):St :=
  stOf 46 [9,10] [(0,lro (List.length L0) 5 (List.flatMap lexC L0)),(2,bo false),(3,i6 (↑i0:Int)),(4,AV.eaddr [st x13_0_0,st x13_0_1,st x13_0_2,st x13_0_3,lro m13_0_4 2 c13_0_4]),(5,i6 (↑i0:Int)),(6,lro (List.length L0) 5 (List.flatMap lexC L0)),(7,i6 (↑(List.length L0):Int)),(8,bo true),(11,lro (List.length L0) 5 (List.flatMap lexC L0)),(12,i6 (↑i0:Int)),(13,AV.eaddr (st x13_0_0::st x13_0_1::st x13_0_2::st x13_0_3::lro m13_0_4 2 c13_0_4::r13)),(14,AV.agg [st x13_0_0,st x13_0_1,st x13_0_2,st x13_0_3,lro m13_0_4 2 c13_0_4]),(15,AV.eaddr [st x13_0_0,st x13_0_1,st x13_0_2,st x13_0_3,lro m13_0_4 2 c13_0_4]),(16,st x13_0_0),(17,i6 (↑(ByteArray.size x13_0_0):Int)),(18,bo true),(19,bo true),(24,bo true),(25,bo true),(30,bo true),(31,bo true),(36,bo true),(37,bo true),(42,bo true)] []
theorem f15_r0_tt (L0:List Lexm) (X:Ext) (call:Caller) (lf:Nat) (i0:Nat) (x13_0_0:ByteArray) (x13_0_1:ByteArray) (x13_0_2:ByteArray) (x13_0_3:ByteArray) (m13_0_4:Nat) (c13_0_4:List AV) (r13:List AV)
  (h0:decide ((↑i0:Int) < (↑(List.length L0):Int))=true)
  (h1:keep [] (indexAddrv Tryz.prog 23 [] (lro (List.length L0) 5 (List.flatMap lexC L0)) (i6 (↑i0:Int)))=some (AV.eaddr (st x13_0_0::st x13_0_1::st x13_0_2::st x13_0_3::lro m13_0_4 2 c13_0_4::r13),[]))
  (h2:decide ((↑(ByteArray.size x13_0_0):Int) > 60)=true):vexec Tryz.prog X call lf 0 fg15 (loopN Tryz.f5 0) (f15_F0 L0 i0)=some (Ex.ret,(f15_S1 L0 i0 x13_0_0 x13_0_1 x13_0_2 x13_0_3 m13_0_4 c13_0_4 r13)) :=
  around_sound (ans:=[(4,Ans.b true),(9,Ans.v (AV.eaddr (st x13_0_0::st x13_0_1::st x13_0_2::st x13_0_3::lro m13_0_4 2 c13_0_4::r13))),(15,Ans.b true)]) (by kernel_rfl) (ai h0 (ai h1 (ai h2 trivial)))
theorem f15_pltt (L0:List Lexm) (X:Ext) (call:Caller) (lf:Nat) (i0:Nat) (x13_0_0:ByteArray) (x13_0_1:ByteArray) (x13_0_2:ByteArray) (x13_0_3:ByteArray) (m13_0_4:Nat) (c13_0_4:List AV) (r13:List AV)
  (h0:vexec Tryz.prog X call lf 0 fg15 (Code.loop (loopN Tryz.f5 0)) (f15_S0 L0)=some (Ex.ret,(f15_S1 L0 i0 x13_0_0 x13_0_1 x13_0_2 x13_0_3 m13_0_4 c13_0_4 r13))):vbody Tryz.prog X call lf fg15 Tryz.f5 (codeOf Tryz.f5) [lexsV L0] [] 0=some (bo false,[]) :=
  along_sound (ans:=[(4,Ans.l Ex.ret (f15_S1 L0 i0 x13_0_0 x13_0_1 x13_0_2 x13_0_3 m13_0_4 c13_0_4 r13))]) (by kernel_rfl) (ai h0 trivial)
def f15_S2 (L0:List Lexm) (i0:Nat) (x13_0_0:ByteArray) (x13_0_1:ByteArray) (x13_0_2:ByteArray) (x13_0_3:ByteArray) (m13_0_4:Nat) (c13_0_4:List AV) (r13:List AV):St :=
  stOf 46 [9,10] [(0,lro (List.length L0) 5 (List.flatMap lexC L0)),(2,bo false),(3,i6 (↑i0:Int)),(4,AV.eaddr [st x13_0_0,st x13_0_1,st x13_0_2,st x13_0_3,lro m13_0_4 2 c13_0_4]),(5,i6 (↑i0:Int)),(6,lro (List.length L0) 5 (List.flatMap lexC L0)),(7,i6 (↑(List.length L0):Int)),(8,bo true),(11,lro (List.length L0) 5 (List.flatMap lexC L0)),(12,i6 (↑i0:Int)),(13,AV.eaddr (st x13_0_0::st x13_0_1::st x13_0_2::st x13_0_3::lro m13_0_4 2 c13_0_4::r13)),(14,AV.agg [st x13_0_0,st x13_0_1,st x13_0_2,st x13_0_3,lro m13_0_4 2 c13_0_4]),(15,AV.eaddr [st x13_0_0,st x13_0_1,st x13_0_2,st x13_0_3,lro m13_0_4 2 c13_0_4]),(16,st x13_0_0),(17,i6 (↑(ByteArray.size x13_0_0):Int)),(18,bo false),(19,bo false),(20,AV.eaddr [st x13_0_1,st x13_0_2,st x13_0_3,lro m13_0_4 2 c13_0_4]),(21,st x13_0_1),(22,i6 (↑(ByteArray.size x13_0_1):Int)),(23,bo true),(24,bo true),(25,bo true),(30,bo true),(31,bo true),(36,bo true),(37,bo true),(42,bo true)] []
theorem f15_r0_tft (L0:List Lexm) (X:Ext) (call:Caller) (lf:Nat) (i0:Nat) (x13_0_0:ByteArray) (x13_0_1:ByteArray) (x13_0_2:ByteArray) (x13_0_3:ByteArray) (m13_0_4:Nat) (c13_0_4:List AV) (r13:List AV)
  (h0:decide ((↑i0:Int) < (↑(List.length L0):Int))=true)
  (h1:keep [] (indexAddrv Tryz.prog 23 [] (lro (List.length L0) 5 (List.flatMap lexC L0)) (i6 (↑i0:Int)))=some (AV.eaddr (st x13_0_0::st x13_0_1::st x13_0_2::st x13_0_3::lro m13_0_4 2 c13_0_4::r13),[]))
  (h2:decide ((↑(ByteArray.size x13_0_0):Int) > 60)=false)
  (h3:decide ((↑(ByteArray.size x13_0_1):Int) > 60)=true):vexec Tryz.prog X call lf 0 fg15 (loopN Tryz.f5 0) (f15_F0 L0 i0)=some (Ex.ret,(f15_S2 L0 i0 x13_0_0 x13_0_1 x13_0_2 x13_0_3 m13_0_4 c13_0_4 r13)) :=
  around_sound (ans:=[(4,Ans.b true),(9,Ans.v (AV.eaddr (st x13_0_0::st x13_0_1::st x13_0_2::st x13_0_3::lro m13_0_4 2 c13_0_4::r13))),(15,Ans.b false),(24,Ans.b true)]) (by kernel_rfl) (ai h0 (ai h1 (ai h2 (ai h3 trivial))))
theorem f15_pltft (L0:List Lexm) (X:Ext) (call:Caller) (lf:Nat) (i0:Nat) (x13_0_0:ByteArray) (x13_0_1:ByteArray) (x13_0_2:ByteArray) (x13_0_3:ByteArray) (m13_0_4:Nat) (c13_0_4:List AV) (r13:List AV)
  (h0:vexec Tryz.prog X call lf 0 fg15 (Code.loop (loopN Tryz.f5 0)) (f15_S0 L0)=some (Ex.ret,(f15_S2 L0 i0 x13_0_0 x13_0_1 x13_0_2 x13_0_3 m13_0_4 c13_0_4 r13))):vbody Tryz.prog X call lf fg15 Tryz.f5 (codeOf Tryz.f5) [lexsV L0] [] 0=some (bo false,[]) :=
  along_sound (ans:=[(4,Ans.l Ex.ret (f15_S2 L0 i0 x13_0_0 x13_0_1 x13_0_2 x13_0_3 m13_0_4 c13_0_4 r13))]) (by kernel_rfl) (ai h0 trivial)
def f15_S3 (L0:List Lexm) (i0:Nat) (x13_0_0:ByteArray) (x13_0_1:ByteArray) (x13_0_2:ByteArray) (x13_0_3:ByteArray) (m13_0_4:Nat) (c13_0_4:List AV) (r13:List AV):St :=
  stOf 46 [9,10] [(0,lro (List.length L0) 5 (List.flatMap lexC L0)),(2,bo false),(3,i6 (↑i0:Int)),(4,AV.eaddr [st x13_0_0,st x13_0_1,st x13_0_2,st x13_0_3,lro m13_0_4 2 c13_0_4]),(5,i6 (↑i0:Int)),(6,lro (List.length L0) 5 (List.flatMap lexC L0)),(7,i6 (↑(List.length L0):Int)),(8,bo true),(11,lro (List.length L0) 5 (List.flatMap lexC L0)),(12,i6 (↑i0:Int)),(13,AV.eaddr (st x13_0_0::st x13_0_1::st x13_0_2::st x13_0_3::lro m13_0_4 2 c13_0_4::r13)),(14,AV.agg [st x13_0_0,st x13_0_1,st x13_0_2,st x13_0_3,lro m13_0_4 2 c13_0_4]),(15,AV.eaddr [st x13_0_0,st x13_0_1,st x13_0_2,st x13_0_3,lro m13_0_4 2 c13_0_4]),(16,st x13_0_0),(17,i6 (↑(ByteArray.size x13_0_0):Int)),(18,bo false),(19,bo false),(20,AV.eaddr [st x13_0_1,st x13_0_2,st x13_0_3,lro m13_0_4 2 c13_0_4]),(21,st x13_0_1),(22,i6 (↑(ByteArray.size x13_0_1):Int)),(23,bo false),(24,bo false),(25,bo false),(26,AV.eaddr [st x13_0_2,st x13_0_3,lro m13_0_4 2 c13_0_4]),(27,st x13_0_2),(28,i6 (↑(ByteArray.size x13_0_2):Int)),(29,bo true),(30,bo true),(31,bo true),(36,bo true),(37,bo true),(42,bo true)] []
theorem f15_r0_tfft (L0:List Lexm) (X:Ext) (call:Caller) (lf:Nat) (i0:Nat) (x13_0_0:ByteArray) (x13_0_1:ByteArray) (x13_0_2:ByteArray) (x13_0_3:ByteArray) (m13_0_4:Nat) (c13_0_4:List AV) (r13:List AV)
  (h0:decide ((↑i0:Int) < (↑(List.length L0):Int))=true)
  (h1:keep [] (indexAddrv Tryz.prog 23 [] (lro (List.length L0) 5 (List.flatMap lexC L0)) (i6 (↑i0:Int)))=some (AV.eaddr (st x13_0_0::st x13_0_1::st x13_0_2::st x13_0_3::lro m13_0_4 2 c13_0_4::r13),[]))
  (h2:decide ((↑(ByteArray.size x13_0_0):Int) > 60)=false)
  (h3:decide ((↑(ByteArray.size x13_0_1):Int) > 60)=false)
  (h4:decide ((↑(ByteArray.size x13_0_2):Int) > 200)=true):vexec Tryz.prog X call lf 0 fg15 (loopN Tryz.f5 0) (f15_F0 L0 i0)=some (Ex.ret,(f15_S3 L0 i0 x13_0_0 x13_0_1 x13_0_2 x13_0_3 m13_0_4 c13_0_4 r13)) :=
  around_sound (ans:=[(4,Ans.b true),(9,Ans.v (AV.eaddr (st x13_0_0::st x13_0_1::st x13_0_2::st x13_0_3::lro m13_0_4 2 c13_0_4::r13))),(15,Ans.b false),(24,Ans.b false),(34,Ans.b true)]) (by kernel_rfl) (ai h0 (ai h1 (ai h2 (ai h3 (ai h4 trivial)))))
theorem f15_pltfft (L0:List Lexm) (X:Ext) (call:Caller) (lf:Nat) (i0:Nat) (x13_0_0:ByteArray) (x13_0_1:ByteArray) (x13_0_2:ByteArray) (x13_0_3:ByteArray) (m13_0_4:Nat) (c13_0_4:List AV) (r13:List AV)
  (h0:vexec Tryz.prog X call lf 0 fg15 (Code.loop (loopN Tryz.f5 0)) (f15_S0 L0)=some (Ex.ret,(f15_S3 L0 i0 x13_0_0 x13_0_1 x13_0_2 x13_0_3 m13_0_4 c13_0_4 r13))):vbody Tryz.prog X call lf fg15 Tryz.f5 (codeOf Tryz.f5) [lexsV L0] [] 0=some (bo false,[]) :=
  along_sound (ans:=[(4,Ans.l Ex.ret (f15_S3 L0 i0 x13_0_0 x13_0_1 x13_0_2 x13_0_3 m13_0_4 c13_0_4 r13))]) (by kernel_rfl) (ai h0 trivial)
def f15_S4 (L0:List Lexm) (i0:Nat) (x13_0_0:ByteArray) (x13_0_1:ByteArray) (x13_0_2:ByteArray) (x13_0_3:ByteArray) (m13_0_4:Nat) (c13_0_4:List AV) (r13:List AV):St :=
  stOf 46 [9,10] [(0,lro (List.length L0) 5 (List.flatMap lexC L0)),(2,bo false),(3,i6 (↑i0:Int)),(4,AV.eaddr [st x13_0_0,st x13_0_1,st x13_0_2,st x13_0_3,lro m13_0_4 2 c13_0_4]),(5,i6 (↑i0:Int)),(6,lro (List.length L0) 5 (List.flatMap lexC L0)),(7,i6 (↑(List.length L0):Int)),(8,bo true),(11,lro (List.length L0) 5 (List.flatMap lexC L0)),(12,i6 (↑i0:Int)),(13,AV.eaddr (st x13_0_0::st x13_0_1::st x13_0_2::st x13_0_3::lro m13_0_4 2 c13_0_4::r13)),(14,AV.agg [st x13_0_0,st x13_0_1,st x13_0_2,st x13_0_3,lro m13_0_4 2 c13_0_4]),(15,AV.eaddr [st x13_0_0,st x13_0_1,st x13_0_2,st x13_0_3,lro m13_0_4 2 c13_0_4]),(16,st x13_0_0),(17,i6 (↑(ByteArray.size x13_0_0):Int)),(18,bo false),(19,bo false),(20,AV.eaddr [st x13_0_1,st x13_0_2,st x13_0_3,lro m13_0_4 2 c13_0_4]),(21,st x13_0_1),(22,i6 (↑(ByteArray.size x13_0_1):Int)),(23,bo false),(24,bo false),(25,bo false),(26,AV.eaddr [st x13_0_2,st x13_0_3,lro m13_0_4 2 c13_0_4]),(27,st x13_0_2),(28,i6 (↑(ByteArray.size x13_0_2):Int)),(29,bo false),(30,bo false),(31,bo false),(32,AV.eaddr [st x13_0_3,lro m13_0_4 2 c13_0_4]),(33,st x13_0_3),(34,i6 (↑(ByteArray.size x13_0_3):Int)),(35,bo true),(36,bo true),(37,bo true),(42,bo true)] []
theorem f15_r0_tffft (L0:List Lexm) (X:Ext) (call:Caller) (lf:Nat) (i0:Nat) (x13_0_0:ByteArray) (x13_0_1:ByteArray) (x13_0_2:ByteArray) (x13_0_3:ByteArray) (m13_0_4:Nat) (c13_0_4:List AV) (r13:List AV)
  (h0:decide ((↑i0:Int) < (↑(List.length L0):Int))=true)
  (h1:keep [] (indexAddrv Tryz.prog 23 [] (lro (List.length L0) 5 (List.flatMap lexC L0)) (i6 (↑i0:Int)))=some (AV.eaddr (st x13_0_0::st x13_0_1::st x13_0_2::st x13_0_3::lro m13_0_4 2 c13_0_4::r13),[]))
  (h2:decide ((↑(ByteArray.size x13_0_0):Int) > 60)=false)
  (h3:decide ((↑(ByteArray.size x13_0_1):Int) > 60)=false)
  (h4:decide ((↑(ByteArray.size x13_0_2):Int) > 200)=false)
  (h5:decide ((↑(ByteArray.size x13_0_3):Int) > 60)=true):vexec Tryz.prog X call lf 0 fg15 (loopN Tryz.f5 0) (f15_F0 L0 i0)=some (Ex.ret,(f15_S4 L0 i0 x13_0_0 x13_0_1 x13_0_2 x13_0_3 m13_0_4 c13_0_4 r13)) :=
  around_sound (ans:=[(4,Ans.b true),(9,Ans.v (AV.eaddr (st x13_0_0::st x13_0_1::st x13_0_2::st x13_0_3::lro m13_0_4 2 c13_0_4::r13))),(15,Ans.b false),(24,Ans.b false),(34,Ans.b false),(44,Ans.b true)]) (by kernel_rfl) (ai h0 (ai h1 (ai h2 (ai h3 (ai h4 (ai h5 trivial))))))
theorem f15_pltffft (L0:List Lexm) (X:Ext) (call:Caller) (lf:Nat) (i0:Nat) (x13_0_0:ByteArray) (x13_0_1:ByteArray) (x13_0_2:ByteArray) (x13_0_3:ByteArray) (m13_0_4:Nat) (c13_0_4:List AV) (r13:List AV)
  (h0:vexec Tryz.prog X call lf 0 fg15 (Code.loop (loopN Tryz.f5 0)) (f15_S0 L0)=some (Ex.ret,(f15_S4 L0 i0 x13_0_0 x13_0_1 x13_0_2 x13_0_3 m13_0_4 c13_0_4 r13))):vbody Tryz.prog X call lf fg15 Tryz.f5 (codeOf Tryz.f5) [lexsV L0] [] 0=some (bo false,[]) :=
  along_sound (ans:=[(4,Ans.l Ex.ret (f15_S4 L0 i0 x13_0_0 x13_0_1 x13_0_2 x13_0_3 m13_0_4 c13_0_4 r13))]) (by kernel_rfl) (ai h0 trivial)
def f15_S5 (L0:List Lexm) (i0:Nat) (x13_0_0:ByteArray) (x13_0_1:ByteArray) (x13_0_2:ByteArray) (x13_0_3:ByteArray) (m13_0_4:Nat) (c13_0_4:List AV) (r13:List AV):St :=
  stOf 46 [9,10] [(0,lro (List.length L0) 5 (List.flatMap lexC L0)),(2,bo false),(3,i6 (↑i0:Int)),(4,AV.eaddr [st x13_0_0,st x13_0_1,st x13_0_2,st x13_0_3,lro m13_0_4 2 c13_0_4]),(5,i6 (↑i0:Int)),(6,lro (List.length L0) 5 (List.flatMap lexC L0)),(7,i6 (↑(List.length L0):Int)),(8,bo true),(11,lro (List.length L0) 5 (List.flatMap lexC L0)),(12,i6 (↑i0:Int)),(13,AV.eaddr (st x13_0_0::st x13_0_1::st x13_0_2::st x13_0_3::lro m13_0_4 2 c13_0_4::r13)),(14,AV.agg [st x13_0_0,st x13_0_1,st x13_0_2,st x13_0_3,lro m13_0_4 2 c13_0_4]),(15,AV.eaddr [st x13_0_0,st x13_0_1,st x13_0_2,st x13_0_3,lro m13_0_4 2 c13_0_4]),(16,st x13_0_0),(17,i6 (↑(ByteArray.size x13_0_0):Int)),(18,bo false),(19,bo false),(20,AV.eaddr [st x13_0_1,st x13_0_2,st x13_0_3,lro m13_0_4 2 c13_0_4]),(21,st x13_0_1),(22,i6 (↑(ByteArray.size x13_0_1):Int)),(23,bo false),(24,bo false),(25,bo false),(26,AV.eaddr [st x13_0_2,st x13_0_3,lro m13_0_4 2 c13_0_4]),(27,st x13_0_2),(28,i6 (↑(ByteArray.size x13_0_2):Int)),(29,bo false),(30,bo false),(31,bo false),(32,AV.eaddr [st x13_0_3,lro m13_0_4 2 c13_0_4]),(33,st x13_0_3),(34,i6 (↑(ByteArray.size x13_0_3):Int)),(35,bo false),(36,bo false),(37,bo false),(38,AV.eaddr [lro m13_0_4 2 c13_0_4]),(39,lro m13_0_4 2 c13_0_4),(40,i6 (↑m13_0_4:Int)),(41,bo true),(42,bo true)] []
theorem f15_r0_tfffft (L0:List Lexm) (X:Ext) (call:Caller) (lf:Nat) (i0:Nat) (x13_0_0:ByteArray) (x13_0_1:ByteArray) (x13_0_2:ByteArray) (x13_0_3:ByteArray) (m13_0_4:Nat) (c13_0_4:List AV) (r13:List AV)
  (h0:decide ((↑i0:Int) < (↑(List.length L0):Int))=true)
  (h1:keep [] (indexAddrv Tryz.prog 23 [] (lro (List.length L0) 5 (List.flatMap lexC L0)) (i6 (↑i0:Int)))=some (AV.eaddr (st x13_0_0::st x13_0_1::st x13_0_2::st x13_0_3::lro m13_0_4 2 c13_0_4::r13),[]))
  (h2:decide ((↑(ByteArray.size x13_0_0):Int) > 60)=false)
  (h3:decide ((↑(ByteArray.size x13_0_1):Int) > 60)=false)
  (h4:decide ((↑(ByteArray.size x13_0_2):Int) > 200)=false)
  (h5:decide ((↑(ByteArray.size x13_0_3):Int) > 60)=false)
  (h6:decide ((↑m13_0_4:Int) > 20)=true):vexec Tryz.prog X call lf 0 fg15 (loopN Tryz.f5 0) (f15_F0 L0 i0)=some (Ex.ret,(f15_S5 L0 i0 x13_0_0 x13_0_1 x13_0_2 x13_0_3 m13_0_4 c13_0_4 r13)) :=
  around_sound (ans:=[(4,Ans.b true),(9,Ans.v (AV.eaddr (st x13_0_0::st x13_0_1::st x13_0_2::st x13_0_3::lro m13_0_4 2 c13_0_4::r13))),(15,Ans.b false),(24,Ans.b false),(34,Ans.b false),(44,Ans.b false),(54,Ans.b true)]) (by kernel_rfl) (ai h0 (ai h1 (ai h2 (ai h3 (ai h4 (ai h5 (ai h6 trivial)))))))
theorem f15_pltfffft (L0:List Lexm) (X:Ext) (call:Caller) (lf:Nat) (i0:Nat) (x13_0_0:ByteArray) (x13_0_1:ByteArray) (x13_0_2:ByteArray) (x13_0_3:ByteArray) (m13_0_4:Nat) (c13_0_4:List AV) (r13:List AV)
  (h0:vexec Tryz.prog X call lf 0 fg15 (Code.loop (loopN Tryz.f5 0)) (f15_S0 L0)=some (Ex.ret,(f15_S5 L0 i0 x13_0_0 x13_0_1 x13_0_2 x13_0_3 m13_0_4 c13_0_4 r13))):vbody Tryz.prog X call lf fg15 Tryz.f5 (codeOf Tryz.f5) [lexsV L0] [] 0=some (bo false,[]) :=
  along_sound (ans:=[(4,Ans.l Ex.ret (f15_S5 L0 i0 x13_0_0 x13_0_1 x13_0_2 x13_0_3 m13_0_4 c13_0_4 r13))]) (by kernel_rfl) (ai h0 trivial)
theorem f15_s0_tfffff (L0:List Lexm) (X:Ext) (call:Caller) (lf:Nat) (i0:Nat) (x13_0_0:ByteArray) (x13_0_1:ByteArray) (x13_0_2:ByteArray) (x13_0_3:ByteArray) (m13_0_4:Nat) (c13_0_4:List AV) (r13:List AV)
  (h0:decide ((↑i0:Int) < (↑(List.length L0):Int))=true)
  (h1:keep [] (indexAddrv Tryz.prog 23 [] (lro (List.length L0) 5 (List.flatMap lexC L0)) (i6 (↑i0:Int)))=some (AV.eaddr (st x13_0_0::st x13_0_1::st x13_0_2::st x13_0_3::lro m13_0_4 2 c13_0_4::r13),[]))
  (h2:decide ((↑(ByteArray.size x13_0_0):Int) > 60)=false)
  (h3:decide ((↑(ByteArray.size x13_0_1):Int) > 60)=false)
  (h4:decide ((↑(ByteArray.size x13_0_2):Int) > 200)=false)
  (h5:decide ((↑(ByteArray.size x13_0_3):Int) > 60)=false)
  (h6:decide ((↑m13_0_4:Int) > 20)=false)
  (e0:(↑(i0 + 1):Int)=w6 ((↑i0:Int) + 1)):∃ S1,vexec Tryz.prog X call lf 0 fg15 (loopN Tryz.f5 0) (f15_F0 L0 i0)=some (Ex.normal,S1)∧forget f15_D0 S1=(f15_F0 L0 (i0 + 1)) :=
  ⟨stOf 46 [2] [(0,lro (List.length L0) 5 (List.flatMap lexC L0)),(3,i6 (w6 ((↑i0:Int) + 1))),(4,AV.eaddr [st x13_0_0,st x13_0_1,st x13_0_2,st x13_0_3,lro m13_0_4 2 c13_0_4]),(5,i6 (↑i0:Int)),(6,lro (List.length L0) 5 (List.flatMap lexC L0)),(7,i6 (↑(List.length L0):Int)),(8,bo true),(9,i6 (↑i0:Int)),(10,i6 (w6 ((↑i0:Int) + 1))),(11,lro (List.length L0) 5 (List.flatMap lexC L0)),(12,i6 (↑i0:Int)),(13,AV.eaddr (st x13_0_0::st x13_0_1::st x13_0_2::st x13_0_3::lro m13_0_4 2 c13_0_4::r13)),(14,AV.agg [st x13_0_0,st x13_0_1,st x13_0_2,st x13_0_3,lro m13_0_4 2 c13_0_4]),(15,AV.eaddr [st x13_0_0,st x13_0_1,st x13_0_2,st x13_0_3,lro m13_0_4 2 c13_0_4]),(16,st x13_0_0),(17,i6 (↑(ByteArray.size x13_0_0):Int)),(18,bo false),(19,bo false),(20,AV.eaddr [st x13_0_1,st x13_0_2,st x13_0_3,lro m13_0_4 2 c13_0_4]),(21,st x13_0_1),(22,i6 (↑(ByteArray.size x13_0_1):Int)),(23,bo false),(24,bo false),(25,bo false),(26,AV.eaddr [st x13_0_2,st x13_0_3,lro m13_0_4 2 c13_0_4]),(27,st x13_0_2),(28,i6 (↑(ByteArray.size x13_0_2):Int)),(29,bo false),(30,bo false),(31,bo false),(32,AV.eaddr [st x13_0_3,lro m13_0_4 2 c13_0_4]),(33,st x13_0_3),(34,i6 (↑(ByteArray.size x13_0_3):Int)),(35,bo false),(36,bo false),(37,bo false),(38,AV.eaddr [lro m13_0_4 2 c13_0_4]),(39,lro m13_0_4 2 c13_0_4),(40,i6 (↑m13_0_4:Int)),(41,bo false),(42,bo false)] [],around_sound (ans:=[(4,Ans.b true),(9,Ans.v (AV.eaddr (st x13_0_0::st x13_0_1::st x13_0_2::st x13_0_3::lro m13_0_4 2 c13_0_4::r13))),(15,Ans.b false),(24,Ans.b false),(34,Ans.b false),(44,Ans.b false),(54,Ans.b false)]) (by kernel_rfl) (ai h0 (ai h1 (ai h2 (ai h3 (ai h4 (ai h5 (ai h6 trivial))))))),by unfold f15_F0; rw [e0]; show _=_; kernel_rfl⟩
def f15_S6 (L0:List Lexm) (i0:Nat):St :=
  stOf 46 [2,4,9,10,11,12,13,14,15,16,17,18,19,20,21,22,23,24,25,26,27,28,29,30,31,32,33,34,35,36,37,38,39,40,41,42] [(0,lro (List.length L0) 5 (List.flatMap lexC L0)),(3,i6 (↑i0:Int)),(5,i6 (↑i0:Int)),(6,lro (List.length L0) 5 (List.flatMap lexC L0)),(7,i6 (↑(List.length L0):Int)),(8,bo false)] []
theorem f15_r0_f (L0:List Lexm) (X:Ext) (call:Caller) (lf:Nat) (i0:Nat)
  (h0:decide ((↑i0:Int) < (↑(List.length L0):Int))=false):vexec Tryz.prog X call lf 0 fg15 (loopN Tryz.f5 0) (f15_F0 L0 i0)=some (Ex.exit 0,(f15_S6 L0 i0)) :=
  around_sound (ans:=[(4,Ans.b false)]) (by kernel_rfl) (ai h0 trivial)
theorem f15_plft (L0:List Lexm) (X:Ext) (call:Caller) (lf:Nat) (i0:Nat)
  (h0:vexec Tryz.prog X call lf 0 fg15 (Code.loop (loopN Tryz.f5 0)) (f15_S0 L0)=some (Ex.exit 0,(f15_S6 L0 i0)))
  (h1:decide ((↑(List.length L0):Int) ≤ 300)=true):vbody Tryz.prog X call lf fg15 Tryz.f5 (codeOf Tryz.f5) [lexsV L0] [] 0=some (bo true,[]) :=
  along_sound (ans:=[(4,Ans.l (Ex.exit 0) (f15_S6 L0 i0)),(8,Ans.b true)]) (by kernel_rfl) (ai h0 (ai h1 trivial))
theorem f15_plff (L0:List Lexm) (X:Ext) (call:Caller) (lf:Nat) (i0:Nat)
  (h0:vexec Tryz.prog X call lf 0 fg15 (Code.loop (loopN Tryz.f5 0)) (f15_S0 L0)=some (Ex.exit 0,(f15_S6 L0 i0)))
  (h1:decide ((↑(List.length L0):Int) ≤ 300)=false):vbody Tryz.prog X call lf fg15 Tryz.f5 (codeOf Tryz.f5) [lexsV L0] [] 0=some (bo false,[]) :=
  along_sound (ans:=[(4,Ans.l (Ex.exit 0) (f15_S6 L0 i0)),(8,Ans.b false)]) (by kernel_rfl) (ai h0 (ai h1 trivial))
def f15_o0 (L0:List Lexm) (i0:Nat) (x13_0_0:ByteArray) (x13_0_1:ByteArray) (x13_0_2:ByteArray) (x13_0_3:ByteArray) (m13_0_4:Nat):Nat :=
  (match decide ((↑i0:Int) < (↑(List.length L0):Int)) with
  | true => (match decide ((↑(ByteArray.size x13_0_0) : Int) > 60) with
    | true=>1
    | false => (match decide ((↑(ByteArray.size x13_0_1) : Int) > 60) with
      | true=>2
      | false => (match decide ((↑(ByteArray.size x13_0_2) : Int) > 200) with
        | true=>3
        | false => (match decide ((↑(ByteArray.size x13_0_3) : Int) > 60) with
          | true=>4
          | false => (match decide ((↑m13_0_4 : Int) > 20) with
            | true=>5
            | false=>0)))))
  | false=>6)
theorem f15_B0 (L0:List Lexm) (X:Ext) (call:Caller) (lf:Nat) (i0:Nat) (x13_0_0:ByteArray) (x13_0_1:ByteArray) (x13_0_2:ByteArray) (x13_0_3:ByteArray) (m13_0_4:Nat) (c13_0_4:List AV) (r13:List AV)
  (g0:decide ((↑i0:Int) < (↑(List.length L0):Int))=true→keep [] (indexAddrv Tryz.prog 23 [] (lro (List.length L0) 5 (List.flatMap lexC L0)) (i6 (↑i0:Int)))=some (AV.eaddr (st x13_0_0::st x13_0_1::st x13_0_2::st x13_0_3::lro m13_0_4 2 c13_0_4::r13),[]))
  (e0 : decide ((↑i0 : Int) < (↑(List.length L0) : Int)) = true → (↑(i0 + 1) : Int) = w6 ((↑i0 : Int) + 1)) :
    (f15_o0 L0 i0 x13_0_0 x13_0_1 x13_0_2 x13_0_3 m13_0_4=0→∃ S1,vexec Tryz.prog X call lf 0 fg15 (loopN Tryz.f5 0) (f15_F0 L0 i0)=some (Ex.normal,S1)∧forget f15_D0 S1=(f15_F0 L0 (i0 + 1)))∧(f15_o0 L0 i0 x13_0_0 x13_0_1 x13_0_2 x13_0_3 m13_0_4=1→vexec Tryz.prog X call lf 0 fg15 (loopN Tryz.f5 0) (f15_F0 L0 i0)=some (Ex.ret,(f15_S1 L0 i0 x13_0_0 x13_0_1 x13_0_2 x13_0_3 m13_0_4 c13_0_4 r13)))∧(f15_o0 L0 i0 x13_0_0 x13_0_1 x13_0_2 x13_0_3 m13_0_4=2→vexec Tryz.prog X call lf 0 fg15 (loopN Tryz.f5 0) (f15_F0 L0 i0)=some (Ex.ret,(f15_S2 L0 i0 x13_0_0 x13_0_1 x13_0_2 x13_0_3 m13_0_4 c13_0_4 r13)))∧(f15_o0 L0 i0 x13_0_0 x13_0_1 x13_0_2 x13_0_3 m13_0_4=3→vexec Tryz.prog X call lf 0 fg15 (loopN Tryz.f5 0) (f15_F0 L0 i0)=some (Ex.ret,(f15_S3 L0 i0 x13_0_0 x13_0_1 x13_0_2 x13_0_3 m13_0_4 c13_0_4 r13)))∧(f15_o0 L0 i0 x13_0_0 x13_0_1 x13_0_2 x13_0_3 m13_0_4=4→vexec Tryz.prog X call lf 0 fg15 (loopN Tryz.f5 0) (f15_F0 L0 i0)=some (Ex.ret,(f15_S4 L0 i0 x13_0_0 x13_0_1 x13_0_2 x13_0_3 m13_0_4 c13_0_4 r13)))∧(f15_o0 L0 i0 x13_0_0 x13_0_1 x13_0_2 x13_0_3 m13_0_4=5→vexec Tryz.prog X call lf 0 fg15 (loopN Tryz.f5 0) (f15_F0 L0 i0)=some (Ex.ret,(f15_S5 L0 i0 x13_0_0 x13_0_1 x13_0_2 x13_0_3 m13_0_4 c13_0_4 r13)))∧(f15_o0 L0 i0 x13_0_0 x13_0_1 x13_0_2 x13_0_3 m13_0_4=6→vexec Tryz.prog X call lf 0 fg15 (loopN Tryz.f5 0) (f15_F0 L0 i0)=some (Ex.exit 0,(f15_S6 L0 i0))):=by
  unfold f15_o0
  cases c0:decide ((↑i0:Int) < (↑(List.length L0):Int)) with
  | true =>
    cases c1:decide ((↑(ByteArray.size x13_0_0):Int) > 60) with
    | true =>
      exact ⟨fun h=>nq h,fun _=>f15_r0_tt L0 X call lf i0 x13_0_0 x13_0_1 x13_0_2 x13_0_3 m13_0_4 c13_0_4 r13 c0 (g0 c0) c1,fun h=>nq h,fun h=>nq h,fun h=>nq h,fun h=>nq h,fun h=>nq h⟩
    | false =>
      cases c2:decide ((↑(ByteArray.size x13_0_1):Int) > 60) with
      | true =>
        exact ⟨fun h=>nq h,fun h=>nq h,fun _=>f15_r0_tft L0 X call lf i0 x13_0_0 x13_0_1 x13_0_2 x13_0_3 m13_0_4 c13_0_4 r13 c0 (g0 c0) c1 c2,fun h=>nq h,fun h=>nq h,fun h=>nq h,fun h=>nq h⟩
      | false =>
        cases c3:decide ((↑(ByteArray.size x13_0_2):Int) > 200) with
        | true =>
          exact ⟨fun h=>nq h,fun h=>nq h,fun h=>nq h,fun _=>f15_r0_tfft L0 X call lf i0 x13_0_0 x13_0_1 x13_0_2 x13_0_3 m13_0_4 c13_0_4 r13 c0 (g0 c0) c1 c2 c3,fun h=>nq h,fun h=>nq h,fun h=>nq h⟩
        | false =>
          cases c4:decide ((↑(ByteArray.size x13_0_3):Int) > 60) with
          | true =>
            exact ⟨fun h=>nq h,fun h=>nq h,fun h=>nq h,fun h=>nq h,fun _=>f15_r0_tffft L0 X call lf i0 x13_0_0 x13_0_1 x13_0_2 x13_0_3 m13_0_4 c13_0_4 r13 c0 (g0 c0) c1 c2 c3 c4,fun h=>nq h,fun h=>nq h⟩
          | false =>
            cases c5:decide ((↑m13_0_4:Int) > 20) with
            | true =>
              exact ⟨fun h=>nq h,fun h=>nq h,fun h=>nq h,fun h=>nq h,fun h=>nq h,fun _=>f15_r0_tfffft L0 X call lf i0 x13_0_0 x13_0_1 x13_0_2 x13_0_3 m13_0_4 c13_0_4 r13 c0 (g0 c0) c1 c2 c3 c4 c5,fun h=>nq h⟩
            | false =>
              exact ⟨fun _=>f15_s0_tfffff L0 X call lf i0 x13_0_0 x13_0_1 x13_0_2 x13_0_3 m13_0_4 c13_0_4 r13 c0 (g0 c0) c1 c2 c3 c4 c5 (e0 c0),fun h=>nq h,fun h=>nq h,fun h=>nq h,fun h=>nq h,fun h=>nq h,fun h=>nq h⟩
  | false =>
    exact ⟨fun h=>nq h,fun h=>nq h,fun h=>nq h,fun h=>nq h,fun h=>nq h,fun h=>nq h,fun _=>f15_r0_f L0 X call lf i0 c0⟩
theorem f15_X0 (L0:List Lexm) (X:Ext) (call:Caller) (lf:Nat) (i0:Nat) (x13_0_0:ByteArray) (x13_0_1:ByteArray) (x13_0_2:ByteArray) (x13_0_3:ByteArray) (m13_0_4:Nat) (c13_0_4:List AV) (r13:List AV)
  (g0 : decide ((↑i0 : Int) < (↑(List.length L0) : Int)) = true → keep [] (indexAddrv Tryz.prog 23 [] (lro (List.length L0) 5 (List.flatMap lexC L0)) (i6 (↑i0 : Int))) = some (AV.eaddr (st x13_0_0 :: st x13_0_1 :: st x13_0_2 :: st x13_0_3 :: lro m13_0_4 2 c13_0_4 :: r13), [])) :
    (f15_o0 L0 i0 x13_0_0 x13_0_1 x13_0_2 x13_0_3 m13_0_4=1→vexec Tryz.prog X call lf 0 fg15 (loopN Tryz.f5 0) (f15_F0 L0 i0)=some (Ex.ret,(f15_S1 L0 i0 x13_0_0 x13_0_1 x13_0_2 x13_0_3 m13_0_4 c13_0_4 r13)))∧(f15_o0 L0 i0 x13_0_0 x13_0_1 x13_0_2 x13_0_3 m13_0_4=2→vexec Tryz.prog X call lf 0 fg15 (loopN Tryz.f5 0) (f15_F0 L0 i0)=some (Ex.ret,(f15_S2 L0 i0 x13_0_0 x13_0_1 x13_0_2 x13_0_3 m13_0_4 c13_0_4 r13)))∧(f15_o0 L0 i0 x13_0_0 x13_0_1 x13_0_2 x13_0_3 m13_0_4=3→vexec Tryz.prog X call lf 0 fg15 (loopN Tryz.f5 0) (f15_F0 L0 i0)=some (Ex.ret,(f15_S3 L0 i0 x13_0_0 x13_0_1 x13_0_2 x13_0_3 m13_0_4 c13_0_4 r13)))∧(f15_o0 L0 i0 x13_0_0 x13_0_1 x13_0_2 x13_0_3 m13_0_4=4→vexec Tryz.prog X call lf 0 fg15 (loopN Tryz.f5 0) (f15_F0 L0 i0)=some (Ex.ret,(f15_S4 L0 i0 x13_0_0 x13_0_1 x13_0_2 x13_0_3 m13_0_4 c13_0_4 r13)))∧(f15_o0 L0 i0 x13_0_0 x13_0_1 x13_0_2 x13_0_3 m13_0_4=5→vexec Tryz.prog X call lf 0 fg15 (loopN Tryz.f5 0) (f15_F0 L0 i0)=some (Ex.ret,(f15_S5 L0 i0 x13_0_0 x13_0_1 x13_0_2 x13_0_3 m13_0_4 c13_0_4 r13)))∧(f15_o0 L0 i0 x13_0_0 x13_0_1 x13_0_2 x13_0_3 m13_0_4=6→vexec Tryz.prog X call lf 0 fg15 (loopN Tryz.f5 0) (f15_F0 L0 i0)=some (Ex.exit 0,(f15_S6 L0 i0))):=by
  unfold f15_o0
  cases c0:decide ((↑i0:Int) < (↑(List.length L0):Int)) with
  | true =>
    cases c1:decide ((↑(ByteArray.size x13_0_0):Int) > 60) with
    | true =>
      exact ⟨fun _=>f15_r0_tt L0 X call lf i0 x13_0_0 x13_0_1 x13_0_2 x13_0_3 m13_0_4 c13_0_4 r13 c0 (g0 c0) c1,fun h=>nq h,fun h=>nq h,fun h=>nq h,fun h=>nq h,fun h=>nq h⟩
    | false =>
      cases c2:decide ((↑(ByteArray.size x13_0_1):Int) > 60) with
      | true =>
        exact ⟨fun h=>nq h,fun _=>f15_r0_tft L0 X call lf i0 x13_0_0 x13_0_1 x13_0_2 x13_0_3 m13_0_4 c13_0_4 r13 c0 (g0 c0) c1 c2,fun h=>nq h,fun h=>nq h,fun h=>nq h,fun h=>nq h⟩
      | false =>
        cases c3:decide ((↑(ByteArray.size x13_0_2):Int) > 200) with
        | true =>
          exact ⟨fun h=>nq h,fun h=>nq h,fun _=>f15_r0_tfft L0 X call lf i0 x13_0_0 x13_0_1 x13_0_2 x13_0_3 m13_0_4 c13_0_4 r13 c0 (g0 c0) c1 c2 c3,fun h=>nq h,fun h=>nq h,fun h=>nq h⟩
        | false =>
          cases c4:decide ((↑(ByteArray.size x13_0_3):Int) > 60) with
          | true =>
            exact ⟨fun h=>nq h,fun h=>nq h,fun h=>nq h,fun _=>f15_r0_tffft L0 X call lf i0 x13_0_0 x13_0_1 x13_0_2 x13_0_3 m13_0_4 c13_0_4 r13 c0 (g0 c0) c1 c2 c3 c4,fun h=>nq h,fun h=>nq h⟩
          | false =>
            cases c5:decide ((↑m13_0_4:Int) > 20) with
            | true =>
              exact ⟨fun h=>nq h,fun h=>nq h,fun h=>nq h,fun h=>nq h,fun _=>f15_r0_tfffft L0 X call lf i0 x13_0_0 x13_0_1 x13_0_2 x13_0_3 m13_0_4 c13_0_4 r13 c0 (g0 c0) c1 c2 c3 c4 c5,fun h=>nq h⟩
            | false =>
              exact ⟨fun h=>nq h,fun h=>nq h,fun h=>nq h,fun h=>nq h,fun h=>nq h,fun h=>nq h⟩
  | false =>
    exact ⟨fun h=>nq h,fun h=>nq h,fun h=>nq h,fun h=>nq h,fun h=>nq h,fun _=>f15_r0_f L0 X call lf i0 c0⟩
theorem f15_M (L0:List Lexm) (X:Ext) (call:Caller) (lf:Nat) (n:Nat) (x13_0_0:Nat→ByteArray) (x13_0_1:Nat→ByteArray) (x13_0_2:Nat→ByteArray) (x13_0_3:Nat→ByteArray) (m13_0_4:Nat→Nat) (c13_0_4:Nat→List AV) (r13:Nat→List AV)
  (hn:n < lf)
  (g0:∀ i0,i0 ≤ n→decide ((↑i0:Int) < (↑(List.length L0):Int))=true→keep [] (indexAddrv Tryz.prog 23 [] (lro (List.length L0) 5 (List.flatMap lexC L0)) (i6 (↑i0:Int)))=some (AV.eaddr (st (x13_0_0 i0)::st (x13_0_1 i0)::st (x13_0_2 i0)::st (x13_0_3 i0)::lro (m13_0_4 i0) 2 (c13_0_4 i0)::(r13 i0)),[]))
  (e0:∀ i0,i0 < n→decide ((↑i0:Int) < (↑(List.length L0):Int))=true→(↑(i0 + 1):Int)=w6 ((↑i0:Int) + 1))
  (hz : ∀ j, j < n → f15_o0 L0 j (x13_0_0 j) (x13_0_1 j) (x13_0_2 j) (x13_0_3 j) (m13_0_4 j) = 0) :
    (f15_o0 L0 n (x13_0_0 n) (x13_0_1 n) (x13_0_2 n) (x13_0_3 n) (m13_0_4 n)=1→vbody Tryz.prog X call lf fg15 Tryz.f5 (codeOf Tryz.f5) [lexsV L0] [] 0=some (bo false,[]))∧(f15_o0 L0 n (x13_0_0 n) (x13_0_1 n) (x13_0_2 n) (x13_0_3 n) (m13_0_4 n)=2→vbody Tryz.prog X call lf fg15 Tryz.f5 (codeOf Tryz.f5) [lexsV L0] [] 0=some (bo false,[]))∧(f15_o0 L0 n (x13_0_0 n) (x13_0_1 n) (x13_0_2 n) (x13_0_3 n) (m13_0_4 n)=3→vbody Tryz.prog X call lf fg15 Tryz.f5 (codeOf Tryz.f5) [lexsV L0] [] 0=some (bo false,[]))∧(f15_o0 L0 n (x13_0_0 n) (x13_0_1 n) (x13_0_2 n) (x13_0_3 n) (m13_0_4 n)=4→vbody Tryz.prog X call lf fg15 Tryz.f5 (codeOf Tryz.f5) [lexsV L0] [] 0=some (bo false,[]))∧(f15_o0 L0 n (x13_0_0 n) (x13_0_1 n) (x13_0_2 n) (x13_0_3 n) (m13_0_4 n)=5→vbody Tryz.prog X call lf fg15 Tryz.f5 (codeOf Tryz.f5) [lexsV L0] [] 0=some (bo false,[]))∧(f15_o0 L0 n (x13_0_0 n) (x13_0_1 n) (x13_0_2 n) (x13_0_3 n) (m13_0_4 n)=6→decide ((↑(List.length L0):Int) ≤ 300)=true→vbody Tryz.prog X call lf fg15 Tryz.f5 (codeOf Tryz.f5) [lexsV L0] [] 0=some (bo true,[]))∧(f15_o0 L0 n (x13_0_0 n) (x13_0_1 n) (x13_0_2 n) (x13_0_3 n) (m13_0_4 n)=6→decide ((↑(List.length L0):Int) ≤ 300)=false→vbody Tryz.prog X call lf fg15 Tryz.f5 (codeOf Tryz.f5) [lexsV L0] [] 0=some (bo false,[])):=by
  have key:∀ j,j < n→_:=fun j hj=>(f15_B0 L0 X call lf j (x13_0_0 j) (x13_0_1 j) (x13_0_2 j) (x13_0_3 j) (m13_0_4 j) (c13_0_4 j) (r13 j) (g0 j (Nat.le_of_lt hj)) (e0 j hj)).1 (hz j hj)
  have kn:=f15_X0 L0 X call lf n (x13_0_0 n) (x13_0_1 n) (x13_0_2 n) (x13_0_3 n) (m13_0_4 n) (c13_0_4 n) (r13 n) (g0 n (Nat.le_refl n))
  exact ⟨fun hk => f15_pltt L0 X call lf n (x13_0_0 n) (x13_0_1 n) (x13_0_2 n) (x13_0_3 n) (m13_0_4 n) (c13_0_4 n) (r13 n) (f15_L0 L0 X call lf n _ _ hn key (kn.1 hk) (by simp)),
    fun hk=>f15_pltft L0 X call lf n (x13_0_0 n) (x13_0_1 n) (x13_0_2 n) (x13_0_3 n) (m13_0_4 n) (c13_0_4 n) (r13 n) (f15_L0 L0 X call lf n _ _ hn key (kn.2.1 hk) (by simp)),
    fun hk=>f15_pltfft L0 X call lf n (x13_0_0 n) (x13_0_1 n) (x13_0_2 n) (x13_0_3 n) (m13_0_4 n) (c13_0_4 n) (r13 n) (f15_L0 L0 X call lf n _ _ hn key (kn.2.2.1 hk) (by simp)),
    fun hk=>f15_pltffft L0 X call lf n (x13_0_0 n) (x13_0_1 n) (x13_0_2 n) (x13_0_3 n) (m13_0_4 n) (c13_0_4 n) (r13 n) (f15_L0 L0 X call lf n _ _ hn key (kn.2.2.2.1 hk) (by simp)),
    fun hk=>f15_pltfffft L0 X call lf n (x13_0_0 n) (x13_0_1 n) (x13_0_2 n) (x13_0_3 n) (m13_0_4 n) (c13_0_4 n) (r13 n) (f15_L0 L0 X call lf n _ _ hn key (kn.2.2.2.2.1 hk) (by simp)),
    fun hk q0=>f15_plft L0 X call lf n (f15_L0 L0 X call lf n _ _ hn key (kn.2.2.2.2.2 hk) (by simp)) q0,
    fun hk q0=>f15_plff L0 X call lf n (f15_L0 L0 X call lf n _ _ hn key (kn.2.2.2.2.2 hk) (by simp)) q0⟩
theorem f47_pt (s0:ByteArray) (X:Ext) (call:Caller) (lf:Nat)
  (h0:(ByteArray.toList s0 == ByteArray.toList (ByteArray.mk #[]))=true):vbody Tryz.prog X call lf noFg Tryz.f32 (codeOf Tryz.f32) [st s0] [] 0=some (st (ByteArray.mk #[45]),[]) :=
  along_sound (ans:=[(4,Ans.b true)]) (by kernel_rfl) (ai h0 trivial)
theorem f47_pf (s0:ByteArray) (X:Ext) (call:Caller) (lf:Nat)
  (h0:(ByteArray.toList s0 == ByteArray.toList (ByteArray.mk #[]))=false):vbody Tryz.prog X call lf noFg Tryz.f32 (codeOf Tryz.f32) [st s0] [] 0=some (st s0,[]) :=
  along_sound (ans:=[(4,Ans.b false)]) (by kernel_rfl) (ai h0 trivial)
def f47_q0 (s0:ByteArray):Nat :=
  (match (ByteArray.toList s0 == ByteArray.toList (ByteArray.mk #[])) with
  | true=>0
  | false=>1)
theorem f47_P0 (s0:ByteArray) (X:Ext) (call:Caller) (lf:Nat) :
    (f47_q0 s0=0→vbody Tryz.prog X call lf noFg Tryz.f32 (codeOf Tryz.f32) [st s0] [] 0=some (st (ByteArray.mk #[45]),[]))∧(f47_q0 s0=1→vbody Tryz.prog X call lf noFg Tryz.f32 (codeOf Tryz.f32) [st s0] [] 0=some (st s0,[])):=by
  unfold f47_q0
  cases c0:(ByteArray.toList s0 == ByteArray.toList (ByteArray.mk #[])) with
  | true =>
    exact ⟨fun _=>f47_pt s0 X call lf c0,fun h=>nq h⟩
  | false =>
    exact ⟨fun h=>nq h,fun _=>f47_pf s0 X call lf c0⟩
theorem f56_pt (s0:ByteArray) (X:Ext) (call:Caller) (lf:Nat)
  (h0:(ByteArray.toList s0 == ByteArray.toList (ByteArray.mk #[45]))=true):vbody Tryz.prog X call lf noFg Tryz.f24 (codeOf Tryz.f24) [st s0] [] 0=some (st (ByteArray.mk #[]),[]) :=
  along_sound (ans:=[(4,Ans.b true)]) (by kernel_rfl) (ai h0 trivial)
theorem f56_pf (s0:ByteArray) (X:Ext) (call:Caller) (lf:Nat)
  (h0:(ByteArray.toList s0 == ByteArray.toList (ByteArray.mk #[45]))=false):vbody Tryz.prog X call lf noFg Tryz.f24 (codeOf Tryz.f24) [st s0] [] 0=some (st s0,[]) :=
  along_sound (ans:=[(4,Ans.b false)]) (by kernel_rfl) (ai h0 trivial)
def f56_q0 (s0:ByteArray):Nat :=
  (match (ByteArray.toList s0 == ByteArray.toList (ByteArray.mk #[45])) with
  | true=>0
  | false=>1)
theorem f56_P0 (s0:ByteArray) (X:Ext) (call:Caller) (lf:Nat) :
    (f56_q0 s0=0→vbody Tryz.prog X call lf noFg Tryz.f24 (codeOf Tryz.f24) [st s0] [] 0=some (st (ByteArray.mk #[]),[]))∧(f56_q0 s0=1→vbody Tryz.prog X call lf noFg Tryz.f24 (codeOf Tryz.f24) [st s0] [] 0=some (st s0,[])):=by
  unfold f56_q0
  cases c0:(ByteArray.toList s0 == ByteArray.toList (ByteArray.mk #[45])) with
  | true =>
    exact ⟨fun _=>f56_pt s0 X call lf c0,fun h=>nq h⟩
  | false =>
    exact ⟨fun h=>nq h,fun _=>f56_pf s0 X call lf c0⟩
def f29_F0 (L0:List Lexm) (s1:ByteArray) (i0:Nat):St :=
  stOf 20 [4,6,7,8,9,10,11,12,13,14,15,16,17,18,19] [(0,lro (List.length L0) 5 (List.flatMap lexC L0)),(1,st s1),(5,i6 (↑i0:Int))] []
def f29_S0 (L0:List Lexm) (s1:ByteArray):St :=
  stOf 20 [] [(0,lro (List.length L0) 5 (List.flatMap lexC L0)),(1,st s1),(4,i6 0),(5,i6 0)] []
abbrev f29_D0:List Nat:=[11,10,4,19,18,17,16,15,14,13,12,9,8,7,6]
theorem f29_L0 (L0:List Lexm) (s1:ByteArray) (X:Ext) (call:Caller) (lf:Nat) (n:Nat) (x:Ex) (S' : St)
  (hn:n < lf)
  (hs:∀ j,j < n→∃ S1,vexec Tryz.prog X call lf 0 noFg (loopN Tryz.f20 0) (f29_F0 L0 s1 j)=some (Ex.normal,S1)∧forget f29_D0 S1=(f29_F0 L0 s1 (j + 1)))
  (he:vexec Tryz.prog X call lf 0 noFg (loopN Tryz.f20 0) (f29_F0 L0 s1 n)=some (x,S'))
  (hx:x ≠ Ex.normal):vexec Tryz.prog X call lf 0 noFg (Go.Code.loop (loopN Tryz.f20 0)) (f29_S0 L0 s1)=some (x,S') :=
  loop_runK (by kernel_rfl) (fun j=>(f29_F0 L0 s1 j)) n hn (by show forget f29_D0 (f29_S0 L0 s1)=(f29_F0 L0 s1 0); unfold f29_F0; show _=_; kernel_rfl) hs he hx
def f29_S1 (L0:List Lexm) (s1:ByteArray) (i0:Nat) (x14_0_0:ByteArray) (x14_0_1:ByteArray) (x14_0_2:ByteArray) (x14_0_3:ByteArray) (m14_0_4:Nat) (c14_0_4:List AV) (r14:List AV):St :=
  stOf 20 [10,11] [(0,lro (List.length L0) 5 (List.flatMap lexC L0)),(1,st s1),(4,i6 (↑i0:Int)),(5,i6 (↑i0:Int)),(6,i6 (↑i0:Int)),(7,lro (List.length L0) 5 (List.flatMap lexC L0)),(8,i6 (↑(List.length L0):Int)),(9,bo true),(12,lro (List.length L0) 5 (List.flatMap lexC L0)),(13,i6 (↑i0:Int)),(14,AV.eaddr (st x14_0_0::st x14_0_1::st x14_0_2::st x14_0_3::lro m14_0_4 2 c14_0_4::r14)),(15,AV.eaddr (st x14_0_0::st x14_0_1::st x14_0_2::st x14_0_3::lro m14_0_4 2 c14_0_4::r14)),(16,st x14_0_0),(17,st s1),(18,bo true),(19,i6 (↑i0:Int))] []
theorem f29_r0_tt (L0:List Lexm) (s1:ByteArray) (X:Ext) (call:Caller) (lf:Nat) (i0:Nat) (x14_0_0:ByteArray) (x14_0_1:ByteArray) (x14_0_2:ByteArray) (x14_0_3:ByteArray) (m14_0_4:Nat) (c14_0_4:List AV) (r14:List AV)
  (h0:decide ((↑i0:Int) < (↑(List.length L0):Int))=true)
  (h1:keep [] (indexAddrv Tryz.prog 23 [] (lro (List.length L0) 5 (List.flatMap lexC L0)) (i6 (↑i0:Int)))=some (AV.eaddr (st x14_0_0::st x14_0_1::st x14_0_2::st x14_0_3::lro m14_0_4 2 c14_0_4::r14),[]))
  (h2:(ByteArray.toList x14_0_0 == ByteArray.toList s1)=true):vexec Tryz.prog X call lf 0 noFg (loopN Tryz.f20 0) (f29_F0 L0 s1 i0)=some (Ex.ret,(f29_S1 L0 s1 i0 x14_0_0 x14_0_1 x14_0_2 x14_0_3 m14_0_4 c14_0_4 r14)) :=
  around_sound (ans:=[(4,Ans.b true),(9,Ans.v (AV.eaddr (st x14_0_0::st x14_0_1::st x14_0_2::st x14_0_3::lro m14_0_4 2 c14_0_4::r14))),(13,Ans.b true)]) (by kernel_rfl) (ai h0 (ai h1 (ai h2 trivial)))
theorem f29_pltt (L0:List Lexm) (s1:ByteArray) (X:Ext) (call:Caller) (lf:Nat) (i0:Nat) (x14_0_0:ByteArray) (x14_0_1:ByteArray) (x14_0_2:ByteArray) (x14_0_3:ByteArray) (m14_0_4:Nat) (c14_0_4:List AV) (r14:List AV)
  (h0:vexec Tryz.prog X call lf 0 noFg (Code.loop (loopN Tryz.f20 0)) (f29_S0 L0 s1)=some (Ex.ret,(f29_S1 L0 s1 i0 x14_0_0 x14_0_1 x14_0_2 x14_0_3 m14_0_4 c14_0_4 r14))):vbody Tryz.prog X call lf noFg Tryz.f20 (codeOf Tryz.f20) [lexsV L0,st s1] [] 0=some (i6 (↑i0:Int),[]) :=
  along_sound (ans:=[(4,Ans.l Ex.ret (f29_S1 L0 s1 i0 x14_0_0 x14_0_1 x14_0_2 x14_0_3 m14_0_4 c14_0_4 r14))]) (by kernel_rfl) (ai h0 trivial)
theorem f29_s0_tf (L0:List Lexm) (s1:ByteArray) (X:Ext) (call:Caller) (lf:Nat) (i0:Nat) (x14_0_0:ByteArray) (x14_0_1:ByteArray) (x14_0_2:ByteArray) (x14_0_3:ByteArray) (m14_0_4:Nat) (c14_0_4:List AV) (r14:List AV)
  (h0:decide ((↑i0:Int) < (↑(List.length L0):Int))=true)
  (h1:keep [] (indexAddrv Tryz.prog 23 [] (lro (List.length L0) 5 (List.flatMap lexC L0)) (i6 (↑i0:Int)))=some (AV.eaddr (st x14_0_0::st x14_0_1::st x14_0_2::st x14_0_3::lro m14_0_4 2 c14_0_4::r14),[]))
  (h2:(ByteArray.toList x14_0_0 == ByteArray.toList s1)=false)
  (e0:(↑(i0 + 1):Int)=w6 ((↑i0:Int) + 1)):∃ S1,vexec Tryz.prog X call lf 0 noFg (loopN Tryz.f20 0) (f29_F0 L0 s1 i0)=some (Ex.normal,S1)∧forget f29_D0 S1=(f29_F0 L0 s1 (i0 + 1)) :=
  ⟨stOf 20 [4,19] [(0,lro (List.length L0) 5 (List.flatMap lexC L0)),(1,st s1),(5,i6 (w6 ((↑i0:Int) + 1))),(6,i6 (↑i0:Int)),(7,lro (List.length L0) 5 (List.flatMap lexC L0)),(8,i6 (↑(List.length L0):Int)),(9,bo true),(10,i6 (↑i0:Int)),(11,i6 (w6 ((↑i0:Int) + 1))),(12,lro (List.length L0) 5 (List.flatMap lexC L0)),(13,i6 (↑i0:Int)),(14,AV.eaddr (st x14_0_0::st x14_0_1::st x14_0_2::st x14_0_3::lro m14_0_4 2 c14_0_4::r14)),(15,AV.eaddr (st x14_0_0::st x14_0_1::st x14_0_2::st x14_0_3::lro m14_0_4 2 c14_0_4::r14)),(16,st x14_0_0),(17,st s1),(18,bo false)] [],around_sound (ans:=[(4,Ans.b true),(9,Ans.v (AV.eaddr (st x14_0_0::st x14_0_1::st x14_0_2::st x14_0_3::lro m14_0_4 2 c14_0_4::r14))),(13,Ans.b false)]) (by kernel_rfl) (ai h0 (ai h1 (ai h2 trivial))),by unfold f29_F0; rw [e0]; show _=_; kernel_rfl⟩
def f29_S2 (L0:List Lexm) (s1:ByteArray) (i0:Nat):St :=
  stOf 20 [4,10,11,12,13,14,15,16,17,18,19] [(0,lro (List.length L0) 5 (List.flatMap lexC L0)),(1,st s1),(5,i6 (↑i0:Int)),(6,i6 (↑i0:Int)),(7,lro (List.length L0) 5 (List.flatMap lexC L0)),(8,i6 (↑(List.length L0):Int)),(9,bo false)] []
theorem f29_r0_f (L0:List Lexm) (s1:ByteArray) (X:Ext) (call:Caller) (lf:Nat) (i0:Nat)
  (h0:decide ((↑i0:Int) < (↑(List.length L0):Int))=false):vexec Tryz.prog X call lf 0 noFg (loopN Tryz.f20 0) (f29_F0 L0 s1 i0)=some (Ex.exit 0,(f29_S2 L0 s1 i0)) :=
  around_sound (ans:=[(4,Ans.b false)]) (by kernel_rfl) (ai h0 trivial)
theorem f29_plf (L0:List Lexm) (s1:ByteArray) (X:Ext) (call:Caller) (lf:Nat) (i0:Nat)
  (h0:vexec Tryz.prog X call lf 0 noFg (Code.loop (loopN Tryz.f20 0)) (f29_S0 L0 s1)=some (Ex.exit 0,(f29_S2 L0 s1 i0))):vbody Tryz.prog X call lf noFg Tryz.f20 (codeOf Tryz.f20) [lexsV L0,st s1] [] 0=some (i6 (-1),[]) :=
  along_sound (ans:=[(4,Ans.l (Ex.exit 0) (f29_S2 L0 s1 i0))]) (by kernel_rfl) (ai h0 trivial)
def f29_o0 (L0:List Lexm) (s1:ByteArray) (i0:Nat) (x14_0_0:ByteArray):Nat :=
  (match decide ((↑i0:Int) < (↑(List.length L0):Int)) with
  | true => (match (ByteArray.toList x14_0_0 == ByteArray.toList s1) with
    | true=>1
    | false=>0)
  | false=>2)
theorem f29_B0 (L0:List Lexm) (s1:ByteArray) (X:Ext) (call:Caller) (lf:Nat) (i0:Nat) (x14_0_0:ByteArray) (x14_0_1:ByteArray) (x14_0_2:ByteArray) (x14_0_3:ByteArray) (m14_0_4:Nat) (c14_0_4:List AV) (r14:List AV)
  (g0:decide ((↑i0:Int) < (↑(List.length L0):Int))=true→keep [] (indexAddrv Tryz.prog 23 [] (lro (List.length L0) 5 (List.flatMap lexC L0)) (i6 (↑i0:Int)))=some (AV.eaddr (st x14_0_0::st x14_0_1::st x14_0_2::st x14_0_3::lro m14_0_4 2 c14_0_4::r14),[]))
  (e0 : decide ((↑i0 : Int) < (↑(List.length L0) : Int)) = true → (↑(i0 + 1) : Int) = w6 ((↑i0 : Int) + 1)) :
    (f29_o0 L0 s1 i0 x14_0_0=0→∃ S1,vexec Tryz.prog X call lf 0 noFg (loopN Tryz.f20 0) (f29_F0 L0 s1 i0)=some (Ex.normal,S1)∧forget f29_D0 S1=(f29_F0 L0 s1 (i0 + 1)))∧(f29_o0 L0 s1 i0 x14_0_0=1→vexec Tryz.prog X call lf 0 noFg (loopN Tryz.f20 0) (f29_F0 L0 s1 i0)=some (Ex.ret,(f29_S1 L0 s1 i0 x14_0_0 x14_0_1 x14_0_2 x14_0_3 m14_0_4 c14_0_4 r14)))∧(f29_o0 L0 s1 i0 x14_0_0=2→vexec Tryz.prog X call lf 0 noFg (loopN Tryz.f20 0) (f29_F0 L0 s1 i0)=some (Ex.exit 0,(f29_S2 L0 s1 i0))):=by
  unfold f29_o0
  cases c0:decide ((↑i0:Int) < (↑(List.length L0):Int)) with
  | true =>
    cases c1:(ByteArray.toList x14_0_0 == ByteArray.toList s1) with
    | true =>
      exact ⟨fun h=>nq h,fun _=>f29_r0_tt L0 s1 X call lf i0 x14_0_0 x14_0_1 x14_0_2 x14_0_3 m14_0_4 c14_0_4 r14 c0 (g0 c0) c1,fun h=>nq h⟩
    | false =>
      exact ⟨fun _=>f29_s0_tf L0 s1 X call lf i0 x14_0_0 x14_0_1 x14_0_2 x14_0_3 m14_0_4 c14_0_4 r14 c0 (g0 c0) c1 (e0 c0),fun h=>nq h,fun h=>nq h⟩
  | false =>
    exact ⟨fun h=>nq h,fun h=>nq h,fun _=>f29_r0_f L0 s1 X call lf i0 c0⟩
theorem f29_X0 (L0:List Lexm) (s1:ByteArray) (X:Ext) (call:Caller) (lf:Nat) (i0:Nat) (x14_0_0:ByteArray) (x14_0_1:ByteArray) (x14_0_2:ByteArray) (x14_0_3:ByteArray) (m14_0_4:Nat) (c14_0_4:List AV) (r14:List AV)
  (g0 : decide ((↑i0 : Int) < (↑(List.length L0) : Int)) = true → keep [] (indexAddrv Tryz.prog 23 [] (lro (List.length L0) 5 (List.flatMap lexC L0)) (i6 (↑i0 : Int))) = some (AV.eaddr (st x14_0_0 :: st x14_0_1 :: st x14_0_2 :: st x14_0_3 :: lro m14_0_4 2 c14_0_4 :: r14), [])) :
    (f29_o0 L0 s1 i0 x14_0_0=1→vexec Tryz.prog X call lf 0 noFg (loopN Tryz.f20 0) (f29_F0 L0 s1 i0)=some (Ex.ret,(f29_S1 L0 s1 i0 x14_0_0 x14_0_1 x14_0_2 x14_0_3 m14_0_4 c14_0_4 r14)))∧(f29_o0 L0 s1 i0 x14_0_0=2→vexec Tryz.prog X call lf 0 noFg (loopN Tryz.f20 0) (f29_F0 L0 s1 i0)=some (Ex.exit 0,(f29_S2 L0 s1 i0))):=by
  unfold f29_o0
  cases c0:decide ((↑i0:Int) < (↑(List.length L0):Int)) with
  | true =>
    cases c1:(ByteArray.toList x14_0_0 == ByteArray.toList s1) with
    | true =>
      exact ⟨fun _=>f29_r0_tt L0 s1 X call lf i0 x14_0_0 x14_0_1 x14_0_2 x14_0_3 m14_0_4 c14_0_4 r14 c0 (g0 c0) c1,fun h=>nq h⟩
    | false =>
      exact ⟨fun h=>nq h,fun h=>nq h⟩
  | false =>
    exact ⟨fun h=>nq h,fun _=>f29_r0_f L0 s1 X call lf i0 c0⟩
theorem f29_M (L0:List Lexm) (s1:ByteArray) (X:Ext) (call:Caller) (lf:Nat) (n:Nat) (x14_0_0:Nat→ByteArray) (x14_0_1:Nat→ByteArray) (x14_0_2:Nat→ByteArray) (x14_0_3:Nat→ByteArray) (m14_0_4:Nat→Nat) (c14_0_4:Nat→List AV) (r14:Nat→List AV)
  (hn:n < lf)
  (g0:∀ i0,i0 ≤ n→decide ((↑i0:Int) < (↑(List.length L0):Int))=true→keep [] (indexAddrv Tryz.prog 23 [] (lro (List.length L0) 5 (List.flatMap lexC L0)) (i6 (↑i0:Int)))=some (AV.eaddr (st (x14_0_0 i0)::st (x14_0_1 i0)::st (x14_0_2 i0)::st (x14_0_3 i0)::lro (m14_0_4 i0) 2 (c14_0_4 i0)::(r14 i0)),[]))
  (e0:∀ i0,i0 < n→decide ((↑i0:Int) < (↑(List.length L0):Int))=true→(↑(i0 + 1):Int)=w6 ((↑i0:Int) + 1))
  (hz : ∀ j, j < n → f29_o0 L0 s1 j (x14_0_0 j) = 0) :
    (f29_o0 L0 s1 n (x14_0_0 n)=1→vbody Tryz.prog X call lf noFg Tryz.f20 (codeOf Tryz.f20) [lexsV L0,st s1] [] 0=some (i6 (↑n:Int),[]))∧(f29_o0 L0 s1 n (x14_0_0 n)=2→vbody Tryz.prog X call lf noFg Tryz.f20 (codeOf Tryz.f20) [lexsV L0,st s1] [] 0=some (i6 (-1),[])):=by
  have key:∀ j,j < n→_:=fun j hj=>(f29_B0 L0 s1 X call lf j (x14_0_0 j) (x14_0_1 j) (x14_0_2 j) (x14_0_3 j) (m14_0_4 j) (c14_0_4 j) (r14 j) (g0 j (Nat.le_of_lt hj)) (e0 j hj)).1 (hz j hj)
  have kn:=f29_X0 L0 s1 X call lf n (x14_0_0 n) (x14_0_1 n) (x14_0_2 n) (x14_0_3 n) (m14_0_4 n) (c14_0_4 n) (r14 n) (g0 n (Nat.le_refl n))
  exact ⟨fun hk => f29_pltt L0 s1 X call lf n (x14_0_0 n) (x14_0_1 n) (x14_0_2 n) (x14_0_3 n) (m14_0_4 n) (c14_0_4 n) (r14 n) (f29_L0 L0 s1 X call lf n _ _ hn key (kn.1 hk) (by simp)),
    fun hk=>f29_plf L0 s1 X call lf n (f29_L0 L0 s1 X call lf n _ _ hn key (kn.2 hk) (by simp))⟩
theorem f28_p (L0:List Lexm) (s1:ByteArray) (X:Ext) (call:Caller) (lf:Nat) (n7:Int)
  (h0:callv X call false 26 [lro (List.length L0) 5 (List.flatMap lexC L0),AV.clo 27 [AV.ref 0 0]] [Ob.cells [st s1]] 0=some (i6 n7,[Ob.cells [st s1]])):vbody Tryz.prog X call lf noFg Tryz.f10 (codeOf Tryz.f10) [lexsV L0,st s1] [] 0=some (i6 n7,[Ob.cells [st s1]]) :=
  along_sound (ans:=[(6,Ans.v (i6 n7))]) (by kernel_rfl) (ai h0 trivial)
theorem f61_p (x0:Lexm) (X:Ext) (call:Caller) (lf:Nat) (m5:Nat) (c5:List AV) (m6:Nat) (c6:List AV)
  (h0:callv X call false 67 [lro (List.length (Lexm.feats x0)) 2 (List.flatMap featC (Lexm.feats x0))] [Ob.cells [st (Lexm.id x0),st (Lexm.cat x0),st (Lexm.stem x0),st (Lexm.par x0),lro (List.length (Lexm.feats x0)) 2 (List.flatMap featC (Lexm.feats x0))],Ob.cells [st (ByteArray.mk #[]),st (ByteArray.mk #[]),st (ByteArray.mk #[]),st (ByteArray.mk #[]),AV.list LK.nil 0 0 []]] 0=some (lro m5 2 c5,[Ob.cells [st (Lexm.id x0),st (Lexm.cat x0),st (Lexm.stem x0),st (Lexm.par x0),lro (List.length (Lexm.feats x0)) 2 (List.flatMap featC (Lexm.feats x0))],Ob.cells [st (ByteArray.mk #[]),st (ByteArray.mk #[]),st (ByteArray.mk #[]),st (ByteArray.mk #[]),AV.list LK.nil 0 0 []]]))
  (h1:callv X call false 66 [lro m5 2 c5] [Ob.cells [st (Lexm.id x0),st (Lexm.cat x0),st (Lexm.stem x0),st (Lexm.par x0),lro (List.length (Lexm.feats x0)) 2 (List.flatMap featC (Lexm.feats x0))],Ob.cells [st (ByteArray.mk #[]),st (ByteArray.mk #[]),st (ByteArray.mk #[]),st (ByteArray.mk #[]),AV.list LK.nil 0 0 []]] 0=some (lro m6 2 c6,[Ob.cells [st (Lexm.id x0),st (Lexm.cat x0),st (Lexm.stem x0),st (Lexm.par x0),lro (List.length (Lexm.feats x0)) 2 (List.flatMap featC (Lexm.feats x0))],Ob.cells [st (ByteArray.mk #[]),st (ByteArray.mk #[]),st (ByteArray.mk #[]),st (ByteArray.mk #[]),AV.list LK.nil 0 0 []]]))
  (h2:vend1 [] 0 [Ob.cells [st (Lexm.id x0),st (Lexm.cat x0),st (Lexm.stem x0),st (Lexm.par x0),lro m6 2 c6],Ob.cells [st (Lexm.id x0),st (Lexm.cat x0),st (Lexm.stem x0),st (Lexm.par x0),lro m6 2 c6]] [AV.agg [st (Lexm.id x0),st (Lexm.cat x0),st (Lexm.stem x0),st (Lexm.par x0),lro m6 2 c6]]=some (AV.agg [st (Lexm.id x0),st (Lexm.cat x0),st (Lexm.stem x0),st (Lexm.par x0),lro m6 2 c6],[Ob.cells [st (Lexm.id x0),st (Lexm.cat x0),st (Lexm.stem x0),st (Lexm.par x0),lro m6 2 c6],Ob.cells [st (Lexm.id x0),st (Lexm.cat x0),st (Lexm.stem x0),st (Lexm.par x0),lro m6 2 c6]])):vbody Tryz.prog X call lf noFg Tryz.f49 (codeOf Tryz.f49) [AV.agg (lexC x0)] [] 0=some (AV.agg [st (Lexm.id x0),st (Lexm.cat x0),st (Lexm.stem x0),st (Lexm.par x0),lro m6 2 c6],[Ob.cells [st (Lexm.id x0),st (Lexm.cat x0),st (Lexm.stem x0),st (Lexm.par x0),lro m6 2 c6],Ob.cells [st (Lexm.id x0),st (Lexm.cat x0),st (Lexm.stem x0),st (Lexm.par x0),lro m6 2 c6]]) :=
  along_sound (ans:=[(6,Ans.v (lro m5 2 c5)),(7,Ans.v (lro m6 2 c6)),(13,Ans.c (AV.agg [st (Lexm.id x0),st (Lexm.cat x0),st (Lexm.stem x0),st (Lexm.par x0),lro m6 2 c6]) [Ob.cells [st (Lexm.id x0),st (Lexm.cat x0),st (Lexm.stem x0),st (Lexm.par x0),lro m6 2 c6],Ob.cells [st (Lexm.id x0),st (Lexm.cat x0),st (Lexm.stem x0),st (Lexm.par x0),lro m6 2 c6]])]) (by kernel_rfl) (ai h0 (ai h1 (ai h2 trivial)))
end Go.Proofs.Lex
end
/- Lexicon: lists that are equal; records; few; the first lexeme with an ID. -/
section
open Go Go.Vm Go.Proofs
namespace Go.Proofs.Lex
theorem eqB_iff {x y:ByteArray}:(x.toList == y.toList)=true ↔ x=y:=by
  rw [beq_iff_eq,ByteArray.toList_eq,ByteArray.toList_eq]
  constructor
  · intro h
    cases x; cases y
    simpa using h
  · rintro rfl; rfl
theorem eqB_ne {x y:ByteArray}:(x.toList == y.toList)=false ↔ x ≠ y:=by
  rw [← Bool.not_eq_true,eqB_iff]
section
variable {X:Ext} {call:Caller} {lf:Nat}
end
end Go.Proofs.Lex
end
/- Lexicon: records; few; looking for a lexeme; small functions. -/
section
open Go Go.Vm Go.Proofs
namespace Go.Proofs.Lex
/-- The order of bytes. -/
def ltS (x y:ByteArray):Bool:=Op.bytesLess x.toList y.toList
/-- Names strictly ascend. -/
def ascF (F:List Feat):Bool:=(List.range (F.length - 1)).all fun i=>ltS (nF F i).name (nF F (i + 1)).name
theorem ascF_true {F:List Feat}:ascF F=true ↔ ∀ i,i + 1 < F.length→ltS (nF F i).name (nF F (i + 1)).name=true:=by
  simp only [ascF,List.all_eq_true,List.mem_range]
  constructor
  · intro h i hi; exact h i (by omega)
  · intro h i hi; exact h i (by omega)
def namesF (F:List Feat):Bool:=F.all fun f=>nameF f.name && nameF f.value
theorem all_nth {α:Type} {d:α} {p:α→Bool} {l:List α}:l.all p=true ↔ ∀ i,i < l.length→p (l.getD i d)=true:=by
  rw [List.all_eq_true]
  constructor
  · intro h i hi; rw [getD_lt hi]; exact h _ (List.getElem_mem hi)
  · intro h x hx
    obtain ⟨i,hi,rfl⟩:=List.getElem_of_mem hx
    have:=h i hi
    rwa [getD_lt hi] at this
/-- A valid record. -/
def validF (F:List Feat):Bool:=namesF F && (ascF F && decide (F.length ≤ 8))
section
variable {X:Ext} {call:Caller} {lf:Nat}
theorem pred {i:Nat} (h:0 < i) (hb:i ≤ big):w6 ((↑i:Int) - 1)=(↑(i - 1):Int):=by
  have:i ≤ 140737488355328:=hb
  rw [w6_id (by omega) (by omega)]
  omega
/-- ref02.Record. -/
theorem rec82 {F:List Feat} (hl:F.length ≤ big) (hlf:F.length < lf):∃ σ',vbody Tryz.prog X call lf noFg Tryz.f59 (codeOf Tryz.f59) [featsV F] [] 0=some (bo (ascF F),σ'):=by
  have hl' : F.length ≤ 140737488355328:=hl
  have ho : ∀ i, (i + 1 < F.length → ltS (nF F i).name (nF F (i + 1)).name = true → f82_o0 F (fun i => (↑(i + 1) : Int)) i (nF F i).name (nF F (i + 1)).name = 0) ∧ (i + 1 < F.length → ¬ ltS (nF F i).name (nF F (i + 1)).name = true → f82_o0 F (fun i => (↑(i + 1) : Int)) i (nF F i).name (nF F (i + 1)).name = 1) ∧ (¬ i + 1 < F.length → f82_o0 F (fun i => (↑(i + 1) : Int)) i (nF F i).name (nF F (i + 1)).name = 2) := by
    intro i
    unfold f82_o0 ltS
    refine ⟨fun h1 h2 => ?_,fun h1 h2 => ?_,fun h1 => ?_⟩
    · rw [show decide ((fun i:Nat=>(↑(i + 1):Int)) i < (↑(List.length F):Int))=true from decide_eq_true (by show (↑(i + 1):Int) < _; omega),h2]; rfl
    · rw [show decide ((fun i:Nat=>(↑(i + 1):Int)) i < (↑(List.length F):Int))=true from decide_eq_true (by show (↑(i + 1):Int) < _; omega),Bool.eq_false_iff.2 h2]; rfl
    · rw [show decide ((fun i:Nat=>(↑(i + 1):Int)) i < (↑(List.length F):Int))=false from decide_eq_false (by show ¬ (↑(i + 1):Int) < _; omega)]
  have g0 : ∀ (n i0 : Nat), i0 ≤ n → decide ((↑(i0 + 1) : Int) < (↑(List.length F) : Int)) = true → keep [] (indexAddrv Tryz.prog 29 [] (lro (List.length F) 2 (List.flatMap featC F)) (i6 (w6 ((↑(i0 + 1) : Int) - 1)))) = some (AV.eaddr (st (nF F i0).name :: st (nF F i0).value :: tF F i0), []) := by
    intro n i0 _ h
    have h:=of_decide_eq_true h
    rw [pred (by omega) (show _ ≤ 140737488355328 by omega),Nat.add_sub_cancel]
    exact at_feat (by omega)
  have g1 : ∀ (n i0 : Nat), i0 ≤ n → decide ((↑(i0 + 1) : Int) < (↑(List.length F) : Int)) = true → keep [] (indexAddrv Tryz.prog 29 [] (lro (List.length F) 2 (List.flatMap featC F)) (i6 (↑(i0 + 1) : Int))) = some (AV.eaddr (st (nF F (i0 + 1)).name :: st (nF F (i0 + 1)).value :: tF F (i0 + 1)), []) := by
    intro n i0 _ h
    have h:=of_decide_eq_true h
    exact at_feat (by omega)
  rcases first_fail (p:=fun i=>ltS (nF F i).name (nF F (i + 1)).name=true) (F.length - 1) with hall | ⟨k,hk,hbad,hbef⟩
  · have M := f82_M F (fun i => (↑(i + 1) : Int)) X call lf (F.length - 1) _ _ _ _ _ _ rfl (by omega) (g0 _) (g1 _) (fun i h _ => up (n := F.length) (by omega) hl) (fun j hj => (ho j).1 (by omega) (hall j hj))
    rw [ascF_true.2 fun i hi=>hall i (by omega)]
    exact ⟨_,M.2 ((ho _).2.2 (by omega))⟩
  · have M := f82_M F (fun i => (↑(i + 1) : Int)) X call lf k _ _ _ _ _ _ rfl (by omega) (g0 _) (g1 _) (fun i h _ => up (n := F.length) (by omega) hl) (fun j hj => (ho j).1 (by omega) (hbef j hj))
    have : ascF F = false := by
      rw [Bool.eq_false_iff]
      intro h
      exact hbad (ascF_true.1 h k (by omega))
    rw [this]
    exact ⟨_,M.1 ((ho k).2.1 (by omega) hbad)⟩
/-- ref02.Valid. -/
theorem valid50 {F:List Feat} (hl:F.length ≤ big) (hlf:F.length < lf) (h81:∀ i,i < F.length→∀ σ,callv X call false 58 [st (nF F i).name] σ 0=some (bo (nameF (nF F i).name),σ)∧callv X call false 58 [st (nF F i).value] σ 0=some (bo (nameF (nF F i).value),σ)) (h82:∀ σ,callv X call false 59 [featsV F] σ 0=some (bo (ascF F),σ)) :
    ∃ σ',vbody Tryz.prog X call lf noFg Tryz.f43 (codeOf Tryz.f43) [featsV F] [] 0=some (bo (validF F),σ'):=by
  have ho : ∀ i, (i < F.length → (nameF (nF F i).name && nameF (nF F i).value) = true → f50_o0 F i (nameF (nF F i).name) (nameF (nF F i).value) = 0) ∧ (i < F.length → ¬ (nameF (nF F i).name && nameF (nF F i).value) = true → f50_o0 F i (nameF (nF F i).name) (nameF (nF F i).value) = 1 ∨ f50_o0 F i (nameF (nF F i).name) (nameF (nF F i).value) = 2) ∧ (¬ i < F.length → f50_o0 F i (nameF (nF F i).name) (nameF (nF F i).value) = 3) := by
    intro i
    unfold f50_o0
    refine ⟨fun h1 h2 => ?_,fun h1 h2 => ?_,fun h1 => ?_⟩
    · rw [Bool.and_eq_true] at h2
      rw [decide_eq_true (by omega),h2.1,h2.2]
    · rw [decide_eq_true (by omega)]
      cases h3:nameF (nF F i).name with
      | false=>exact .inr rfl
      | true =>
        cases h4:nameF (nF F i).value with
        | false=>exact .inl rfl
        | true=>exact absurd (by rw [h3,h4]; rfl) h2
    · rw [decide_eq_false (by omega)]
  rcases first_fail (p:=fun i=>(nameF (nF F i).name && nameF (nF F i).value)=true) F.length with hall | ⟨k,hk,hbad,hbef⟩
  · have M := f50_M F X call lf F.length _ _ _ _ _ _ _ _ hlf (fun i _ h => at_feat (by simpa using h)) (fun i _ h => (h81 i (by simpa using h) _).1) (fun i _ h _ => at_feat (by simpa using h)) (fun i _ h _ => (h81 i (by simpa using h) _).2) (fun i h _ => up h hl) (fun j hj => (ho j).1 hj (hall j hj))
    have hn:namesF F=true:=all_nth.2 hall
    have h3:=(ho F.length).2.2 (by omega)
    unfold validF
    rw [hn,Bool.true_and]
    by_cases h8:F.length ≤ 8
    · rw [decide_eq_true h8, Bool.and_true]
      cases ha:ascF F with
      | true=>exact ⟨_,M.2.2.1 h3 (decide_eq_true (by omega)) (by have:=h82 []; rw [ha] at this; exact this)⟩
      | false=>exact ⟨_,M.2.2.2.1 h3 (decide_eq_true (by omega)) (by have:=h82 []; rw [ha] at this; exact this)⟩
    · rw [decide_eq_false h8, Bool.and_false]
      exact ⟨_,M.2.2.2.2 h3 (decide_eq_false (by omega))⟩
  · have M := f50_M F X call lf k _ _ _ _ _ _ _ _ (by omega) (fun i _ h => at_feat (by simpa using h)) (fun i _ h => (h81 i (by simpa using h) _).1) (fun i _ h _ => at_feat (by simpa using h)) (fun i _ h _ => (h81 i (by simpa using h) _).2) (fun i h _ => up (n := F.length) (by omega) hl) (fun j hj => (ho j).1 (by omega) (hbef j hj))
    have hn : namesF F = false := by
      rw [Bool.eq_false_iff]
      intro h
      exact hbad (all_nth.1 h k hk)
    unfold validF
    rw [hn,Bool.false_and]
    rcases (ho k).2.1 hk hbad with h | h
    · exact ⟨_,M.1 h⟩
    · exact ⟨_,M.2.1 h⟩
/-- feature.Valid. -/
theorem valid45 {F:List Feat} (hl:F.length ≤ big) (hlf:F.length < lf) (h75:∀ i,i < F.length→∀ σ,callv X call true 38 [st (nF F i).name] σ 0=some (bo (nameF (nF F i).name),σ)∧callv X call true 38 [st (nF F i).value] σ 0=some (bo (nameF (nF F i).value),σ)) :
    ∃ σ',vbody Tryz.prog X call lf fg45 Tryz.f17 (codeOf Tryz.f17) [featsV F] [] 0=some (bo (validF F),σ'):=by
  have hl' : F.length ≤ 140737488355328:=hl
  let good:Nat→Bool:=fun i=>(nameF (nF F i).name && nameF (nF F i).value) && (decide (i=0) || ltS (nF F (i - 1)).name (nF F i).name)
  have ho : ∀ i, (i < F.length → good i = true → f45_o0 F i (nF F i).name (nF F (i - 1)).name (nameF (nF F i).name) (nameF (nF F i).value) = 0) ∧ (i < F.length → ¬ good i = true → f45_o0 F i (nF F i).name (nF F (i - 1)).name (nameF (nF F i).name) (nameF (nF F i).value) = 1 ∨ f45_o0 F i (nF F i).name (nF F (i - 1)).name (nameF (nF F i).name) (nameF (nF F i).value) = 2 ∨ f45_o0 F i (nF F i).name (nF F (i - 1)).name (nameF (nF F i).name) (nameF (nF F i).value) = 3) ∧ (¬ i < F.length → f45_o0 F i (nF F i).name (nF F (i - 1)).name (nameF (nF F i).name) (nameF (nF F i).value) = 4) := by
    intro i
    unfold f45_o0
    refine ⟨fun h1 h2 => ?_,fun h1 h2 => ?_,fun h1 => ?_⟩
    · simp only [good, Bool.and_eq_true, Bool.or_eq_true, decide_eq_true_eq] at h2
      rw [decide_eq_true (by omega),h2.1.1,h2.1.2]
      by_cases h0:i=0
      · rw [decide_eq_false (show ¬ (↑i:Int) > 0 by omega)]
      · rw [decide_eq_true (show (↑i : Int) > 0 by omega)]
        have:=h2.2.resolve_left h0
        unfold ltS at this
        rw [this]; rfl
    · rw [decide_eq_true (by omega)]
      cases h3:nameF (nF F i).name with
      | false=>exact .inr (.inr rfl)
      | true =>
        cases h4:nameF (nF F i).value with
        | false=>exact .inr (.inl rfl)
        | true =>
          left
          simp only [good,h3,h4,Bool.and_self,Bool.true_and,Bool.or_eq_true,decide_eq_true_eq,not_or] at h2
          rw [decide_eq_true (show (↑i:Int) > 0 by omega)]
          have:=h2.2
          unfold ltS at this
          rw [Bool.eq_false_iff.2 this]; rfl
    · rw [decide_eq_false (by omega)]
  have key : (∀ i, i < F.length → good i = true) ↔ (namesF F && ascF F) = true := by
    rw [Bool.and_eq_true,ascF_true,namesF,all_nth (d:=d0F)]
    constructor
    · intro h
      refine ⟨fun i hi => ?_,fun i hi => ?_⟩
      · have := h i hi
        simp only [good,Bool.and_eq_true] at this
        rw [Bool.and_eq_true]
        exact this.1
      · have := h (i + 1) hi
        simp only [good,Bool.and_eq_true,Bool.or_eq_true,decide_eq_true_eq,Nat.add_sub_cancel] at this
        exact this.2.resolve_left (by omega)
    · rintro ⟨h1, h2⟩ i hi
      simp only [good,Bool.and_eq_true,Bool.or_eq_true,decide_eq_true_eq]
      have:=h1 i hi
      rw [Bool.and_eq_true] at this
      refine ⟨this,?_⟩
      by_cases h0:i=0
      · exact .inl h0
      · have := h2 (i - 1) (by omega)
        rw [show i - 1 + 1=i by omega] at this
        exact .inr this
  have g3 : ∀ (n i0 : Nat), i0 ≤ n → decide ((↑i0 : Int) < (↑(List.length F) : Int)) = true → nameF (nF F i0).name = true → nameF (nF F i0).value = true → decide ((↑i0 : Int) > 0) = true → keep [] (indexAddrv Tryz.prog 29 [] (lro (List.length F) 2 (List.flatMap featC F)) (i6 (w6 ((↑i0 : Int) - 1)))) = some (AV.eaddr (st (nF F (i0 - 1)).name :: st (nF F (i0 - 1)).value :: tF F (i0 - 1)), []) := by
    intro n i0 _ h _ _ h0
    have h:=of_decide_eq_true h
    have h0:=of_decide_eq_true h0
    rw [pred (by omega) (show _ ≤ 140737488355328 by omega)]
    exact at_feat (by omega)
  rcases first_fail (p:=fun i=>good i=true) F.length with hall | ⟨k,hk,hbad,hbef⟩
  · have M := f45_M F X call lf F.length _ _ _ _ _ _ _ _ hlf (fun i _ h => at_feat (by simpa using h)) (fun i _ h => (h75 i (by simpa using h) _).1) (fun i _ h _ => (h75 i (by simpa using h) _).2) (g3 _) (fun i h _ => up h hl) (fun j hj => (ho j).1 hj (hall j hj))
    have hn:=key.1 hall
    have h3:=(ho F.length).2.2 (by omega)
    unfold validF
    rw [← Bool.and_assoc,hn,Bool.true_and]
    by_cases h8:F.length ≤ 8
    · rw [decide_eq_true h8]
      exact ⟨_,M.2.2.2.1 h3 (decide_eq_true (by omega))⟩
    · rw [decide_eq_false h8]
      exact ⟨_,M.2.2.2.2 h3 (decide_eq_false (by omega))⟩
  · have M := f45_M F X call lf k _ _ _ _ _ _ _ _ (by omega) (fun i _ h => at_feat (by simpa using h)) (fun i _ h => (h75 i (by simpa using h) _).1) (fun i _ h _ => (h75 i (by simpa using h) _).2) (g3 _) (fun i h _ => up (n := F.length) (by omega) hl) (fun j hj => (ho j).1 (by omega) (hbef j hj))
    have hn : (namesF F && ascF F) = false := by
      rw [Bool.eq_false_iff]
      intro h
      exact hbad (key.2 h k hk)
    unfold validF
    rw [← Bool.and_assoc,hn,Bool.false_and]
    rcases (ho k).2.1 hk hbad with h | h | h
    · exact ⟨_,M.1 h⟩
    · exact ⟨_,M.2.1 h⟩
    · exact ⟨_,M.2.2.1 h⟩
end
end Go.Proofs.Lex
end
/- Lexicon: closures, walked (printed) -/
section
open Go Go.Vm Go.Proofs
namespace Go.Proofs.Lex
theorem f63_pt (x0:Lexm) (s:ByteArray) (X:Ext) (call:Caller) (lf:Nat)
  (h0:(ByteArray.toList (Lexm.id x0) == ByteArray.toList s)=true):vbody Tryz.prog X call lf noFg Tryz.f27 (codeOf Tryz.f27) [AV.agg (lexC x0),AV.ref 0 0] [Ob.cells [st s]] 0=some (bo true,[Ob.cells [st s],Ob.cells [st (Lexm.id x0),st (Lexm.cat x0),st (Lexm.stem x0),st (Lexm.par x0),lro (List.length (Lexm.feats x0)) 2 (List.flatMap featC (Lexm.feats x0))]]) :=
  along_sound (ans:=[(7,Ans.b true)]) (by kernel_rfl) (ai h0 trivial)
theorem f63_pf (x0:Lexm) (s:ByteArray) (X:Ext) (call:Caller) (lf:Nat)
  (h0:(ByteArray.toList (Lexm.id x0) == ByteArray.toList s)=false):vbody Tryz.prog X call lf noFg Tryz.f27 (codeOf Tryz.f27) [AV.agg (lexC x0),AV.ref 0 0] [Ob.cells [st s]] 0=some (bo false,[Ob.cells [st s],Ob.cells [st (Lexm.id x0),st (Lexm.cat x0),st (Lexm.stem x0),st (Lexm.par x0),lro (List.length (Lexm.feats x0)) 2 (List.flatMap featC (Lexm.feats x0))]]) :=
  along_sound (ans:=[(7,Ans.b false)]) (by kernel_rfl) (ai h0 trivial)
def f63_q0 (x0:Lexm) (s:ByteArray):Nat :=
  (match (ByteArray.toList (Lexm.id x0) == ByteArray.toList s) with
  | true=>0
  | false=>1)
theorem f63_P0 (x0:Lexm) (s:ByteArray) (X:Ext) (call:Caller) (lf:Nat) :
    (f63_q0 x0 s=0→vbody Tryz.prog X call lf noFg Tryz.f27 (codeOf Tryz.f27) [AV.agg (lexC x0),AV.ref 0 0] [Ob.cells [st s]] 0=some (bo true,[Ob.cells [st s],Ob.cells [st (Lexm.id x0),st (Lexm.cat x0),st (Lexm.stem x0),st (Lexm.par x0),lro (List.length (Lexm.feats x0)) 2 (List.flatMap featC (Lexm.feats x0))]]))∧(f63_q0 x0 s=1→vbody Tryz.prog X call lf noFg Tryz.f27 (codeOf Tryz.f27) [AV.agg (lexC x0),AV.ref 0 0] [Ob.cells [st s]] 0=some (bo false,[Ob.cells [st s],Ob.cells [st (Lexm.id x0),st (Lexm.cat x0),st (Lexm.stem x0),st (Lexm.par x0),lro (List.length (Lexm.feats x0)) 2 (List.flatMap featC (Lexm.feats x0))]])):=by
  unfold f63_q0
  cases c0:(ByteArray.toList (Lexm.id x0) == ByteArray.toList s) with
  | true =>
    exact ⟨fun _=>f63_pt x0 s X call lf c0,fun h=>nq h⟩
  | false =>
    exact ⟨fun h=>nq h,fun _=>f63_pf x0 s X call lf c0⟩
theorem f41_pt (x0:Lexm) (s:ByteArray) (X:Ext) (call:Caller) (lf:Nat)
  (h0:(ByteArray.toList (Lexm.cat x0) == ByteArray.toList s)=true):vbody Tryz.prog X call lf noFg Tryz.f29 (codeOf Tryz.f29) [AV.agg (lexC x0),AV.ref 0 0] [Ob.cells [st s]] 0=some (bo true,[Ob.cells [st s],Ob.cells [st (Lexm.id x0),st (Lexm.cat x0),st (Lexm.stem x0),st (Lexm.par x0),lro (List.length (Lexm.feats x0)) 2 (List.flatMap featC (Lexm.feats x0))]]) :=
  along_sound (ans:=[(7,Ans.b true)]) (by kernel_rfl) (ai h0 trivial)
theorem f41_pf (x0:Lexm) (s:ByteArray) (X:Ext) (call:Caller) (lf:Nat)
  (h0:(ByteArray.toList (Lexm.cat x0) == ByteArray.toList s)=false):vbody Tryz.prog X call lf noFg Tryz.f29 (codeOf Tryz.f29) [AV.agg (lexC x0),AV.ref 0 0] [Ob.cells [st s]] 0=some (bo false,[Ob.cells [st s],Ob.cells [st (Lexm.id x0),st (Lexm.cat x0),st (Lexm.stem x0),st (Lexm.par x0),lro (List.length (Lexm.feats x0)) 2 (List.flatMap featC (Lexm.feats x0))]]) :=
  along_sound (ans:=[(7,Ans.b false)]) (by kernel_rfl) (ai h0 trivial)
def f41_q0 (x0:Lexm) (s:ByteArray):Nat :=
  (match (ByteArray.toList (Lexm.cat x0) == ByteArray.toList s) with
  | true=>0
  | false=>1)
theorem f41_P0 (x0:Lexm) (s:ByteArray) (X:Ext) (call:Caller) (lf:Nat) :
    (f41_q0 x0 s=0→vbody Tryz.prog X call lf noFg Tryz.f29 (codeOf Tryz.f29) [AV.agg (lexC x0),AV.ref 0 0] [Ob.cells [st s]] 0=some (bo true,[Ob.cells [st s],Ob.cells [st (Lexm.id x0),st (Lexm.cat x0),st (Lexm.stem x0),st (Lexm.par x0),lro (List.length (Lexm.feats x0)) 2 (List.flatMap featC (Lexm.feats x0))]]))∧(f41_q0 x0 s=1→vbody Tryz.prog X call lf noFg Tryz.f29 (codeOf Tryz.f29) [AV.agg (lexC x0),AV.ref 0 0] [Ob.cells [st s]] 0=some (bo false,[Ob.cells [st s],Ob.cells [st (Lexm.id x0),st (Lexm.cat x0),st (Lexm.stem x0),st (Lexm.par x0),lro (List.length (Lexm.feats x0)) 2 (List.flatMap featC (Lexm.feats x0))]])):=by
  unfold f41_q0
  cases c0:(ByteArray.toList (Lexm.cat x0) == ByteArray.toList s) with
  | true =>
    exact ⟨fun _=>f41_pt x0 s X call lf c0,fun h=>nq h⟩
  | false =>
    exact ⟨fun h=>nq h,fun _=>f41_pf x0 s X call lf c0⟩
def fg64:Nat→List Nat
  | 5003=>[1]
  | _=>[]
theorem f77_pt (s:ByteArray) (X:Ext) (call:Caller) (lf:Nat)
  (h0:(ByteArray.toList s == ByteArray.toList (ByteArray.mk #[]))=true):vbody Tryz.prog X call lf noFg Tryz.f52 (codeOf Tryz.f52) [st s] [] 0=some (bo true,[]) :=
  along_sound (ans:=[(4,Ans.b true)]) (by kernel_rfl) (ai h0 trivial)
theorem f77_pf (s:ByteArray) (X:Ext) (call:Caller) (lf:Nat)
  (h0:(ByteArray.toList s == ByteArray.toList (ByteArray.mk #[]))=false):vbody Tryz.prog X call lf noFg Tryz.f52 (codeOf Tryz.f52) [st s] [] 0=some (bo false,[]) :=
  along_sound (ans:=[(4,Ans.b false)]) (by kernel_rfl) (ai h0 trivial)
def f77_q0 (s:ByteArray):Nat :=
  (match (ByteArray.toList s == ByteArray.toList (ByteArray.mk #[])) with
  | true=>0
  | false=>1)
theorem f77_P0 (s:ByteArray) (X:Ext) (call:Caller) (lf:Nat) :
    (f77_q0 s=0→vbody Tryz.prog X call lf noFg Tryz.f52 (codeOf Tryz.f52) [st s] [] 0=some (bo true,[]))∧(f77_q0 s=1→vbody Tryz.prog X call lf noFg Tryz.f52 (codeOf Tryz.f52) [st s] [] 0=some (bo false,[])):=by
  unfold f77_q0
  cases c0:(ByteArray.toList s == ByteArray.toList (ByteArray.mk #[])) with
  | true =>
    exact ⟨fun _=>f77_pt s X call lf c0,fun h=>nq h⟩
  | false =>
    exact ⟨fun h=>nq h,fun _=>f77_pf s X call lf c0⟩
def f62_F0 (L:List Lexm) (g:Nat) (c:AV) (i0:Nat):St :=
  stOf 19 [4,5,9,10,11,12,13,14,15,16,17,18] [(0,lro (List.length L) 5 (List.flatMap lexC L)),(1,AV.clo g [AV.ref 0 0]),(6,lro (List.length L) 5 (List.flatMap lexC L)),(7,i6 (↑(List.length L):Int)),(8,i6 (↑i0:Int))] [Ob.cells [c]]
def f62_S0 (L:List Lexm) (g:Nat) (c:AV):St :=
  stOf 19 [] [(0,lro (List.length L) 5 (List.flatMap lexC L)),(1,AV.clo g [AV.ref 0 0]),(4,i6 0),(6,lro (List.length L) 5 (List.flatMap lexC L)),(7,i6 (↑(List.length L):Int)),(8,i6 0)] [Ob.cells [c]]
abbrev f62_D0:List Nat:=[18,4,17,16,15,14,13,12,11,5,10,9]
theorem f62_L0 (L:List Lexm) (g:Nat) (c:AV) (X:Ext) (call:Caller) (lf:Nat) (n:Nat) (x:Ex) (S' : St)
  (hn:n < lf)
  (hs:∀ j,j < n→∃ S1,vexec Tryz.prog X call lf 0 noFg (loopN Tryz.f26 0) (f62_F0 L g c j)=some (Ex.normal,S1)∧forget f62_D0 S1=(f62_F0 L g c (j + 1)))
  (he:vexec Tryz.prog X call lf 0 noFg (loopN Tryz.f26 0) (f62_F0 L g c n)=some (x,S'))
  (hx:x ≠ Ex.normal):vexec Tryz.prog X call lf 0 noFg (Go.Code.loop (loopN Tryz.f26 0)) (f62_S0 L g c)=some (x,S') :=
  loop_runK (by kernel_rfl) (fun j=>(f62_F0 L g c j)) n hn (by show forget f62_D0 (f62_S0 L g c)=(f62_F0 L g c 0); unfold f62_F0; show _=_; kernel_rfl) hs he hx
def f62_S1 (L:List Lexm) (g:Nat) (c:AV) (i0:Nat) (x14_0_0:ByteArray) (x14_0_1:ByteArray) (x14_0_2:ByteArray) (x14_0_3:ByteArray) (m14_0_4:Nat) (c14_0_4:List AV) (r14:List AV):St :=
  stOf 19 [18] [(0,lro (List.length L) 5 (List.flatMap lexC L)),(1,AV.clo g [AV.ref 0 0]),(4,i6 (↑i0:Int)),(5,i6 (↑i0:Int)),(6,lro (List.length L) 5 (List.flatMap lexC L)),(7,i6 (↑(List.length L):Int)),(8,i6 (↑i0:Int)),(9,bo true),(10,i6 (↑i0:Int)),(11,AV.clo g [AV.ref 0 0]),(12,lro (List.length L) 5 (List.flatMap lexC L)),(13,i6 (↑i0:Int)),(14,AV.eaddr (st x14_0_0::st x14_0_1::st x14_0_2::st x14_0_3::lro m14_0_4 2 c14_0_4::r14)),(15,AV.agg [st x14_0_0,st x14_0_1,st x14_0_2,st x14_0_3,lro m14_0_4 2 c14_0_4]),(16,bo true),(17,i6 (↑i0:Int))] [Ob.cells [c]]
theorem f62_r0_tt (L:List Lexm) (g:Nat) (c:AV) (X:Ext) (call:Caller) (lf:Nat) (i0:Nat) (x14_0_0:ByteArray) (x14_0_1:ByteArray) (x14_0_2:ByteArray) (x14_0_3:ByteArray) (m14_0_4:Nat) (c14_0_4:List AV) (r14:List AV)
  (h0:decide ((↑i0:Int) < (↑(List.length L):Int))=true)
  (h1:keep [Ob.cells [c]] (indexAddrv Tryz.prog 23 [Ob.cells [c]] (lro (List.length L) 5 (List.flatMap lexC L)) (i6 (↑i0:Int)))=some (AV.eaddr (st x14_0_0::st x14_0_1::st x14_0_2::st x14_0_3::lro m14_0_4 2 c14_0_4::r14),[Ob.cells [c]]))
  (h2:callv X call false g [AV.agg [st x14_0_0,st x14_0_1,st x14_0_2,st x14_0_3,lro m14_0_4 2 c14_0_4],AV.ref 0 0] [Ob.cells [c]] 0=some (bo true,[Ob.cells [c]])):vexec Tryz.prog X call lf 0 noFg (loopN Tryz.f26 0) (f62_F0 L g c i0)=some (Ex.ret,(f62_S1 L g c i0 x14_0_0 x14_0_1 x14_0_2 x14_0_3 m14_0_4 c14_0_4 r14)) :=
  around_sound (ans:=[(1,Ans.b true),(10,Ans.v (AV.eaddr (st x14_0_0::st x14_0_1::st x14_0_2::st x14_0_3::lro m14_0_4 2 c14_0_4::r14))),(12,Ans.v (bo true))]) (by kernel_rfl) (ai h0 (ai h1 (ai h2 trivial)))
theorem f62_pltt (L:List Lexm) (g:Nat) (c:AV) (X:Ext) (call:Caller) (lf:Nat) (i0:Nat) (x14_0_0:ByteArray) (x14_0_1:ByteArray) (x14_0_2:ByteArray) (x14_0_3:ByteArray) (m14_0_4:Nat) (c14_0_4:List AV) (r14:List AV)
  (h0:vexec Tryz.prog X call lf 0 noFg (Code.loop (loopN Tryz.f26 0)) (f62_S0 L g c)=some (Ex.ret,(f62_S1 L g c i0 x14_0_0 x14_0_1 x14_0_2 x14_0_3 m14_0_4 c14_0_4 r14))):vbody Tryz.prog X call lf noFg Tryz.f26 (codeOf Tryz.f26) [lexsV L,AV.clo g [AV.ref 0 0]] [Ob.cells [c]] 0=some (i6 (↑i0:Int),[Ob.cells [c]]) :=
  along_sound (ans:=[(6,Ans.l Ex.ret (f62_S1 L g c i0 x14_0_0 x14_0_1 x14_0_2 x14_0_3 m14_0_4 c14_0_4 r14))]) (by kernel_rfl) (ai h0 trivial)
theorem f62_s0_tf (L:List Lexm) (g:Nat) (c:AV) (X:Ext) (call:Caller) (lf:Nat) (i0:Nat) (x14_0_0:ByteArray) (x14_0_1:ByteArray) (x14_0_2:ByteArray) (x14_0_3:ByteArray) (m14_0_4:Nat) (c14_0_4:List AV) (r14:List AV)
  (h0:decide ((↑i0:Int) < (↑(List.length L):Int))=true)
  (h1:keep [Ob.cells [c]] (indexAddrv Tryz.prog 23 [Ob.cells [c]] (lro (List.length L) 5 (List.flatMap lexC L)) (i6 (↑i0:Int)))=some (AV.eaddr (st x14_0_0::st x14_0_1::st x14_0_2::st x14_0_3::lro m14_0_4 2 c14_0_4::r14),[Ob.cells [c]]))
  (h2:callv X call false g [AV.agg [st x14_0_0,st x14_0_1,st x14_0_2,st x14_0_3,lro m14_0_4 2 c14_0_4],AV.ref 0 0] [Ob.cells [c]] 0=some (bo false,[Ob.cells [c]]))
  (e0:(↑(i0 + 1):Int)=w6 ((↑i0:Int) + 1)):∃ S1,vexec Tryz.prog X call lf 0 noFg (loopN Tryz.f26 0) (f62_F0 L g c i0)=some (Ex.normal,S1)∧forget f62_D0 S1=(f62_F0 L g c (i0 + 1)) :=
  ⟨stOf 19 [4,17] [(0,lro (List.length L) 5 (List.flatMap lexC L)),(1,AV.clo g [AV.ref 0 0]),(5,i6 (↑i0:Int)),(6,lro (List.length L) 5 (List.flatMap lexC L)),(7,i6 (↑(List.length L):Int)),(8,i6 (w6 ((↑i0:Int) + 1))),(9,bo true),(10,i6 (↑i0:Int)),(11,AV.clo g [AV.ref 0 0]),(12,lro (List.length L) 5 (List.flatMap lexC L)),(13,i6 (↑i0:Int)),(14,AV.eaddr (st x14_0_0::st x14_0_1::st x14_0_2::st x14_0_3::lro m14_0_4 2 c14_0_4::r14)),(15,AV.agg [st x14_0_0,st x14_0_1,st x14_0_2,st x14_0_3,lro m14_0_4 2 c14_0_4]),(16,bo false),(18,i6 (w6 ((↑i0:Int) + 1)))] [Ob.cells [c]],around_sound (ans:=[(1,Ans.b true),(10,Ans.v (AV.eaddr (st x14_0_0::st x14_0_1::st x14_0_2::st x14_0_3::lro m14_0_4 2 c14_0_4::r14))),(12,Ans.v (bo false))]) (by kernel_rfl) (ai h0 (ai h1 (ai h2 trivial))),by unfold f62_F0; rw [e0]; show _=_; kernel_rfl⟩
def f62_S2 (L:List Lexm) (g:Nat) (c:AV) (i0:Nat):St :=
  stOf 19 [4,5,10,11,12,13,14,15,16,17,18] [(0,lro (List.length L) 5 (List.flatMap lexC L)),(1,AV.clo g [AV.ref 0 0]),(6,lro (List.length L) 5 (List.flatMap lexC L)),(7,i6 (↑(List.length L):Int)),(8,i6 (↑i0:Int)),(9,bo false)] [Ob.cells [c]]
theorem f62_r0_f (L:List Lexm) (g:Nat) (c:AV) (X:Ext) (call:Caller) (lf:Nat) (i0:Nat)
  (h0:decide ((↑i0:Int) < (↑(List.length L):Int))=false):vexec Tryz.prog X call lf 0 noFg (loopN Tryz.f26 0) (f62_F0 L g c i0)=some (Ex.exit 0,(f62_S2 L g c i0)) :=
  around_sound (ans:=[(1,Ans.b false)]) (by kernel_rfl) (ai h0 trivial)
theorem f62_plf (L:List Lexm) (g:Nat) (c:AV) (X:Ext) (call:Caller) (lf:Nat) (i0:Nat)
  (h0:vexec Tryz.prog X call lf 0 noFg (Code.loop (loopN Tryz.f26 0)) (f62_S0 L g c)=some (Ex.exit 0,(f62_S2 L g c i0))):vbody Tryz.prog X call lf noFg Tryz.f26 (codeOf Tryz.f26) [lexsV L,AV.clo g [AV.ref 0 0]] [Ob.cells [c]] 0=some (i6 (-1),[Ob.cells [c]]) :=
  along_sound (ans:=[(6,Ans.l (Ex.exit 0) (f62_S2 L g c i0))]) (by kernel_rfl) (ai h0 trivial)
def f62_o0 (L:List Lexm) (i0:Nat) (b0:Bool):Nat :=
  (match decide ((↑i0:Int) < (↑(List.length L):Int)) with
  | true => (match b0 with
    | true=>1
    | false=>0)
  | false=>2)
theorem f62_B0 (L:List Lexm) (g:Nat) (c:AV) (X:Ext) (call:Caller) (lf:Nat) (i0:Nat) (x14_0_0:ByteArray) (x14_0_1:ByteArray) (x14_0_2:ByteArray) (x14_0_3:ByteArray) (m14_0_4:Nat) (c14_0_4:List AV) (r14:List AV) (b0:Bool)
  (g0:decide ((↑i0:Int) < (↑(List.length L):Int))=true→keep [Ob.cells [c]] (indexAddrv Tryz.prog 23 [Ob.cells [c]] (lro (List.length L) 5 (List.flatMap lexC L)) (i6 (↑i0:Int)))=some (AV.eaddr (st x14_0_0::st x14_0_1::st x14_0_2::st x14_0_3::lro m14_0_4 2 c14_0_4::r14),[Ob.cells [c]]))
  (g1:decide ((↑i0:Int) < (↑(List.length L):Int))=true→callv X call false g [AV.agg [st x14_0_0,st x14_0_1,st x14_0_2,st x14_0_3,lro m14_0_4 2 c14_0_4],AV.ref 0 0] [Ob.cells [c]] 0=some (bo b0,[Ob.cells [c]]))
  (e0 : decide ((↑i0 : Int) < (↑(List.length L) : Int)) = true → (↑(i0 + 1) : Int) = w6 ((↑i0 : Int) + 1)) :
    (f62_o0 L i0 b0=0→∃ S1,vexec Tryz.prog X call lf 0 noFg (loopN Tryz.f26 0) (f62_F0 L g c i0)=some (Ex.normal,S1)∧forget f62_D0 S1=(f62_F0 L g c (i0 + 1)))∧(f62_o0 L i0 b0=1→vexec Tryz.prog X call lf 0 noFg (loopN Tryz.f26 0) (f62_F0 L g c i0)=some (Ex.ret,(f62_S1 L g c i0 x14_0_0 x14_0_1 x14_0_2 x14_0_3 m14_0_4 c14_0_4 r14)))∧(f62_o0 L i0 b0=2→vexec Tryz.prog X call lf 0 noFg (loopN Tryz.f26 0) (f62_F0 L g c i0)=some (Ex.exit 0,(f62_S2 L g c i0))):=by
  unfold f62_o0
  cases c0:decide ((↑i0:Int) < (↑(List.length L):Int)) with
  | true =>
    cases c1:b0 with
    | true =>
      exact ⟨fun h=>nq h,fun _=>f62_r0_tt L g c X call lf i0 x14_0_0 x14_0_1 x14_0_2 x14_0_3 m14_0_4 c14_0_4 r14 c0 (g0 c0) (by have:=(g1 c0); rw [c1] at this; exact this),fun h=>nq h⟩
    | false =>
      exact ⟨fun _=>f62_s0_tf L g c X call lf i0 x14_0_0 x14_0_1 x14_0_2 x14_0_3 m14_0_4 c14_0_4 r14 c0 (g0 c0) (by have:=(g1 c0); rw [c1] at this; exact this) (e0 c0),fun h=>nq h,fun h=>nq h⟩
  | false =>
    exact ⟨fun h=>nq h,fun h=>nq h,fun _=>f62_r0_f L g c X call lf i0 c0⟩
theorem f62_X0 (L:List Lexm) (g:Nat) (c:AV) (X:Ext) (call:Caller) (lf:Nat) (i0:Nat) (x14_0_0:ByteArray) (x14_0_1:ByteArray) (x14_0_2:ByteArray) (x14_0_3:ByteArray) (m14_0_4:Nat) (c14_0_4:List AV) (r14:List AV) (b0:Bool)
  (g0:decide ((↑i0:Int) < (↑(List.length L):Int))=true→keep [Ob.cells [c]] (indexAddrv Tryz.prog 23 [Ob.cells [c]] (lro (List.length L) 5 (List.flatMap lexC L)) (i6 (↑i0:Int)))=some (AV.eaddr (st x14_0_0::st x14_0_1::st x14_0_2::st x14_0_3::lro m14_0_4 2 c14_0_4::r14),[Ob.cells [c]]))
  (g1 : decide ((↑i0 : Int) < (↑(List.length L) : Int)) = true → callv X call false g [AV.agg [st x14_0_0, st x14_0_1, st x14_0_2, st x14_0_3, lro m14_0_4 2 c14_0_4], AV.ref 0 0] [Ob.cells [c]] 0 = some (bo b0, [Ob.cells [c]])) :
    (f62_o0 L i0 b0=1→vexec Tryz.prog X call lf 0 noFg (loopN Tryz.f26 0) (f62_F0 L g c i0)=some (Ex.ret,(f62_S1 L g c i0 x14_0_0 x14_0_1 x14_0_2 x14_0_3 m14_0_4 c14_0_4 r14)))∧(f62_o0 L i0 b0=2→vexec Tryz.prog X call lf 0 noFg (loopN Tryz.f26 0) (f62_F0 L g c i0)=some (Ex.exit 0,(f62_S2 L g c i0))):=by
  unfold f62_o0
  cases c0:decide ((↑i0:Int) < (↑(List.length L):Int)) with
  | true =>
    cases c1:b0 with
    | true =>
      exact ⟨fun _=>f62_r0_tt L g c X call lf i0 x14_0_0 x14_0_1 x14_0_2 x14_0_3 m14_0_4 c14_0_4 r14 c0 (g0 c0) (by have:=(g1 c0); rw [c1] at this; exact this),fun h=>nq h⟩
    | false =>
      exact ⟨fun h=>nq h,fun h=>nq h⟩
  | false =>
    exact ⟨fun h=>nq h,fun _=>f62_r0_f L g c X call lf i0 c0⟩
theorem f62_M (L:List Lexm) (g:Nat) (c:AV) (X:Ext) (call:Caller) (lf:Nat) (n:Nat) (x14_0_0:Nat→ByteArray) (x14_0_1:Nat→ByteArray) (x14_0_2:Nat→ByteArray) (x14_0_3:Nat→ByteArray) (m14_0_4:Nat→Nat) (c14_0_4:Nat→List AV) (r14:Nat→List AV) (b0:Nat→Bool)
  (hn:n < lf)
  (g0:∀ i0,i0 ≤ n→decide ((↑i0:Int) < (↑(List.length L):Int))=true→keep [Ob.cells [c]] (indexAddrv Tryz.prog 23 [Ob.cells [c]] (lro (List.length L) 5 (List.flatMap lexC L)) (i6 (↑i0:Int)))=some (AV.eaddr (st (x14_0_0 i0)::st (x14_0_1 i0)::st (x14_0_2 i0)::st (x14_0_3 i0)::lro (m14_0_4 i0) 2 (c14_0_4 i0)::(r14 i0)),[Ob.cells [c]]))
  (g1:∀ i0,i0 ≤ n→decide ((↑i0:Int) < (↑(List.length L):Int))=true→callv X call false g [AV.agg [st (x14_0_0 i0),st (x14_0_1 i0),st (x14_0_2 i0),st (x14_0_3 i0),lro (m14_0_4 i0) 2 (c14_0_4 i0)],AV.ref 0 0] [Ob.cells [c]] 0=some (bo (b0 i0),[Ob.cells [c]]))
  (e0:∀ i0,i0 < n→decide ((↑i0:Int) < (↑(List.length L):Int))=true→(↑(i0 + 1):Int)=w6 ((↑i0:Int) + 1))
  (hz : ∀ j, j < n → f62_o0 L j (b0 j) = 0) :
    (f62_o0 L n (b0 n)=1→vbody Tryz.prog X call lf noFg Tryz.f26 (codeOf Tryz.f26) [lexsV L,AV.clo g [AV.ref 0 0]] [Ob.cells [c]] 0=some (i6 (↑n:Int),[Ob.cells [c]]))∧(f62_o0 L n (b0 n)=2→vbody Tryz.prog X call lf noFg Tryz.f26 (codeOf Tryz.f26) [lexsV L,AV.clo g [AV.ref 0 0]] [Ob.cells [c]] 0=some (i6 (-1),[Ob.cells [c]])):=by
  have key:∀ j,j < n→_:=fun j hj=>(f62_B0 L g c X call lf j (x14_0_0 j) (x14_0_1 j) (x14_0_2 j) (x14_0_3 j) (m14_0_4 j) (c14_0_4 j) (r14 j) (b0 j) (g0 j (Nat.le_of_lt hj)) (g1 j (Nat.le_of_lt hj)) (e0 j hj)).1 (hz j hj)
  have kn:=f62_X0 L g c X call lf n (x14_0_0 n) (x14_0_1 n) (x14_0_2 n) (x14_0_3 n) (m14_0_4 n) (c14_0_4 n) (r14 n) (b0 n) (g0 n (Nat.le_refl n)) (g1 n (Nat.le_refl n))
  exact ⟨fun hk => f62_pltt L g c X call lf n (x14_0_0 n) (x14_0_1 n) (x14_0_2 n) (x14_0_3 n) (m14_0_4 n) (c14_0_4 n) (r14 n) (f62_L0 L g c X call lf n _ _ hn key (kn.1 hk) (by simp)),
    fun hk=>f62_plf L g c X call lf n (f62_L0 L g c X call lf n _ _ hn key (kn.2 hk) (by simp))⟩
end Go.Proofs.Lex
end
/- Lexicon: looking for a lexeme; small functions. -/
section
open Go Go.Vm Go.Proofs
namespace Go.Proofs.Lex
mutual
theorem thaw_id {σ:List Ob}:∀ (v:AV),AV.owns v=[]→AV.thaw σ v=some v:=by
  intro v h
  match v with
  | .own id n=>simp [AV.owns] at h
  | .list k n sz cs =>
    simp only [AV.owns] at h
    simp only [AV.thaw,thawAll_id cs h]
  | .agg cs =>
    simp only [AV.owns] at h
    simp only [AV.thaw,thawAll_id cs h]
  | .tup cs =>
    simp only [AV.owns] at h
    simp only [AV.thaw,thawAll_id cs h]
  | .int _ _ | .bool _ | .str _ | .pnil | .mnil | .fnil | .inil | .undef | .any | .raw _ | .ptag _ | .ref _ _ | .eref _ _ _ | .map _ | .eaddr _ | .clo _ _ | .iface _ _=>rfl
theorem thawAll_id {σ:List Ob}:∀ (vs:List AV),AV.ownsAll vs=[]→AV.thawAll σ vs=some vs:=by
  intro vs h
  match vs with
  | []=>rfl
  | v :: vs =>
    simp only [AV.ownsAll,List.append_eq_nil_iff] at h
    simp only [AV.thawAll,thaw_id v h.1,thawAll_id vs h.2]
end
/-- Results without a row of the call's own. -/
theorem vend1_plain {σ:List Ob} {rs:List AV} (h:AV.ownsAll rs=[]):vend1 [] 0 σ rs=some (unfr (oneOf rs),σ):=by
  unfold vend1
  rw [thawAll_id rs h,h]
  simp only [freezeIds,Option.some.injEq,Prod.mk.injEq,and_true]
  unfold resOf
  split
  · simp [AV.ownsAll,AV.owns] at h
  · rfl
section
variable [Fixed]
theorem owns_feats (F:List Feat):AV.ownsAll (F.flatMap featC)=[]:=Cod.flat_owns (A:=cF) F
theorem owns_lexs (L:List Lexm):AV.ownsAll (L.flatMap lexC)=[]:=Cod.flat_owns (A:=cL) L
theorem owns_lex (x:Lexm):AV.ownsAll (lexC x)=[]:=cL.owns x
end
/-- The place of the first that fits, or -1. -/
def idxP (p:Lexm→Bool) (L:List Lexm):Int:=match L.findIdx? p with
  | some i=>i
  | none => -1
theorem idxP_none {p:Lexm→Bool} {L:List Lexm} (h:∀ i,i < L.length → ¬ p (nL L i)=true):idxP p L = -1:=by
  unfold idxP
  rw [List.findIdx?_eq_none_iff.2 fun x hx => by
    obtain ⟨i,hi,rfl⟩:=List.getElem_of_mem hx
    have:=h i hi
    rw [nL,getD_lt hi] at this
    simpa using this]
theorem idxP_some {p:Lexm→Bool} {L:List Lexm} {k:Nat} (hk:k < L.length) (hp:p (nL L k)=true) (h:∀ i,i < k → ¬ p (nL L i)=true):idxP p L=(k:Int):=by
  unfold idxP
  rw [List.findIdx?_eq_some_iff_getElem.2 ⟨hk, by rw [nL, getD_lt hk] at hp; exact hp, fun j hj => by
    have:=h j hj
    rw [nL,getD_lt (show j < L.length by omega)] at this
    exact this⟩]
theorem idxP_cases (p:Lexm→Bool) (L:List Lexm):(idxP p L = -1∧∀ i,i < L.length → ¬ p (nL L i)=true) ∨ ∃ k,k < L.length∧idxP p L=(k:Int)∧p (nL L k)=true∧∀ i,i < k → ¬ p (nL L i)=true:=by
  rcases first_fail (p:=fun i => ¬ p (nL L i)=true) L.length with hall | ⟨k,hk,hbad,hbef⟩
  · exact .inl ⟨idxP_none hall,hall⟩
  · have hp : p (nL L k) = true := by simpa using hbad
    exact .inr ⟨k,hk,idxP_some hk hp hbef,hp,hbef⟩
section
variable {X:Ext} {call:Caller} {lf:Nat}
/-- slices.IndexFunc over lexemes. -/
theorem index62 {L:List Lexm} {g:Nat} {c:AV} {p:Lexm→Bool} (hl:L.length ≤ big) (hlf:L.length < lf) (hg:∀ i,i < L.length→callv X call false g [.agg (lexC (nL L i)),.ref 0 0] [Ob.cells [c]] 0=some (bo (p (nL L i)),[Ob.cells [c]])) :
    vbody Tryz.prog X call lf noFg Tryz.f26 (codeOf Tryz.f26) [lexsV L,.clo g [.ref 0 0]] [Ob.cells [c]] 0=some (i6 (idxP p L),[Ob.cells [c]]):=by
  have ho : ∀ i, (i < L.length → ¬ p (nL L i) = true → f62_o0 L i (p (nL L i)) = 0) ∧ (i < L.length → p (nL L i) = true → f62_o0 L i (p (nL L i)) = 1) ∧ (¬ i < L.length → f62_o0 L i (p (nL L i)) = 2) := by
    intro i
    unfold f62_o0
    refine ⟨fun h1 h2 => ?_,fun h1 h2 => ?_,fun h1 => ?_⟩
    · rw [decide_eq_true (by omega),Bool.eq_false_iff.2 h2]
    · rw [decide_eq_true (by omega),h2]
    · rw [decide_eq_false (by omega)]
  rcases idxP_cases p L with ⟨e,hall⟩ | ⟨k,hk,e,hp,hbef⟩
  · have M := f62_M L g c X call lf L.length _ _ _ _ _ _ _ _ hlf (fun i _ h => at_lex (by simpa using h)) (fun i _ h => hg i (by simpa using h)) (fun i h _ => up h hl) (fun j hj => (ho j).1 hj (hall j hj))
    rw [e]
    exact M.2 ((ho _).2.2 (by omega))
  · have M := f62_M L g c X call lf k _ _ _ _ _ _ _ _ (by omega) (fun i _ h => at_lex (by simpa using h)) (fun i _ h => hg i (by simpa using h)) (fun i h _ => up (n := L.length) (by omega) hl) (fun j hj => (ho j).1 (by omega) (hbef j hj))
    rw [e]
    exact M.1 ((ho k).2.1 hk hp)
/-- ref09.Index. -/
theorem index29 {L:List Lexm} {s:ByteArray} (hl:L.length ≤ big) (hlf:L.length < lf):∃ σ',vbody Tryz.prog X call lf noFg Tryz.f20 (codeOf Tryz.f20) [lexsV L,st s] [] 0=some (i6 (idxP (fun x=>decide (x.id=s)) L),σ'):=by
  have ho : ∀ i, (i < L.length → ¬ decide ((nL L i).id = s) = true → f29_o0 L s i (nL L i).id = 0) ∧ (i < L.length → decide ((nL L i).id = s) = true → f29_o0 L s i (nL L i).id = 1) ∧ (¬ i < L.length → f29_o0 L s i (nL L i).id = 2) := by
    intro i
    unfold f29_o0
    refine ⟨fun h1 h2 => ?_,fun h1 h2 => ?_,fun h1 => ?_⟩
    · rw [decide_eq_true (by omega),eqB_ne.2 (by simpa using h2)]
    · rw [decide_eq_true (by omega),eqB_iff.2 (of_decide_eq_true h2)]
    · rw [decide_eq_false (by omega)]
  rcases idxP_cases (fun x=>decide (x.id=s)) L with ⟨e,hall⟩ | ⟨k,hk,e,hp,hbef⟩
  · have M := f29_M L s X call lf L.length _ _ _ _ _ _ _ hlf (fun i _ h => at_lex (by simpa using h)) (fun i h _ => up h hl) (fun j hj => (ho j).1 hj (hall j hj))
    rw [e]
    exact ⟨_,M.2 ((ho _).2.2 (by omega))⟩
  · have M := f29_M L s X call lf k _ _ _ _ _ _ _ (by omega) (fun i _ h => at_lex (by simpa using h)) (fun i h _ => up (n := L.length) (by omega) hl) (fun j hj => (ho j).1 (by omega) (hbef j hj))
    rw [e]
    exact ⟨_,M.1 ((ho k).2.1 hk hp)⟩
end
end Go.Proofs.Lex
end
/- Lexicon: rows that grow, walked (printed) -/
section
open Go Go.Vm Go.Proofs
namespace Go.Proofs.Lex
def fg40:Nat→List Nat
  | 5004=>[1]
  | _=>[]
def f40_F0 (L0:List Lexm) (G1:Nat) (S0:Nat→List Ob) (o5:Nat→AV) (i0:Nat):St :=
  stOf 24 [7,11,12,13,14,15,16,17,18,19,20,21,22] [(0,lro (List.length L0) 5 (List.flatMap lexC L0)),(1,AV.clo G1 [AV.ref 0 0]),(4,AV.list LK.nil 0 0 []),(5,o5 i0),(8,lro (List.length L0) 5 (List.flatMap lexC L0)),(9,i6 (↑(List.length L0):Int)),(10,i6 (↑i0:Int))] (S0 i0)
def f40_S0 (L0:List Lexm) (G1:Nat) (C1:List AV):St :=
  stOf 24 [] [(0,lro (List.length L0) 5 (List.flatMap lexC L0)),(1,AV.clo G1 [AV.ref 0 0]),(4,AV.list LK.nil 0 0 []),(5,AV.list LK.nil 0 0 []),(8,lro (List.length L0) 5 (List.flatMap lexC L0)),(9,i6 (↑(List.length L0):Int)),(10,i6 0)] [Ob.cells C1]
abbrev f40_D0:List Nat:=[22,21,20,19,18,17,16,15,14,7,13,12,11]
theorem f40_L0 (L0:List Lexm) (G1:Nat) (C1:List AV) (S0:Nat→List Ob) (o5:Nat→AV) (X:Ext) (call:Caller) (lf:Nat) (n:Nat) (x:Ex) (S' : St)
  (e0:o5 0=AV.list LK.nil 0 0 [])
  (e1:S0 0=[Ob.cells C1])
  (hn:n < lf)
  (hs:∀ j,j < n→∃ S1,vexec Tryz.prog X call lf 0 fg40 (loopN Tryz.f28 0) (f40_F0 L0 G1 S0 o5 j)=some (Ex.normal,S1)∧forget f40_D0 S1=(f40_F0 L0 G1 S0 o5 (j + 1)))
  (he:vexec Tryz.prog X call lf 0 fg40 (loopN Tryz.f28 0) (f40_F0 L0 G1 S0 o5 n)=some (x,S'))
  (hx:x ≠ Ex.normal):vexec Tryz.prog X call lf 0 fg40 (Go.Code.loop (loopN Tryz.f28 0)) (f40_S0 L0 G1 C1)=some (x,S') :=
  loop_runK (by kernel_rfl) (fun j=>(f40_F0 L0 G1 S0 o5 j)) n hn (by show forget f40_D0 (f40_S0 L0 G1 C1)=(f40_F0 L0 G1 S0 o5 0); unfold f40_F0; rw [e0,e1]; show _=_; kernel_rfl) hs he hx
theorem f40_s0_tt (L0:List Lexm) (G1:Nat) (X:Ext) (call:Caller) (lf:Nat) (S0:Nat→List Ob) (o5:Nat→AV) (i0:Nat) (x12_0_0:ByteArray) (x12_0_1:ByteArray) (x12_0_2:ByteArray) (x12_0_3:ByteArray) (m12_0_4:Nat) (c12_0_4:List AV) (r12:List AV) (x19_0:ByteArray) (x19_1:ByteArray) (x19_2:ByteArray) (x19_3:ByteArray) (m19_4:Nat) (c19_4:List AV) (m20:Nat) (c20:List AV) (k20:LK) (v21:AV) (s21:List Ob)
  (h0:decide ((↑i0:Int) < (↑(List.length L0):Int))=true)
  (h1:keep (S0 i0) (indexAddrv Tryz.prog 23 (S0 i0) (lro (List.length L0) 5 (List.flatMap lexC L0)) (i6 (↑i0:Int)))=some (AV.eaddr (st x12_0_0::st x12_0_1::st x12_0_2::st x12_0_3::lro m12_0_4 2 c12_0_4::r12),S0 i0))
  (h2:callv X call false G1 [AV.agg [st x12_0_0,st x12_0_1,st x12_0_2,st x12_0_3,lro m12_0_4 2 c12_0_4],AV.ref 0 0] (S0 i0) 0=some (bo true,S0 i0))
  (h3:callv X call false 49 [AV.agg [st x12_0_0,st x12_0_1,st x12_0_2,st x12_0_3,lro m12_0_4 2 c12_0_4]] (S0 i0) 0=some (AV.agg [st x19_0,st x19_1,st x19_2,st x19_3,lro m19_4 2 c19_4],S0 i0))
  (h4:bsl Tryz.prog 23 1 (S0 i0) false 0 [(0,AV.agg [st x19_0,st x19_1,st x19_2,st x19_3,lro m19_4 2 c19_4])]=some (AV.list k20 m20 5 c20,S0 i0))
  (h5:appendv Tryz.prog 23 (S0 i0) 0 (o5 i0) (AV.list k20 m20 5 c20)=some (v21,s21))
  (e0:o5 (i0 + 1)=v21)
  (e1:(↑(i0 + 1):Int)=w6 ((↑i0:Int) + 1))
  (e2:S0 (i0 + 1)=s21):∃ S1,vexec Tryz.prog X call lf 0 fg40 (loopN Tryz.f28 0) (f40_F0 L0 G1 S0 o5 i0)=some (Ex.normal,S1)∧forget f40_D0 S1=(f40_F0 L0 G1 S0 o5 (i0 + 1)) :=
  ⟨stOf 24 [] [(0,lro (List.length L0) 5 (List.flatMap lexC L0)),(1,AV.clo G1 [AV.ref 0 0]),(4,AV.list LK.nil 0 0 []),(5,v21),(7,AV.eaddr [st x12_0_0,st x12_0_1,st x12_0_2,st x12_0_3,lro m12_0_4 2 c12_0_4]),(8,lro (List.length L0) 5 (List.flatMap lexC L0)),(9,i6 (↑(List.length L0):Int)),(10,i6 (w6 ((↑i0:Int) + 1))),(11,bo true),(12,AV.eaddr (st x12_0_0::st x12_0_1::st x12_0_2::st x12_0_3::lro m12_0_4 2 c12_0_4::r12)),(13,AV.agg [st x12_0_0,st x12_0_1,st x12_0_2,st x12_0_3,lro m12_0_4 2 c12_0_4]),(14,AV.clo G1 [AV.ref 0 0]),(15,AV.agg [st x12_0_0,st x12_0_1,st x12_0_2,st x12_0_3,lro m12_0_4 2 c12_0_4]),(16,bo true),(17,o5 i0),(18,AV.agg [st x12_0_0,st x12_0_1,st x12_0_2,st x12_0_3,lro m12_0_4 2 c12_0_4]),(19,AV.agg [st x19_0,st x19_1,st x19_2,st x19_3,lro m19_4 2 c19_4]),(20,AV.list k20 m20 5 c20),(21,v21),(22,i6 (w6 ((↑i0:Int) + 1)))] s21,around_sound (ans:=[(1,Ans.b true),(4,Ans.v (AV.eaddr (st x12_0_0::st x12_0_1::st x12_0_2::st x12_0_3::lro m12_0_4 2 c12_0_4::r12))),(9,Ans.v (bo true)),(14,Ans.v (AV.agg [st x19_0,st x19_1,st x19_2,st x19_3,lro m19_4 2 c19_4])),(15,Ans.v (AV.list k20 m20 5 c20)),(16,Ans.c v21 s21)]) (by kernel_rfl) (ai h0 (ai h1 (ai h2 (ai h3 (ai h4 (ai h5 trivial)))))),by unfold f40_F0; rw [e0,e1,e2]; show _=_; kernel_rfl⟩
theorem f40_s0_tf (L0:List Lexm) (G1:Nat) (X:Ext) (call:Caller) (lf:Nat) (S0:Nat→List Ob) (o5:Nat→AV) (i0:Nat) (x12_0_0:ByteArray) (x12_0_1:ByteArray) (x12_0_2:ByteArray) (x12_0_3:ByteArray) (m12_0_4:Nat) (c12_0_4:List AV) (r12:List AV)
  (h0:decide ((↑i0:Int) < (↑(List.length L0):Int))=true)
  (h1:keep (S0 i0) (indexAddrv Tryz.prog 23 (S0 i0) (lro (List.length L0) 5 (List.flatMap lexC L0)) (i6 (↑i0:Int)))=some (AV.eaddr (st x12_0_0::st x12_0_1::st x12_0_2::st x12_0_3::lro m12_0_4 2 c12_0_4::r12),S0 i0))
  (h2:callv X call false G1 [AV.agg [st x12_0_0,st x12_0_1,st x12_0_2,st x12_0_3,lro m12_0_4 2 c12_0_4],AV.ref 0 0] (S0 i0) 0=some (bo false,S0 i0))
  (e0:o5 (i0 + 1)=o5 i0)
  (e1:(↑(i0 + 1):Int)=w6 ((↑i0:Int) + 1))
  (e2:S0 (i0 + 1)=S0 i0):∃ S1,vexec Tryz.prog X call lf 0 fg40 (loopN Tryz.f28 0) (f40_F0 L0 G1 S0 o5 i0)=some (Ex.normal,S1)∧forget f40_D0 S1=(f40_F0 L0 G1 S0 o5 (i0 + 1)) :=
  ⟨stOf 24 [17,18,19,20,21] [(0,lro (List.length L0) 5 (List.flatMap lexC L0)),(1,AV.clo G1 [AV.ref 0 0]),(4,AV.list LK.nil 0 0 []),(5,o5 i0),(7,AV.eaddr [st x12_0_0,st x12_0_1,st x12_0_2,st x12_0_3,lro m12_0_4 2 c12_0_4]),(8,lro (List.length L0) 5 (List.flatMap lexC L0)),(9,i6 (↑(List.length L0):Int)),(10,i6 (w6 ((↑i0:Int) + 1))),(11,bo true),(12,AV.eaddr (st x12_0_0::st x12_0_1::st x12_0_2::st x12_0_3::lro m12_0_4 2 c12_0_4::r12)),(13,AV.agg [st x12_0_0,st x12_0_1,st x12_0_2,st x12_0_3,lro m12_0_4 2 c12_0_4]),(14,AV.clo G1 [AV.ref 0 0]),(15,AV.agg [st x12_0_0,st x12_0_1,st x12_0_2,st x12_0_3,lro m12_0_4 2 c12_0_4]),(16,bo false),(22,i6 (w6 ((↑i0:Int) + 1)))] (S0 i0),around_sound (ans:=[(1,Ans.b true),(4,Ans.v (AV.eaddr (st x12_0_0::st x12_0_1::st x12_0_2::st x12_0_3::lro m12_0_4 2 c12_0_4::r12))),(9,Ans.v (bo false))]) (by kernel_rfl) (ai h0 (ai h1 (ai h2 trivial))),by unfold f40_F0; rw [e0,e1,e2]; show _=_; kernel_rfl⟩
def f40_S1 (L0:List Lexm) (G1:Nat) (S0:Nat→List Ob) (o5:Nat→AV) (i0:Nat):St :=
  stOf 24 [7,12,13,14,15,16,17,18,19,20,21,22] [(0,lro (List.length L0) 5 (List.flatMap lexC L0)),(1,AV.clo G1 [AV.ref 0 0]),(4,AV.list LK.nil 0 0 []),(5,o5 i0),(8,lro (List.length L0) 5 (List.flatMap lexC L0)),(9,i6 (↑(List.length L0):Int)),(10,i6 (↑i0:Int)),(11,bo false)] (S0 i0)
theorem f40_r0_f (L0:List Lexm) (G1:Nat) (X:Ext) (call:Caller) (lf:Nat) (S0:Nat→List Ob) (o5:Nat→AV) (i0:Nat)
  (h0:decide ((↑i0:Int) < (↑(List.length L0):Int))=false):vexec Tryz.prog X call lf 0 fg40 (loopN Tryz.f28 0) (f40_F0 L0 G1 S0 o5 i0)=some (Ex.exit 0,(f40_S1 L0 G1 S0 o5 i0)) :=
  around_sound (ans:=[(1,Ans.b false)]) (by kernel_rfl) (ai h0 trivial)
theorem f40_plf (L0:List Lexm) (G1:Nat) (C1:List AV) (X:Ext) (call:Caller) (lf:Nat) (S0:Nat→List Ob) (o5:Nat→AV) (i0:Nat) (rE:AV) (sE:List Ob)
  (h0:vexec Tryz.prog X call lf 0 fg40 (Code.loop (loopN Tryz.f28 0)) (f40_S0 L0 G1 C1)=some (Ex.exit 0,(f40_S1 L0 G1 S0 o5 i0)))
  (h1:vend1 [Ob.cells C1] 0 (S0 i0) [o5 i0]=some (rE,sE)):vbody Tryz.prog X call lf fg40 Tryz.f28 (codeOf Tryz.f28) [lexsV L0,AV.clo G1 [AV.ref 0 0]] [Ob.cells C1] 0=some (rE,sE) :=
  along_sound (ans:=[(8,Ans.l (Ex.exit 0) (f40_S1 L0 G1 S0 o5 i0)),(12,Ans.c rE sE)]) (by kernel_rfl) (ai h0 (ai h1 trivial))
def f40_o0 (L0:List Lexm) (i0:Nat) (b0:Bool):Nat :=
  (match decide ((↑i0:Int) < (↑(List.length L0):Int)) with
  | true => (match b0 with
    | true=>0
    | false=>0)
  | false=>1)
theorem f40_B0 (L0:List Lexm) (G1:Nat) (X:Ext) (call:Caller) (lf:Nat) (S0:Nat→List Ob) (o5:Nat→AV) (i0:Nat) (x12_0_0:ByteArray) (x12_0_1:ByteArray) (x12_0_2:ByteArray) (x12_0_3:ByteArray) (m12_0_4:Nat) (c12_0_4:List AV) (r12:List AV) (x19_0:ByteArray) (x19_1:ByteArray) (x19_2:ByteArray) (x19_3:ByteArray) (m19_4:Nat) (c19_4:List AV) (m20:Nat) (c20:List AV) (k20:LK) (v21:AV) (s21:List Ob) (b0:Bool)
  (g0:decide ((↑i0:Int) < (↑(List.length L0):Int))=true→keep (S0 i0) (indexAddrv Tryz.prog 23 (S0 i0) (lro (List.length L0) 5 (List.flatMap lexC L0)) (i6 (↑i0:Int)))=some (AV.eaddr (st x12_0_0::st x12_0_1::st x12_0_2::st x12_0_3::lro m12_0_4 2 c12_0_4::r12),S0 i0))
  (g1:decide ((↑i0:Int) < (↑(List.length L0):Int))=true→callv X call false G1 [AV.agg [st x12_0_0,st x12_0_1,st x12_0_2,st x12_0_3,lro m12_0_4 2 c12_0_4],AV.ref 0 0] (S0 i0) 0=some (bo b0,S0 i0))
  (g2:decide ((↑i0:Int) < (↑(List.length L0):Int))=true→b0=true→callv X call false 49 [AV.agg [st x12_0_0,st x12_0_1,st x12_0_2,st x12_0_3,lro m12_0_4 2 c12_0_4]] (S0 i0) 0=some (AV.agg [st x19_0,st x19_1,st x19_2,st x19_3,lro m19_4 2 c19_4],S0 i0))
  (g3:decide ((↑i0:Int) < (↑(List.length L0):Int))=true→b0=true→bsl Tryz.prog 23 1 (S0 i0) false 0 [(0,AV.agg [st x19_0,st x19_1,st x19_2,st x19_3,lro m19_4 2 c19_4])]=some (AV.list k20 m20 5 c20,S0 i0))
  (g4:decide ((↑i0:Int) < (↑(List.length L0):Int))=true→b0=true→appendv Tryz.prog 23 (S0 i0) 0 (o5 i0) (AV.list k20 m20 5 c20)=some (v21,s21))
  (e0:decide ((↑i0:Int) < (↑(List.length L0):Int))=true→b0=true→o5 (i0 + 1)=v21)
  (e1:decide ((↑i0:Int) < (↑(List.length L0):Int))=true→(↑(i0 + 1):Int)=w6 ((↑i0:Int) + 1))
  (e2:decide ((↑i0:Int) < (↑(List.length L0):Int))=true→b0=true→S0 (i0 + 1)=s21)
  (e3:decide ((↑i0:Int) < (↑(List.length L0):Int))=true→b0=false→o5 (i0 + 1)=o5 i0)
  (e4 : decide ((↑i0 : Int) < (↑(List.length L0) : Int)) = true → b0 = false → S0 (i0 + 1) = S0 i0) :
    (f40_o0 L0 i0 b0=0→∃ S1,vexec Tryz.prog X call lf 0 fg40 (loopN Tryz.f28 0) (f40_F0 L0 G1 S0 o5 i0)=some (Ex.normal,S1)∧forget f40_D0 S1=(f40_F0 L0 G1 S0 o5 (i0 + 1)))∧(f40_o0 L0 i0 b0=1→vexec Tryz.prog X call lf 0 fg40 (loopN Tryz.f28 0) (f40_F0 L0 G1 S0 o5 i0)=some (Ex.exit 0,(f40_S1 L0 G1 S0 o5 i0))):=by
  unfold f40_o0
  cases c0:decide ((↑i0:Int) < (↑(List.length L0):Int)) with
  | true =>
    cases c1:b0 with
    | true =>
      exact ⟨fun _=>f40_s0_tt L0 G1 X call lf S0 o5 i0 x12_0_0 x12_0_1 x12_0_2 x12_0_3 m12_0_4 c12_0_4 r12 x19_0 x19_1 x19_2 x19_3 m19_4 c19_4 m20 c20 k20 v21 s21 c0 (g0 c0) (by have:=(g1 c0); rw [c1] at this; exact this) (g2 c0 c1) (g3 c0 c1) (g4 c0 c1) (e0 c0 c1) (e1 c0) (e2 c0 c1),fun h=>nq h⟩
    | false =>
      exact ⟨fun _=>f40_s0_tf L0 G1 X call lf S0 o5 i0 x12_0_0 x12_0_1 x12_0_2 x12_0_3 m12_0_4 c12_0_4 r12 c0 (g0 c0) (by have:=(g1 c0); rw [c1] at this; exact this) (e3 c0 c1) (e1 c0) (e4 c0 c1),fun h=>nq h⟩
  | false =>
    exact ⟨fun h=>nq h,fun _=>f40_r0_f L0 G1 X call lf S0 o5 i0 c0⟩
theorem f40_X0 (L0:List Lexm) (G1:Nat) (X:Ext) (call:Caller) (lf:Nat) (S0:Nat→List Ob) (o5:Nat→AV) (i0:Nat) (x12_0_0:ByteArray) (x12_0_1:ByteArray) (x12_0_2:ByteArray) (x12_0_3:ByteArray) (m12_0_4:Nat) (c12_0_4:List AV) (r12:List AV) (x19_0:ByteArray) (x19_1:ByteArray) (x19_2:ByteArray) (x19_3:ByteArray) (m19_4:Nat) (c19_4:List AV) (m20:Nat) (c20:List AV) (k20:LK) (v21:AV) (s21:List Ob) (b0:Bool)
  (g0:decide ((↑i0:Int) < (↑(List.length L0):Int))=true→keep (S0 i0) (indexAddrv Tryz.prog 23 (S0 i0) (lro (List.length L0) 5 (List.flatMap lexC L0)) (i6 (↑i0:Int)))=some (AV.eaddr (st x12_0_0::st x12_0_1::st x12_0_2::st x12_0_3::lro m12_0_4 2 c12_0_4::r12),S0 i0))
  (g1:decide ((↑i0:Int) < (↑(List.length L0):Int))=true→callv X call false G1 [AV.agg [st x12_0_0,st x12_0_1,st x12_0_2,st x12_0_3,lro m12_0_4 2 c12_0_4],AV.ref 0 0] (S0 i0) 0=some (bo b0,S0 i0))
  (g2:decide ((↑i0:Int) < (↑(List.length L0):Int))=true→b0=true→callv X call false 49 [AV.agg [st x12_0_0,st x12_0_1,st x12_0_2,st x12_0_3,lro m12_0_4 2 c12_0_4]] (S0 i0) 0=some (AV.agg [st x19_0,st x19_1,st x19_2,st x19_3,lro m19_4 2 c19_4],S0 i0))
  (g3:decide ((↑i0:Int) < (↑(List.length L0):Int))=true→b0=true→bsl Tryz.prog 23 1 (S0 i0) false 0 [(0,AV.agg [st x19_0,st x19_1,st x19_2,st x19_3,lro m19_4 2 c19_4])]=some (AV.list k20 m20 5 c20,S0 i0))
  (g4 : decide ((↑i0 : Int) < (↑(List.length L0) : Int)) = true → b0 = true → appendv Tryz.prog 23 (S0 i0) 0 (o5 i0) (AV.list k20 m20 5 c20) = some (v21, s21)) :
    (f40_o0 L0 i0 b0=1→vexec Tryz.prog X call lf 0 fg40 (loopN Tryz.f28 0) (f40_F0 L0 G1 S0 o5 i0)=some (Ex.exit 0,(f40_S1 L0 G1 S0 o5 i0))):=by
  unfold f40_o0
  cases c0:decide ((↑i0:Int) < (↑(List.length L0):Int)) with
  | true =>
    cases c1:b0 with
    | true =>
      exact fun h=>nq h
    | false =>
      exact fun h=>nq h
  | false =>
    exact fun _=>f40_r0_f L0 G1 X call lf S0 o5 i0 c0
theorem f40_M (L0:List Lexm) (G1:Nat) (C1:List AV) (S0:Nat→List Ob) (o5:Nat→AV) (X:Ext) (call:Caller) (lf:Nat) (n:Nat) (x12_0_0:Nat→ByteArray) (x12_0_1:Nat→ByteArray) (x12_0_2:Nat→ByteArray) (x12_0_3:Nat→ByteArray) (m12_0_4:Nat→Nat) (c12_0_4:Nat→List AV) (r12:Nat→List AV) (x19_0:Nat→ByteArray) (x19_1:Nat→ByteArray) (x19_2:Nat→ByteArray) (x19_3:Nat→ByteArray) (m19_4:Nat→Nat) (c19_4:Nat→List AV) (m20:Nat→Nat) (c20:Nat→List AV) (k20:Nat→LK) (v21:Nat→AV) (s21:Nat→List Ob) (b0:Nat→Bool)
  (z0:o5 0=AV.list LK.nil 0 0 [])
  (z1:S0 0=[Ob.cells C1])
  (hn:n < lf)
  (g0:∀ i0,i0 ≤ n→decide ((↑i0:Int) < (↑(List.length L0):Int))=true→keep (S0 i0) (indexAddrv Tryz.prog 23 (S0 i0) (lro (List.length L0) 5 (List.flatMap lexC L0)) (i6 (↑i0:Int)))=some (AV.eaddr (st (x12_0_0 i0)::st (x12_0_1 i0)::st (x12_0_2 i0)::st (x12_0_3 i0)::lro (m12_0_4 i0) 2 (c12_0_4 i0)::(r12 i0)),S0 i0))
  (g1:∀ i0,i0 ≤ n→decide ((↑i0:Int) < (↑(List.length L0):Int))=true→callv X call false G1 [AV.agg [st (x12_0_0 i0),st (x12_0_1 i0),st (x12_0_2 i0),st (x12_0_3 i0),lro (m12_0_4 i0) 2 (c12_0_4 i0)],AV.ref 0 0] (S0 i0) 0=some (bo (b0 i0),S0 i0))
  (g2:∀ i0,i0 ≤ n→decide ((↑i0:Int) < (↑(List.length L0):Int))=true→(b0 i0)=true→callv X call false 49 [AV.agg [st (x12_0_0 i0),st (x12_0_1 i0),st (x12_0_2 i0),st (x12_0_3 i0),lro (m12_0_4 i0) 2 (c12_0_4 i0)]] (S0 i0) 0=some (AV.agg [st (x19_0 i0),st (x19_1 i0),st (x19_2 i0),st (x19_3 i0),lro (m19_4 i0) 2 (c19_4 i0)],S0 i0))
  (g3:∀ i0,i0 ≤ n→decide ((↑i0:Int) < (↑(List.length L0):Int))=true→(b0 i0)=true→bsl Tryz.prog 23 1 (S0 i0) false 0 [(0,AV.agg [st (x19_0 i0),st (x19_1 i0),st (x19_2 i0),st (x19_3 i0),lro (m19_4 i0) 2 (c19_4 i0)])]=some (AV.list (k20 i0) (m20 i0) 5 (c20 i0),S0 i0))
  (g4:∀ i0,i0 ≤ n→decide ((↑i0:Int) < (↑(List.length L0):Int))=true→(b0 i0)=true→appendv Tryz.prog 23 (S0 i0) 0 (o5 i0) (AV.list (k20 i0) (m20 i0) 5 (c20 i0))=some ((v21 i0),(s21 i0)))
  (e0:∀ i0,i0 < n→decide ((↑i0:Int) < (↑(List.length L0):Int))=true→(b0 i0)=true→o5 (i0 + 1)=(v21 i0))
  (e1:∀ i0,i0 < n→decide ((↑i0:Int) < (↑(List.length L0):Int))=true→(↑(i0 + 1):Int)=w6 ((↑i0:Int) + 1))
  (e2:∀ i0,i0 < n→decide ((↑i0:Int) < (↑(List.length L0):Int))=true→(b0 i0)=true→S0 (i0 + 1)=(s21 i0))
  (e3:∀ i0,i0 < n→decide ((↑i0:Int) < (↑(List.length L0):Int))=true→(b0 i0)=false→o5 (i0 + 1)=o5 i0)
  (e4:∀ i0,i0 < n→decide ((↑i0:Int) < (↑(List.length L0):Int))=true→(b0 i0)=false→S0 (i0 + 1)=S0 i0)
  (hz : ∀ j, j < n → f40_o0 L0 j (b0 j) = 0) :
    (f40_o0 L0 n (b0 n)=1→∀ (rE:AV),∀ (sE:List Ob),vend1 [Ob.cells C1] 0 (S0 n) [o5 n]=some (rE,sE)→vbody Tryz.prog X call lf fg40 Tryz.f28 (codeOf Tryz.f28) [lexsV L0,AV.clo G1 [AV.ref 0 0]] [Ob.cells C1] 0=some (rE,sE)):=by
  have key:∀ j,j < n→_:=fun j hj=>(f40_B0 L0 G1 X call lf S0 o5 j (x12_0_0 j) (x12_0_1 j) (x12_0_2 j) (x12_0_3 j) (m12_0_4 j) (c12_0_4 j) (r12 j) (x19_0 j) (x19_1 j) (x19_2 j) (x19_3 j) (m19_4 j) (c19_4 j) (m20 j) (c20 j) (k20 j) (v21 j) (s21 j) (b0 j) (g0 j (Nat.le_of_lt hj)) (g1 j (Nat.le_of_lt hj)) (g2 j (Nat.le_of_lt hj)) (g3 j (Nat.le_of_lt hj)) (g4 j (Nat.le_of_lt hj)) (e0 j hj) (e1 j hj) (e2 j hj) (e3 j hj) (e4 j hj)).1 (hz j hj)
  have kn:=f40_X0 L0 G1 X call lf S0 o5 n (x12_0_0 n) (x12_0_1 n) (x12_0_2 n) (x12_0_3 n) (m12_0_4 n) (c12_0_4 n) (r12 n) (x19_0 n) (x19_1 n) (x19_2 n) (x19_3 n) (m19_4 n) (c19_4 n) (m20 n) (c20 n) (k20 n) (v21 n) (s21 n) (b0 n) (g0 n (Nat.le_refl n)) (g1 n (Nat.le_refl n)) (g2 n (Nat.le_refl n)) (g3 n (Nat.le_refl n)) (g4 n (Nat.le_refl n))
  exact fun hk rE sE q0=>f40_plf L0 G1 C1 X call lf S0 o5 n rE sE (f40_L0 L0 G1 C1 S0 o5 X call lf n _ _ z0 z1 hn key (kn hk) (by simp)) q0
theorem f87_p (F0:List Feat) (X:Ext) (call:Caller) (lf:Nat) (m8:Nat) (c8:List AV) (k8:LK) (rE:AV) (sE:List Ob)
  (h0:slc Tryz.prog 29 [] false 0 (lro (List.length F0) 2 (List.flatMap featC F0)) none (some (i6 (↑(List.length F0):Int))) (some (i6 (↑(List.length F0):Int)))=some (AV.list k8 m8 2 c8,[]))
  (h1:vend1 [] 0 [] [AV.list k8 m8 2 c8]=some (rE,sE)):vbody Tryz.prog X call lf noFg Tryz.f66 (codeOf Tryz.f66) [featsV F0] [] 0=some (rE,sE) :=
  along_sound (ans:=[(8,Ans.v (AV.list k8 m8 2 c8)),(10,Ans.c rE sE)]) (by kernel_rfl) (ai h0 (ai h1 trivial))
end Go.Proofs.Lex
end
/- Lexicon: rows that grow. -/
section
open Go Go.Vm Go.Proofs
namespace Go.Proofs.Lex
theorem vend1_any {σ1 σ:List Ob} {rs:List AV} (h:AV.ownsAll rs=[]):vend1 σ1 0 σ rs=some (unfr (oneOf rs),σ):=by
  unfold vend1
  rw [thawAll_id rs h,h]
  simp only [freezeIds,Option.some.injEq,Prod.mk.injEq,and_true]
  cases σ1 with
  | cons=>rfl
  | nil => cases rs with
    | nil=>rfl
    | cons v vs=>cases v <;> first | rfl | (simp [AV.ownsAll,AV.owns] at h)
section
variable [Fixed] {α:Type}
/-- A type of rows, and how its elements lie. -/
structure RowT (A:Cod α) (t e:TypeId) (kb:Nat):Prop where
  und:Tryz.prog.underlying t=some (.slice e)
  cells:Tryz.prog.cellsOf e=A.k
  zero:∃ z,zerov Tryz.prog e=some z∧z.cells.length=A.k
  bytes:Tryz.prog.bytesOf e=kb
  nob:isByte Tryz.prog e=false
def grV (v0:AV) (id n:Nat):AV:=if n=0 then v0 else .own id n
def grS (A:Cod α) (σ0:List Ob) (l:List α):List Ob:=if l.length=0 then σ0 else σ0 ++ [.arr l.length A.k (l.flatMap A.enc)]
theorem appended_row {A:Cod α} {σ:List Ob} {lk:LK} (m:List α):appended σ A.k (.list lk m.length A.k (m.flatMap A.enc))=some (m.length,m.flatMap A.enc):=by
  simp only [appended]
  by_cases h:m.length=0
  · have : m = [] := List.eq_nil_of_length_eq_zero h
    subst this
    rfl
  · rw [if_neg h,if_pos trivial]
theorem gr_stepR {A:Cod α} {t e:TypeId} {kb:Nat} (h:RowT A t e kb) {lk:LK} {sz0:Nat} (hk:lk = .nil ∨ lk = .clip) {σ0:List Ob} {ro:Nat} (hro:ro ≤ σ0.length) {l m:List α} {x:AV}
    (hx:appended (grS A σ0 l) A.k x=some (m.length,m.flatMap A.enc)) (hb:(l.length + m.length) * (kb + 1) ≤ big) :
    appendv Tryz.prog t (grS A σ0 l) ro (grV (.list lk 0 sz0 []) σ0.length l.length) x=some (grV (.list lk 0 sz0 []) σ0.length (l ++ m).length,grS A σ0 (l ++ m)):=by
  obtain ⟨z,hz,hzl⟩:=h.zero
  have hb:(l.length + m.length) * (kb + 1) ≤ 140737488355328:=hb
  by_cases hl:l.length=0
  · have hl' : l = [] := List.eq_nil_of_length_eq_zero hl
    subst hl'
    unfold appendv
    rw [h.und]
    have hno : ∀ (n : Nat) (cs : List AV), newOb Tryz.prog e n A.k cs = .arr n A.k cs := fun n cs => by
      unfold newOb
      rw [h.nob]
      rfl
    simp only [h.cells,hx,hz,h.bytes]
    rw [if_pos ⟨Cod.flat_owns m,hzl⟩]
    simp only [hno,grV,grS,List.length_nil,if_true,List.nil_append]
    rw [if_pos ⟨hk,.inl trivial,rfl,by simpa using hb⟩]
    by_cases hm:m.length=0
    · rw [if_pos hm,if_pos hm,if_pos hm]
    · rw [if_neg hm,if_neg hm,if_neg hm,Nat.zero_add]
  · have hlm : ¬ (l ++ m).length = 0 := by rw [List.length_append]; omega
    have ho : (grS A σ0 l)[σ0.length]? = some (.arr l.length (Tryz.prog.cellsOf e) (l.flatMap A.enc)) := by
      rw [grS,if_neg hl,h.cells]; simp
    have hv:grV (.list lk 0 sz0 []) σ0.length l.length = .own σ0.length l.length:=if_neg hl
    have hx' : appended (grS A σ0 l) (Tryz.prog.cellsOf e) x=some (m.length,m.flatMap A.enc):=by rw [h.cells]; exact hx
    rw [hv,grV,if_neg hlm]
    by_cases hm:m.length=0
    · have hm' : m = [] := List.eq_nil_of_length_eq_zero hm
      subst hm'
      rw [grow_none h.und hz (by rw [hzl,h.cells]) ho hro hx' rfl (by rw [h.bytes]; simpa using hb)]
      simp
    · rw [grow_own h.und hz (by rw [hzl, h.cells]) ho hro hx' (Cod.flat_owns m) hm (by rw [h.bytes]; exact hb)]
      rw [List.length_append,h.cells]
      simp only [grS,if_neg hl]
      rw [if_neg (by rw [List.length_append]; omega)]
      rw [setOb_last,List.flatMap_append,List.length_append]
theorem gr_step {A:Cod α} {t e:TypeId} {kb:Nat} (h:RowT A t e kb) {lk:LK} {sz0:Nat} (hk:lk = .nil ∨ lk = .clip) {σ0:List Ob} {l m:List α} {x:AV}
    (hx:appended (grS A σ0 l) A.k x=some (m.length,m.flatMap A.enc)) (hb:(l.length + m.length) * (kb + 1) ≤ big) :
    appendv Tryz.prog t (grS A σ0 l) 0 (grV (.list lk 0 sz0 []) σ0.length l.length) x=some (grV (.list lk 0 sz0 []) σ0.length (l ++ m).length,grS A σ0 (l ++ m)) :=
  gr_stepR h hk (Nat.zero_le _) hx hb
/-- The row at the function's end. -/
theorem gr_end {A:Cod α} {lk:LK} {sz0:Nat} {σ1 σ0:List Ob} (l:List α):∃ (r:AV) (σ' : List Ob),vend1 σ1 0 (grS A σ0 l) [grV (.list lk 0 sz0 []) σ0.length l.length]=some (r,σ0 ++ σ')∧A.list.dec [r]=some l∧AV.owns r=[]:=by
  by_cases hl:l.length=0
  · have hl' : l = [] := List.eq_nil_of_length_eq_zero hl
    subst hl'
    refine ⟨unfr (.list lk 0 sz0 []),[],?_,?_,?_⟩
    · simp only [grV, grS, List.length_nil, if_true, List.append_nil]
      exact vend1_any rfl
    · cases lk <;> rfl
    · cases lk <;> rfl
  · have hg : grS A σ0 l = σ0 ++ [.arr l.length A.k (l.flatMap A.enc)] := if_neg hl
    have hv:grV (.list lk 0 sz0 []) σ0.length l.length = .own σ0.length l.length:=if_neg hl
    have ho:(σ0 ++ [Ob.arr l.length A.k (l.flatMap A.enc)])[σ0.length]? = some (.arr l.length A.k (l.flatMap A.enc)):=by simp
    have ht : AV.thawAll (σ0 ++ [Ob.arr l.length A.k (l.flatMap A.enc)]) [.own σ0.length l.length] = some [.list .ro l.length A.k (l.flatMap A.enc)] := by
      simp only [AV.thawAll,AV.thaw,ho,if_true]
    have hf : freezeIds 0 (σ0 ++ [Ob.arr l.length A.k (l.flatMap A.enc)]) (AV.ownsAll [.own σ0.length l.length]) = some (σ0 ++ [.fro l.length A.k (l.flatMap A.enc)]) := by
      simp only [AV.ownsAll,AV.owns,List.append_nil,List.nil_append,List.cons_append,freezeIds,freezeId,ho,Nat.zero_le,if_true,setOb_last]
    have hd : ∀ k, A.list.dec [.list k l.length A.k (l.flatMap A.enc)] = some l := by
      intro k
      show (if l.length=0 then _ else if A.k=A.k then A.many l.length (l.flatMap A.enc) else none)=some l
      rw [if_neg hl,if_pos rfl,Cod.many_de]
    have hw:AV.ownsAll (l.flatMap A.enc)=[]:=Cod.flat_owns l
    rw [hg,hv]
    unfold vend1
    rw [ht,hf]
    simp only
    refine ⟨_,_,rfl,?_,?_⟩
    · unfold resOf
      split
      · rename_i h1 h2
        simp only [List.cons.injEq,AV.own.injEq,AV.list.injEq] at h1 h2
        obtain ⟨⟨e1,e2⟩,e3⟩:=h1
        obtain ⟨⟨-,-,e4,e5⟩,e6⟩:=h2
        subst e1 e2 e3 e4 e5 e6
        rw [ho]
        simp only [AV.ownsAll,if_true,oneOf]
        exact hd _
      · exact hd _
    · unfold resOf
      split
      · rename_i h1 h2
        simp only [List.cons.injEq,AV.own.injEq,AV.list.injEq] at h1 h2
        obtain ⟨⟨e1,e2⟩,e3⟩:=h1
        obtain ⟨⟨-,-,e4,e5⟩,e6⟩:=h2
        subst e1 e2 e3 e4 e5 e6
        rw [ho]
        simp only [AV.ownsAll,if_true,oneOf,AV.owns]
        exact hw
      · simp only [oneOf, unfr, unfr1, AV.owns]
        exact hw
end
end Go.Proofs.Lex
end
/- Lexicon: rows of lexemes, features, strings; Clip; the filter. -/
section
open Go Go.Vm Go.Proofs
namespace Go.Proofs.Lex
theorem cells33:Tryz.prog.cellsOf 31=5:=by kernel_rfl
theorem cells57:Tryz.prog.cellsOf 28=2:=by kernel_rfl
theorem cells9:Tryz.prog.cellsOf 9=1:=by kernel_rfl
theorem zero33:zerov Tryz.prog 31=some (.agg [st emp,st emp,st emp,st emp,.list .nil 0 0 []]):=by kernel_rfl
theorem zero57:zerov Tryz.prog 28=some (.agg [st emp,st emp]):=by kernel_rfl
theorem zero9:zerov Tryz.prog 9=some (st emp):=by kernel_rfl
theorem bytes33:Tryz.prog.bytesOf 31=88:=by kernel_rfl
theorem bytes57:Tryz.prog.bytesOf 28=32:=by kernel_rfl
theorem bytes9:Tryz.prog.bytesOf 9=16:=by kernel_rfl
theorem info57:(Tryz.prog.info? 28).isSome=true:=by kernel_rfl
theorem info9:(Tryz.prog.info? 9).isSome=true:=by kernel_rfl
section
variable [Fixed]
theorem rowL:RowT cL 23 31 88:=⟨Tryz.underlying23,cells33,⟨_,zero33,rfl⟩,bytes33,by kernel_rfl⟩
theorem rowF:RowT cF 29 28 32:=⟨Tryz.underlying29,cells57,⟨_,zero57,rfl⟩,bytes57,by kernel_rfl⟩
theorem rowS:RowT Cod.str 39 9 16:=⟨Tryz.underlying39,cells9,⟨_,zero9,rfl⟩,bytes9,by kernel_rfl⟩
end
/-- A row of one, built. -/
theorem bsl_one {t e:TypeId} {cs zs:List AV} {z:AV} {σ:List Ob} (hu:Tryz.prog.underlying t=some (.slice e)) (hc:Tryz.prog.cellsOf e=cs.length) (hz:zerov Tryz.prog e=some z) (hzl:z.cells=zs) (hl:zs.length=cs.length) (h0:cs.length ≤ 16777216) (ho:AV.ownsAll cs=[]) (hf:(AV.agg cs).flat=true) :
    bsl Tryz.prog t 1 σ false 0 [(0,.agg cs)]=some (.list .clip 1 cs.length cs,σ):=by
  have hov : overlay zs 0 cs = cs := by
    simp only [overlay,List.take_zero,List.nil_append,Nat.zero_add]
    rw [List.drop_eq_nil_of_le (by omega),List.append_nil]
  unfold bsl byValue
  simp only [List.map_cons,List.map_nil,AV.ownsAll,AV.owns,ho,List.append_nil,if_true]
  unfold buildSlicev
  rw [hu]
  simp only [hc,hz,hzl,hl,if_true]
  rw [if_neg (by omega)]
  simp only [fillv,replv,AV.cells,keep,Nat.zero_mul,List.append_nil,hl,hf,Nat.zero_add,Nat.le_refl,and_self,if_true,hov]
theorem slc_all {t e:TypeId} {n k:Nat} {cs:List AV} {σ:List Ob} (hu:Tryz.prog.underlying t=some (.slice e)) (hc:Tryz.prog.cellsOf e=k) (hi:(Tryz.prog.info? e).isSome=true) (hl:cs.length=n * k) (ho:AV.ownsAll cs=[]) :
    slc Tryz.prog t σ false 0 (lro n k cs) none (some (i6 (↑n:Int))) (some (i6 (↑n:Int)))=some (.list .clip n k cs,σ):=by
  unfold slc cutOwn
  simp only
  unfold byValue1
  simp only [AV.owns,ho,if_true,Bool.false_eq_true,if_false]
  unfold slicev
  rw [hu]
  simp only [hc,hi]
  simp [boundv]
  rw [List.take_of_length_le (by omega)]
  rfl
section
variable [Fixed] {X:Ext} {call:Caller} {lf:Nat}
theorem take_filter {α:Type} {L:List α} {p:α→Bool} {i:Nat} (h:i < L.length):(L.take (i + 1)).filter p=(L.take i).filter p ++ if p L[i] then [L[i]] else []:=by
  rw [List.take_succ_eq_append_getElem h,List.filter_append]
  cases hp:p L[i] <;> simp [hp]
/-- lexicon.filter. -/
theorem filter40 {L:List Lexm} {G:Nat} {c:List AV} {p:Lexm→Bool} (hl:L.length * 89 ≤ big) (hlf:L.length < lf) (hc:AV.ltAll 0 c=true)
    (hg:∀ i σ,i < L.length→(σ=[] ∨ ∃ o,σ=[o])→ltObs (σ.length + 1) (Ob.cells c::σ)=true→callv X call false G [.agg (lexC (nL L i)),.ref 0 0] (Ob.cells c::σ) 0=some (bo (p (nL L i)),Ob.cells c::σ))
    (h61:∀ i σ,i < L.length→callv X call false 49 [.agg (lexC (nL L i))] σ 0=some (.agg (lexC (nL L i)),σ)) :
    ∃ (r:AV) (σ' : List Ob),vbody Tryz.prog X call lf fg40 Tryz.f28 (codeOf Tryz.f28) [lexsV L,.clo G [.ref 0 0]] [Ob.cells c] 0=some (r,[Ob.cells c] ++ σ')∧aLs.dec r=some (L.filter p)∧AV.owns r=[]:=by
  have hL:L.length * 89 ≤ 140737488355328:=hl
  have ho : ∀ i, (i < L.length → f40_o0 L i (p (nL L i)) = 0) ∧ (¬ i < L.length → f40_o0 L i (p (nL L i)) = 1) := by
    intro i
    unfold f40_o0
    refine ⟨fun h1 => ?_,fun h1 => ?_⟩
    · rw [decide_eq_true (by omega)]; cases p (nL L i) <;> rfl
    · rw [decide_eq_false (by omega)]
  let l:Nat→List Lexm:=fun i=>(L.take i).filter p
  let S:Nat→List Ob:=fun i=>grS cL [Ob.cells c] (l i)
  let o:Nat→AV:=fun i=>grV (.list .nil 0 0 []) 1 (l i).length
  have hS : ∀ i, ∃ σ, S i = Ob.cells c :: σ ∧ (σ = [] ∨ ∃ o, σ = [o]) ∧ ltObs (σ.length + 1) (Ob.cells c :: σ) = true := by
    intro i
    show ∃ σ,grS cL [Ob.cells c] (l i)=Ob.cells c::σ∧_
    unfold grS
    split
    · exact ⟨[],rfl,.inl rfl,by simp [ltObs,ltAll_up (Nat.zero_le _) c hc]⟩
    · exact ⟨[.arr (l i).length cL.k ((l i).flatMap cL.enc)],rfl,.inr ⟨_,rfl⟩,by simp only [ltObs,ltAll_up (Nat.zero_le _) c hc,ltAll_up (Nat.zero_le _) _ (Cod.flat_lt (l i)),Bool.and_self]⟩
  have hlen:∀ i,(l i).length ≤ i:=fun i=>Nat.le_trans (List.length_filter_le _ _) (by rw [List.length_take]; omega)
  have hstep : ∀ i, i < L.length → p (nL L i) = true → l (i + 1) = l i ++ [nL L i] := by
    intro i hi hp
    show (L.take (i + 1)).filter p=_
    rw [take_filter hi,nL,getD_lt hi] at *
    rw [if_pos hp]
  have hsame : ∀ i, i < L.length → p (nL L i) = false → l (i + 1) = l i := by
    intro i hi hp
    show (L.take (i + 1)).filter p=_
    rw [nL,getD_lt hi] at hp
    rw [take_filter hi,hp]
    simp [l]
  have M := f40_M L G c S o X call lf L.length (fun i => (nL L i).id) (fun i => (nL L i).cat) (fun i => (nL L i).stem) (fun i => (nL L i).par) _ _ _ (fun i => (nL L i).id) (fun i => (nL L i).cat) (fun i => (nL L i).stem) (fun i => (nL L i).par) _ _ _ _ _ _ _ (fun i => p (nL L i)) rfl rfl hlf
    (fun i _ h=>at_lex (by simpa using h))
    (fun i _ h=>by obtain ⟨σ,e,k0,k⟩:=hS i; rw [e]; exact hg i σ (by simpa using h) k0 k)
    (fun i _ h _=>h61 i _ (by simpa using h))
    (fun i _ h _=>bsl_one Tryz.underlying23 cells33 zero33 rfl rfl (by simp) (owns_lex _) rfl)
    (fun i _ h hp => by
      refine gr_step (m:=[nL L i]) rowL (.inl rfl) (appended_row [nL L i]) ?_
      have:=hlen i
      have:i < L.length:=by simpa using h
      show _ ≤ 140737488355328
      simp only [List.length_singleton]
      omega)
    (fun i h _ hp=>by show grV _ _ (l (i + 1)).length=_; rw [hstep i h hp]; rfl)
    (fun i h _=>up h (by show _ ≤ 140737488355328; omega))
    (fun i h _ hp=>by show grS _ _ (l (i + 1))=_; rw [hstep i h hp])
    (fun i h _ hp=>by show grV _ _ (l (i + 1)).length=_; rw [hsame i h hp])
    (fun i h _ hp=>by show grS _ _ (l (i + 1))=_; rw [hsame i h hp])
    (fun j hj=>(ho j).1 hj)
  obtain ⟨r,σ',h1,h2,h3⟩:=gr_end (A:=cL) (lk := .nil) (sz0:=0) (σ1:=[Ob.cells c]) (σ0:=[Ob.cells c]) (l L.length)
  refine ⟨r,σ',M ((ho _).2 (by omega)) _ _ h1,?_,h3⟩
  have:l L.length=L.filter p:=by show (L.take _).filter p=_; rw [List.take_length]
  rw [this] at h2
  exact h2
end
end Go.Proofs.Lex
end
/- Lexicon: closures, with a row behind (printed) -/
section
open Go Go.Vm Go.Proofs
namespace Go.Proofs.Lex
theorem f41b_pt (x0:Lexm) (s0:ByteArray) (O1:Ob) (X:Ext) (call:Caller) (lf:Nat)
  (h0:(ByteArray.toList (Lexm.cat x0) == ByteArray.toList s0)=true):vbody Tryz.prog X call lf noFg Tryz.f29 (codeOf Tryz.f29) [AV.agg (lexC x0),AV.ref 0 0] [Ob.cells [st s0],O1] 0=some (bo true,[Ob.cells [st s0],O1,Ob.cells [st (Lexm.id x0),st (Lexm.cat x0),st (Lexm.stem x0),st (Lexm.par x0),lro (List.length (Lexm.feats x0)) 2 (List.flatMap featC (Lexm.feats x0))]]) :=
  along_sound (ans:=[(7,Ans.b true)]) (by kernel_rfl) (ai h0 trivial)
theorem f41b_pf (x0:Lexm) (s0:ByteArray) (O1:Ob) (X:Ext) (call:Caller) (lf:Nat)
  (h0:(ByteArray.toList (Lexm.cat x0) == ByteArray.toList s0)=false):vbody Tryz.prog X call lf noFg Tryz.f29 (codeOf Tryz.f29) [AV.agg (lexC x0),AV.ref 0 0] [Ob.cells [st s0],O1] 0=some (bo false,[Ob.cells [st s0],O1,Ob.cells [st (Lexm.id x0),st (Lexm.cat x0),st (Lexm.stem x0),st (Lexm.par x0),lro (List.length (Lexm.feats x0)) 2 (List.flatMap featC (Lexm.feats x0))]]) :=
  along_sound (ans:=[(7,Ans.b false)]) (by kernel_rfl) (ai h0 trivial)
def f41b_q0 (x0:Lexm) (s0:ByteArray):Nat :=
  (match (ByteArray.toList (Lexm.cat x0) == ByteArray.toList s0) with
  | true=>0
  | false=>1)
theorem f41b_P0 (x0:Lexm) (s0:ByteArray) (O1:Ob) (X:Ext) (call:Caller) (lf:Nat) :
    (f41b_q0 x0 s0=0→vbody Tryz.prog X call lf noFg Tryz.f29 (codeOf Tryz.f29) [AV.agg (lexC x0),AV.ref 0 0] [Ob.cells [st s0],O1] 0=some (bo true,[Ob.cells [st s0],O1,Ob.cells [st (Lexm.id x0),st (Lexm.cat x0),st (Lexm.stem x0),st (Lexm.par x0),lro (List.length (Lexm.feats x0)) 2 (List.flatMap featC (Lexm.feats x0))]]))∧(f41b_q0 x0 s0=1→vbody Tryz.prog X call lf noFg Tryz.f29 (codeOf Tryz.f29) [AV.agg (lexC x0),AV.ref 0 0] [Ob.cells [st s0],O1] 0=some (bo false,[Ob.cells [st s0],O1,Ob.cells [st (Lexm.id x0),st (Lexm.cat x0),st (Lexm.stem x0),st (Lexm.par x0),lro (List.length (Lexm.feats x0)) 2 (List.flatMap featC (Lexm.feats x0))]])):=by
  unfold f41b_q0
  cases c0:(ByteArray.toList (Lexm.cat x0) == ByteArray.toList s0) with
  | true =>
    exact ⟨fun _=>f41b_pt x0 s0 O1 X call lf c0,fun h=>nq h⟩
  | false =>
    exact ⟨fun h=>nq h,fun _=>f41b_pf x0 s0 O1 X call lf c0⟩
end Go.Proofs.Lex
end
/- Lexicon: Clip, Clone. -/
section
open Go Go.Vm Go.Proofs
namespace Go.Proofs.Lex
def opsR (c:Code):Array Oper:=match c with
  | .region _ ops _=>ops
  | _ => #[]
def opsF (fn:Func) (k:Nat):Array Oper:=opsR (regN fn k)
def cloneC (fn:Func):Code := .seq (.region 0 (opsF fn 0) false) (.seq (.seq (.region 1 (opsF fn 1) false) (.cond (.tmp 4) (.seq (.region 2 (opsF fn 2) false) .ret) .skip)) (.seq (.region 3 (opsF fn 3) false) .ret))
theorem body88:Tryz.f67.body=some (cloneC Tryz.f67):=by kernel_rfl
section
variable {X:Ext} {call:Caller} {lf:Nat}
def S88 (F:List Feat):St := { tmps:=[featsV F] ++ List.replicate 7 .undef,st:=[] }
theorem r88_0 (F:List Feat):vexec Tryz.prog X call lf 0 noFg (.region 0 (opsF Tryz.f67 0) false) (S88 F)=some (.normal,{ tmps:=[featsV F,.undef,.list .nil 0 0 [],.undef,.undef,.undef,.undef,.undef],st:=[] }):=by kernel_rfl
theorem r88_2 (F:List Feat) (b:Bool):vexec Tryz.prog X call lf 0 noFg (.seq (.region 2 (opsF Tryz.f67 2) false) .ret) { tmps:=[featsV F,.undef,.list .nil 0 0 [],featsV F,.bool b,.undef,.undef,.undef],st:=[] }=some (.ret,{ tmps:=[featsV F,.undef,.list .nil 0 0 [],featsV F,.bool b,.undef,.undef,.undef],st:=[] }):=by kernel_rfl
theorem r88_3 (F:List Feat) (b:Bool) (v:AV) (σ:List Ob) (h:appendv Tryz.prog 29 [] 0 (.list .clip 0 2 []) (featsV F)=some (v,σ)):vexec Tryz.prog X call lf 0 noFg (.seq (.region 3 (opsF Tryz.f67 3) false) .ret) { tmps:=[featsV F,.undef,.list .nil 0 0 [],featsV F,.bool b,.undef,.undef,.undef],st:=[] }=some (.ret,{ tmps:=[featsV F,.undef,v,featsV F,.bool b,.list .clip 0 2 [],featsV F,v],st:=σ }) :=
  around_sound (ans:=[(3,Ans.c v σ)]) (by kernel_rfl) (And.intro h trivial)
def preF (fn:Func) (k n:Nat):List Oper:=(opsF fn k).toList.take n
def opF (fn:Func) (k n:Nat):Oper:=((opsF fn k).toList[n]?).getD default
theorem split88:(opsF Tryz.f67 1).toList=preF Tryz.f67 1 1 ++ [opF Tryz.f67 1 1]:=by kernel_rfl
end
section
variable [Fixed] {X:Ext}
/-- slices.Clone of features. -/
theorem clone88 (hX:ExtOk Tryz.prog X) {F:List Feat} (hF:F.length * 33 ≤ big):CallAt Tryz.prog 67 [aFs.enc F] [] 0 (aFs.enc F) []:=by
  have hC:CallOk Tryz.prog (callerOf fun _ _=>none):=callerOf_ok SpecOk.none'
  have hbig:F.length * 33 ≤ 140737488355328:=hF
  refine call_rel (B:=aFs) (fn:=Tryz.f67) (c:=cloneC Tryz.f67) (R:=fun x T=>(x = .normal ∨ x = .ret)∧∃ r σ',vend Tryz.prog Tryz.f67 [] 0 T=some (r,σ')∧aFs.dec r=some F) Tryz.func67 body88 (of_decide_eq_false (by kernel_rfl)) ?_ (fun x T h=>h)
  refine SR.seq (SR.exec hX hC (lf:=0) (fg:=noFg) (by kernel_rfl) (r88_0 F)) (fun T hT => ?_) (fun x T hx h=>absurd h.1 hx)
  obtain ⟨-,rfl⟩:=hT
  refine SR.seq (R1:=fun x T=>(x = .ret∧∃ b,F=[]∧T = { tmps:=[featsV F,.undef,.list .nil 0 0 [],featsV F,.bool b,.undef,.undef,.undef],st:=[] }) ∨ (x = .normal∧∃ b,T = { tmps:=[featsV F,.undef,.list .nil 0 0 [],featsV F,.bool b,.undef,.undef,.undef],st:=[] })) ?_ (fun T hT => ?_) (fun x T hx h => ?_)
  · refine SR.seq (SR.nilTest hX hC (pre := preF Tryz.f67 1 1) (o := opF Tryz.f67 1 1) (t := 29) (e := 28) (x := .tmp 3) (nb := 29) (d := 4) (n := F.length) (sz := 2) (k := .ro) (cs := F.flatMap featC)
      (S1 := { tmps:=[featsV F,.undef,.list .nil 0 0 [],featsV F,.undef,.undef,.undef,.undef],st:=[] }) split88 (by kernel_rfl) (by kernel_rfl) (by kernel_rfl) (by kernel_rfl) Tryz.underlying29 (by kernel_rfl)) (fun T hT => ?_) (fun x T hx h=>absurd h.1 hx)
    obtain ⟨-,b,hb,rfl⟩:=hT
    refine SR.cond (b:=b) (by rfl) ?_
    cases b with
    | true =>
      refine (SR.exec hX hC (lf:=0) (fg:=noFg) (by kernel_rfl) (r88_2 F true)).mono fun x T h => ?_
      exact .inl ⟨h.1,true,List.eq_nil_of_length_eq_zero (hb rfl),h.2⟩
    | false=>exact SR.skip (.inr ⟨rfl,false,rfl⟩)
  · rcases hT with ⟨h, _⟩ | ⟨-, b, rfl⟩
    · cases h
    · have hg := gr_step (σ0 := []) (l := []) (m := F) (lk := .clip) (sz0 := 2) rowF (.inr rfl) (x := featsV F) (appended_row F) (by simpa using hF)
      obtain ⟨r,σ',h1,h2,-⟩:=gr_end (A:=cF) (lk := .clip) (sz0:=2) (σ1:=[]) (σ0:=[]) F
      refine (SR.exec hX hC (lf:=0) (fg:=noFg) (by kernel_rfl) (r88_3 F b _ _ hg)).mono fun x T h => ?_
      obtain ⟨rfl,rfl⟩:=h
      exact ⟨.inr rfl,r,σ',h1,h2⟩
  · rcases h with ⟨rfl, b, rfl, rfl⟩ | ⟨rfl, _⟩
    · exact ⟨.inr rfl,.list .nil 0 0 [],[],rfl,rfl⟩
    · exact absurd rfl hx
end
end Go.Proofs.Lex
end
/- Lexicon: the builder, feature.Text (printed) -/
section
open Go Go.Vm Go.Proofs
namespace Go.Proofs.Lex
theorem f78_p (c0:Int) (p0:AV) (n0:Nat) (n1:Nat) (T0:List Ob) (T1:List Ob) (X:Ext) (call:Caller) (lf:Nat)
  (h0:callv X call false 64 [AV.ref 0 0] (Ob.cells [p0,AV.own 1 n0]::T0) 0=some (AV.tup [],Ob.cells [AV.ref 0 0,AV.own 1 n0]::T0))
  (h1:appendv Tryz.prog 74 (Ob.cells [AV.ref 0 0,AV.own 1 n0]::T0) 0 (AV.own 1 n0) (AV.list LK.clip 1 1 [AV.int IntKind.u8 c0])=some (AV.own 1 n1,Ob.cells [AV.ref 0 0,AV.own 1 n0]::T1)):vbody Tryz.prog X call lf noFg Tryz.f53 (codeOf Tryz.f53) [AV.ref 0 0,AV.int IntKind.u8 c0] (Ob.cells [p0,AV.own 1 n0]::T0) 0=some (AV.inil,Ob.cells [AV.ref 0 0,AV.own 1 n1]::T1) :=
  along_sound (ans:=[(4,Ans.c (AV.tup []) (Ob.cells [AV.ref 0 0,AV.own 1 n0]::T0)),(13,Ans.c (AV.own 1 n1) (Ob.cells [AV.ref 0 0,AV.own 1 n0]::T1))]) (by kernel_rfl) (ai h0 (ai h1 trivial))
theorem f78n_p (c0:Int) (p0:AV) (X:Ext) (call:Caller) (lf:Nat)
  (h0:callv X call false 64 [AV.ref 0 0] [Ob.cells [p0,AV.list LK.nil 0 0 []]] 0=some (AV.tup [],[Ob.cells [AV.ref 0 0,AV.list LK.nil 0 0 []]])):vbody Tryz.prog X call lf noFg Tryz.f53 (codeOf Tryz.f53) [AV.ref 0 0,AV.int IntKind.u8 c0] [Ob.cells [p0,AV.list LK.nil 0 0 []]] 0=some (AV.inil,[Ob.cells [AV.ref 0 0,AV.own 1 1],newOb Tryz.prog 5 (0 + 1) (Program.cellsOf Tryz.prog 5) ([] ++ [AV.int IntKind.u8 c0])]) :=
  along_sound (ans:=[(4,Ans.c (AV.tup []) [Ob.cells [AV.ref 0 0,AV.list LK.nil 0 0 []]])]) (by kernel_rfl) (ai h0 trivial)
theorem f79_p (s0:ByteArray) (p0:AV) (n0:Nat) (n1:Nat) (T0:List Ob) (T1:List Ob) (X:Ext) (call:Caller) (lf:Nat)
  (h0:callv X call false 64 [AV.ref 0 0] (Ob.cells [p0,AV.own 1 n0]::T0) 0=some (AV.tup [],Ob.cells [AV.ref 0 0,AV.own 1 n0]::T0))
  (h1:appendv Tryz.prog 74 (Ob.cells [AV.ref 0 0,AV.own 1 n0]::T0) 0 (AV.own 1 n0) (st s0)=some (AV.own 1 n1,Ob.cells [AV.ref 0 0,AV.own 1 n0]::T1)):vbody Tryz.prog X call lf noFg Tryz.f47 (codeOf Tryz.f47) [AV.ref 0 0,st s0] (Ob.cells [p0,AV.own 1 n0]::T0) 0=some (AV.tup [i6 (↑(ByteArray.size s0):Int),AV.inil],Ob.cells [AV.ref 0 0,AV.own 1 n1]::T1) :=
  along_sound (ans:=[(5,Ans.c (AV.tup []) (Ob.cells [AV.ref 0 0,AV.own 1 n0]::T0)),(13,Ans.c (AV.own 1 n1) (Ob.cells [AV.ref 0 0,AV.own 1 n0]::T1))]) (by kernel_rfl) (ai h0 (ai h1 trivial))
theorem f79n_p (s0:ByteArray) (p0:AV) (n1:Nat) (T0:List Ob) (T1:List Ob) (X:Ext) (call:Caller) (lf:Nat)
  (h0:callv X call false 64 [AV.ref 0 0] (Ob.cells [p0,AV.list LK.nil 0 0 []]::T0) 0=some (AV.tup [],Ob.cells [AV.ref 0 0,AV.list LK.nil 0 0 []]::T0))
  (h1:appendv Tryz.prog 74 (Ob.cells [AV.ref 0 0,AV.list LK.nil 0 0 []]::T0) 0 (AV.list LK.nil 0 0 []) (st s0)=some (AV.own 1 n1,Ob.cells [AV.ref 0 0,AV.list LK.nil 0 0 []]::T1)):vbody Tryz.prog X call lf noFg Tryz.f47 (codeOf Tryz.f47) [AV.ref 0 0,st s0] (Ob.cells [p0,AV.list LK.nil 0 0 []]::T0) 0=some (AV.tup [i6 (↑(ByteArray.size s0):Int),AV.inil],Ob.cells [AV.ref 0 0,AV.own 1 n1]::T1) :=
  along_sound (ans:=[(5,Ans.c (AV.tup []) (Ob.cells [AV.ref 0 0,AV.list LK.nil 0 0 []]::T0)),(13,Ans.c (AV.own 1 n1) (Ob.cells [AV.ref 0 0,AV.list LK.nil 0 0 []]::T1))]) (by kernel_rfl) (ai h0 (ai h1 trivial))
theorem f79e_p (s0:ByteArray) (p0:AV) (T0:List Ob) (T1:List Ob) (X:Ext) (call:Caller) (lf:Nat)
  (h0:callv X call false 64 [AV.ref 0 0] (Ob.cells [p0,AV.list LK.nil 0 0 []]::T0) 0=some (AV.tup [],Ob.cells [AV.ref 0 0,AV.list LK.nil 0 0 []]::T0))
  (h1:appendv Tryz.prog 74 (Ob.cells [AV.ref 0 0,AV.list LK.nil 0 0 []]::T0) 0 (AV.list LK.nil 0 0 []) (st s0)=some (AV.list LK.nil 0 0 [],Ob.cells [AV.ref 0 0,AV.list LK.nil 0 0 []]::T1)):vbody Tryz.prog X call lf noFg Tryz.f47 (codeOf Tryz.f47) [AV.ref 0 0,st s0] (Ob.cells [p0,AV.list LK.nil 0 0 []]::T0) 0=some (AV.tup [i6 (↑(ByteArray.size s0):Int),AV.inil],Ob.cells [AV.ref 0 0,AV.list LK.nil 0 0 []]::T1) :=
  along_sound (ans:=[(5,Ans.c (AV.tup []) (Ob.cells [AV.ref 0 0,AV.list LK.nil 0 0 []]::T0)),(13,Ans.c (AV.list LK.nil 0 0 []) (Ob.cells [AV.ref 0 0,AV.list LK.nil 0 0 []]::T1))]) (by kernel_rfl) (ai h0 (ai h1 trivial))
def fg48:Nat→List Nat
  | 5004=>[1]
  | _=>[]
def f48_F0 (F0:List Feat) (S0:Nat→List Ob) (i0:Nat):St :=
  stOf 25 [4,5,9,10,11,12,13,14,15,16,17,18,19,20,21,22,23] [(0,lro (List.length F0) 2 (List.flatMap featC F0)),(2,st (ByteArray.mk #[])),(3,AV.ref 0 0),(6,lro (List.length F0) 2 (List.flatMap featC F0)),(7,i6 (↑(List.length F0):Int)),(8,i6 (↑i0:Int))] (S0 i0)
def f48_S0 (F0:List Feat):St :=
  stOf 25 [] [(0,lro (List.length F0) 2 (List.flatMap featC F0)),(2,st (ByteArray.mk #[])),(3,AV.ref 0 0),(6,lro (List.length F0) 2 (List.flatMap featC F0)),(7,i6 (↑(List.length F0):Int)),(8,i6 0)] [Ob.cells [AV.ptag 76,AV.list LK.nil 0 0 []]]
abbrev f48_D0:List Nat:=[23,22,21,20,19,18,17,16,15,14,13,4,5,12,11,10,9]
theorem f48_L0 (F0:List Feat) (S0:Nat→List Ob) (X:Ext) (call:Caller) (lf:Nat) (n:Nat) (x:Ex) (S' : St)
  (e0:S0 0=[Ob.cells [AV.ptag 76,AV.list LK.nil 0 0 []]])
  (hn:n < lf)
  (hs:∀ j,j < n→∃ S1,vexec Tryz.prog X call lf 0 fg48 (loopN Tryz.f33 0) (f48_F0 F0 S0 j)=some (Ex.normal,S1)∧forget f48_D0 S1=(f48_F0 F0 S0 (j + 1)))
  (he:vexec Tryz.prog X call lf 0 fg48 (loopN Tryz.f33 0) (f48_F0 F0 S0 n)=some (x,S'))
  (hx:x ≠ Ex.normal):vexec Tryz.prog X call lf 0 fg48 (Go.Code.loop (loopN Tryz.f33 0)) (f48_S0 F0)=some (x,S') :=
  loop_runK (by kernel_rfl) (fun j=>(f48_F0 F0 S0 j)) n hn (by show forget f48_D0 (f48_S0 F0)=(f48_F0 F0 S0 0); unfold f48_F0; rw [e0]; show _=_; kernel_rfl) hs he hx
theorem f48_s0_tt (F0:List Feat) (X:Ext) (call:Caller) (lf:Nat) (S0:Nat→List Ob) (i0:Nat) (x11_0_0:ByteArray) (x11_0_1:ByteArray) (r11:List AV) (s15:List Ob) (v15:AV) (s18:List Ob) (n18_0:Int) (v18_1:AV) (s19:List Ob) (v19:AV) (s22:List Ob) (n22_0:Int) (v22_1:AV)
  (h0:decide ((↑i0:Int) < (↑(List.length F0):Int))=true)
  (h1:keep (S0 i0) (indexAddrv Tryz.prog 29 (S0 i0) (lro (List.length F0) 2 (List.flatMap featC F0)) (i6 (↑i0:Int)))=some (AV.eaddr (st x11_0_0::st x11_0_1::r11),S0 i0))
  (h2:decide ((↑i0:Int) > 0)=true)
  (h3:callv X call false 53 [AV.ref 0 0,AV.int IntKind.u8 32] (S0 i0) 0=some (v15,s15))
  (h4:callv X call false 47 [AV.ref 0 0,st x11_0_0] s15 0=some (AV.tup [i6 n18_0,v18_1],s18))
  (h5:callv X call false 53 [AV.ref 0 0,AV.int IntKind.u8 61] s18 0=some (v19,s19))
  (h6:callv X call false 47 [AV.ref 0 0,st x11_0_1] s19 0=some (AV.tup [i6 n22_0,v22_1],s22))
  (e0:(↑(i0 + 1):Int)=w6 ((↑i0:Int) + 1))
  (e1:S0 (i0 + 1)=s22):∃ S1,vexec Tryz.prog X call lf 0 fg48 (loopN Tryz.f33 0) (f48_F0 F0 S0 i0)=some (Ex.normal,S1)∧forget f48_D0 S1=(f48_F0 F0 S0 (i0 + 1)) :=
  ⟨stOf 25 [] [(0,lro (List.length F0) 2 (List.flatMap featC F0)),(2,st (ByteArray.mk #[])),(3,AV.ref 0 0),(4,i6 (↑i0:Int)),(5,AV.eaddr [st x11_0_0,st x11_0_1]),(6,lro (List.length F0) 2 (List.flatMap featC F0)),(7,i6 (↑(List.length F0):Int)),(8,i6 (w6 ((↑i0:Int) + 1))),(9,bo true),(10,i6 (↑i0:Int)),(11,AV.eaddr (st x11_0_0::st x11_0_1::r11)),(12,AV.agg [st x11_0_0,st x11_0_1]),(13,i6 (↑i0:Int)),(14,bo true),(15,v15),(16,AV.eaddr [st x11_0_0,st x11_0_1]),(17,st x11_0_0),(18,AV.tup [i6 n18_0,v18_1]),(19,v19),(20,AV.eaddr [st x11_0_1]),(21,st x11_0_1),(22,AV.tup [i6 n22_0,v22_1]),(23,i6 (w6 ((↑i0:Int) + 1)))] s22,around_sound (ans:=[(1,Ans.b true),(5,Ans.v (AV.eaddr (st x11_0_0::st x11_0_1::r11))),(9,Ans.b true),(12,Ans.c v15 s15),(16,Ans.c (AV.tup [i6 n18_0,v18_1]) s18),(18,Ans.c v19 s19),(22,Ans.c (AV.tup [i6 n22_0,v22_1]) s22)]) (by kernel_rfl) (ai h0 (ai h1 (ai h2 (ai h3 (ai h4 (ai h5 (ai h6 trivial))))))),by unfold f48_F0; rw [e0,e1]; show _=_; kernel_rfl⟩
theorem f48_s0_tf (F0:List Feat) (X:Ext) (call:Caller) (lf:Nat) (S0:Nat→List Ob) (i0:Nat) (x11_0_0:ByteArray) (x11_0_1:ByteArray) (r11:List AV) (s18:List Ob) (n18_0:Int) (v18_1:AV) (s19:List Ob) (v19:AV) (s22:List Ob) (n22_0:Int) (v22_1:AV)
  (h0:decide ((↑i0:Int) < (↑(List.length F0):Int))=true)
  (h1:keep (S0 i0) (indexAddrv Tryz.prog 29 (S0 i0) (lro (List.length F0) 2 (List.flatMap featC F0)) (i6 (↑i0:Int)))=some (AV.eaddr (st x11_0_0::st x11_0_1::r11),S0 i0))
  (h2:decide ((↑i0:Int) > 0)=false)
  (h3:callv X call false 47 [AV.ref 0 0,st x11_0_0] (S0 i0) 0=some (AV.tup [i6 n18_0,v18_1],s18))
  (h4:callv X call false 53 [AV.ref 0 0,AV.int IntKind.u8 61] s18 0=some (v19,s19))
  (h5:callv X call false 47 [AV.ref 0 0,st x11_0_1] s19 0=some (AV.tup [i6 n22_0,v22_1],s22))
  (e0:(↑(i0 + 1):Int)=w6 ((↑i0:Int) + 1))
  (e1:S0 (i0 + 1)=s22):∃ S1,vexec Tryz.prog X call lf 0 fg48 (loopN Tryz.f33 0) (f48_F0 F0 S0 i0)=some (Ex.normal,S1)∧forget f48_D0 S1=(f48_F0 F0 S0 (i0 + 1)) :=
  ⟨stOf 25 [15] [(0,lro (List.length F0) 2 (List.flatMap featC F0)),(2,st (ByteArray.mk #[])),(3,AV.ref 0 0),(4,i6 (↑i0:Int)),(5,AV.eaddr [st x11_0_0,st x11_0_1]),(6,lro (List.length F0) 2 (List.flatMap featC F0)),(7,i6 (↑(List.length F0):Int)),(8,i6 (w6 ((↑i0:Int) + 1))),(9,bo true),(10,i6 (↑i0:Int)),(11,AV.eaddr (st x11_0_0::st x11_0_1::r11)),(12,AV.agg [st x11_0_0,st x11_0_1]),(13,i6 (↑i0:Int)),(14,bo false),(16,AV.eaddr [st x11_0_0,st x11_0_1]),(17,st x11_0_0),(18,AV.tup [i6 n18_0,v18_1]),(19,v19),(20,AV.eaddr [st x11_0_1]),(21,st x11_0_1),(22,AV.tup [i6 n22_0,v22_1]),(23,i6 (w6 ((↑i0:Int) + 1)))] s22,around_sound (ans:=[(1,Ans.b true),(5,Ans.v (AV.eaddr (st x11_0_0::st x11_0_1::r11))),(9,Ans.b false),(14,Ans.c (AV.tup [i6 n18_0,v18_1]) s18),(16,Ans.c v19 s19),(20,Ans.c (AV.tup [i6 n22_0,v22_1]) s22)]) (by kernel_rfl) (ai h0 (ai h1 (ai h2 (ai h3 (ai h4 (ai h5 trivial)))))),by unfold f48_F0; rw [e0,e1]; show _=_; kernel_rfl⟩
def f48_S1 (F0:List Feat) (S0:Nat→List Ob) (i0:Nat):St :=
  stOf 25 [4,5,10,11,12,13,14,15,16,17,18,19,20,21,22,23] [(0,lro (List.length F0) 2 (List.flatMap featC F0)),(2,st (ByteArray.mk #[])),(3,AV.ref 0 0),(6,lro (List.length F0) 2 (List.flatMap featC F0)),(7,i6 (↑(List.length F0):Int)),(8,i6 (↑i0:Int)),(9,bo false)] (S0 i0)
theorem f48_r0_f (F0:List Feat) (X:Ext) (call:Caller) (lf:Nat) (S0:Nat→List Ob) (i0:Nat)
  (h0:decide ((↑i0:Int) < (↑(List.length F0):Int))=false):vexec Tryz.prog X call lf 0 fg48 (loopN Tryz.f33 0) (f48_F0 F0 S0 i0)=some (Ex.exit 0,(f48_S1 F0 S0 i0)) :=
  around_sound (ans:=[(1,Ans.b false)]) (by kernel_rfl) (ai h0 trivial)
theorem f48_plf (F0:List Feat) (X:Ext) (call:Caller) (lf:Nat) (S0:Nat→List Ob) (i0:Nat) (s24:List Ob) (x24:ByteArray)
  (h0:vexec Tryz.prog X call lf 0 fg48 (Code.loop (loopN Tryz.f33 0)) (f48_S0 F0)=some (Ex.exit 0,(f48_S1 F0 S0 i0)))
  (h1:callv X call false 48 [AV.ref 0 0] (S0 i0) 0=some (st x24,s24)):vbody Tryz.prog X call lf fg48 Tryz.f33 (codeOf Tryz.f33) [featsV F0] [] 0=some (st x24,s24) :=
  along_sound (ans:=[(8,Ans.l (Ex.exit 0) (f48_S1 F0 S0 i0)),(10,Ans.c (st x24) s24)]) (by kernel_rfl) (ai h0 (ai h1 trivial))
def f48_o0 (F0:List Feat) (i0:Nat):Nat :=
  (match decide ((↑i0:Int) < (↑(List.length F0):Int)) with
  | true => (match decide ((↑i0 : Int) > 0) with
    | true=>0
    | false=>0)
  | false=>1)
theorem f48_B0 (F0:List Feat) (X:Ext) (call:Caller) (lf:Nat) (S0:Nat→List Ob) (i0:Nat) (x11_0_0:ByteArray) (x11_0_1:ByteArray) (r11:List AV) (s15:List Ob) (v15:AV) (s18:List Ob) (n18_0:Int) (v18_1:AV) (s19:List Ob) (v19:AV) (s22:List Ob) (n22_0:Int) (v22_1:AV) (s18_v1:List Ob) (n18_0_v1:Int) (v18_1_v1:AV) (s19_v1:List Ob) (v19_v1:AV) (s22_v1:List Ob) (n22_0_v1:Int) (v22_1_v1:AV)
  (g0:decide ((↑i0:Int) < (↑(List.length F0):Int))=true→keep (S0 i0) (indexAddrv Tryz.prog 29 (S0 i0) (lro (List.length F0) 2 (List.flatMap featC F0)) (i6 (↑i0:Int)))=some (AV.eaddr (st x11_0_0::st x11_0_1::r11),S0 i0))
  (g1:decide ((↑i0:Int) < (↑(List.length F0):Int))=true→decide ((↑i0:Int) > 0)=true→callv X call false 53 [AV.ref 0 0,AV.int IntKind.u8 32] (S0 i0) 0=some (v15,s15))
  (g2:decide ((↑i0:Int) < (↑(List.length F0):Int))=true→decide ((↑i0:Int) > 0)=true→callv X call false 47 [AV.ref 0 0,st x11_0_0] s15 0=some (AV.tup [i6 n18_0,v18_1],s18))
  (g3:decide ((↑i0:Int) < (↑(List.length F0):Int))=true→decide ((↑i0:Int) > 0)=true→callv X call false 53 [AV.ref 0 0,AV.int IntKind.u8 61] s18 0=some (v19,s19))
  (g4:decide ((↑i0:Int) < (↑(List.length F0):Int))=true→decide ((↑i0:Int) > 0)=true→callv X call false 47 [AV.ref 0 0,st x11_0_1] s19 0=some (AV.tup [i6 n22_0,v22_1],s22))
  (g5:decide ((↑i0:Int) < (↑(List.length F0):Int))=true→decide ((↑i0:Int) > 0)=false→callv X call false 47 [AV.ref 0 0,st x11_0_0] (S0 i0) 0=some (AV.tup [i6 n18_0_v1,v18_1_v1],s18_v1))
  (g6:decide ((↑i0:Int) < (↑(List.length F0):Int))=true→decide ((↑i0:Int) > 0)=false→callv X call false 53 [AV.ref 0 0,AV.int IntKind.u8 61] s18_v1 0=some (v19_v1,s19_v1))
  (g7:decide ((↑i0:Int) < (↑(List.length F0):Int))=true→decide ((↑i0:Int) > 0)=false→callv X call false 47 [AV.ref 0 0,st x11_0_1] s19_v1 0=some (AV.tup [i6 n22_0_v1,v22_1_v1],s22_v1))
  (e0:decide ((↑i0:Int) < (↑(List.length F0):Int))=true→(↑(i0 + 1):Int)=w6 ((↑i0:Int) + 1))
  (e1:decide ((↑i0:Int) < (↑(List.length F0):Int))=true→S0 (i0 + 1)=s22)
  (e2 : decide ((↑i0 : Int) < (↑(List.length F0) : Int)) = true → S0 (i0 + 1) = s22_v1) :
    (f48_o0 F0 i0=0→∃ S1,vexec Tryz.prog X call lf 0 fg48 (loopN Tryz.f33 0) (f48_F0 F0 S0 i0)=some (Ex.normal,S1)∧forget f48_D0 S1=(f48_F0 F0 S0 (i0 + 1)))∧(f48_o0 F0 i0=1→vexec Tryz.prog X call lf 0 fg48 (loopN Tryz.f33 0) (f48_F0 F0 S0 i0)=some (Ex.exit 0,(f48_S1 F0 S0 i0))):=by
  unfold f48_o0
  cases c0:decide ((↑i0:Int) < (↑(List.length F0):Int)) with
  | true =>
    cases c1:decide ((↑i0:Int) > 0) with
    | true =>
      exact ⟨fun _=>f48_s0_tt F0 X call lf S0 i0 x11_0_0 x11_0_1 r11 s15 v15 s18 n18_0 v18_1 s19 v19 s22 n22_0 v22_1 c0 (g0 c0) c1 (g1 c0 c1) (g2 c0 c1) (g3 c0 c1) (g4 c0 c1) (e0 c0) (e1 c0),fun h=>nq h⟩
    | false =>
      exact ⟨fun _=>f48_s0_tf F0 X call lf S0 i0 x11_0_0 x11_0_1 r11 s18_v1 n18_0_v1 v18_1_v1 s19_v1 v19_v1 s22_v1 n22_0_v1 v22_1_v1 c0 (g0 c0) c1 (g5 c0 c1) (g6 c0 c1) (g7 c0 c1) (e0 c0) (e2 c0),fun h=>nq h⟩
  | false =>
    exact ⟨fun h=>nq h,fun _=>f48_r0_f F0 X call lf S0 i0 c0⟩
theorem f48_X0 (F0:List Feat) (X:Ext) (call:Caller) (lf:Nat) (S0:Nat→List Ob) (i0:Nat) (x11_0_0:ByteArray) (x11_0_1:ByteArray) (r11:List AV) (s15:List Ob) (v15:AV) (s18:List Ob) (n18_0:Int) (v18_1:AV) (s19:List Ob) (v19:AV) (s22:List Ob) (n22_0:Int) (v22_1:AV) (s18_v1:List Ob) (n18_0_v1:Int) (v18_1_v1:AV) (s19_v1:List Ob) (v19_v1:AV) (s22_v1:List Ob) (n22_0_v1:Int) (v22_1_v1:AV)
  (g0:decide ((↑i0:Int) < (↑(List.length F0):Int))=true→keep (S0 i0) (indexAddrv Tryz.prog 29 (S0 i0) (lro (List.length F0) 2 (List.flatMap featC F0)) (i6 (↑i0:Int)))=some (AV.eaddr (st x11_0_0::st x11_0_1::r11),S0 i0))
  (g1:decide ((↑i0:Int) < (↑(List.length F0):Int))=true→decide ((↑i0:Int) > 0)=true→callv X call false 53 [AV.ref 0 0,AV.int IntKind.u8 32] (S0 i0) 0=some (v15,s15))
  (g2:decide ((↑i0:Int) < (↑(List.length F0):Int))=true→decide ((↑i0:Int) > 0)=true→callv X call false 47 [AV.ref 0 0,st x11_0_0] s15 0=some (AV.tup [i6 n18_0,v18_1],s18))
  (g3:decide ((↑i0:Int) < (↑(List.length F0):Int))=true→decide ((↑i0:Int) > 0)=true→callv X call false 53 [AV.ref 0 0,AV.int IntKind.u8 61] s18 0=some (v19,s19))
  (g4:decide ((↑i0:Int) < (↑(List.length F0):Int))=true→decide ((↑i0:Int) > 0)=true→callv X call false 47 [AV.ref 0 0,st x11_0_1] s19 0=some (AV.tup [i6 n22_0,v22_1],s22))
  (g5:decide ((↑i0:Int) < (↑(List.length F0):Int))=true→decide ((↑i0:Int) > 0)=false→callv X call false 47 [AV.ref 0 0,st x11_0_0] (S0 i0) 0=some (AV.tup [i6 n18_0_v1,v18_1_v1],s18_v1))
  (g6:decide ((↑i0:Int) < (↑(List.length F0):Int))=true→decide ((↑i0:Int) > 0)=false→callv X call false 53 [AV.ref 0 0,AV.int IntKind.u8 61] s18_v1 0=some (v19_v1,s19_v1))
  (g7 : decide ((↑i0 : Int) < (↑(List.length F0) : Int)) = true → decide ((↑i0 : Int) > 0) = false → callv X call false 47 [AV.ref 0 0, st x11_0_1] s19_v1 0 = some (AV.tup [i6 n22_0_v1, v22_1_v1], s22_v1)) :
    (f48_o0 F0 i0=1→vexec Tryz.prog X call lf 0 fg48 (loopN Tryz.f33 0) (f48_F0 F0 S0 i0)=some (Ex.exit 0,(f48_S1 F0 S0 i0))):=by
  unfold f48_o0
  cases c0:decide ((↑i0:Int) < (↑(List.length F0):Int)) with
  | true =>
    cases c1:decide ((↑i0:Int) > 0) with
    | true =>
      exact fun h=>nq h
    | false =>
      exact fun h=>nq h
  | false =>
    exact fun _=>f48_r0_f F0 X call lf S0 i0 c0
theorem f48_M (F0:List Feat) (S0:Nat→List Ob) (X:Ext) (call:Caller) (lf:Nat) (n:Nat) (x11_0_0:Nat→ByteArray) (x11_0_1:Nat→ByteArray) (r11:Nat→List AV) (s15:Nat→List Ob) (v15:Nat→AV) (s18:Nat→List Ob) (n18_0:Nat→Int) (v18_1:Nat→AV) (s19:Nat→List Ob) (v19:Nat→AV) (s22:Nat→List Ob) (n22_0:Nat→Int) (v22_1:Nat→AV) (s18_v1:Nat→List Ob) (n18_0_v1:Nat→Int) (v18_1_v1:Nat→AV) (s19_v1:Nat→List Ob) (v19_v1:Nat→AV) (s22_v1:Nat→List Ob) (n22_0_v1:Nat→Int) (v22_1_v1:Nat→AV)
  (z0:S0 0=[Ob.cells [AV.ptag 76,AV.list LK.nil 0 0 []]])
  (hn:n < lf)
  (g0:∀ i0,i0 ≤ n→decide ((↑i0:Int) < (↑(List.length F0):Int))=true→keep (S0 i0) (indexAddrv Tryz.prog 29 (S0 i0) (lro (List.length F0) 2 (List.flatMap featC F0)) (i6 (↑i0:Int)))=some (AV.eaddr (st (x11_0_0 i0)::st (x11_0_1 i0)::(r11 i0)),S0 i0))
  (g1:∀ i0,i0 ≤ n→decide ((↑i0:Int) < (↑(List.length F0):Int))=true→decide ((↑i0:Int) > 0)=true→callv X call false 53 [AV.ref 0 0,AV.int IntKind.u8 32] (S0 i0) 0=some ((v15 i0),(s15 i0)))
  (g2:∀ i0,i0 ≤ n→decide ((↑i0:Int) < (↑(List.length F0):Int))=true→decide ((↑i0:Int) > 0)=true→callv X call false 47 [AV.ref 0 0,st (x11_0_0 i0)] (s15 i0) 0=some (AV.tup [i6 (n18_0 i0),(v18_1 i0)],(s18 i0)))
  (g3:∀ i0,i0 ≤ n→decide ((↑i0:Int) < (↑(List.length F0):Int))=true→decide ((↑i0:Int) > 0)=true→callv X call false 53 [AV.ref 0 0,AV.int IntKind.u8 61] (s18 i0) 0=some ((v19 i0),(s19 i0)))
  (g4:∀ i0,i0 ≤ n→decide ((↑i0:Int) < (↑(List.length F0):Int))=true→decide ((↑i0:Int) > 0)=true→callv X call false 47 [AV.ref 0 0,st (x11_0_1 i0)] (s19 i0) 0=some (AV.tup [i6 (n22_0 i0),(v22_1 i0)],(s22 i0)))
  (g5:∀ i0,i0 ≤ n→decide ((↑i0:Int) < (↑(List.length F0):Int))=true→decide ((↑i0:Int) > 0)=false→callv X call false 47 [AV.ref 0 0,st (x11_0_0 i0)] (S0 i0) 0=some (AV.tup [i6 (n18_0_v1 i0),(v18_1_v1 i0)],(s18_v1 i0)))
  (g6:∀ i0,i0 ≤ n→decide ((↑i0:Int) < (↑(List.length F0):Int))=true→decide ((↑i0:Int) > 0)=false→callv X call false 53 [AV.ref 0 0,AV.int IntKind.u8 61] (s18_v1 i0) 0=some ((v19_v1 i0),(s19_v1 i0)))
  (g7:∀ i0,i0 ≤ n→decide ((↑i0:Int) < (↑(List.length F0):Int))=true→decide ((↑i0:Int) > 0)=false→callv X call false 47 [AV.ref 0 0,st (x11_0_1 i0)] (s19_v1 i0) 0=some (AV.tup [i6 (n22_0_v1 i0),(v22_1_v1 i0)],(s22_v1 i0)))
  (e0:∀ i0,i0 < n→decide ((↑i0:Int) < (↑(List.length F0):Int))=true→(↑(i0 + 1):Int)=w6 ((↑i0:Int) + 1))
  (e1:∀ i0,i0 < n→decide ((↑i0:Int) < (↑(List.length F0):Int))=true→S0 (i0 + 1)=(s22 i0))
  (e2:∀ i0,i0 < n→decide ((↑i0:Int) < (↑(List.length F0):Int))=true→S0 (i0 + 1)=(s22_v1 i0))
  (hz : ∀ j, j < n → f48_o0 F0 j = 0) :
    (f48_o0 F0 n=1→∀ (s24:List Ob),∀ (x24:ByteArray),callv X call false 48 [AV.ref 0 0] (S0 n) 0=some (st x24,s24)→vbody Tryz.prog X call lf fg48 Tryz.f33 (codeOf Tryz.f33) [featsV F0] [] 0=some (st x24,s24)):=by
  have key:∀ j,j < n→_:=fun j hj=>(f48_B0 F0 X call lf S0 j (x11_0_0 j) (x11_0_1 j) (r11 j) (s15 j) (v15 j) (s18 j) (n18_0 j) (v18_1 j) (s19 j) (v19 j) (s22 j) (n22_0 j) (v22_1 j) (s18_v1 j) (n18_0_v1 j) (v18_1_v1 j) (s19_v1 j) (v19_v1 j) (s22_v1 j) (n22_0_v1 j) (v22_1_v1 j) (g0 j (Nat.le_of_lt hj)) (g1 j (Nat.le_of_lt hj)) (g2 j (Nat.le_of_lt hj)) (g3 j (Nat.le_of_lt hj)) (g4 j (Nat.le_of_lt hj)) (g5 j (Nat.le_of_lt hj)) (g6 j (Nat.le_of_lt hj)) (g7 j (Nat.le_of_lt hj)) (e0 j hj) (e1 j hj) (e2 j hj)).1 (hz j hj)
  have kn:=f48_X0 F0 X call lf S0 n (x11_0_0 n) (x11_0_1 n) (r11 n) (s15 n) (v15 n) (s18 n) (n18_0 n) (v18_1 n) (s19 n) (v19 n) (s22 n) (n22_0 n) (v22_1 n) (s18_v1 n) (n18_0_v1 n) (v18_1_v1 n) (s19_v1 n) (v19_v1 n) (s22_v1 n) (n22_0_v1 n) (v22_1_v1 n) (g0 n (Nat.le_refl n)) (g1 n (Nat.le_refl n)) (g2 n (Nat.le_refl n)) (g3 n (Nat.le_refl n)) (g4 n (Nat.le_refl n)) (g5 n (Nat.le_refl n)) (g6 n (Nat.le_refl n)) (g7 n (Nat.le_refl n))
  exact fun hk s24 x24 q0=>f48_plf F0 X call lf S0 n s24 x24 (f48_L0 F0 S0 X call lf n _ _ z0 hn key (kn hk) (by simp)) q0
end Go.Proofs.Lex
end
/- Lexicon: the functions that are walked; Clip, copied. -/
section
open Go Go.Vm Go.Proofs
namespace Go.Proofs.Lex
/-- alphabet.indices: each letter's box is read by value. -/
def fg92:Nat→List Nat
  | 4=>[14,15,16,17]
  | 5=>[18,19,20,21,22,23,24,25,26]
  | 7=>[27,28,29,30]
  | 8=>[31]
  | 5004=>[1]
  | _=>[]
def fgX (f:FuncId):Nat→List Nat:=if f=28 then fg40 else if f=9064 then fg64 else if f=33 then fg48 else if f=36 then fg92 else noFg
/-- Which functions are walked. -/
def lexW (f:FuncId):Bool:=Nat.blt 2 f && Nat.blt f 106 && !(f == 34 || f == 21 || f == 23 || f == 45 || f == 30 || f == 37 || f == 48 || f == 64)
structure XL (X:Ext):Prop where
  ok:∀ f,lexW f=true→X.pureFn f=none∧X.stFn f=none∧X.adopt f=false
  dom:∀ f,Nat.blt 2 f=true→Nat.blt f 106=true→X.dom f=true
  fg:∀ f,X.fg f=fgX f
  chk:X.pureFn 64=none∧X.stFn 64=some (bldCheck 76)
  str:X.pureFn 48=none∧X.stFn 48=some (bldString 5)
section
variable [Fixed] {X:Ext}
theorem clip87 (hX:ExtOk Tryz.prog X) (hL:XL X) (F:List Feat):CallAt Tryz.prog 66 [aFs.enc F] [] 0 (aFs.enc F) []:=by
  have hC:CallOk Tryz.prog (callerOf fun _ _=>none):=callerOf_ok SpecOk.none'
  have h:=f87_p F X (callerOf fun _ _=>none) 0 _ _ _ _ _ (slc_all Tryz.underlying29 cells57 info57 (flat_len featC_len F) (owns_feats F)) (vend1_plain (by simp only [AV.ownsAll,AV.owns,owns_feats,List.append_nil]))
  refine run_res (B:=aFs) (y:=F) hX hC (hL.dom 66 rfl rfl) Tryz.func66 (by kernel_rfl) h ?_
  have:=aFs.de F
  exact this
def T0:Go.Vm.Spec:=Go.Vm.Spec.on (Go.Vm.Spec.on (fun _ _=>none) 66 (sp1 aFs fun F=>some (aFs.enc F))) 67 (sp1 aFs fun F=>if F.length * 33 ≤ big then some (aFs.enc F) else none)
theorem T0_ok (hX:ExtOk Tryz.prog X) (hL:XL X):SpecOk Tryz.prog T0:=by
  refine SpecOk.on1 (SpecOk.on1 SpecOk.none' fun F r h => ?_) fun F r h => ?_
  · simp only [Option.some.injEq] at h
    subst h
    exact clip87 hX hL F
  · split at h
    · rename_i hF
      simp only [Option.some.injEq] at h
      subst h
      exact clone88 hX hF
    · cases h
/-- A lexeme that a machine can bear. -/
abbrev okL (x:Lexm):Prop:=x.feats.length * 33 ≤ big
abbrev okLs (L:List Lexm):Prop:=L.length * 89 ≤ big∧∀ x ∈ L,okL x
theorem copied61 (hX:ExtOk Tryz.prog X) (hL:XL X) {x:Lexm} (h:okL x):CallAt Tryz.prog 49 [aL.enc x] [] 0 (aL.enc x) []:=by
  have hC:CallOk Tryz.prog (callerOf T0):=callerOf_ok (T0_ok hX hL)
  have h8 : T0 67 [aFs.enc x.feats] = some (aFs.enc x.feats) := by
    show sp1 aFs (fun F=>if F.length * 33 ≤ big then some (aFs.enc F) else none) [aFs.enc x.feats]=_
    rw [sp1_at (aFs.de _),if_pos h]
  have h7 : T0 66 [aFs.enc x.feats] = some (aFs.enc x.feats) := by
    show sp1 aFs (fun F=>some (aFs.enc F)) [aFs.enc x.feats]=_
    rw [sp1_at (aFs.de _)]
  obtain ⟨a1,a2,a3⟩:=hL.ok 67 rfl
  obtain ⟨b1,b2,b3⟩:=hL.ok 66 rfl
  have hlt:AV.ltAll 0 [aFs.enc x.feats]=true:=by simp only [AV.ltAll,aFs.lt,Bool.and_self]
  have hv:=f61_p x X (callerOf T0) 0 _ _ _ _ (call_on (B:=aFs) a1 a2 a3 hlt h8) (call_on (B:=aFs) b1 b2 b3 hlt h7) (vend1_plain (by show AV.ownsAll (lexC x) ++ []=[]; rw [owns_lex]; rfl))
  exact run_res (B:=aL) (y:=x) hX hC (hL.dom 49 rfl rfl) Tryz.func49 (by kernel_rfl) hv (aL.de x)
def T1:Go.Vm.Spec:=Go.Vm.Spec.on T0 49 (sp1 aL fun x=>if okL x then some (aL.enc x) else none)
theorem T1_ok (hX:ExtOk Tryz.prog X) (hL:XL X):SpecOk Tryz.prog T1:=by
  refine SpecOk.on1 (T0_ok hX hL) fun x r h => ?_
  split at h
  · rename_i hx
    simp only [Option.some.injEq] at h
    subst h
    exact copied61 hX hL hx
  · cases h
end
end Go.Proofs.Lex
end
/- Lexicon: the library's functions, as functions that are not walked. -/
section
open Go Go.Vm Go.Proofs
open Go.RowKit (Below)
namespace Go.Proofs.Lex
def lim:Nat:=4294967281
def validFn:List AV→Option AV
  | [.str s]=>if s.size ≤ 9223372036854775807 then some (.bool (Lib.validD s.data.toList)) else none
  | _=>none
def cutFn:List AV→Option AV
  | [.str s,.str sep]=>if s.size < lim then some (.tup [.str ⟨(Lib.cut s.data.toList sep.data.toList).1.toArray⟩,.str ⟨(Lib.cut s.data.toList sep.data.toList).2.1.toArray⟩,.bool (Lib.cut s.data.toList sep.data.toList).2.2]) else none
  | _=>none
def asciiB (s:ByteArray):Bool:=s.data.toList.all fun b=>decide (b.toNat < 128)
def anyFn:List AV→Option AV
  | [.str s,.str cs]=>if s.size < lim∧cs=⟨#[32,10]⟩ then some (.bool (Lib.containsAny s.data.toList cs.data.toList)) else none
  | _=>none
def joinB (l:List ByteArray) (sep:ByteArray):List UInt8:=Lib.join (l.map (·.data.toList)) sep.data.toList
section
variable [Fixed]
theorem two_str {C:Ctx} {w:World} {s t:ByteArray} {us:List Value} (h:RepAll C w [.str s,.str t] us):us=[.string s,.string t]:=by
  match us,h with
  | [],h=>simp only [RepAll] at h
  | [_],h=>simp only [RepAll,and_false] at h
  | [u,v],h=>simp only [RepAll,Rep,and_true] at h; rw [h.1,h.2]
  | _::_::_::_,h=>simp only [RepAll,and_false] at h
/-- What a function that is not walked answers. -/
def PureAt (f:FuncId) (g:List AV→Option AV):Prop:=∀ vs r,AV.ltAll 0 vs=true→g vs=some r→∀ (C:Ctx) (w:World) (us:List Value),SOk C w→RepAll C w vs us →
    Calls Tryz.prog f us.toArray w fun e w' => ∃ u,e = .returned u∧w'.os=w.os∧w'.tape=w.tape∧w'.output=w.output∧w.heap.size ≤ w'.heap.size∧(∀ x,x < w.heap.size→w'.heap[x]? = w.heap[x]?)∧Rep C w' r u
theorem pure93 (hT:∀ (C:Ctx) (w:World),SOk C w→Lib.Utf8Tabs 0 1 w):PureAt 37 validFn:=by
  intro vs r hlt hr C w us hs hrep
  clear hlt
  unfold validFn at hr
  split at hr
  · rename_i s
    split at hr
    · rename_i hsz
      simp only [Option.some.injEq] at hr
      subst hr
      have e : us = [.string s] := by
        match us,hrep with
        | [],h=>simp only [RepAll] at h
        | [u],h=>simp only [RepAll,Rep,and_true] at h; rw [h]
        | _::_::_,h=>simp only [RepAll,and_false] at h
      subst e
      refine Calls.mono (Any.utf8_ValidString Tryz.laysValid s w hsz (hT C w hs)) ?_
      rintro e w' ⟨rfl,hb⟩
      exact ⟨_,rfl,hb.os,hb.tape,hb.output,hb.size,hb.block,rfl⟩
    · cases hr
  · cases hr
theorem pure84 (hM:∀ (C:Ctx) (w:World),SOk C w→∃ m,w.cell? ⟨2,0,none⟩=some (.int .i64 m)):PureAt 45 cutFn:=by
  intro vs r hlt hr C w us hs hrep
  clear hlt
  unfold cutFn at hr
  split at hr
  · rename_i s sep
    split at hr
    · rename_i hsz
      simp only [Option.some.injEq] at hr
      subst hr
      have e:=two_str hrep
      subst e
      obtain ⟨m,hm⟩:=hM C w hs
      refine Calls.mono (Any.strings_Cut Tryz.laysCut s sep m w hsz hm) ?_
      rintro e w' ⟨rfl,n,rfl⟩
      refine ⟨_,rfl,rfl,rfl,rfl,Nat.le_refl _,fun _ _=>rfl,?_⟩
      simp only [Rep]
      refine ⟨_,rfl,?_⟩
      simp only [RepAll,Rep,and_self]
    · cases hr
  · cases hr
theorem pure44:PureAt 30 anyFn:=by
  intro vs r hlt hr C w us hs hrep
  clear hlt
  unfold anyFn at hr
  split at hr
  · rename_i s cs
    split at hr
    · rename_i hc
      simp only [Option.some.injEq] at hr
      subst hr
      have e:=two_str hrep
      subst e
      obtain ⟨hc1,rfl⟩:=hc
      refine Calls.mono (containsAny_bn s w hc1) ?_
      rintro e w' ⟨rfl,hb⟩
      exact ⟨_,rfl,hb.os,hb.tape,hb.output,hb.size,hb.block,by simp only [Rep]⟩
    · cases hr
  · cases hr
theorem plainA:Plain Value.string AV.str:=⟨fun C w x=>by simp only [Rep],fun C w x u h=>by simpa only [Rep] using h,fun _=>rfl⟩
theorem rep_row {C:Ctx} {w:World} {l:List ByteArray} {u:Value} (hr:Rep C w (Go.Vm.strs l) u) :
    ∃ p c,u = .slice p l.length c∧l.length ≤ c∧(0 < l.length→∃ bk o,p=some ⟨bk,o,none⟩∧bk < w.heap.size∧∀ (j:Nat) x,l[j]? = some x→w.cell? ⟨bk,o + j,none⟩=some (.string x)):=by
  unfold Go.Vm.strs at hr
  simp only [Rep] at hr
  obtain ⟨_,_,a,cap,rfl,h3,_,_,_,h7⟩:=hr
  refine ⟨a,cap,rfl,h3,fun h0 => ?_⟩
  obtain ⟨b,o,us,rfl,hb,_,hh,hrep⟩:=h7 h0
  refine ⟨b,o,rfl,hb,fun j x hx => ?_⟩
  have hu:us=l.map Value.string:=plainA.allBack l us hrep
  subst hu
  exact hh j _ (by rw [List.getElem?_map,hx]; rfl)
def joinFn:List AV→Option AV
  | [a, .str sep] => match aSs.dec a with
    | some l=>if l.length ≤ 140737488355328∧(joinB l sep).length ≤ 140737488355328 then some (.str ⟨(joinB l sep).toArray⟩) else none
    | none=>none
  | _=>none
theorem row_str {C:Ctx} {w:World} {a:AV} {t:ByteArray} {us:List Value} (h:RepAll C w [a,.str t] us):∃ u,us=[u,.string t]∧Rep C w a u:=by
  match us,h with
  | [],h=>simp only [RepAll] at h
  | [_],h=>simp only [RepAll,and_false] at h
  | [u,v],h=>simp only [RepAll,Rep,and_true] at h; exact ⟨u,by rw [h.2],h.1⟩
  | _::_::_::_,h=>simp only [RepAll,and_false] at h
theorem pure55:PureAt 23 joinFn:=by
  intro vs r hlt hr C w us hs hrep
  clear hlt
  unfold joinFn at hr
  split at hr
  · rename_i a sep
    split at hr
    · rename_i l hl
      split at hr
      · rename_i hc
        simp only [Option.some.injEq] at hr
        subst hr
        obtain ⟨u,rfl,hu⟩:=row_str hrep
        have hu:=aSs.rep C w a u l hl hu
        rw [aSs_enc] at hu
        obtain ⟨p,c,rfl,h3,h4⟩:=rep_row hu
        by_cases h0:0 < l.length
        · obtain ⟨bk, o, rfl, hb, hcells⟩ := h4 h0
          refine Calls.mono (Any.strings_Join Tryz.laysJoin Tryz.joinExtra bk o c l sep w hcells hb hc.1 h3 hc.2) ?_
          rintro e w' ⟨rfl,hb⟩
          exact ⟨_,rfl,hb.os,hb.tape,hb.output,hb.size,fun x hx=>hb.block x hx,by simp only [Rep]; rfl⟩
        · have : l = [] := List.eq_nil_of_length_eq_zero (by omega)
          subst this
          refine Calls.mono (Any.strings_Join_none Tryz.laysJoin Tryz.joinExtra p c sep w) ?_
          rintro e w' ⟨rfl,rfl⟩
          exact ⟨_,rfl,rfl,rfl,rfl,Nat.le_refl _,fun _ _=>rfl,by simp only [Rep]; rfl⟩
      · cases hr
    · cases hr
  · cases hr
def splitL (s sep:ByteArray):List ByteArray:=Lib.splitB sep 0 (Lib.countB s sep) s
def splitFn:List AV→Option AV
  | [.str s,.str sep]=>if s.size < lim∧1 ≤ sep.size then some (Go.Vm.strs (splitL s sep)) else none
  | _=>none
theorem info9s:(Tryz.prog.info? 9).map (fun i=>(i.zero,i.size,i.bytes))=some (some (.string ByteArray.empty),1,16):=by kernel_rfl
theorem mut_fresh {C:Ctx} {w:World} (hs:SOk C w) : ¬ Mut C w.heap.size:=by
  rintro (h | ⟨id,o,h,hl,e⟩)
  · exact absurd (hs.fb _ h) (by omega)
  · have := hs.blk id o h hl
    omega
theorem pure53 (hM:∀ (C:Ctx) (w:World),SOk C w→∃ m,w.cell? ⟨2,0,none⟩=some (.int .i64 m)):PureAt 21 splitFn:=by
  intro vs r hlt hr C w us hs hrep
  clear hlt
  unfold splitFn at hr
  split at hr
  · rename_i s sep
    split at hr
    · rename_i hc
      simp only [Option.some.injEq] at hr
      subst hr
      have e:=two_str hrep
      subst e
      obtain ⟨m,hm⟩:=hM C w hs
      have hlen:(splitL s sep).length=Lib.countB s sep + 1:=Lib.splitB_all sep hc.2 0 _ s rfl
      refine Calls.mono (Any.strings_Split Tryz.laysSplit info9s s sep m w hc.1 hm hc.2) ?_
      rintro e w' ⟨rfl,rfl⟩
      have hsz:(w.alloc (.cells ((splitL s sep).map Value.string).toArray 9)).heap.size=w.heap.size + 1:=Array.size_push _
      have hnew:(w.alloc (.cells ((splitL s sep).map Value.string).toArray 9)).heap[w.heap.size]? = some (.cells ((splitL s sep).map Value.string).toArray 9):=Array.getElem?_push_size
      have hle:=Lib.countB_le sep hc.2 s.size s (Nat.le_refl _)
      have hlim:s.size < 4294967281:=hc.1
      refine ⟨_,rfl,rfl,rfl,rfl,Nat.le_trans (Nat.le_succ _) (Nat.le_of_eq hsz.symm),fun x hx=>Array.getElem?_push_lt hx |>.trans (Array.getElem?_eq_getElem hx).symm,?_⟩
      rw [← hlen]
      unfold Go.Vm.strs
      simp only [Rep]
      refine ⟨by simp,one_strs _,some ⟨w.heap.size,0,none⟩,_,rfl,Nat.le_refl _,?_,by simp,by simp,fun _ => ?_⟩
      · show _ ≤ maxLen
        rw [hlen]
        unfold maxLen
        omega
      · refine ⟨w.heap.size, 0, (splitL s sep).map Value.string, rfl, Nat.lt_of_lt_of_le (Nat.lt_succ_self _) (Nat.le_of_eq hsz.symm), mut_fresh hs, ?_, ?_⟩
        · intro i x hi
          show World.cell? _ _=_
          unfold World.cell?
          simp only
          rw [show (w.alloc (.cells ((Lib.splitB sep 0 (Lib.countB s sep) s).map Value.string).toArray (Tryz.laysSplit_ren.t 9))).heap[w.heap.size]? = some (.cells ((splitL s sep).map Value.string).toArray 9) from hnew]
          simpa using hi
        · exact plainA.all C _ (splitL s sep)
    · cases hr
  · cases hr
end
end Go.Proofs.Lex
end
/- Lexicon: Category, Stem, With (printed) -/
section
open Go Go.Vm Go.Proofs
namespace Go.Proofs.Lex
theorem f17_p (L0:List Lexm) (s0:ByteArray) (v7:AV) (X:Ext) (call:Caller) (lf:Nat) (rE:AV) (sE:List Ob)
  (h0:callv X call false 28 [lro (List.length L0) 5 (List.flatMap lexC L0),AV.clo 29 [AV.ref 0 0]] [Ob.cells [st s0]] 0=some (v7,[Ob.cells [st s0]]))
  (h1:vend1 [] 0 [Ob.cells [st s0]] [v7]=some (rE,sE)):vbody Tryz.prog X call lf noFg Tryz.f11 (codeOf Tryz.f11) [lexsV L0,st s0] [] 0=some (rE,sE) :=
  along_sound (ans:=[(6,Ans.v v7),(8,Ans.c rE sE)]) (by kernel_rfl) (ai h0 (ai h1 trivial))
end Go.Proofs.Lex
end
/- Lexicon: what selects lexemes. -/
section
open Go Go.Vm Go.Proofs
namespace Go.Proofs.Lex
section
variable [Fixed] {X:Ext} {lf k:Nat}
theorem thaw_ref {σ:List Ob} {v:AV} (h:AV.owns v=[]):AV.thawAll σ [v,.ref 0 0]=some [v,.ref 0 0]:=thawAll_id _ (by simp only [AV.ownsAll,AV.owns,h,List.append_nil])
theorem take_more {o:Ob} {τ σ:List Ob}:((o::τ) ++ σ).take (o::τ).length=o::τ:=by simp
/-- A closure over lexemes, called. -/
theorem clo_call (hL:XL X) {T:Go.Vm.Spec} {G:Nat} {fn:Func} {c:List AV} {x:Lexm} {τ:List Ob} {b:Bool} (hw:lexW G=true) (h1:Nat.blt 2 G=true) (h2:Nat.blt G 106=true) (hf:Tryz.prog.funcs[G]? = some fn) (hb:fn.body=some (codeOf fn))
    (hs:ltObs (τ.length + 1) (Ob.cells c::τ)=true)
    (h:∃ σ,vbody Tryz.prog X (vcallL Tryz.prog X T lf k) lf (fgX G) fn (codeOf fn) [.agg (lexC x),.ref 0 0] (Ob.cells c::τ) 0=some (bo b,(Ob.cells c::τ) ++ σ)) :
    callv X (vcallL Tryz.prog X T lf (k + 1)) false G [.agg (lexC x),.ref 0 0] (Ob.cells c::τ) 0=some (bo b,Ob.cells c::τ):=by
  obtain ⟨σ,h⟩:=h
  obtain ⟨a1,a2,-⟩:=hL.ok G hw
  have hw:=vcallL_walk (T:=T) (hL.dom G h1 h2) hf hb (by rw [hL.fg]; exact h)
  have:=callv_ref (X:=X) a1 a2 (by simp [AV.ltAll,AV.lt,show Nat.blt 0 0=false from rfl]) (thaw_ref (by simp only [AV.owns]; exact owns_lex x)) hw (by rfl) (by rw [take_more]; exact hs)
  rw [take_more] at this
  exact this
theorem T1_61 (x:Lexm) (h:okL x):T1 49 [aL.enc x]=some (aL.enc x):=by
  show sp1 aL (fun x=>if okL x then some (aL.enc x) else none) [aL.enc x]=_
  rw [sp1_at (aL.de _),if_pos h]
/-- lexicon.filter, called with a closure. -/
theorem sel40 (hL:XL X) {T:Go.Vm.Spec} (hT:∀ x,okL x→T 49 [aL.enc x]=some (aL.enc x)) {L:List Lexm} {G:Nat} {fn:Func} {c:List AV} {p:Lexm→Bool} (hok:okLs L) (hlf:L.length < lf) (hc:AV.ltAll 0 c=true) (hw:lexW G=true) (h1:Nat.blt 2 G=true) (h2:Nat.blt G 106=true) (hf:Tryz.prog.funcs[G]? = some fn) (hb:fn.body=some (codeOf fn))
    (h:∀ x τ,x ∈ L→(τ=[] ∨ ∃ o,τ=[o])→∃ σ,vbody Tryz.prog X (vcallL Tryz.prog X T lf k) lf (fgX G) fn (codeOf fn) [.agg (lexC x),.ref 0 0] (Ob.cells c::τ) 0=some (bo (p x),(Ob.cells c::τ) ++ σ)) :
    ∃ v,callv X (vcallL Tryz.prog X T lf (k + 2)) false 28 [lexsV L,.clo G [.ref 0 0]] [Ob.cells c] 0=some (v,[Ob.cells c])∧aLs.dec v=some (L.filter p)∧AV.owns v=[]:=by
  have hmem:∀ i,i < L.length→nL L i ∈ L:=fun i hi=>by rw [nL,getD_lt hi]; exact List.getElem_mem hi
  obtain ⟨r, σ', h3, h4, h5⟩ := filter40 (X := X) (call := vcallL Tryz.prog X T lf (k + 1)) (L := L) (G := G) (c := c) (p := p) hok.1 hlf hc
    (fun i τ hi ht hs=>clo_call hL hw h1 h2 hf hb hs (h _ τ (hmem i hi) ht))
    (fun i σ hi => by
      obtain ⟨a1,a2,a3⟩:=hL.ok 49 rfl
      refine call_onL (B:=aL) (y:=nL L i) a1 a2 a3 (by simp only [AV.ltAll,AV.lt,Bool.and_true]; exact cL.lt _) ?_
      exact hT _ (hok.2 _ (hmem i hi)))
  obtain ⟨a1,a2,-⟩:=hL.ok 28 rfl
  have hw:=vcallL_walk (T:=T) (hL.dom 28 rfl rfl) Tryz.func28 (show Tryz.f28.body=some (codeOf Tryz.f28) by kernel_rfl) (by rw [hL.fg]; exact h3)
  have hlt:AV.lt 0 r=true:=aLs.declt _ _ h4
  have hs:ltObs 1 [Ob.cells c]=true:=by simp only [ltObs,ltAll_up (Nat.zero_le _) c hc,Bool.and_self]
  have:=callv_ref (X:=X) a1 a2 (by simp [AV.ltAll,AV.lt,show Nat.blt 0 0=false from rfl]) (thawAll_id _ (by simp only [AV.ownsAll,AV.owns,List.append_nil]; exact owns_lexs L)) hw (lt_up (Nat.zero_le _) r hlt) (by rw [take_more]; exact hs)
  rw [take_more] at this
  refine ⟨unfr r,this,?_,?_⟩
  · cases r <;> first | exact h4 | skip
    · rename_i kk _ _ _
      cases kk <;> exact h4
    · cases h4
  · cases r <;> first | exact h5 | skip
    · rename_i kk _ _ _
      cases kk <;> exact h5
    · cases h4
end
end Go.Proofs.Lex
end
/- Lexicon: Category, Stem, Index. -/
section
open Go Go.Vm Go.Proofs
namespace Go.Proofs.Lex
section
variable {X:Ext} {call:Caller} {lf:Nat}
theorem cat41 (x:Lexm) (s:ByteArray) (τ:List Ob) (ht:τ=[] ∨ ∃ o,τ=[o]):∃ σ,vbody Tryz.prog X call lf noFg Tryz.f29 (codeOf Tryz.f29) [.agg (lexC x),.ref 0 0] (Ob.cells [st s]::τ) 0=some (bo (decide (x.cat=s)),(Ob.cells [st s]::τ) ++ σ):=by
  by_cases e:x.cat=s
  · rw [decide_eq_true e]
    rcases ht with rfl | ⟨o,rfl⟩
    · exact ⟨[_],(f41_P0 x s X call lf).1 (by unfold f41_q0; rw [eqB_iff.2 e])⟩
    · exact ⟨[_],(f41b_P0 x s o X call lf).1 (by unfold f41b_q0; rw [eqB_iff.2 e])⟩
  · rw [decide_eq_false e]
    rcases ht with rfl | ⟨o,rfl⟩
    · exact ⟨[_],(f41_P0 x s X call lf).2 (by unfold f41_q0; rw [eqB_ne.2 e])⟩
    · exact ⟨[_],(f41b_P0 x s o X call lf).2 (by unfold f41b_q0; rw [eqB_ne.2 e])⟩
theorem id63 (x:Lexm) (s:ByteArray):∃ σ,vbody Tryz.prog X call lf noFg Tryz.f27 (codeOf Tryz.f27) [.agg (lexC x),.ref 0 0] [Ob.cells [st s]] 0=some (bo (decide (x.id=s)),[Ob.cells [st s]] ++ σ):=by
  by_cases e:x.id=s
  · rw [decide_eq_true e]
    exact ⟨[_],(f63_P0 x s X call lf).1 (by unfold f63_q0; rw [eqB_iff.2 e])⟩
  · rw [decide_eq_false e]
    exact ⟨[_],(f63_P0 x s X call lf).2 (by unfold f63_q0; rw [eqB_ne.2 e])⟩
end
section
variable [Fixed] {X:Ext}
theorem endV {σ:List Ob} {v:AV} {L:List Lexm} (hd:aLs.dec v=some L) (ho:AV.owns v=[]):∃ r,vend1 [] 0 σ [v]=some (r,σ)∧aLs.dec r=some L:=by
  refine ⟨unfr v,vend1_plain (by simp only [AV.ownsAll,ho,List.append_nil]),?_⟩
  cases v <;> first | exact hd | skip
  · rename_i kk _ _ _
    cases kk <;> exact hd
  · cases hd
theorem call17 (hX:ExtOk Tryz.prog X) (hL:XL X) {L:List Lexm} {s:ByteArray} (hok:okLs L):CallAt Tryz.prog 11 [aLs.enc L,aS.enc s] [] 0 (aLs.enc (L.filter fun x=>decide (x.cat=s))) []:=by
  have hC:=vcallL_ok hX (T1_ok hX hL) (L.length + 1) 2
  obtain ⟨v,h1,h2,h3⟩:=sel40 (k:=0) (lf:=L.length + 1) (X:=X) (c:=[st s]) (p:=fun x=>decide (x.cat=s)) hL T1_61 hok (by omega) rfl (G:=29) rfl rfl rfl Tryz.func29 (by kernel_rfl) (fun x τ _ ht=>cat41 x s τ ht)
  obtain ⟨r,h4,h5⟩:=endV (σ:=[Ob.cells [st s]]) h2 h3
  exact run_res (B:=aLs) hX hC (hL.dom 11 rfl rfl) Tryz.func11 (by kernel_rfl) (f17_p L s v X _ 0 _ _ h1 h4) h5
/-- lexicon.Index. -/
theorem call28 (hX:ExtOk Tryz.prog X) (hL:XL X) {L:List Lexm} {s:ByteArray} (hl:L.length ≤ big):CallAt Tryz.prog 10 [aLs.enc L,aS.enc s] [] 0 (aI.enc (idxP (fun x=>decide (x.id=s)) L)) []:=by
  have hC:=vcallL_ok hX (T1_ok hX hL) (L.length + 1) 2
  have h62 := index62 (X := X) (call := vcallL Tryz.prog X T1 (L.length + 1) 1) (lf := L.length + 1) (L := L) (g := 27) (c := st s) (p := fun x => decide (x.id = s)) hl (by omega)
    (fun i _=>clo_call hL rfl rfl rfl Tryz.func27 (by kernel_rfl) rfl (id63 (nL L i) s))
  obtain ⟨a1,a2,-⟩:=hL.ok 26 rfl
  have hw:=vcallL_walk (T:=T1) (hL.dom 26 rfl rfl) Tryz.func26 (show Tryz.f26.body=some (codeOf Tryz.f26) by kernel_rfl) (by rw [hL.fg]; exact h62)
  have:=callv_ref (X:=X) a1 a2 (by simp [AV.ltAll,AV.lt,show Nat.blt 0 0=false from rfl]) (thawAll_id _ (by simp only [AV.ownsAll,AV.owns,List.append_nil]; exact owns_lexs L)) hw rfl rfl
  exact run_res (B:=aI) hX hC (hL.dom 10 rfl rfl) Tryz.func10 (by kernel_rfl) (f28_p L s X _ 0 _ this) (aI.de _)
end
end Go.Proofs.Lex
end
/- Lexicon: a feature among features. -/
section
open Go Go.Vm Go.Proofs
namespace Go.Proofs.Lex
section
variable {X:Ext} {call:Caller} {lf:Nat}
end
section
variable [Fixed] {X:Ext}
end
end Go.Proofs.Lex
end
/- Lexicon: the other side of Category, Stem, With (printed) -/
section
open Go Go.Vm Go.Proofs
namespace Go.Proofs.Lex
end Go.Proofs.Lex
end
/- Lexicon: the other side's Category and Stem; Contains, With. -/
section
open Go Go.Vm Go.Proofs
namespace Go.Proofs.Lex
section
variable [Fixed]
variable {X:Ext}
end
end Go.Proofs.Lex
end
/- Lexicon: Contains, With. -/
section
open Go Go.Vm Go.Proofs
namespace Go.Proofs.Lex
section
variable [Fixed] {X:Ext}
end
end Go.Proofs.Lex
end
/- Lexicon: the other side's Contains and With; Find. -/
section
open Go Go.Vm Go.Proofs
namespace Go.Proofs.Lex
section
variable {X:Ext} {call:Caller} {lf:Nat}
end
section
variable [Fixed] {X:Ext}
end
end Go.Proofs.Lex
end
/- Lexicon: few; Find. -/
section
open Go Go.Vm Go.Proofs
namespace Go.Proofs.Lex
/-- A lexeme with short parts. -/
def shortL (x:Lexm):Bool := !(decide ((x.id.size:Int) > 60)) && !(decide ((x.cat.size:Int) > 60)) && !(decide ((x.stem.size:Int) > 200)) && !(decide ((x.par.size:Int) > 60)) && !(decide ((x.feats.length:Int) > 20))
def fewL (L:List Lexm):Bool:=L.all shortL && decide ((L.length:Int) ≤ 300)
section
variable {X:Ext} {call:Caller} {lf:Nat}
theorem few15 {L:List Lexm} (hl:L.length ≤ big) (hlf:L.length < lf):vbody Tryz.prog X call lf fg15 Tryz.f5 (codeOf Tryz.f5) [lexsV L] [] 0=some (bo (fewL L),[]):=by
  have ho : ∀ i, i < L.length → shortL (nL L i) = true → f15_o0 L i (nL L i).id (nL L i).cat (nL L i).stem (nL L i).par (nL L i).feats.length = 0 := by
    intro i hi h
    unfold shortL at h
    simp only [Bool.and_eq_true,Bool.not_eq_true'] at h
    obtain ⟨⟨⟨⟨h1,h2⟩,h3⟩,h4⟩,h5⟩:=h
    unfold f15_o0
    rw [decide_eq_true (by omega),h1,h2,h3,h4,h5]
  rcases first_fail (p:=fun i=>shortL (nL L i)=true) L.length with hall | ⟨j,hj,hbad,hbef⟩
  · have hv : L.all shortL = true := by
      rw [List.all_eq_true]
      intro x hx
      obtain ⟨i,hi,rfl⟩:=List.getElem_of_mem hx
      have:=hall i hi
      rwa [nL,getD_lt hi] at this
    have M:=f15_M L X call lf L.length _ _ _ _ _ _ _ hlf (fun i _ h=>at_lex (by simpa using h)) (fun i h _=>up h hl) (fun j hj=>ho j hj (hall j hj))
    have h6 : f15_o0 L L.length (nL L L.length).id (nL L L.length).cat (nL L L.length).stem (nL L L.length).par (nL L L.length).feats.length = 6 := by
      unfold f15_o0; rw [decide_eq_false (by omega)]
    unfold fewL
    rw [hv,Bool.true_and]
    cases hd:decide ((L.length:Int) ≤ 300) with
    | true=>exact M.2.2.2.2.2.1 h6 hd
    | false=>exact M.2.2.2.2.2.2 h6 hd
  · have hv : L.all shortL = false := by
      rw [List.all_eq_false]
      refine ⟨nL L j,?_,hbad⟩
      rw [nL,getD_lt hj]
      exact List.getElem_mem hj
    have M:=f15_M L X call lf j _ _ _ _ _ _ _ (by omega) (fun i _ h=>at_lex (by simpa using h)) (fun i h _=>up (n:=L.length) (by omega) hl) (fun i hi=>ho i (by omega) (hbef i hi))
    unfold fewL
    rw [hv,Bool.false_and]
    have hjd:decide ((↑j:Int) < (↑(List.length L):Int))=true:=decide_eq_true (by omega)
    cases h1:decide (((nL L j).id.size:Int) > 60) with
    | true=>exact M.1 (by unfold f15_o0; rw [hjd,h1])
    | false =>
    cases h2:decide (((nL L j).cat.size:Int) > 60) with
    | true=>exact M.2.1 (by unfold f15_o0; rw [hjd,h1,h2])
    | false =>
    cases h3:decide (((nL L j).stem.size:Int) > 200) with
    | true=>exact M.2.2.1 (by unfold f15_o0; rw [hjd,h1,h2,h3])
    | false =>
    cases h4:decide (((nL L j).par.size:Int) > 60) with
    | true=>exact M.2.2.2.1 (by unfold f15_o0; rw [hjd,h1,h2,h3,h4])
    | false =>
    cases h5:decide (((nL L j).feats.length:Int) > 20) with
    | true=>exact M.2.2.2.2.1 (by unfold f15_o0; rw [hjd,h1,h2,h3,h4,h5])
    | false=>exact absurd (by unfold shortL; rw [h1,h2,h3,h4,h5]; rfl) hbad
end
section
variable [Fixed] {X:Ext}
theorem call15 (hX:ExtOk Tryz.prog X) (hL:XL X) {L:List Lexm} (hl:L.length ≤ big):CallAt Tryz.prog 5 [aLs.enc L] [] 0 (aB.enc (fewL L)) []:=by
  have hC:=callerOf_ok (SpecOk.none' (P:=Tryz.prog))
  exact run_res (B:=aB) hX hC (hL.dom 5 rfl rfl) Tryz.func5 (by kernel_rfl) (few15 (X:=X) (call:=callerOf fun _ _=>none) (lf:=L.length + 1) hl (by omega)) (aB.de _)
theorem call29 (hX:ExtOk Tryz.prog X) (hL:XL X) {L:List Lexm} {s:ByteArray} (hl:L.length ≤ big):CallAt Tryz.prog 20 [aLs.enc L,aS.enc s] [] 0 (aI.enc (idxP (fun x=>decide (x.id=s)) L)) []:=by
  have hC:=callerOf_ok (SpecOk.none' (P:=Tryz.prog))
  obtain ⟨σ',h⟩:=index29 (X:=X) (call:=callerOf fun _ _=>none) (lf:=L.length + 1) (s:=s) hl (by omega)
  exact run_res (B:=aI) hX hC (hL.dom 20 rfl rfl) Tryz.func20 (by kernel_rfl) h (aI.de _)
end
end Go.Proofs.Lex
end
/- Lexicon: Find. -/
section
open Go Go.Vm Go.Proofs
namespace Go.Proofs.Lex
section
variable [Fixed] {X:Ext}
end
end Go.Proofs.Lex
end
/- Lexicon: what is the same. -/
section
open Go Go.Vm Go.Proofs
namespace Go.Proofs.Lex
section
variable [Fixed] {X:Ext}
/-! ### all together -/
end
end Go.Proofs.Lex
end
/- Lexicon: the specifications together (printed by a program). -/
section
open Go Go.Vm Go.Proofs
namespace Go.Proofs.Lex
section
variable [Fixed] {X:Ext}
end
end Go.Proofs.Lex
end
/- Lexicon: the builder: what its writing does to its store. -/
section
open Go Go.Vm Go.Proofs
namespace Go.Proofs.Lex
abbrev byA (b:UInt8):AV := .int .u8 b.toNat
abbrev nilB:AV := .list .nil 0 0 []
/-- A builder in a store of its own. -/
def bS (u:Bool):List UInt8→List Ob
  | []=>[.cells [cond u (.ref 0 0) (.ptag 76),nilB]]
  | c::l=>[.cells [.ref 0 0,.own 1 (l.length + 1)],.brow 5 (c::l)]
theorem ofNat_u8 (b:UInt8):UInt8.ofNat (Int.toNat (↑b.toNat:Int))=b:=by simp
theorem decB_bytes : ∀ (l : List UInt8), decB (l.map byA) = some l
  | []=>rfl
  | b :: l => by
    have h : (0 : Int) ≤ ↑b.toNat ∧ (↑b.toNat : Int) < 256 := by
      have:=b.toNat_lt
      omega
    simp only [List.map_cons,decB]
    rw [if_pos h,decB_bytes l,ofNat_u8]
theorem und89:Tryz.prog.underlying 74=some (.slice 5):=Tryz.underlying74
theorem cells5:Tryz.prog.cellsOf 5=1:=by kernel_rfl
theorem bytes5:Tryz.prog.bytesOf 5=1:=by kernel_rfl
theorem zero5:zerov Tryz.prog 5=some (.int .u8 0):=by kernel_rfl
theorem isB5:isByte Tryz.prog 5=true:=by kernel_rfl
theorem owns_bytes : ∀ (l : List UInt8), AV.ownsAll (l.map byA) = []
  | []=>rfl
  | _::l=>by simp only [List.map_cons,AV.ownsAll,AV.owns,owns_bytes l,List.append_nil]
theorem newOb_bytes (n:Nat) (l:List UInt8):newOb Tryz.prog 5 n (Tryz.prog.cellsOf 5) (l.map byA) = .brow 5 l:=by
  unfold newOb
  rw [isB5,if_pos rfl,decB_bytes]
theorem appended_str {σ:List Ob} (s:ByteArray):appended σ 1 (.str s)=some (s.data.toList.length,s.data.toList.map byA):=by
  simp only [appended,if_true]
  rfl
theorem app_row {cs : List AV} {l l' : List UInt8} {x : AV} (hx : appended [Ob.cells cs, .brow 5 l] 1 x = some (l'.length, l'.map byA)) (hb : (l.length + l'.length) * 2 ≤ big) :
    appendv Tryz.prog 74 [Ob.cells cs,.brow 5 l] 0 (.own 1 l.length) x=some (.own 1 (l ++ l').length,[Ob.cells cs,.brow 5 (l ++ l')]):=by
  unfold appendv
  rw [und89]
  simp only [cells5,hx,zero5,bytes5]
  rw [if_pos ⟨owns_bytes _,rfl⟩]
  show (if l.length=l.length∧0 ≤ 1∧5=5∧True∧(l.length + l'.length) * (1 + 1) ≤ 140737488355328 then _ else none)=_
  rw [if_pos ⟨rfl,Nat.zero_le _,rfl,trivial,hb⟩]
  by_cases h:l'.length=0
  · have : l' = [] := List.eq_nil_of_length_eq_zero h
    subst this
    rw [if_pos h,List.append_nil]
  · rw [if_neg h, decB_bytes, List.length_append]
    rfl
theorem app_nil {cs : List AV} {c : UInt8} {l' : List UInt8} {x : AV} (hx : appended [Ob.cells cs] 1 x = some ((c :: l').length, (c :: l').map byA)) (hb : (c :: l').length * 2 ≤ big) :
    appendv Tryz.prog 74 [Ob.cells cs] 0 nilB x=some (.own 1 (c::l').length,[Ob.cells cs,.brow 5 (c::l')]):=by
  unfold appendv
  rw [und89]
  simp only [hx,zero5,bytes5,cells5]
  rw [if_pos ⟨owns_bytes _,rfl⟩,if_pos ⟨.inl trivial,.inl trivial,rfl,by simpa using hb⟩,if_neg (by simp)]
  have:=newOb_bytes (0 + (c::l').length) (c::l')
  rw [cells5] at this
  rw [List.nil_append,this,Nat.zero_add]
  rfl
theorem app_nil0 {cs:List AV} {x:AV} (hx:appended [Ob.cells cs] 1 x=some (0,[])):appendv Tryz.prog 74 [Ob.cells cs] 0 nilB x=some (nilB,[Ob.cells cs]):=by
  unfold appendv
  rw [und89]
  simp only [hx,zero5,bytes5,cells5]
  rw [if_pos ⟨rfl,rfl⟩,if_pos ⟨.inl trivial,.inl trivial,rfl,by decide⟩,if_pos trivial]
section
variable {X:Ext} {call:Caller}
theorem chk110 (hL:XL X) (u:Bool) (l:List UInt8):callv X call false 64 [.ref 0 0] (bS u l) 0=some (.tup [],bS true l):=by
  unfold callv
  rw [hL.chk.1,hL.chk.2]
  cases l with
  | nil=>cases u <;> rfl
  | cons c l=>rfl
theorem ref_lt (vs:List AV):AV.ltAll 0 (.ref 0 0::vs)=false:=by simp [AV.ltAll,AV.lt,show Nat.blt 0 0=false from rfl]
/-- WriteByte. -/
theorem walk78 (hL:XL X) {lf:Nat} (u:Bool) (l:List UInt8) (b:UInt8) (hb:(l.length + 1) * 2 ≤ big) :
    vbody Tryz.prog X call lf noFg Tryz.f53 (codeOf Tryz.f53) [.ref 0 0,byA b] (bS u l) 0=some (.inil,bS true (l ++ [b])):=by
  cases l with
  | nil =>
    have h:=f78n_p b.toNat (cond u (.ref 0 0) (.ptag 76)) X call lf (chk110 hL u [])
    have e:=newOb_bytes (0 + 1) [b]
    simp only [List.map_cons,List.map_nil] at e
    rw [List.nil_append,e] at h
    exact h
  | cons c l =>
    have h:=f78_p b.toNat (.ref 0 0) (l.length + 1) ((c::l) ++ [b]).length [.brow 5 (c::l)] [.brow 5 ((c::l) ++ [b])] X call lf (chk110 hL u (c::l)) (app_row (l:=c::l) (l' := [b]) rfl (by simpa using hb))
    refine h.trans ?_
    simp [bS]
theorem walk79 (hL:XL X) {lf:Nat} (u:Bool) (l:List UInt8) (s:ByteArray) (hb:(l.length + s.data.toList.length) * 2 ≤ big) :
    vbody Tryz.prog X call lf noFg Tryz.f47 (codeOf Tryz.f47) [.ref 0 0,.str s] (bS u l) 0=some (.tup [i6 s.size,.inil],bS true (l ++ s.data.toList)):=by
  cases l with
  | nil =>
    cases hs:s.data.toList with
    | nil =>
      have ha:appended [Ob.cells [.ref 0 0,nilB]] 1 (.str s)=some (0,[]):=by rw [appended_str,hs]; rfl
      exact f79e_p s (cond u (.ref 0 0) (.ptag 76)) [] [] X call lf (chk110 hL u []) (app_nil0 ha)
    | cons c r =>
      have ha:appended [Ob.cells [.ref 0 0,nilB]] 1 (.str s)=some ((c::r).length,(c::r).map byA):=by rw [appended_str,hs]
      exact f79n_p s (cond u (.ref 0 0) (.ptag 76)) (c::r).length [] [.brow 5 (c::r)] X call lf (chk110 hL u []) (app_nil ha (by rw [hs] at hb; simpa using hb))
  | cons c l =>
    have h:=f79_p s (.ref 0 0) (l.length + 1) ((c::l) ++ s.data.toList).length [.brow 5 (c::l)] [.brow 5 ((c::l) ++ s.data.toList)] X call lf (chk110 hL u (c::l)) (app_row (l:=c::l) (appended_str s) hb)
    refine h.trans ?_
    simp [bS]
end
section
variable [Fixed] {X:Ext}
theorem grown (hL:XL X) {T:Go.Vm.Spec} {lf k:Nat} {f:FuncId} {fn:Func} {vs:List AV} {r:AV} {u:Bool} {l l' : List UInt8} (hd:X.dom f=true) (hw:X.pureFn f=none∧X.stFn f=none∧X.adopt f=false) (hf:Tryz.prog.funcs[f]? = some fn) (hbd:fn.body=some (codeOf fn)) (hfg:X.fg f=noFg)
    (ht:AV.thawAll (bS u l) (.ref 0 0::vs)=some (.ref 0 0::vs)) (hr:∀ n,r.lt n=true) (hu:unfr r=r)
    (h:vbody Tryz.prog X (vcallL Tryz.prog X T lf k) lf noFg fn (codeOf fn) (.ref 0 0::vs) (bS u l) 0=some (r,bS true (l ++ l'))) :
    callv X (vcallL Tryz.prog X T lf (k + 1)) false f (.ref 0 0::vs) (bS u l) 0=some (r,bS true (l ++ l')):=by
  have hw' : vcallL Tryz.prog X T lf (k + 1) f (.ref 0 0 :: vs) (bS u l) 0 = some (r, bS true (l ++ l')) := by
    cases l with
    | nil=>exact vcallL_walk hd hf hbd (by rw [hfg]; exact h)
    | cons c l=>exact vcallL_walk hd hf hbd (by rw [hfg]; exact h)
  cases l with
  | nil =>
    cases l' with
    | nil =>
      have:=callv_ref (X:=X) hw.1 hw.2.1 (ref_lt vs) ht hw' (hr _) rfl
      rw [hu] at this
      exact this
    | cons c l' =>
      have:=callv_refG (X:=X) hw.1 hw.2.1 (ref_lt vs) ht hw' rfl
      rw [hu] at this
      exact this
  | cons c l =>
    have:=callv_ref (X:=X) hw.1 hw.2.1 (ref_lt vs) ht hw' (hr _) rfl
    rw [hu] at this
    exact this
theorem write78 (hL:XL X) {T:Go.Vm.Spec} {lf k:Nat} (u:Bool) (l:List UInt8) (b:UInt8) (hb:(l.length + 1) * 2 ≤ big) :
    callv X (vcallL Tryz.prog X T lf (k + 1)) false 53 [.ref 0 0,byA b] (bS u l) 0=some (.inil,bS true (l ++ [b])) :=
  grown hL (hL.dom 53 rfl rfl) (hL.ok 53 rfl) Tryz.func53 (by kernel_rfl) (hL.fg 53) rfl (fun _=>rfl) rfl (walk78 hL u l b hb)
theorem write79 (hL:XL X) {T:Go.Vm.Spec} {lf k:Nat} (u:Bool) (l:List UInt8) (s:ByteArray) (hb:(l.length + s.data.toList.length) * 2 ≤ big) :
    callv X (vcallL Tryz.prog X T lf (k + 1)) false 47 [.ref 0 0,.str s] (bS u l) 0=some (.tup [i6 s.size,.inil],bS true (l ++ s.data.toList)) :=
  grown hL (hL.dom 47 rfl rfl) (hL.ok 47 rfl) Tryz.func47 (by kernel_rfl) (hL.fg 47) rfl (fun _=>rfl) rfl (walk79 hL u l s hb)
theorem string80 (hL:XL X) {call:Caller} (u:Bool) (l:List UInt8):∃ σ,callv X call false 48 [.ref 0 0] (bS u l) 0=some (.str ⟨l.toArray⟩,σ):=by
  unfold callv
  rw [hL.str.1,hL.str.2]
  cases l with
  | nil=>exact ⟨_,rfl⟩
  | cons c l =>
    refine ⟨[Ob.cells [.ref 0 0,.own 1 (l.length + 1)],.gone],?_⟩
    show (if 5=5∧(c::l).length=l.length + 1∧0 ≤ 1∧l.length + 1 ≠ 0 then _ else none)=_
    rw [if_pos ⟨rfl,rfl,Nat.zero_le _,by omega⟩]
    rfl
end
end Go.Proofs.Lex
end
/- Lexicon: feature.Text. -/
section
open Go Go.Vm Go.Proofs
namespace Go.Proofs.Lex
/-- The text of the first features. -/
def textN (F:List Feat):Nat→List UInt8
  | 0=>[]
  | i + 1=>((cond (decide (0 < i)) (textN F i ++ [32]) [] ++ (nF F i).name.data.toList) ++ [61]) ++ (nF F i).value.data.toList
def textF (F:List Feat):List UInt8:=textN F F.length
theorem textN_le (F:List Feat) (i:Nat):(textN F i).length ≤ (textN F (i + 1)).length:=by
  cases i with
  | zero=>exact Nat.zero_le _
  | succ i =>
    have:textN F (i + 1 + 1)=((textN F (i + 1) ++ [32] ++ (nF F (i + 1)).name.data.toList) ++ [61]) ++ (nF F (i + 1)).value.data.toList:=rfl
    rw [this]
    simp only [List.length_append]
    omega
theorem textN_mono (F:List Feat) {i j:Nat} (h:i ≤ j):(textN F i).length ≤ (textN F j).length:=by
  induction h with
  | refl=>exact Nat.le_refl _
  | step _ ih=>exact Nat.le_trans ih (textN_le F _)
section
variable [Fixed] {X:Ext}
theorem call48 (hX:ExtOk Tryz.prog X) (hL:XL X) {F:List Feat} (hl:F.length ≤ big) (hb:(textF F).length * 2 ≤ big):CallAt Tryz.prog 33 [aFs.enc F] [] 0 (aS.enc ⟨(textF F).toArray⟩) []:=by
  have hC:=vcallL_ok hX (SpecOk.none' (P:=Tryz.prog)) (F.length + 1) 1
  have hbi:∀ i,i < F.length→(textN F (i + 1)).length * 2 ≤ big:=fun i hi=>Nat.le_trans (Nat.mul_le_mul_right 2 (textN_mono F hi)) hb
  have hlen : ∀ i, (textN F (i + 1)).length = (cond (decide (0 < i)) (textN F i ++ [32]) []).length + ((nF F i).name.data.toList).length + 1 + ((nF F i).value.data.toList).length := by
    intro i
    simp only [textN,List.length_append,List.length_cons,List.length_nil]
  have lt_of : ∀ {i0 : Nat}, decide ((↑i0 : Int) < (↑(List.length F) : Int)) = true → i0 < F.length := fun h => by
    have:=of_decide_eq_true h
    omega
  obtain ⟨σ,h80⟩:=string80 (X:=X) hL (call:=vcallL Tryz.prog X (fun _ _=>none) (F.length + 1) 1) (decide (0 < F.length)) (textN F F.length)
  have M := f48_M F (fun i => bS (decide (0 < i)) (textN F i)) X (vcallL Tryz.prog X (fun _ _ => none) (F.length + 1) 1) (F.length + 1) F.length (fun i => (nF F i).name) (fun i => (nF F i).value) (tF F)
    (fun i=>bS true (textN F i ++ [32])) (fun _ => .inil)
    (fun i=>bS true (textN F i ++ [32] ++ (nF F i).name.data.toList)) (fun i=>(nF F i).name.size) (fun _ => .inil)
    (fun i=>bS true ((textN F i ++ [32] ++ (nF F i).name.data.toList) ++ [61])) (fun _ => .inil)
    (fun i=>bS true (textN F (i + 1))) (fun i=>(nF F i).value.size) (fun _ => .inil)
    (fun i=>bS true ([] ++ (nF F i).name.data.toList)) (fun i=>(nF F i).name.size) (fun _ => .inil)
    (fun i=>bS true (([] ++ (nF F i).name.data.toList) ++ [61])) (fun _ => .inil)
    (fun i=>bS true (textN F (i + 1))) (fun i=>(nF F i).value.size) (fun _ => .inil)
    rfl (by omega)
    (fun i _ h=>at_feat (lt_of h))
    (fun i _ h h2 => by
      have h0:0 < i:=by have:=of_decide_eq_true h2; omega
      have hle:=hlen i
      have:=hbi i (lt_of h)
      rw [decide_eq_true h0] at hle
      simp only [cond_true,List.length_append,List.length_cons,List.length_nil] at hle
      exact write78 hL (decide (0 < i)) (textN F i) 32 (by show _ ≤ 140737488355328; have h' : (textN F (i + 1)).length * 2 ≤ 140737488355328:=this; omega))
    (fun i _ h h2 => by
      have h0:0 < i:=by have:=of_decide_eq_true h2; omega
      have hle:=hlen i
      have:=hbi i (lt_of h)
      rw [decide_eq_true h0] at hle
      simp only [cond_true,List.length_append,List.length_cons,List.length_nil] at hle
      exact write79 hL true (textN F i ++ [32]) (nF F i).name (by show _ ≤ 140737488355328; have h' : (textN F (i + 1)).length * 2 ≤ 140737488355328:=this; simp only [List.length_append,List.length_cons,List.length_nil]; omega))
    (fun i _ h h2 => by
      have h0:0 < i:=by have:=of_decide_eq_true h2; omega
      have hle:=hlen i
      have:=hbi i (lt_of h)
      rw [decide_eq_true h0] at hle
      simp only [cond_true,List.length_append,List.length_cons,List.length_nil] at hle
      exact write78 hL true (textN F i ++ [32] ++ (nF F i).name.data.toList) 61 (by show _ ≤ 140737488355328; have h' : (textN F (i + 1)).length * 2 ≤ 140737488355328:=this; simp only [List.length_append,List.length_cons,List.length_nil]; omega))
    (fun i _ h h2 => by
      have h0:0 < i:=by have:=of_decide_eq_true h2; omega
      have hle:=hlen i
      have:=hbi i (lt_of h)
      rw [decide_eq_true h0] at hle
      simp only [cond_true,List.length_append,List.length_cons,List.length_nil] at hle
      have e : textN F (i + 1) = (textN F i ++ [32] ++ (nF F i).name.data.toList) ++ [61] ++ (nF F i).value.data.toList := by
        show ((cond (decide (0 < i)) (textN F i ++ [32]) [] ++ (nF F i).name.data.toList) ++ [61]) ++ (nF F i).value.data.toList=_
        rw [decide_eq_true h0]
        rfl
      have k:=write79 (T:=fun _ _=>none) (lf:=F.length + 1) (k:=0) hL true ((textN F i ++ [32] ++ (nF F i).name.data.toList) ++ [61]) (nF F i).value (by show _ ≤ 140737488355328; have h' : (textN F (i + 1)).length * 2 ≤ 140737488355328:=this; simp only [List.length_append,List.length_cons,List.length_nil]; omega)
      rw [← e] at k
      exact k)
    (fun i _ h h2 => by
      have h0:i=0:=by have:=of_decide_eq_false h2; omega
      subst h0
      have hle:=hlen 0
      have:=hbi 0 (lt_of h)
      rw [show decide (0 < 0)=false from rfl] at hle
      simp only [cond_false,List.length_append,List.length_cons,List.length_nil] at hle
      exact write79 hL false [] (nF F 0).name (by show _ ≤ 140737488355328; have h' : (textN F (0 + 1)).length * 2 ≤ 140737488355328:=this; simp only [List.length_append,List.length_cons,List.length_nil]; omega))
    (fun i _ h h2 => by
      have h0:i=0:=by have:=of_decide_eq_false h2; omega
      subst h0
      have hle:=hlen 0
      have:=hbi 0 (lt_of h)
      rw [show decide (0 < 0)=false from rfl] at hle
      simp only [cond_false,List.length_append,List.length_cons,List.length_nil] at hle
      exact write78 hL true ([] ++ (nF F 0).name.data.toList) 61 (by show _ ≤ 140737488355328; have h' : (textN F (0 + 1)).length * 2 ≤ 140737488355328:=this; simp only [List.length_append,List.length_cons,List.length_nil]; omega))
    (fun i _ h h2 => by
      have h0:i=0:=by have:=of_decide_eq_false h2; omega
      subst h0
      have hle:=hlen 0
      have:=hbi 0 (lt_of h)
      rw [show decide (0 < 0)=false from rfl] at hle
      simp only [cond_false,List.length_append,List.length_cons,List.length_nil] at hle
      exact write79 hL true (([] ++ (nF F 0).name.data.toList) ++ [61]) (nF F 0).value (by show _ ≤ 140737488355328; have h' : (textN F (0 + 1)).length * 2 ≤ 140737488355328:=this; simp only [List.length_append,List.length_cons,List.length_nil]; omega))
    (fun i h _=>up h hl) (fun i _ _=>rfl) (fun i _ _=>rfl)
    (fun j hj => by
      unfold f48_o0
      rw [show decide ((↑j:Int) < (↑(List.length F):Int))=true from decide_eq_true (by omega)]
      cases decide ((↑j:Int) > 0) <;> rfl)
  have hv:=M (by unfold f48_o0; rw [show decide ((↑F.length:Int) < (↑(List.length F):Int))=false from decide_eq_false (by omega)]) σ _ h80
  exact run_res (B:=aS) hX hC (hL.dom 33 rfl rfl) Tryz.func33 (by kernel_rfl) hv (aS.de _)
end
end Go.Proofs.Lex
end
