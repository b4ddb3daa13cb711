/- Part 5 of the texts of this claim: the evaluator, and what it says of the program's functions. -/
import Derived.Test.YtogacbdboplbfaaDoorOwnD
import Derived.Test.YtogacbdboplbfaaDoorOwnC
set_option linter.unusedSectionVars false
set_option linter.unusedVariables false
set_option linter.unusedSimpArgs false
set_option linter.constructorNameAsVariable false
/- Lexicon: comparisons, walked (printed) -/
section
open Go Go.Vm Go.Proofs
namespace Go.Proofs.Lex
def fg45:Nat→List Nat
  | 5003=>[1]
  | _=>[]
def f45_F0 (F0:List Feat)(i0:Nat):St :=
  stOf 41 [2,3,4,8,9,10,11,12,13,14,15,16,17,18,19,20,21,22,23,24,25,26,27,28,29,30,31,32,33,34,35,36,37] [(0,lro F0.length 2 (F0.flatMap featC)),(5,lro F0.length 2 (F0.flatMap featC)),(6,i6 (↑F0.length:Int)),(7,i6 (↑i0:Int))] []
def f45_S0 (F0:List Feat):St :=
  stOf 41 [] [(0,lro F0.length 2 (F0.flatMap featC)),(2,bo false),(5,lro F0.length 2 (F0.flatMap featC)),(6,i6 (↑F0.length:Int)),(7,i6 0)] []
abbrev f45_D0:List Nat:=[37,2,36,35,34,33,32,31,30,29,28,27,26,25,24,23,22,21,20,19,18,17,16,15,14,13,12,3,4,11,10,9,8]
theorem f45_L0 (F0:List Feat)(X:Ext)(call:Caller)(lf n:Nat)(x:Ex) (S' : St)
 (hn:n<lf)
 (hs:∀ j,j<n→∃ S1,vexec Tryd.prog X call lf 0 fg45 (loopN Tryd.f45 0) (f45_F0 F0 j)=some (Ex.normal,S1)∧forget f45_D0 S1=(f45_F0 F0 (j + 1)))
 (he:vexec Tryd.prog X call lf 0 fg45 (loopN Tryd.f45 0) (f45_F0 F0 n)=some (x,S'))
 (hx:x ≠ Ex.normal):vexec Tryd.prog X call lf 0 fg45 (Go.Code.loop (loopN Tryd.f45 0)) (f45_S0 F0)=some (x,S') :=
  loop_runK (by kernel_rfl) (fun j=>(f45_F0 F0 j)) n hn (by show forget f45_D0 (f45_S0 F0)=(f45_F0 F0 0); unfold f45_F0; show _=_; kernel_rfl) hs he hx
def f45_S1 (F0:List Feat)(i0:Nat)(a b:ByteArray)(r10:List AV)(c d:ByteArray)(r29:List AV):St :=
  stOf 41 [37] [(0,lro F0.length 2 (F0.flatMap featC)),(2,bo false),(3,i6 (↑i0:Int)),(4,AV.eaddr [st a,st b]),(5,lro F0.length 2 (F0.flatMap featC)),(6,i6 (↑F0.length:Int)),(7,i6 (↑i0:Int)),(8,bo true),(9,i6 (↑i0:Int)),(10,AV.eaddr (st a::st b::r10)),(11,AV.agg [st a,st b]),(12,AV.eaddr [st a,st b]),(13,st a),(14,bo true),(15,bo false),(16,bo false),(17,AV.eaddr [st b]),(18,st b),(19,bo true),(20,bo false),(21,bo false),(22,bo false),(23,i6 (↑i0:Int)),(24,bo true),(25,bo true),(26,lro F0.length 2 (F0.flatMap featC)),(27,i6 (↑i0:Int)),(28,i6 (w6 ((↑i0:Int) - 1))),(29,AV.eaddr (st c::st d::r29)),(30,AV.eaddr (st c::st d::r29)),(31,st c),(32,AV.eaddr [st a,st b]),(33,st a),(34,bo true),(35,bo true),(36,bo true)] []
theorem f45_r0_ttttt (F0:List Feat)(X:Ext)(call:Caller)(lf i0:Nat)(a c:ByteArray)(r10:List AV)(d e:ByteArray)(r29:List AV)
 (h0:decide ((↑i0:Int)<(↑F0.length:Int))=true)
 (h1:keep [] (indexAddrv Tryd.prog 31 [] (lro F0.length 2 (F0.flatMap featC)) (i6 (↑i0:Int)))=some (AV.eaddr (st a::st c::r10),[]))
 (h2:callv X call true 75 [st a] [] 0=some (bo true,[]))
 (h3:callv X call true 75 [st c] [] 0=some (bo true,[]))
 (h4:decide ((↑i0:Int)>0)=true)
 (h5:keep [] (indexAddrv Tryd.prog 31 [] (lro F0.length 2 (F0.flatMap featC)) (i6 (w6 ((↑i0:Int) - 1))))=some (AV.eaddr (st d::st e::r29),[]))
 (h6:(!Op.bytesLess d.toList a.toList)=true):vexec Tryd.prog X call lf 0 fg45 (loopN Tryd.f45 0) (f45_F0 F0 i0)=some (Ex.ret,(f45_S1 F0 i0 a c r10 d e r29)) :=
  around_sound (ans:=[(1,Ans.b true),(5,Ans.v (AV.eaddr (st a::st c::r10))),(10,Ans.v (bo true)),(18,Ans.v (bo true)),(26,Ans.b true),(36,Ans.v (AV.eaddr (st d::st e::r29))),(46,Ans.b true)]) (by kernel_rfl) (ai h0 (ai h1 (ai h2 (ai h3 (ai h4 (ai h5 (ai h6 trivial)))))))
theorem f45_plttttt (F0:List Feat)(X:Ext)(call:Caller)(lf i0:Nat)(a b:ByteArray)(r10:List AV)(c d:ByteArray)(r29:List AV)
 (h0:vexec Tryd.prog X call lf 0 fg45 (Code.loop (loopN Tryd.f45 0)) (f45_S0 F0)=some (Ex.ret,(f45_S1 F0 i0 a b r10 c d r29))):vbody Tryd.prog X call lf fg45 Tryd.f45 (codeOf Tryd.f45) [featsV F0] [] 0=some (bo false,[]) :=
  along_sound (ans:=[(6,Ans.l Ex.ret (f45_S1 F0 i0 a b r10 c d r29))]) (by kernel_rfl) (ai h0 trivial)
theorem f45_s0_ttttf (F0:List Feat)(X:Ext)(call:Caller)(lf i0:Nat)(a c:ByteArray)(r10:List AV)(d e:ByteArray)(r29:List AV)
 (h0:decide ((↑i0:Int)<(↑F0.length:Int))=true)
 (h1:keep [] (indexAddrv Tryd.prog 31 [] (lro F0.length 2 (F0.flatMap featC)) (i6 (↑i0:Int)))=some (AV.eaddr (st a::st c::r10),[]))
 (h2:callv X call true 75 [st a] [] 0=some (bo true,[]))
 (h3:callv X call true 75 [st c] [] 0=some (bo true,[]))
 (h4:decide ((↑i0:Int)>0)=true)
 (h5:keep [] (indexAddrv Tryd.prog 31 [] (lro F0.length 2 (F0.flatMap featC)) (i6 (w6 ((↑i0:Int) - 1))))=some (AV.eaddr (st d::st e::r29),[]))
 (h6:(!Op.bytesLess d.toList a.toList)=false)
 (e0:(↑(i0 + 1):Int)=w6 ((↑i0:Int) + 1)):∃ S1,vexec Tryd.prog X call lf 0 fg45 (loopN Tryd.f45 0) (f45_F0 F0 i0)=some (Ex.normal,S1)∧forget f45_D0 S1=(f45_F0 F0 (i0 + 1)) :=
  ⟨stOf 41 [2] [(0,lro F0.length 2 (F0.flatMap featC)),(3,i6 (↑i0:Int)),(4,AV.eaddr [st a,st c]),(5,lro F0.length 2 (F0.flatMap featC)),(6,i6 (↑F0.length:Int)),(7,i6 (w6 ((↑i0:Int) + 1))),(8,bo true),(9,i6 (↑i0:Int)),(10,AV.eaddr (st a::st c::r10)),(11,AV.agg [st a,st c]),(12,AV.eaddr [st a,st c]),(13,st a),(14,bo true),(15,bo false),(16,bo false),(17,AV.eaddr [st c]),(18,st c),(19,bo true),(20,bo false),(21,bo false),(22,bo false),(23,i6 (↑i0:Int)),(24,bo true),(25,bo true),(26,lro F0.length 2 (F0.flatMap featC)),(27,i6 (↑i0:Int)),(28,i6 (w6 ((↑i0:Int) - 1))),(29,AV.eaddr (st d::st e::r29)),(30,AV.eaddr (st d::st e::r29)),(31,st d),(32,AV.eaddr [st a,st c]),(33,st a),(34,bo false),(35,bo false),(36,bo false),(37,i6 (w6 ((↑i0:Int) + 1)))] [],around_sound (ans:=[(1,Ans.b true),(5,Ans.v (AV.eaddr (st a::st c::r10))),(10,Ans.v (bo true)),(18,Ans.v (bo true)),(26,Ans.b true),(36,Ans.v (AV.eaddr (st d::st e::r29))),(46,Ans.b false)]) (by kernel_rfl) (ai h0 (ai h1 (ai h2 (ai h3 (ai h4 (ai h5 (ai h6 trivial))))))),by unfold f45_F0; rw [e0]; show _=_; kernel_rfl⟩
theorem f45_s0_tttf (F0:List Feat)(X:Ext)(call:Caller)(lf i0:Nat)(a c:ByteArray)(r10:List AV)
 (h0:decide ((↑i0:Int)<(↑F0.length:Int))=true)
 (h1:keep [] (indexAddrv Tryd.prog 31 [] (lro F0.length 2 (F0.flatMap featC)) (i6 (↑i0:Int)))=some (AV.eaddr (st a::st c::r10),[]))
 (h2:callv X call true 75 [st a] [] 0=some (bo true,[]))
 (h3:callv X call true 75 [st c] [] 0=some (bo true,[]))
 (h4:decide ((↑i0:Int)>0)=false)
 (e0:(↑(i0 + 1):Int)=w6 ((↑i0:Int) + 1)):∃ S1,vexec Tryd.prog X call lf 0 fg45 (loopN Tryd.f45 0) (f45_F0 F0 i0)=some (Ex.normal,S1)∧forget f45_D0 S1=(f45_F0 F0 (i0 + 1)) :=
  ⟨stOf 41 [2] [(0,lro F0.length 2 (F0.flatMap featC)),(3,i6 (↑i0:Int)),(4,AV.eaddr [st a,st c]),(5,lro F0.length 2 (F0.flatMap featC)),(6,i6 (↑F0.length:Int)),(7,i6 (w6 ((↑i0:Int) + 1))),(8,bo true),(9,i6 (↑i0:Int)),(10,AV.eaddr (st a::st c::r10)),(11,AV.agg [st a,st c]),(12,AV.eaddr [st a,st c]),(13,st a),(14,bo true),(15,bo false),(16,bo false),(17,AV.eaddr [st c]),(18,st c),(19,bo true),(20,bo false),(21,bo false),(22,bo false),(23,i6 (↑i0:Int)),(24,bo false),(25,bo false),(35,bo false),(36,bo false),(37,i6 (w6 ((↑i0:Int) + 1)))] [],around_sound (ans:=[(1,Ans.b true),(5,Ans.v (AV.eaddr (st a::st c::r10))),(10,Ans.v (bo true)),(18,Ans.v (bo true)),(26,Ans.b false)]) (by kernel_rfl) (ai h0 (ai h1 (ai h2 (ai h3 (ai h4 trivial))))),by unfold f45_F0; rw [e0]; show _=_; kernel_rfl⟩
def f45_S2 (F0:List Feat)(i0:Nat)(a b:ByteArray)(r10:List AV):St :=
  stOf 41 [37] [(0,lro F0.length 2 (F0.flatMap featC)),(2,bo false),(3,i6 (↑i0:Int)),(4,AV.eaddr [st a,st b]),(5,lro F0.length 2 (F0.flatMap featC)),(6,i6 (↑F0.length:Int)),(7,i6 (↑i0:Int)),(8,bo true),(9,i6 (↑i0:Int)),(10,AV.eaddr (st a::st b::r10)),(11,AV.agg [st a,st b]),(12,AV.eaddr [st a,st b]),(13,st a),(14,bo true),(15,bo false),(16,bo false),(17,AV.eaddr [st b]),(18,st b),(19,bo false),(20,bo true),(21,bo true),(22,bo true),(36,bo true)] []
theorem f45_r0_ttf (F0:List Feat)(X:Ext)(call:Caller)(lf i0:Nat)(a c:ByteArray)(r10:List AV)
 (h0:decide ((↑i0:Int)<(↑F0.length:Int))=true)
 (h1:keep [] (indexAddrv Tryd.prog 31 [] (lro F0.length 2 (F0.flatMap featC)) (i6 (↑i0:Int)))=some (AV.eaddr (st a::st c::r10),[]))
 (h2:callv X call true 75 [st a] [] 0=some (bo true,[]))
 (h3:callv X call true 75 [st c] [] 0=some (bo false,[])):vexec Tryd.prog X call lf 0 fg45 (loopN Tryd.f45 0) (f45_F0 F0 i0)=some (Ex.ret,(f45_S2 F0 i0 a c r10)) :=
  around_sound (ans:=[(1,Ans.b true),(5,Ans.v (AV.eaddr (st a::st c::r10))),(10,Ans.v (bo true)),(18,Ans.v (bo false))]) (by kernel_rfl) (ai h0 (ai h1 (ai h2 (ai h3 trivial))))
theorem f45_plttf (F0:List Feat)(X:Ext)(call:Caller)(lf i0:Nat)(a b:ByteArray)(r10:List AV)
 (h0:vexec Tryd.prog X call lf 0 fg45 (Code.loop (loopN Tryd.f45 0)) (f45_S0 F0)=some (Ex.ret,(f45_S2 F0 i0 a b r10))):vbody Tryd.prog X call lf fg45 Tryd.f45 (codeOf Tryd.f45) [featsV F0] [] 0=some (bo false,[]) :=
  along_sound (ans:=[(6,Ans.l Ex.ret (f45_S2 F0 i0 a b r10))]) (by kernel_rfl) (ai h0 trivial)
def f45_S3 (F0:List Feat)(i0:Nat)(a b:ByteArray)(r10:List AV):St :=
  stOf 41 [37] [(0,lro F0.length 2 (F0.flatMap featC)),(2,bo false),(3,i6 (↑i0:Int)),(4,AV.eaddr [st a,st b]),(5,lro F0.length 2 (F0.flatMap featC)),(6,i6 (↑F0.length:Int)),(7,i6 (↑i0:Int)),(8,bo true),(9,i6 (↑i0:Int)),(10,AV.eaddr (st a::st b::r10)),(11,AV.agg [st a,st b]),(12,AV.eaddr [st a,st b]),(13,st a),(14,bo false),(15,bo true),(16,bo true),(21,bo true),(22,bo true),(36,bo true)] []
theorem f45_r0_tf (F0:List Feat)(X:Ext)(call:Caller)(lf i0:Nat)(a c:ByteArray)(r10:List AV)
 (h0:decide ((↑i0:Int)<(↑F0.length:Int))=true)
 (h1:keep [] (indexAddrv Tryd.prog 31 [] (lro F0.length 2 (F0.flatMap featC)) (i6 (↑i0:Int)))=some (AV.eaddr (st a::st c::r10),[]))
 (h2:callv X call true 75 [st a] [] 0=some (bo false,[])):vexec Tryd.prog X call lf 0 fg45 (loopN Tryd.f45 0) (f45_F0 F0 i0)=some (Ex.ret,(f45_S3 F0 i0 a c r10)) :=
  around_sound (ans:=[(1,Ans.b true),(5,Ans.v (AV.eaddr (st a::st c::r10))),(10,Ans.v (bo false))]) (by kernel_rfl) (ai h0 (ai h1 (ai h2 trivial)))
theorem f45_pltf (F0:List Feat)(X:Ext)(call:Caller)(lf i0:Nat)(a b:ByteArray)(r10:List AV)
 (h0:vexec Tryd.prog X call lf 0 fg45 (Code.loop (loopN Tryd.f45 0)) (f45_S0 F0)=some (Ex.ret,(f45_S3 F0 i0 a b r10))):vbody Tryd.prog X call lf fg45 Tryd.f45 (codeOf Tryd.f45) [featsV F0] [] 0=some (bo false,[]) :=
  along_sound (ans:=[(6,Ans.l Ex.ret (f45_S3 F0 i0 a b r10))]) (by kernel_rfl) (ai h0 trivial)
def f45_S4 (F0:List Feat)(i0:Nat):St :=
  stOf 41 [2,3,4,9,10,11,12,13,14,15,16,17,18,19,20,21,22,23,24,25,26,27,28,29,30,31,32,33,34,35,36,37] [(0,lro F0.length 2 (F0.flatMap featC)),(5,lro F0.length 2 (F0.flatMap featC)),(6,i6 (↑F0.length:Int)),(7,i6 (↑i0:Int)),(8,bo false)] []
theorem f45_r0_f (F0:List Feat)(X:Ext)(call:Caller)(lf i0:Nat)
 (h0:decide ((↑i0:Int)<(↑F0.length:Int))=false):vexec Tryd.prog X call lf 0 fg45 (loopN Tryd.f45 0) (f45_F0 F0 i0)=some (Ex.exit 0,(f45_S4 F0 i0)) :=
  around_sound (ans:=[(1,Ans.b false)]) (by kernel_rfl) (ai h0 trivial)
theorem f45_plft (F0:List Feat)(X:Ext)(call:Caller)(lf i0:Nat)
 (h0:vexec Tryd.prog X call lf 0 fg45 (Code.loop (loopN Tryd.f45 0)) (f45_S0 F0)=some (Ex.exit 0,(f45_S4 F0 i0)))
 (h1:decide ((↑F0.length:Int) ≤ 8)=true):vbody Tryd.prog X call lf fg45 Tryd.f45 (codeOf Tryd.f45) [featsV F0] [] 0=some (bo true,[]) :=
  along_sound (ans:=[(6,Ans.l (Ex.exit 0) (f45_S4 F0 i0)),(10,Ans.b true)]) (by kernel_rfl) (ai h0 (ai h1 trivial))
theorem f45_plff (F0:List Feat)(X:Ext)(call:Caller)(lf i0:Nat)
 (h0:vexec Tryd.prog X call lf 0 fg45 (Code.loop (loopN Tryd.f45 0)) (f45_S0 F0)=some (Ex.exit 0,(f45_S4 F0 i0)))
 (h1:decide ((↑F0.length:Int) ≤ 8)=false):vbody Tryd.prog X call lf fg45 Tryd.f45 (codeOf Tryd.f45) [featsV F0] [] 0=some (bo false,[]) :=
  along_sound (ans:=[(6,Ans.l (Ex.exit 0) (f45_S4 F0 i0)),(10,Ans.b false)]) (by kernel_rfl) (ai h0 (ai h1 trivial))
def f45_o0 (F0:List Feat)(i0:Nat)(a b:ByteArray)(b0 b1:Bool):Nat :=
  (match decide ((↑i0:Int)<(↑F0.length:Int)) with
  | true=>(match b0 with
    | true=>(match b1 with
      | true=>(match decide ((↑i0:Int)>0) with
        | true=>(match (!Op.bytesLess b.toList a.toList) with
          | true=>1
          | false=>0)
        | false=>0)
      | false=>2)
    | false=>3)
  | false=>4)
theorem f45_B0 (F0:List Feat)(X:Ext)(call:Caller)(lf i0:Nat)(a b:ByteArray)(r10:List AV)(c d:ByteArray)(r29:List AV)(b0 b1:Bool)
 (g0:decide ((↑i0:Int)<(↑F0.length:Int))=true→keep [] (indexAddrv Tryd.prog 31 [] (lro F0.length 2 (F0.flatMap featC)) (i6 (↑i0:Int)))=some (AV.eaddr (st a::st b::r10),[]))
 (g1:decide ((↑i0:Int)<(↑F0.length:Int))=true→callv X call true 75 [st a] [] 0=some (bo b0,[]))
 (g2:decide ((↑i0:Int)<(↑F0.length:Int))=true→b0=true→callv X call true 75 [st b] [] 0=some (bo b1,[]))
 (g3:decide ((↑i0:Int)<(↑F0.length:Int))=true→b0=true→b1=true→decide ((↑i0:Int)>0)=true→keep [] (indexAddrv Tryd.prog 31 [] (lro F0.length 2 (F0.flatMap featC)) (i6 (w6 ((↑i0:Int) - 1))))=some (AV.eaddr (st c::st d::r29),[]))
 (e0:decide ((↑i0:Int)<(↑F0.length:Int))=true→(↑(i0 + 1):Int)=w6 ((↑i0:Int) + 1)) :
    (f45_o0 F0 i0 a c b0 b1=0→∃ S1,vexec Tryd.prog X call lf 0 fg45 (loopN Tryd.f45 0) (f45_F0 F0 i0)=some (Ex.normal,S1)∧forget f45_D0 S1=(f45_F0 F0 (i0 + 1)))∧(f45_o0 F0 i0 a c b0 b1=1→vexec Tryd.prog X call lf 0 fg45 (loopN Tryd.f45 0) (f45_F0 F0 i0)=some (Ex.ret,(f45_S1 F0 i0 a b r10 c d r29)))∧(f45_o0 F0 i0 a c b0 b1=2→vexec Tryd.prog X call lf 0 fg45 (loopN Tryd.f45 0) (f45_F0 F0 i0)=some (Ex.ret,(f45_S2 F0 i0 a b r10)))∧(f45_o0 F0 i0 a c b0 b1=3→vexec Tryd.prog X call lf 0 fg45 (loopN Tryd.f45 0) (f45_F0 F0 i0)=some (Ex.ret,(f45_S3 F0 i0 a b r10)))∧(f45_o0 F0 i0 a c b0 b1=4→vexec Tryd.prog X call lf 0 fg45 (loopN Tryd.f45 0) (f45_F0 F0 i0)=some (Ex.exit 0,(f45_S4 F0 i0))):=by
  unfold f45_o0
  cases c0:decide ((↑i0:Int)<(↑F0.length:Int)) with
  | true =>
    cases c1:b0 with
    | true =>
      cases c2:b1 with
      | true =>
        cases c3:decide ((↑i0:Int)>0) with
        | true =>
          cases c4:(!Op.bytesLess c.toList a.toList) with
          | true =>
            exact ⟨fun h=>absurd (show (1:Nat)=0 from h) (by decide),fun _=>f45_r0_ttttt F0 X call lf i0 a b r10 c d r29 c0 (g0 c0) (by have:=(g1 c0); rw [c1] at this; exact this) (by have:=(g2 c0 c1); rw [c2] at this; exact this) c3 (g3 c0 c1 c2 c3) c4,fun h=>absurd (show (1:Nat)=2 from h) (by decide),fun h=>absurd (show (1:Nat)=3 from h) (by decide),fun h=>absurd (show (1:Nat)=4 from h) (by decide)⟩
          | false =>
            exact ⟨fun _=>f45_s0_ttttf F0 X call lf i0 a b r10 c d r29 c0 (g0 c0) (by have:=(g1 c0); rw [c1] at this; exact this) (by have:=(g2 c0 c1); rw [c2] at this; exact this) c3 (g3 c0 c1 c2 c3) c4 (e0 c0),fun h=>absurd (show (0:Nat)=1 from h) (by decide),fun h=>absurd (show (0:Nat)=2 from h) (by decide),fun h=>absurd (show (0:Nat)=3 from h) (by decide),fun h=>absurd (show (0:Nat)=4 from h) (by decide)⟩
        | false =>
          exact ⟨fun _=>f45_s0_tttf F0 X call lf i0 a b r10 c0 (g0 c0) (by have:=(g1 c0); rw [c1] at this; exact this) (by have:=(g2 c0 c1); rw [c2] at this; exact this) c3 (e0 c0),fun h=>absurd (show (0:Nat)=1 from h) (by decide),fun h=>absurd (show (0:Nat)=2 from h) (by decide),fun h=>absurd (show (0:Nat)=3 from h) (by decide),fun h=>absurd (show (0:Nat)=4 from h) (by decide)⟩
      | false =>
        exact ⟨fun h=>absurd (show (2:Nat)=0 from h) (by decide),fun h=>absurd (show (2:Nat)=1 from h) (by decide),fun _=>f45_r0_ttf F0 X call lf i0 a b r10 c0 (g0 c0) (by have:=(g1 c0); rw [c1] at this; exact this) (by have:=(g2 c0 c1); rw [c2] at this; exact this),fun h=>absurd (show (2:Nat)=3 from h) (by decide),fun h=>absurd (show (2:Nat)=4 from h) (by decide)⟩
    | false =>
      exact ⟨fun h=>absurd (show (3:Nat)=0 from h) (by decide),fun h=>absurd (show (3:Nat)=1 from h) (by decide),fun h=>absurd (show (3:Nat)=2 from h) (by decide),fun _=>f45_r0_tf F0 X call lf i0 a b r10 c0 (g0 c0) (by have:=(g1 c0); rw [c1] at this; exact this),fun h=>absurd (show (3:Nat)=4 from h) (by decide)⟩
  | false =>
    exact ⟨fun h=>absurd (show (4:Nat)=0 from h) (by decide),fun h=>absurd (show (4:Nat)=1 from h) (by decide),fun h=>absurd (show (4:Nat)=2 from h) (by decide),fun h=>absurd (show (4:Nat)=3 from h) (by decide),fun _=>f45_r0_f F0 X call lf i0 c0⟩
theorem f45_X0 (F0:List Feat)(X:Ext)(call:Caller)(lf i0:Nat)(a b:ByteArray)(r10:List AV)(c d:ByteArray)(r29:List AV)(b0 b1:Bool)
 (g0:decide ((↑i0:Int)<(↑F0.length:Int))=true→keep [] (indexAddrv Tryd.prog 31 [] (lro F0.length 2 (F0.flatMap featC)) (i6 (↑i0:Int)))=some (AV.eaddr (st a::st b::r10),[]))
 (g1:decide ((↑i0:Int)<(↑F0.length:Int))=true→callv X call true 75 [st a] [] 0=some (bo b0,[]))
 (g2:decide ((↑i0:Int)<(↑F0.length:Int))=true→b0=true→callv X call true 75 [st b] [] 0=some (bo b1,[]))
 (g3:decide ((↑i0:Int)<(↑F0.length:Int))=true→b0=true→b1=true→decide ((↑i0:Int)>0)=true→keep [] (indexAddrv Tryd.prog 31 [] (lro F0.length 2 (F0.flatMap featC)) (i6 (w6 ((↑i0:Int) - 1))))=some (AV.eaddr (st c::st d::r29),[])) :
    (f45_o0 F0 i0 a c b0 b1=1→vexec Tryd.prog X call lf 0 fg45 (loopN Tryd.f45 0) (f45_F0 F0 i0)=some (Ex.ret,(f45_S1 F0 i0 a b r10 c d r29)))∧(f45_o0 F0 i0 a c b0 b1=2→vexec Tryd.prog X call lf 0 fg45 (loopN Tryd.f45 0) (f45_F0 F0 i0)=some (Ex.ret,(f45_S2 F0 i0 a b r10)))∧(f45_o0 F0 i0 a c b0 b1=3→vexec Tryd.prog X call lf 0 fg45 (loopN Tryd.f45 0) (f45_F0 F0 i0)=some (Ex.ret,(f45_S3 F0 i0 a b r10)))∧(f45_o0 F0 i0 a c b0 b1=4→vexec Tryd.prog X call lf 0 fg45 (loopN Tryd.f45 0) (f45_F0 F0 i0)=some (Ex.exit 0,(f45_S4 F0 i0))):=by
  unfold f45_o0
  cases c0:decide ((↑i0:Int)<(↑F0.length:Int)) with
  | true =>
    cases c1:b0 with
    | true =>
      cases c2:b1 with
      | true =>
        cases c3:decide ((↑i0:Int)>0) with
        | true =>
          cases c4:(!Op.bytesLess c.toList a.toList) with
          | true =>
            exact ⟨fun _=>f45_r0_ttttt F0 X call lf i0 a b r10 c d r29 c0 (g0 c0) (by have:=(g1 c0); rw [c1] at this; exact this) (by have:=(g2 c0 c1); rw [c2] at this; exact this) c3 (g3 c0 c1 c2 c3) c4,fun h=>absurd (show (1:Nat)=2 from h) (by decide),fun h=>absurd (show (1:Nat)=3 from h) (by decide),fun h=>absurd (show (1:Nat)=4 from h) (by decide)⟩
          | false =>
            exact ⟨fun h=>absurd (show (0:Nat)=1 from h) (by decide),fun h=>absurd (show (0:Nat)=2 from h) (by decide),fun h=>absurd (show (0:Nat)=3 from h) (by decide),fun h=>absurd (show (0:Nat)=4 from h) (by decide)⟩
        | false =>
          exact ⟨fun h=>absurd (show (0:Nat)=1 from h) (by decide),fun h=>absurd (show (0:Nat)=2 from h) (by decide),fun h=>absurd (show (0:Nat)=3 from h) (by decide),fun h=>absurd (show (0:Nat)=4 from h) (by decide)⟩
      | false =>
        exact ⟨fun h=>absurd (show (2:Nat)=1 from h) (by decide),fun _=>f45_r0_ttf F0 X call lf i0 a b r10 c0 (g0 c0) (by have:=(g1 c0); rw [c1] at this; exact this) (by have:=(g2 c0 c1); rw [c2] at this; exact this),fun h=>absurd (show (2:Nat)=3 from h) (by decide),fun h=>absurd (show (2:Nat)=4 from h) (by decide)⟩
    | false =>
      exact ⟨fun h=>absurd (show (3:Nat)=1 from h) (by decide),fun h=>absurd (show (3:Nat)=2 from h) (by decide),fun _=>f45_r0_tf F0 X call lf i0 a b r10 c0 (g0 c0) (by have:=(g1 c0); rw [c1] at this; exact this),fun h=>absurd (show (3:Nat)=4 from h) (by decide)⟩
  | false =>
    exact ⟨fun h=>absurd (show (4:Nat)=1 from h) (by decide),fun h=>absurd (show (4:Nat)=2 from h) (by decide),fun h=>absurd (show (4:Nat)=3 from h) (by decide),fun _=>f45_r0_f F0 X call lf i0 c0⟩
theorem f45_M (F0:List Feat)(X:Ext)(call:Caller)(lf n:Nat)(a b:Nat→ByteArray)(r10:Nat→List AV)(c d:Nat→ByteArray)(r29:Nat→List AV)(b0 b1:Nat→Bool)
 (hn:n<lf)
 (g0:∀ i0,i0 ≤ n→decide ((↑i0:Int)<(↑F0.length:Int))=true→keep [] (indexAddrv Tryd.prog 31 [] (lro F0.length 2 (F0.flatMap featC)) (i6 (↑i0:Int)))=some (AV.eaddr (st (a i0)::st (b i0)::(r10 i0)),[]))
 (g1:∀ i0,i0 ≤ n→decide ((↑i0:Int)<(↑F0.length:Int))=true→callv X call true 75 [st (a i0)] [] 0=some (bo (b0 i0),[]))
 (g2:∀ i0,i0 ≤ n→decide ((↑i0:Int)<(↑F0.length:Int))=true→(b0 i0)=true→callv X call true 75 [st (b i0)] [] 0=some (bo (b1 i0),[]))
 (g3:∀ i0,i0 ≤ n→decide ((↑i0:Int)<(↑F0.length:Int))=true→(b0 i0)=true→(b1 i0)=true→decide ((↑i0:Int)>0)=true→keep [] (indexAddrv Tryd.prog 31 [] (lro F0.length 2 (F0.flatMap featC)) (i6 (w6 ((↑i0:Int) - 1))))=some (AV.eaddr (st (c i0)::st (d i0)::(r29 i0)),[]))
 (e0:∀ i0,i0<n→decide ((↑i0:Int)<(↑F0.length:Int))=true→(↑(i0 + 1):Int)=w6 ((↑i0:Int) + 1))
 (hz:∀ j,j<n→f45_o0 F0 j (a j) (c j) (b0 j) (b1 j)=0) :
    (f45_o0 F0 n (a n) (c n) (b0 n) (b1 n)=1→vbody Tryd.prog X call lf fg45 Tryd.f45 (codeOf Tryd.f45) [featsV F0] [] 0=some (bo false,[]))∧(f45_o0 F0 n (a n) (c n) (b0 n) (b1 n)=2→vbody Tryd.prog X call lf fg45 Tryd.f45 (codeOf Tryd.f45) [featsV F0] [] 0=some (bo false,[]))∧(f45_o0 F0 n (a n) (c n) (b0 n) (b1 n)=3→vbody Tryd.prog X call lf fg45 Tryd.f45 (codeOf Tryd.f45) [featsV F0] [] 0=some (bo false,[]))∧(f45_o0 F0 n (a n) (c n) (b0 n) (b1 n)=4→decide ((↑F0.length:Int) ≤ 8)=true→vbody Tryd.prog X call lf fg45 Tryd.f45 (codeOf Tryd.f45) [featsV F0] [] 0=some (bo true,[]))∧(f45_o0 F0 n (a n) (c n) (b0 n) (b1 n)=4→decide ((↑F0.length:Int) ≤ 8)=false→vbody Tryd.prog X call lf fg45 Tryd.f45 (codeOf Tryd.f45) [featsV F0] [] 0=some (bo false,[])):=by
  have key:∀ j,j<n→_:=fun j hj=>(f45_B0 F0 X call lf j (a j) (b j) (r10 j) (c j) (d j) (r29 j) (b0 j) (b1 j) (g0 j (Nat.le_of_lt hj)) (g1 j (Nat.le_of_lt hj)) (g2 j (Nat.le_of_lt hj)) (g3 j (Nat.le_of_lt hj)) (e0 j hj)).1 (hz j hj)
  have kn:=f45_X0 F0 X call lf n (a n) (b n) (r10 n) (c n) (d n) (r29 n) (b0 n) (b1 n) (g0 n (Nat.le_refl n)) (g1 n (Nat.le_refl n)) (g2 n (Nat.le_refl n)) (g3 n (Nat.le_refl n))
  exact ⟨fun hk=>f45_plttttt F0 X call lf n (a n) (b n) (r10 n) (c n) (d n) (r29 n) (f45_L0 F0 X call lf n _ _ hn key (kn.1 hk) (by simp)),
    fun hk=>f45_plttf F0 X call lf n (a n) (b n) (r10 n) (f45_L0 F0 X call lf n _ _ hn key (kn.2.1 hk) (by simp)),
    fun hk=>f45_pltf F0 X call lf n (a n) (b n) (r10 n) (f45_L0 F0 X call lf n _ _ hn key (kn.2.2.1 hk) (by simp)),
    fun hk q0=>f45_plft F0 X call lf n (f45_L0 F0 X call lf n _ _ hn key (kn.2.2.2 hk) (by simp)) q0,
    fun hk q0=>f45_plff F0 X call lf n (f45_L0 F0 X call lf n _ _ hn key (kn.2.2.2 hk) (by simp)) q0⟩
def f50_F0 (F0:List Feat)(i0:Nat):St :=
  stOf 33 [2,4,5,6,7,8,9,10,11,12,13,14,15,16,17,18,19,20,21,22,23,24,25] [(0,lro F0.length 2 (F0.flatMap featC)),(3,i6 (↑i0:Int))] []
def f50_S0 (F0:List Feat):St :=
  stOf 33 [] [(0,lro F0.length 2 (F0.flatMap featC)),(2,bo false),(3,i6 0)] []
abbrev f50_D0:List Nat:=[9,8,2,25,24,23,22,21,20,19,18,17,16,15,14,13,12,11,10,7,6,5,4]
theorem f50_L0 (F0:List Feat)(X:Ext)(call:Caller)(lf n:Nat)(x:Ex) (S' : St)
 (hn:n<lf)
 (hs:∀ j,j<n→∃ S1,vexec Tryd.prog X call lf 0 noFg (loopN Tryd.f50 0) (f50_F0 F0 j)=some (Ex.normal,S1)∧forget f50_D0 S1=(f50_F0 F0 (j + 1)))
 (he:vexec Tryd.prog X call lf 0 noFg (loopN Tryd.f50 0) (f50_F0 F0 n)=some (x,S'))
 (hx:x ≠ Ex.normal):vexec Tryd.prog X call lf 0 noFg (Go.Code.loop (loopN Tryd.f50 0)) (f50_S0 F0)=some (x,S') :=
  loop_runK (by kernel_rfl) (fun j=>(f50_F0 F0 j)) n hn (by show forget f50_D0 (f50_S0 F0)=(f50_F0 F0 0); unfold f50_F0; show _=_; kernel_rfl) hs he hx
theorem f50_s0_ttt (F0:List Feat)(X:Ext)(call:Caller)(lf i0:Nat)(a c:ByteArray)(r12:List AV)(d e:ByteArray)(r20:List AV)
 (h0:decide ((↑i0:Int)<(↑F0.length:Int))=true)
 (h1:keep [] (indexAddrv Tryd.prog 31 [] (lro F0.length 2 (F0.flatMap featC)) (i6 (↑i0:Int)))=some (AV.eaddr (st a::st c::r12),[]))
 (h2:callv X call false 81 [st a] [] 0=some (bo true,[]))
 (h3:keep [] (indexAddrv Tryd.prog 31 [] (lro F0.length 2 (F0.flatMap featC)) (i6 (↑i0:Int)))=some (AV.eaddr (st d::st e::r20),[]))
 (h4:callv X call false 81 [st e] [] 0=some (bo true,[]))
 (e0:(↑(i0 + 1):Int)=w6 ((↑i0:Int) + 1)):∃ S1,vexec Tryd.prog X call lf 0 noFg (loopN Tryd.f50 0) (f50_F0 F0 i0)=some (Ex.normal,S1)∧forget f50_D0 S1=(f50_F0 F0 (i0 + 1)) :=
  ⟨stOf 33 [2] [(0,lro F0.length 2 (F0.flatMap featC)),(3,i6 (w6 ((↑i0:Int) + 1))),(4,i6 (↑i0:Int)),(5,lro F0.length 2 (F0.flatMap featC)),(6,i6 (↑F0.length:Int)),(7,bo true),(8,i6 (↑i0:Int)),(9,i6 (w6 ((↑i0:Int) + 1))),(10,lro F0.length 2 (F0.flatMap featC)),(11,i6 (↑i0:Int)),(12,AV.eaddr (st a::st c::r12)),(13,AV.eaddr (st a::st c::r12)),(14,st a),(15,bo true),(16,bo false),(17,bo false),(18,lro F0.length 2 (F0.flatMap featC)),(19,i6 (↑i0:Int)),(20,AV.eaddr (st d::st e::r20)),(21,AV.eaddr (st e::r20)),(22,st e),(23,bo true),(24,bo false),(25,bo false)] [],around_sound (ans:=[(4,Ans.b true),(9,Ans.v (AV.eaddr (st a::st c::r12))),(12,Ans.v (bo true)),(20,Ans.v (AV.eaddr (st d::st e::r20))),(26,Ans.v (bo true))]) (by kernel_rfl) (ai h0 (ai h1 (ai h2 (ai h3 (ai h4 trivial))))),by unfold f50_F0; rw [e0]; show _=_; kernel_rfl⟩
def f50_S1 (F0:List Feat)(i0:Nat)(a b:ByteArray)(r12:List AV)(c d:ByteArray)(r20:List AV):St :=
  stOf 33 [8,9] [(0,lro F0.length 2 (F0.flatMap featC)),(2,bo false),(3,i6 (↑i0:Int)),(4,i6 (↑i0:Int)),(5,lro F0.length 2 (F0.flatMap featC)),(6,i6 (↑F0.length:Int)),(7,bo true),(10,lro F0.length 2 (F0.flatMap featC)),(11,i6 (↑i0:Int)),(12,AV.eaddr (st a::st b::r12)),(13,AV.eaddr (st a::st b::r12)),(14,st a),(15,bo true),(16,bo false),(17,bo false),(18,lro F0.length 2 (F0.flatMap featC)),(19,i6 (↑i0:Int)),(20,AV.eaddr (st c::st d::r20)),(21,AV.eaddr (st d::r20)),(22,st d),(23,bo false),(24,bo true),(25,bo true)] []
theorem f50_r0_ttf (F0:List Feat)(X:Ext)(call:Caller)(lf i0:Nat)(a c:ByteArray)(r12:List AV)(d e:ByteArray)(r20:List AV)
 (h0:decide ((↑i0:Int)<(↑F0.length:Int))=true)
 (h1:keep [] (indexAddrv Tryd.prog 31 [] (lro F0.length 2 (F0.flatMap featC)) (i6 (↑i0:Int)))=some (AV.eaddr (st a::st c::r12),[]))
 (h2:callv X call false 81 [st a] [] 0=some (bo true,[]))
 (h3:keep [] (indexAddrv Tryd.prog 31 [] (lro F0.length 2 (F0.flatMap featC)) (i6 (↑i0:Int)))=some (AV.eaddr (st d::st e::r20),[]))
 (h4:callv X call false 81 [st e] [] 0=some (bo false,[])):vexec Tryd.prog X call lf 0 noFg (loopN Tryd.f50 0) (f50_F0 F0 i0)=some (Ex.ret,(f50_S1 F0 i0 a c r12 d e r20)) :=
  around_sound (ans:=[(4,Ans.b true),(9,Ans.v (AV.eaddr (st a::st c::r12))),(12,Ans.v (bo true)),(20,Ans.v (AV.eaddr (st d::st e::r20))),(26,Ans.v (bo false))]) (by kernel_rfl) (ai h0 (ai h1 (ai h2 (ai h3 (ai h4 trivial)))))
theorem f50_plttf (F0:List Feat)(X:Ext)(call:Caller)(lf i0:Nat)(a b:ByteArray)(r12:List AV)(c d:ByteArray)(r20:List AV)
 (h0:vexec Tryd.prog X call lf 0 noFg (Code.loop (loopN Tryd.f50 0)) (f50_S0 F0)=some (Ex.ret,(f50_S1 F0 i0 a b r12 c d r20))):vbody Tryd.prog X call lf noFg Tryd.f50 (codeOf Tryd.f50) [featsV F0] [] 0=some (bo false,[]) :=
  along_sound (ans:=[(4,Ans.l Ex.ret (f50_S1 F0 i0 a b r12 c d r20))]) (by kernel_rfl) (ai h0 trivial)
def f50_S2 (F0:List Feat)(i0:Nat)(a b:ByteArray)(r12:List AV):St :=
  stOf 33 [8,9] [(0,lro F0.length 2 (F0.flatMap featC)),(2,bo false),(3,i6 (↑i0:Int)),(4,i6 (↑i0:Int)),(5,lro F0.length 2 (F0.flatMap featC)),(6,i6 (↑F0.length:Int)),(7,bo true),(10,lro F0.length 2 (F0.flatMap featC)),(11,i6 (↑i0:Int)),(12,AV.eaddr (st a::st b::r12)),(13,AV.eaddr (st a::st b::r12)),(14,st a),(15,bo false),(16,bo true),(17,bo true),(25,bo true)] []
theorem f50_r0_tf (F0:List Feat)(X:Ext)(call:Caller)(lf i0:Nat)(a c:ByteArray)(r12:List AV)
 (h0:decide ((↑i0:Int)<(↑F0.length:Int))=true)
 (h1:keep [] (indexAddrv Tryd.prog 31 [] (lro F0.length 2 (F0.flatMap featC)) (i6 (↑i0:Int)))=some (AV.eaddr (st a::st c::r12),[]))
 (h2:callv X call false 81 [st a] [] 0=some (bo false,[])):vexec Tryd.prog X call lf 0 noFg (loopN Tryd.f50 0) (f50_F0 F0 i0)=some (Ex.ret,(f50_S2 F0 i0 a c r12)) :=
  around_sound (ans:=[(4,Ans.b true),(9,Ans.v (AV.eaddr (st a::st c::r12))),(12,Ans.v (bo false))]) (by kernel_rfl) (ai h0 (ai h1 (ai h2 trivial)))
theorem f50_pltf (F0:List Feat)(X:Ext)(call:Caller)(lf i0:Nat)(a b:ByteArray)(r12:List AV)
 (h0:vexec Tryd.prog X call lf 0 noFg (Code.loop (loopN Tryd.f50 0)) (f50_S0 F0)=some (Ex.ret,(f50_S2 F0 i0 a b r12))):vbody Tryd.prog X call lf noFg Tryd.f50 (codeOf Tryd.f50) [featsV F0] [] 0=some (bo false,[]) :=
  along_sound (ans:=[(4,Ans.l Ex.ret (f50_S2 F0 i0 a b r12))]) (by kernel_rfl) (ai h0 trivial)
def f50_S3 (F0:List Feat)(i0:Nat):St :=
  stOf 33 [2,8,9,10,11,12,13,14,15,16,17,18,19,20,21,22,23,24,25] [(0,lro F0.length 2 (F0.flatMap featC)),(3,i6 (↑i0:Int)),(4,i6 (↑i0:Int)),(5,lro F0.length 2 (F0.flatMap featC)),(6,i6 (↑F0.length:Int)),(7,bo false)] []
theorem f50_r0_f (F0:List Feat)(X:Ext)(call:Caller)(lf i0:Nat)
 (h0:decide ((↑i0:Int)<(↑F0.length:Int))=false):vexec Tryd.prog X call lf 0 noFg (loopN Tryd.f50 0) (f50_F0 F0 i0)=some (Ex.exit 0,(f50_S3 F0 i0)) :=
  around_sound (ans:=[(4,Ans.b false)]) (by kernel_rfl) (ai h0 trivial)
theorem f50_plftt (F0:List Feat)(X:Ext)(call:Caller)(lf i0:Nat)
 (h0:vexec Tryd.prog X call lf 0 noFg (Code.loop (loopN Tryd.f50 0)) (f50_S0 F0)=some (Ex.exit 0,(f50_S3 F0 i0)))
 (h1:decide ((↑F0.length:Int) ≤ 8)=true)
 (h2:callv X call false 82 [lro F0.length 2 (F0.flatMap featC)] [] 0=some (bo true,[])):vbody Tryd.prog X call lf noFg Tryd.f50 (codeOf Tryd.f50) [featsV F0] [] 0=some (bo true,[]) :=
  along_sound (ans:=[(4,Ans.l (Ex.exit 0) (f50_S3 F0 i0)),(8,Ans.b true),(13,Ans.v (bo true))]) (by kernel_rfl) (ai h0 (ai h1 (ai h2 trivial)))
theorem f50_plftf (F0:List Feat)(X:Ext)(call:Caller)(lf i0:Nat)
 (h0:vexec Tryd.prog X call lf 0 noFg (Code.loop (loopN Tryd.f50 0)) (f50_S0 F0)=some (Ex.exit 0,(f50_S3 F0 i0)))
 (h1:decide ((↑F0.length:Int) ≤ 8)=true)
 (h2:callv X call false 82 [lro F0.length 2 (F0.flatMap featC)] [] 0=some (bo false,[])):vbody Tryd.prog X call lf noFg Tryd.f50 (codeOf Tryd.f50) [featsV F0] [] 0=some (bo false,[]) :=
  along_sound (ans:=[(4,Ans.l (Ex.exit 0) (f50_S3 F0 i0)),(8,Ans.b true),(13,Ans.v (bo false))]) (by kernel_rfl) (ai h0 (ai h1 (ai h2 trivial)))
theorem f50_plff (F0:List Feat)(X:Ext)(call:Caller)(lf i0:Nat)
 (h0:vexec Tryd.prog X call lf 0 noFg (Code.loop (loopN Tryd.f50 0)) (f50_S0 F0)=some (Ex.exit 0,(f50_S3 F0 i0)))
 (h1:decide ((↑F0.length:Int) ≤ 8)=false):vbody Tryd.prog X call lf noFg Tryd.f50 (codeOf Tryd.f50) [featsV F0] [] 0=some (bo false,[]) :=
  along_sound (ans:=[(4,Ans.l (Ex.exit 0) (f50_S3 F0 i0)),(8,Ans.b false)]) (by kernel_rfl) (ai h0 (ai h1 trivial))
def f50_o0 (F0:List Feat)(i0:Nat)(b0 b1:Bool):Nat :=
  (match decide ((↑i0:Int)<(↑F0.length:Int)) with
  | true=>(match b0 with
    | true=>(match b1 with
      | true=>0
      | false=>1)
    | false=>2)
  | false=>3)
theorem f50_B0 (F0:List Feat)(X:Ext)(call:Caller)(lf i0:Nat)(a b:ByteArray)(r12:List AV)(c d:ByteArray)(r20:List AV)(b0 b1:Bool)
 (g0:decide ((↑i0:Int)<(↑F0.length:Int))=true→keep [] (indexAddrv Tryd.prog 31 [] (lro F0.length 2 (F0.flatMap featC)) (i6 (↑i0:Int)))=some (AV.eaddr (st a::st b::r12),[]))
 (g1:decide ((↑i0:Int)<(↑F0.length:Int))=true→callv X call false 81 [st a] [] 0=some (bo b0,[]))
 (g2:decide ((↑i0:Int)<(↑F0.length:Int))=true→b0=true→keep [] (indexAddrv Tryd.prog 31 [] (lro F0.length 2 (F0.flatMap featC)) (i6 (↑i0:Int)))=some (AV.eaddr (st c::st d::r20),[]))
 (g3:decide ((↑i0:Int)<(↑F0.length:Int))=true→b0=true→callv X call false 81 [st d] [] 0=some (bo b1,[]))
 (e0:decide ((↑i0:Int)<(↑F0.length:Int))=true→(↑(i0 + 1):Int)=w6 ((↑i0:Int) + 1)) :
    (f50_o0 F0 i0 b0 b1=0→∃ S1,vexec Tryd.prog X call lf 0 noFg (loopN Tryd.f50 0) (f50_F0 F0 i0)=some (Ex.normal,S1)∧forget f50_D0 S1=(f50_F0 F0 (i0 + 1)))∧(f50_o0 F0 i0 b0 b1=1→vexec Tryd.prog X call lf 0 noFg (loopN Tryd.f50 0) (f50_F0 F0 i0)=some (Ex.ret,(f50_S1 F0 i0 a b r12 c d r20)))∧(f50_o0 F0 i0 b0 b1=2→vexec Tryd.prog X call lf 0 noFg (loopN Tryd.f50 0) (f50_F0 F0 i0)=some (Ex.ret,(f50_S2 F0 i0 a b r12)))∧(f50_o0 F0 i0 b0 b1=3→vexec Tryd.prog X call lf 0 noFg (loopN Tryd.f50 0) (f50_F0 F0 i0)=some (Ex.exit 0,(f50_S3 F0 i0))):=by
  unfold f50_o0
  cases c0:decide ((↑i0:Int)<(↑F0.length:Int)) with
  | true =>
    cases c1:b0 with
    | true =>
      cases c2:b1 with
      | true =>
        exact ⟨fun _=>f50_s0_ttt F0 X call lf i0 a b r12 c d r20 c0 (g0 c0) (by have:=(g1 c0); rw [c1] at this; exact this) (g2 c0 c1) (by have:=(g3 c0 c1); rw [c2] at this; exact this) (e0 c0),fun h=>absurd (show (0:Nat)=1 from h) (by decide),fun h=>absurd (show (0:Nat)=2 from h) (by decide),fun h=>absurd (show (0:Nat)=3 from h) (by decide)⟩
      | false =>
        exact ⟨fun h=>absurd (show (1:Nat)=0 from h) (by decide),fun _=>f50_r0_ttf F0 X call lf i0 a b r12 c d r20 c0 (g0 c0) (by have:=(g1 c0); rw [c1] at this; exact this) (g2 c0 c1) (by have:=(g3 c0 c1); rw [c2] at this; exact this),fun h=>absurd (show (1:Nat)=2 from h) (by decide),fun h=>absurd (show (1:Nat)=3 from h) (by decide)⟩
    | false =>
      exact ⟨fun h=>absurd (show (2:Nat)=0 from h) (by decide),fun h=>absurd (show (2:Nat)=1 from h) (by decide),fun _=>f50_r0_tf F0 X call lf i0 a b r12 c0 (g0 c0) (by have:=(g1 c0); rw [c1] at this; exact this),fun h=>absurd (show (2:Nat)=3 from h) (by decide)⟩
  | false =>
    exact ⟨fun h=>absurd (show (3:Nat)=0 from h) (by decide),fun h=>absurd (show (3:Nat)=1 from h) (by decide),fun h=>absurd (show (3:Nat)=2 from h) (by decide),fun _=>f50_r0_f F0 X call lf i0 c0⟩
theorem f50_X0 (F0:List Feat)(X:Ext)(call:Caller)(lf i0:Nat)(a b:ByteArray)(r12:List AV)(c d:ByteArray)(r20:List AV)(b0 b1:Bool)
 (g0:decide ((↑i0:Int)<(↑F0.length:Int))=true→keep [] (indexAddrv Tryd.prog 31 [] (lro F0.length 2 (F0.flatMap featC)) (i6 (↑i0:Int)))=some (AV.eaddr (st a::st b::r12),[]))
 (g1:decide ((↑i0:Int)<(↑F0.length:Int))=true→callv X call false 81 [st a] [] 0=some (bo b0,[]))
 (g2:decide ((↑i0:Int)<(↑F0.length:Int))=true→b0=true→keep [] (indexAddrv Tryd.prog 31 [] (lro F0.length 2 (F0.flatMap featC)) (i6 (↑i0:Int)))=some (AV.eaddr (st c::st d::r20),[]))
 (g3:decide ((↑i0:Int)<(↑F0.length:Int))=true→b0=true→callv X call false 81 [st d] [] 0=some (bo b1,[])) :
    (f50_o0 F0 i0 b0 b1=1→vexec Tryd.prog X call lf 0 noFg (loopN Tryd.f50 0) (f50_F0 F0 i0)=some (Ex.ret,(f50_S1 F0 i0 a b r12 c d r20)))∧(f50_o0 F0 i0 b0 b1=2→vexec Tryd.prog X call lf 0 noFg (loopN Tryd.f50 0) (f50_F0 F0 i0)=some (Ex.ret,(f50_S2 F0 i0 a b r12)))∧(f50_o0 F0 i0 b0 b1=3→vexec Tryd.prog X call lf 0 noFg (loopN Tryd.f50 0) (f50_F0 F0 i0)=some (Ex.exit 0,(f50_S3 F0 i0))):=by
  unfold f50_o0
  cases c0:decide ((↑i0:Int)<(↑F0.length:Int)) with
  | true =>
    cases c1:b0 with
    | true =>
      cases c2:b1 with
      | true =>
        exact ⟨fun h=>absurd (show (0:Nat)=1 from h) (by decide),fun h=>absurd (show (0:Nat)=2 from h) (by decide),fun h=>absurd (show (0:Nat)=3 from h) (by decide)⟩
      | false =>
        exact ⟨fun _=>f50_r0_ttf F0 X call lf i0 a b r12 c d r20 c0 (g0 c0) (by have:=(g1 c0); rw [c1] at this; exact this) (g2 c0 c1) (by have:=(g3 c0 c1); rw [c2] at this; exact this),fun h=>absurd (show (1:Nat)=2 from h) (by decide),fun h=>absurd (show (1:Nat)=3 from h) (by decide)⟩
    | false =>
      exact ⟨fun h=>absurd (show (2:Nat)=1 from h) (by decide),fun _=>f50_r0_tf F0 X call lf i0 a b r12 c0 (g0 c0) (by have:=(g1 c0); rw [c1] at this; exact this),fun h=>absurd (show (2:Nat)=3 from h) (by decide)⟩
  | false =>
    exact ⟨fun h=>absurd (show (3:Nat)=1 from h) (by decide),fun h=>absurd (show (3:Nat)=2 from h) (by decide),fun _=>f50_r0_f F0 X call lf i0 c0⟩
theorem f50_M (F0:List Feat)(X:Ext)(call:Caller)(lf n:Nat)(a b:Nat→ByteArray)(r12:Nat→List AV)(c d:Nat→ByteArray)(r20:Nat→List AV)(b0 b1:Nat→Bool)
 (hn:n<lf)
 (g0:∀ i0,i0 ≤ n→decide ((↑i0:Int)<(↑F0.length:Int))=true→keep [] (indexAddrv Tryd.prog 31 [] (lro F0.length 2 (F0.flatMap featC)) (i6 (↑i0:Int)))=some (AV.eaddr (st (a i0)::st (b i0)::(r12 i0)),[]))
 (g1:∀ i0,i0 ≤ n→decide ((↑i0:Int)<(↑F0.length:Int))=true→callv X call false 81 [st (a i0)] [] 0=some (bo (b0 i0),[]))
 (g2:∀ i0,i0 ≤ n→decide ((↑i0:Int)<(↑F0.length:Int))=true→(b0 i0)=true→keep [] (indexAddrv Tryd.prog 31 [] (lro F0.length 2 (F0.flatMap featC)) (i6 (↑i0:Int)))=some (AV.eaddr (st (c i0)::st (d i0)::(r20 i0)),[]))
 (g3:∀ i0,i0 ≤ n→decide ((↑i0:Int)<(↑F0.length:Int))=true→(b0 i0)=true→callv X call false 81 [st (d i0)] [] 0=some (bo (b1 i0),[]))
 (e0:∀ i0,i0<n→decide ((↑i0:Int)<(↑F0.length:Int))=true→(↑(i0 + 1):Int)=w6 ((↑i0:Int) + 1))
 (hz:∀ j,j<n→f50_o0 F0 j (b0 j) (b1 j)=0) :
    (f50_o0 F0 n (b0 n) (b1 n)=1→vbody Tryd.prog X call lf noFg Tryd.f50 (codeOf Tryd.f50) [featsV F0] [] 0=some (bo false,[]))∧(f50_o0 F0 n (b0 n) (b1 n)=2→vbody Tryd.prog X call lf noFg Tryd.f50 (codeOf Tryd.f50) [featsV F0] [] 0=some (bo false,[]))∧(f50_o0 F0 n (b0 n) (b1 n)=3→decide ((↑F0.length:Int) ≤ 8)=true→callv X call false 82 [lro F0.length 2 (F0.flatMap featC)] [] 0=some (bo true,[])→vbody Tryd.prog X call lf noFg Tryd.f50 (codeOf Tryd.f50) [featsV F0] [] 0=some (bo true,[]))∧(f50_o0 F0 n (b0 n) (b1 n)=3→decide ((↑F0.length:Int) ≤ 8)=true→callv X call false 82 [lro F0.length 2 (F0.flatMap featC)] [] 0=some (bo false,[])→vbody Tryd.prog X call lf noFg Tryd.f50 (codeOf Tryd.f50) [featsV F0] [] 0=some (bo false,[]))∧(f50_o0 F0 n (b0 n) (b1 n)=3→decide ((↑F0.length:Int) ≤ 8)=false→vbody Tryd.prog X call lf noFg Tryd.f50 (codeOf Tryd.f50) [featsV F0] [] 0=some (bo false,[])):=by
  have key:∀ j,j<n→_:=fun j hj=>(f50_B0 F0 X call lf j (a j) (b j) (r12 j) (c j) (d j) (r20 j) (b0 j) (b1 j) (g0 j (Nat.le_of_lt hj)) (g1 j (Nat.le_of_lt hj)) (g2 j (Nat.le_of_lt hj)) (g3 j (Nat.le_of_lt hj)) (e0 j hj)).1 (hz j hj)
  have kn:=f50_X0 F0 X call lf n (a n) (b n) (r12 n) (c n) (d n) (r20 n) (b0 n) (b1 n) (g0 n (Nat.le_refl n)) (g1 n (Nat.le_refl n)) (g2 n (Nat.le_refl n)) (g3 n (Nat.le_refl n))
  exact ⟨fun hk=>f50_plttf F0 X call lf n (a n) (b n) (r12 n) (c n) (d n) (r20 n) (f50_L0 F0 X call lf n _ _ hn key (kn.1 hk) (by simp)),
    fun hk=>f50_pltf F0 X call lf n (a n) (b n) (r12 n) (f50_L0 F0 X call lf n _ _ hn key (kn.2.1 hk) (by simp)),
    fun hk q0 q1=>f50_plftt F0 X call lf n (f50_L0 F0 X call lf n _ _ hn key (kn.2.2 hk) (by simp)) q0 q1,
    fun hk q0 q1=>f50_plftf F0 X call lf n (f50_L0 F0 X call lf n _ _ hn key (kn.2.2 hk) (by simp)) q0 q1,
    fun hk q0=>f50_plff F0 X call lf n (f50_L0 F0 X call lf n _ _ hn key (kn.2.2 hk) (by simp)) q0⟩
def f82_F0 (F0:List Feat)(f3:Nat→Int)(i0:Nat):St :=
  stOf 22 [2,4,5,6,7,8,9,10,11,12,13,14,15,16,17,18,19,20,21] [(0,lro F0.length 2 (F0.flatMap featC)),(3,i6 (f3 i0))] []
def f82_S0 (F0:List Feat):St :=
  stOf 22 [] [(0,lro F0.length 2 (F0.flatMap featC)),(2,bo false),(3,i6 1)] []
abbrev f82_D0:List Nat:=[9,8,2,21,20,19,18,17,16,15,14,13,12,11,10,7,6,5,4]
theorem f82_L0 (F0:List Feat)(f3:Nat→Int)(X:Ext)(call:Caller)(lf n:Nat)(x:Ex) (S' : St)
 (e0:f3 0=1)
 (hn:n<lf)
 (hs:∀ j,j<n→∃ S1,vexec Tryd.prog X call lf 0 noFg (loopN Tryd.f82 0) (f82_F0 F0 f3 j)=some (Ex.normal,S1)∧forget f82_D0 S1=(f82_F0 F0 f3 (j + 1)))
 (he:vexec Tryd.prog X call lf 0 noFg (loopN Tryd.f82 0) (f82_F0 F0 f3 n)=some (x,S'))
 (hx:x ≠ Ex.normal):vexec Tryd.prog X call lf 0 noFg (Go.Code.loop (loopN Tryd.f82 0)) (f82_S0 F0)=some (x,S') :=
  loop_runK (by kernel_rfl) (fun j=>(f82_F0 F0 f3 j)) n hn (by show forget f82_D0 (f82_S0 F0)=(f82_F0 F0 f3 0); unfold f82_F0; rw [e0]; show _=_; kernel_rfl) hs he hx
def f82_S1 (F0:List Feat)(f3:Nat→Int)(i0:Nat)(a b:ByteArray)(r13:List AV)(c d:ByteArray)(r18:List AV):St :=
  stOf 22 [8,9] [(0,lro F0.length 2 (F0.flatMap featC)),(2,bo false),(3,i6 (f3 i0)),(4,i6 (f3 i0)),(5,lro F0.length 2 (F0.flatMap featC)),(6,i6 (↑F0.length:Int)),(7,bo true),(10,lro F0.length 2 (F0.flatMap featC)),(11,i6 (f3 i0)),(12,i6 (w6 (f3 i0 - 1))),(13,AV.eaddr (st a::st b::r13)),(14,AV.eaddr (st a::st b::r13)),(15,st a),(16,lro F0.length 2 (F0.flatMap featC)),(17,i6 (f3 i0)),(18,AV.eaddr (st c::st d::r18)),(19,AV.eaddr (st c::st d::r18)),(20,st c),(21,bo true)] []
theorem f82_r0_tt (F0:List Feat)(X:Ext)(call:Caller)(lf:Nat)(f3:Nat→Int)(i0:Nat)(a c:ByteArray)(r13:List AV)(d e:ByteArray)(r18:List AV)
 (h0:decide (f3 i0<(↑F0.length:Int))=true)
 (h1:keep [] (indexAddrv Tryd.prog 31 [] (lro F0.length 2 (F0.flatMap featC)) (i6 (w6 (f3 i0 - 1))))=some (AV.eaddr (st a::st c::r13),[]))
 (h2:keep [] (indexAddrv Tryd.prog 31 [] (lro F0.length 2 (F0.flatMap featC)) (i6 (f3 i0)))=some (AV.eaddr (st d::st e::r18),[]))
 (h3:(!Op.bytesLess a.toList d.toList)=true):vexec Tryd.prog X call lf 0 noFg (loopN Tryd.f82 0) (f82_F0 F0 f3 i0)=some (Ex.ret,(f82_S1 F0 f3 i0 a c r13 d e r18)) :=
  around_sound (ans:=[(4,Ans.b true),(10,Ans.v (AV.eaddr (st a::st c::r13))),(15,Ans.v (AV.eaddr (st d::st e::r18))),(18,Ans.b true)]) (by kernel_rfl) (ai h0 (ai h1 (ai h2 (ai h3 trivial))))
theorem f82_pltt (F0:List Feat)(X:Ext)(call:Caller)(lf:Nat)(f3:Nat→Int)(i0:Nat)(a b:ByteArray)(r13:List AV)(c d:ByteArray)(r18:List AV)
 (h0:vexec Tryd.prog X call lf 0 noFg (Code.loop (loopN Tryd.f82 0)) (f82_S0 F0)=some (Ex.ret,(f82_S1 F0 f3 i0 a b r13 c d r18))):vbody Tryd.prog X call lf noFg Tryd.f82 (codeOf Tryd.f82) [featsV F0] [] 0=some (bo false,[]) :=
  along_sound (ans:=[(4,Ans.l Ex.ret (f82_S1 F0 f3 i0 a b r13 c d r18))]) (by kernel_rfl) (ai h0 trivial)
theorem f82_s0_tf (F0:List Feat)(X:Ext)(call:Caller)(lf:Nat)(f3:Nat→Int)(i0:Nat)(a c:ByteArray)(r13:List AV)(d e:ByteArray)(r18:List AV)
 (h0:decide (f3 i0<(↑F0.length:Int))=true)
 (h1:keep [] (indexAddrv Tryd.prog 31 [] (lro F0.length 2 (F0.flatMap featC)) (i6 (w6 (f3 i0 - 1))))=some (AV.eaddr (st a::st c::r13),[]))
 (h2:keep [] (indexAddrv Tryd.prog 31 [] (lro F0.length 2 (F0.flatMap featC)) (i6 (f3 i0)))=some (AV.eaddr (st d::st e::r18),[]))
 (h3:(!Op.bytesLess a.toList d.toList)=false)
 (e0:f3 (i0 + 1)=w6 (f3 i0 + 1)):∃ S1,vexec Tryd.prog X call lf 0 noFg (loopN Tryd.f82 0) (f82_F0 F0 f3 i0)=some (Ex.normal,S1)∧forget f82_D0 S1=(f82_F0 F0 f3 (i0 + 1)) :=
  ⟨stOf 22 [2] [(0,lro F0.length 2 (F0.flatMap featC)),(3,i6 (w6 (f3 i0 + 1))),(4,i6 (f3 i0)),(5,lro F0.length 2 (F0.flatMap featC)),(6,i6 (↑F0.length:Int)),(7,bo true),(8,i6 (f3 i0)),(9,i6 (w6 (f3 i0 + 1))),(10,lro F0.length 2 (F0.flatMap featC)),(11,i6 (f3 i0)),(12,i6 (w6 (f3 i0 - 1))),(13,AV.eaddr (st a::st c::r13)),(14,AV.eaddr (st a::st c::r13)),(15,st a),(16,lro F0.length 2 (F0.flatMap featC)),(17,i6 (f3 i0)),(18,AV.eaddr (st d::st e::r18)),(19,AV.eaddr (st d::st e::r18)),(20,st d),(21,bo false)] [],around_sound (ans:=[(4,Ans.b true),(10,Ans.v (AV.eaddr (st a::st c::r13))),(15,Ans.v (AV.eaddr (st d::st e::r18))),(18,Ans.b false)]) (by kernel_rfl) (ai h0 (ai h1 (ai h2 (ai h3 trivial)))),by unfold f82_F0; rw [e0]; show _=_; kernel_rfl⟩
def f82_S2 (F0:List Feat)(f3:Nat→Int)(i0:Nat):St :=
  stOf 22 [2,8,9,10,11,12,13,14,15,16,17,18,19,20,21] [(0,lro F0.length 2 (F0.flatMap featC)),(3,i6 (f3 i0)),(4,i6 (f3 i0)),(5,lro F0.length 2 (F0.flatMap featC)),(6,i6 (↑F0.length:Int)),(7,bo false)] []
theorem f82_r0_f (F0:List Feat)(X:Ext)(call:Caller)(lf:Nat)(f3:Nat→Int)(i0:Nat)
 (h0:decide (f3 i0<(↑F0.length:Int))=false):vexec Tryd.prog X call lf 0 noFg (loopN Tryd.f82 0) (f82_F0 F0 f3 i0)=some (Ex.exit 0,(f82_S2 F0 f3 i0)) :=
  around_sound (ans:=[(4,Ans.b false)]) (by kernel_rfl) (ai h0 trivial)
theorem f82_plf (F0:List Feat)(X:Ext)(call:Caller)(lf:Nat)(f3:Nat→Int)(i0:Nat)
 (h0:vexec Tryd.prog X call lf 0 noFg (Code.loop (loopN Tryd.f82 0)) (f82_S0 F0)=some (Ex.exit 0,(f82_S2 F0 f3 i0))):vbody Tryd.prog X call lf noFg Tryd.f82 (codeOf Tryd.f82) [featsV F0] [] 0=some (bo true,[]) :=
  along_sound (ans:=[(4,Ans.l (Ex.exit 0) (f82_S2 F0 f3 i0))]) (by kernel_rfl) (ai h0 trivial)
def f82_o0 (F0:List Feat)(f3:Nat→Int)(i0:Nat)(a b:ByteArray):Nat :=
  (match decide (f3 i0<(↑F0.length:Int)) with
  | true=>(match (!Op.bytesLess a.toList b.toList) with
    | true=>1
    | false=>0)
  | false=>2)
theorem f82_B0 (F0:List Feat)(X:Ext)(call:Caller)(lf:Nat)(f3:Nat→Int)(i0:Nat)(a b:ByteArray)(r13:List AV)(c d:ByteArray)(r18:List AV)
 (g0:decide (f3 i0<(↑F0.length:Int))=true→keep [] (indexAddrv Tryd.prog 31 [] (lro F0.length 2 (F0.flatMap featC)) (i6 (w6 (f3 i0 - 1))))=some (AV.eaddr (st a::st b::r13),[]))
 (g1:decide (f3 i0<(↑F0.length:Int))=true→keep [] (indexAddrv Tryd.prog 31 [] (lro F0.length 2 (F0.flatMap featC)) (i6 (f3 i0)))=some (AV.eaddr (st c::st d::r18),[]))
 (e0:decide (f3 i0<(↑F0.length:Int))=true→f3 (i0 + 1)=w6 (f3 i0 + 1)) :
    (f82_o0 F0 f3 i0 a c=0→∃ S1,vexec Tryd.prog X call lf 0 noFg (loopN Tryd.f82 0) (f82_F0 F0 f3 i0)=some (Ex.normal,S1)∧forget f82_D0 S1=(f82_F0 F0 f3 (i0 + 1)))∧(f82_o0 F0 f3 i0 a c=1→vexec Tryd.prog X call lf 0 noFg (loopN Tryd.f82 0) (f82_F0 F0 f3 i0)=some (Ex.ret,(f82_S1 F0 f3 i0 a b r13 c d r18)))∧(f82_o0 F0 f3 i0 a c=2→vexec Tryd.prog X call lf 0 noFg (loopN Tryd.f82 0) (f82_F0 F0 f3 i0)=some (Ex.exit 0,(f82_S2 F0 f3 i0))):=by
  unfold f82_o0
  cases c0:decide (f3 i0<(↑F0.length:Int)) with
  | true =>
    cases c1:(!Op.bytesLess a.toList c.toList) with
    | true =>
      exact ⟨fun h=>absurd (show (1:Nat)=0 from h) (by decide),fun _=>f82_r0_tt F0 X call lf f3 i0 a b r13 c d r18 c0 (g0 c0) (g1 c0) c1,fun h=>absurd (show (1:Nat)=2 from h) (by decide)⟩
    | false =>
      exact ⟨fun _=>f82_s0_tf F0 X call lf f3 i0 a b r13 c d r18 c0 (g0 c0) (g1 c0) c1 (e0 c0),fun h=>absurd (show (0:Nat)=1 from h) (by decide),fun h=>absurd (show (0:Nat)=2 from h) (by decide)⟩
  | false =>
    exact ⟨fun h=>absurd (show (2:Nat)=0 from h) (by decide),fun h=>absurd (show (2:Nat)=1 from h) (by decide),fun _=>f82_r0_f F0 X call lf f3 i0 c0⟩
theorem f82_X0 (F0:List Feat)(X:Ext)(call:Caller)(lf:Nat)(f3:Nat→Int)(i0:Nat)(a b:ByteArray)(r13:List AV)(c d:ByteArray)(r18:List AV)
 (g0:decide (f3 i0<(↑F0.length:Int))=true→keep [] (indexAddrv Tryd.prog 31 [] (lro F0.length 2 (F0.flatMap featC)) (i6 (w6 (f3 i0 - 1))))=some (AV.eaddr (st a::st b::r13),[]))
 (g1:decide (f3 i0<(↑F0.length:Int))=true→keep [] (indexAddrv Tryd.prog 31 [] (lro F0.length 2 (F0.flatMap featC)) (i6 (f3 i0)))=some (AV.eaddr (st c::st d::r18),[])) :
    (f82_o0 F0 f3 i0 a c=1→vexec Tryd.prog X call lf 0 noFg (loopN Tryd.f82 0) (f82_F0 F0 f3 i0)=some (Ex.ret,(f82_S1 F0 f3 i0 a b r13 c d r18)))∧(f82_o0 F0 f3 i0 a c=2→vexec Tryd.prog X call lf 0 noFg (loopN Tryd.f82 0) (f82_F0 F0 f3 i0)=some (Ex.exit 0,(f82_S2 F0 f3 i0))):=by
  unfold f82_o0
  cases c0:decide (f3 i0<(↑F0.length:Int)) with
  | true =>
    cases c1:(!Op.bytesLess a.toList c.toList) with
    | true =>
      exact ⟨fun _=>f82_r0_tt F0 X call lf f3 i0 a b r13 c d r18 c0 (g0 c0) (g1 c0) c1,fun h=>absurd (show (1:Nat)=2 from h) (by decide)⟩
    | false =>
      exact ⟨fun h=>absurd (show (0:Nat)=1 from h) (by decide),fun h=>absurd (show (0:Nat)=2 from h) (by decide)⟩
  | false =>
    exact ⟨fun h=>absurd (show (2:Nat)=1 from h) (by decide),fun _=>f82_r0_f F0 X call lf f3 i0 c0⟩
theorem f82_M (F0:List Feat)(f3:Nat→Int)(X:Ext)(call:Caller)(lf n:Nat)(a b:Nat→ByteArray)(r13:Nat→List AV)(c d:Nat→ByteArray)(r18:Nat→List AV)
 (z0:f3 0=1)
 (hn:n<lf)
 (g0:∀ i0,i0 ≤ n→decide (f3 i0<(↑F0.length:Int))=true→keep [] (indexAddrv Tryd.prog 31 [] (lro F0.length 2 (F0.flatMap featC)) (i6 (w6 (f3 i0 - 1))))=some (AV.eaddr (st (a i0)::st (b i0)::(r13 i0)),[]))
 (g1:∀ i0,i0 ≤ n→decide (f3 i0<(↑F0.length:Int))=true→keep [] (indexAddrv Tryd.prog 31 [] (lro F0.length 2 (F0.flatMap featC)) (i6 (f3 i0)))=some (AV.eaddr (st (c i0)::st (d i0)::(r18 i0)),[]))
 (e0:∀ i0,i0<n→decide (f3 i0<(↑F0.length:Int))=true→f3 (i0 + 1)=w6 (f3 i0 + 1))
 (hz:∀ j,j<n→f82_o0 F0 f3 j (a j) (c j)=0) :
    (f82_o0 F0 f3 n (a n) (c n)=1→vbody Tryd.prog X call lf noFg Tryd.f82 (codeOf Tryd.f82) [featsV F0] [] 0=some (bo false,[]))∧(f82_o0 F0 f3 n (a n) (c n)=2→vbody Tryd.prog X call lf noFg Tryd.f82 (codeOf Tryd.f82) [featsV F0] [] 0=some (bo true,[])):=by
  have key:∀ j,j<n→_:=fun j hj=>(f82_B0 F0 X call lf f3 j (a j) (b j) (r13 j) (c j) (d j) (r18 j) (g0 j (Nat.le_of_lt hj)) (g1 j (Nat.le_of_lt hj)) (e0 j hj)).1 (hz j hj)
  have kn:=f82_X0 F0 X call lf f3 n (a n) (b n) (r13 n) (c n) (d n) (r18 n) (g0 n (Nat.le_refl n)) (g1 n (Nat.le_refl n))
  exact ⟨fun hk=>f82_pltt F0 X call lf f3 n (a n) (b n) (r13 n) (c n) (d n) (r18 n) (f82_L0 F0 f3 X call lf n _ _ z0 hn key (kn.1 hk) (by simp)),
    fun hk=>f82_plf F0 X call lf f3 n (f82_L0 F0 f3 X call lf n _ _ z0 hn key (kn.2 hk) (by simp))⟩
theorem f60_pt (F0 F1:List Feat)(X:Ext)(call:Caller)(lf:Nat)
 (h0:((↑F0.length:Int) != (↑F1.length:Int))=true):vbody Tryd.prog X call lf noFg Tryd.f60 (codeOf Tryd.f60) [featsV F0,featsV F1] [] 0=some (bo false,[]) :=
  along_sound (ans:=[(7,Ans.b true)]) (by kernel_rfl) (ai h0 trivial)
def f60_F0 (F0 F1:List Feat)(i0:Nat):St :=
  stOf 26 [4,11,12,13,14,15,16,17,18,19,20,21,22,23,24,25] [(0,lro F0.length 2 (F0.flatMap featC)),(1,lro F1.length 2 (F1.flatMap featC)),(5,i6 (↑i0:Int)),(6,lro F0.length 2 (F0.flatMap featC)),(7,i6 (↑F0.length:Int)),(8,lro F1.length 2 (F1.flatMap featC)),(9,i6 (↑F1.length:Int)),(10,bo false)] []
def f60_S0 (F0 F1:List Feat):St :=
  stOf 26 [] [(0,lro F0.length 2 (F0.flatMap featC)),(1,lro F1.length 2 (F1.flatMap featC)),(4,bo false),(5,i6 0),(6,lro F0.length 2 (F0.flatMap featC)),(7,i6 (↑F0.length:Int)),(8,lro F1.length 2 (F1.flatMap featC)),(9,i6 (↑F1.length:Int)),(10,bo false)] []
abbrev f60_D0:List Nat:=[16,15,4,25,24,23,22,21,20,19,18,17,14,13,12,11]
theorem f60_L0 (F0 F1:List Feat)(X:Ext)(call:Caller)(lf n:Nat)(x:Ex) (S' : St)
 (hn:n<lf)
 (hs:∀ j,j<n→∃ S1,vexec Tryd.prog X call lf 0 noFg (loopN Tryd.f60 0) (f60_F0 F0 F1 j)=some (Ex.normal,S1)∧forget f60_D0 S1=(f60_F0 F0 F1 (j + 1)))
 (he:vexec Tryd.prog X call lf 0 noFg (loopN Tryd.f60 0) (f60_F0 F0 F1 n)=some (x,S'))
 (hx:x ≠ Ex.normal):vexec Tryd.prog X call lf 0 noFg (Go.Code.loop (loopN Tryd.f60 0)) (f60_S0 F0 F1)=some (x,S') :=
  loop_runK (by kernel_rfl) (fun j=>(f60_F0 F0 F1 j)) n hn (by show forget f60_D0 (f60_S0 F0 F1)=(f60_F0 F0 F1 0); unfold f60_F0; show _=_; kernel_rfl) hs he hx
def f60_S1 (F0 F1:List Feat)(i0:Nat)(a b:ByteArray)(r19:List AV)(c d:ByteArray)(r23:List AV):St :=
  stOf 26 [15,16] [(0,lro F0.length 2 (F0.flatMap featC)),(1,lro F1.length 2 (F1.flatMap featC)),(4,bo false),(5,i6 (↑i0:Int)),(6,lro F0.length 2 (F0.flatMap featC)),(7,i6 (↑F0.length:Int)),(8,lro F1.length 2 (F1.flatMap featC)),(9,i6 (↑F1.length:Int)),(10,bo false),(11,i6 (↑i0:Int)),(12,lro F0.length 2 (F0.flatMap featC)),(13,i6 (↑F0.length:Int)),(14,bo true),(17,lro F0.length 2 (F0.flatMap featC)),(18,i6 (↑i0:Int)),(19,AV.eaddr (st a::st b::r19)),(20,AV.agg [st a,st b]),(21,lro F1.length 2 (F1.flatMap featC)),(22,i6 (↑i0:Int)),(23,AV.eaddr (st c::st d::r23)),(24,AV.agg [st c,st d]),(25,bo true)] []
theorem f60_r0_tt (F0 F1:List Feat)(X:Ext)(call:Caller)(lf i0:Nat)(a c:ByteArray)(r19:List AV)(d e:ByteArray)(r23:List AV)
 (h0:decide ((↑i0:Int)<(↑F0.length:Int))=true)
 (h1:keep [] (indexAddrv Tryd.prog 31 [] (lro F0.length 2 (F0.flatMap featC)) (i6 (↑i0:Int)))=some (AV.eaddr (st a::st c::r19),[]))
 (h2:keep [] (indexAddrv Tryd.prog 31 [] (lro F1.length 2 (F1.flatMap featC)) (i6 (↑i0:Int)))=some (AV.eaddr (st d::st e::r23),[]))
 (h3:(!(ByteArray.toList a == ByteArray.toList d && (ByteArray.toList c == ByteArray.toList e && true)))=true):vexec Tryd.prog X call lf 0 noFg (loopN Tryd.f60 0) (f60_F0 F0 F1 i0)=some (Ex.ret,(f60_S1 F0 F1 i0 a c r19 d e r23)) :=
  around_sound (ans:=[(4,Ans.b true),(9,Ans.v (AV.eaddr (st a::st c::r19))),(13,Ans.v (AV.eaddr (st d::st e::r23))),(15,Ans.b true)]) (by kernel_rfl) (ai h0 (ai h1 (ai h2 (ai h3 trivial))))
theorem f60_pfltt (F0 F1:List Feat)(X:Ext)(call:Caller)(lf i0:Nat)(a c:ByteArray)(r19:List AV)(d e:ByteArray)(r23:List AV)
 (h0:((↑F0.length:Int) != (↑F1.length:Int))=false)
 (h1:vexec Tryd.prog X call lf 0 noFg (Code.loop (loopN Tryd.f60 0)) (f60_S0 F0 F1)=some (Ex.ret,(f60_S1 F0 F1 i0 a c r19 d e r23))):vbody Tryd.prog X call lf noFg Tryd.f60 (codeOf Tryd.f60) [featsV F0,featsV F1] [] 0=some (bo false,[]) :=
  along_sound (ans:=[(7,Ans.b false),(11,Ans.l Ex.ret (f60_S1 F0 F1 i0 a c r19 d e r23))]) (by kernel_rfl) (ai h0 (ai h1 trivial))
theorem f60_s0_tf (F0 F1:List Feat)(X:Ext)(call:Caller)(lf i0:Nat)(a c:ByteArray)(r19:List AV)(d e:ByteArray)(r23:List AV)
 (h0:decide ((↑i0:Int)<(↑F0.length:Int))=true)
 (h1:keep [] (indexAddrv Tryd.prog 31 [] (lro F0.length 2 (F0.flatMap featC)) (i6 (↑i0:Int)))=some (AV.eaddr (st a::st c::r19),[]))
 (h2:keep [] (indexAddrv Tryd.prog 31 [] (lro F1.length 2 (F1.flatMap featC)) (i6 (↑i0:Int)))=some (AV.eaddr (st d::st e::r23),[]))
 (h3:(!(ByteArray.toList a == ByteArray.toList d && (ByteArray.toList c == ByteArray.toList e && true)))=false)
 (e0:(↑(i0 + 1):Int)=w6 ((↑i0:Int) + 1)):∃ S1,vexec Tryd.prog X call lf 0 noFg (loopN Tryd.f60 0) (f60_F0 F0 F1 i0)=some (Ex.normal,S1)∧forget f60_D0 S1=(f60_F0 F0 F1 (i0 + 1)) :=
  ⟨stOf 26 [4] [(0,lro F0.length 2 (F0.flatMap featC)),(1,lro F1.length 2 (F1.flatMap featC)),(5,i6 (w6 ((↑i0:Int) + 1))),(6,lro F0.length 2 (F0.flatMap featC)),(7,i6 (↑F0.length:Int)),(8,lro F1.length 2 (F1.flatMap featC)),(9,i6 (↑F1.length:Int)),(10,bo false),(11,i6 (↑i0:Int)),(12,lro F0.length 2 (F0.flatMap featC)),(13,i6 (↑F0.length:Int)),(14,bo true),(15,i6 (↑i0:Int)),(16,i6 (w6 ((↑i0:Int) + 1))),(17,lro F0.length 2 (F0.flatMap featC)),(18,i6 (↑i0:Int)),(19,AV.eaddr (st a::st c::r19)),(20,AV.agg [st a,st c]),(21,lro F1.length 2 (F1.flatMap featC)),(22,i6 (↑i0:Int)),(23,AV.eaddr (st d::st e::r23)),(24,AV.agg [st d,st e]),(25,bo false)] [],around_sound (ans:=[(4,Ans.b true),(9,Ans.v (AV.eaddr (st a::st c::r19))),(13,Ans.v (AV.eaddr (st d::st e::r23))),(15,Ans.b false)]) (by kernel_rfl) (ai h0 (ai h1 (ai h2 (ai h3 trivial)))),by unfold f60_F0; rw [e0]; show _=_; kernel_rfl⟩
def f60_S2 (F0 F1:List Feat)(i0:Nat):St :=
  stOf 26 [4,15,16,17,18,19,20,21,22,23,24,25] [(0,lro F0.length 2 (F0.flatMap featC)),(1,lro F1.length 2 (F1.flatMap featC)),(5,i6 (↑i0:Int)),(6,lro F0.length 2 (F0.flatMap featC)),(7,i6 (↑F0.length:Int)),(8,lro F1.length 2 (F1.flatMap featC)),(9,i6 (↑F1.length:Int)),(10,bo false),(11,i6 (↑i0:Int)),(12,lro F0.length 2 (F0.flatMap featC)),(13,i6 (↑F0.length:Int)),(14,bo false)] []
theorem f60_r0_f (F0 F1:List Feat)(X:Ext)(call:Caller)(lf i0:Nat)
 (h0:decide ((↑i0:Int)<(↑F0.length:Int))=false):vexec Tryd.prog X call lf 0 noFg (loopN Tryd.f60 0) (f60_F0 F0 F1 i0)=some (Ex.exit 0,(f60_S2 F0 F1 i0)) :=
  around_sound (ans:=[(4,Ans.b false)]) (by kernel_rfl) (ai h0 trivial)
theorem f60_pflf (F0 F1:List Feat)(X:Ext)(call:Caller)(lf i0:Nat)
 (h0:((↑F0.length:Int) != (↑F1.length:Int))=false)
 (h1:vexec Tryd.prog X call lf 0 noFg (Code.loop (loopN Tryd.f60 0)) (f60_S0 F0 F1)=some (Ex.exit 0,(f60_S2 F0 F1 i0))):vbody Tryd.prog X call lf noFg Tryd.f60 (codeOf Tryd.f60) [featsV F0,featsV F1] [] 0=some (bo true,[]) :=
  along_sound (ans:=[(7,Ans.b false),(11,Ans.l (Ex.exit 0) (f60_S2 F0 F1 i0))]) (by kernel_rfl) (ai h0 (ai h1 trivial))
def f60_o0 (F0:List Feat)(i0:Nat)(a b c d:ByteArray):Nat :=
  (match decide ((↑i0:Int)<(↑F0.length:Int)) with
  | true=>(match (!(ByteArray.toList a == ByteArray.toList c && (ByteArray.toList b == ByteArray.toList d && true))) with
    | true=>1
    | false=>0)
  | false=>2)
theorem f60_B0 (F0 F1:List Feat)(X:Ext)(call:Caller)(lf i0:Nat)(a b:ByteArray)(r19:List AV)(c d:ByteArray)(r23:List AV)
 (g0:decide ((↑i0:Int)<(↑F0.length:Int))=true→keep [] (indexAddrv Tryd.prog 31 [] (lro F0.length 2 (F0.flatMap featC)) (i6 (↑i0:Int)))=some (AV.eaddr (st a::st b::r19),[]))
 (g1:decide ((↑i0:Int)<(↑F0.length:Int))=true→keep [] (indexAddrv Tryd.prog 31 [] (lro F1.length 2 (F1.flatMap featC)) (i6 (↑i0:Int)))=some (AV.eaddr (st c::st d::r23),[]))
 (e0:decide ((↑i0:Int)<(↑F0.length:Int))=true→(↑(i0 + 1):Int)=w6 ((↑i0:Int) + 1)) :
    (f60_o0 F0 i0 a b c d=0→∃ S1,vexec Tryd.prog X call lf 0 noFg (loopN Tryd.f60 0) (f60_F0 F0 F1 i0)=some (Ex.normal,S1)∧forget f60_D0 S1=(f60_F0 F0 F1 (i0 + 1)))∧(f60_o0 F0 i0 a b c d=1→vexec Tryd.prog X call lf 0 noFg (loopN Tryd.f60 0) (f60_F0 F0 F1 i0)=some (Ex.ret,(f60_S1 F0 F1 i0 a b r19 c d r23)))∧(f60_o0 F0 i0 a b c d=2→vexec Tryd.prog X call lf 0 noFg (loopN Tryd.f60 0) (f60_F0 F0 F1 i0)=some (Ex.exit 0,(f60_S2 F0 F1 i0))):=by
  unfold f60_o0
  cases c0:decide ((↑i0:Int)<(↑F0.length:Int)) with
  | true =>
    cases c1:(!(ByteArray.toList a == ByteArray.toList c && (ByteArray.toList b == ByteArray.toList d && true))) with
    | true =>
      exact ⟨fun h=>absurd (show (1:Nat)=0 from h) (by decide),fun _=>f60_r0_tt F0 F1 X call lf i0 a b r19 c d r23 c0 (g0 c0) (g1 c0) c1,fun h=>absurd (show (1:Nat)=2 from h) (by decide)⟩
    | false =>
      exact ⟨fun _=>f60_s0_tf F0 F1 X call lf i0 a b r19 c d r23 c0 (g0 c0) (g1 c0) c1 (e0 c0),fun h=>absurd (show (0:Nat)=1 from h) (by decide),fun h=>absurd (show (0:Nat)=2 from h) (by decide)⟩
  | false =>
    exact ⟨fun h=>absurd (show (2:Nat)=0 from h) (by decide),fun h=>absurd (show (2:Nat)=1 from h) (by decide),fun _=>f60_r0_f F0 F1 X call lf i0 c0⟩
theorem f60_X0 (F0 F1:List Feat)(X:Ext)(call:Caller)(lf i0:Nat)(a b:ByteArray)(r19:List AV)(c d:ByteArray)(r23:List AV)
 (g0:decide ((↑i0:Int)<(↑F0.length:Int))=true→keep [] (indexAddrv Tryd.prog 31 [] (lro F0.length 2 (F0.flatMap featC)) (i6 (↑i0:Int)))=some (AV.eaddr (st a::st b::r19),[]))
 (g1:decide ((↑i0:Int)<(↑F0.length:Int))=true→keep [] (indexAddrv Tryd.prog 31 [] (lro F1.length 2 (F1.flatMap featC)) (i6 (↑i0:Int)))=some (AV.eaddr (st c::st d::r23),[])) :
    (f60_o0 F0 i0 a b c d=1→vexec Tryd.prog X call lf 0 noFg (loopN Tryd.f60 0) (f60_F0 F0 F1 i0)=some (Ex.ret,(f60_S1 F0 F1 i0 a b r19 c d r23)))∧(f60_o0 F0 i0 a b c d=2→vexec Tryd.prog X call lf 0 noFg (loopN Tryd.f60 0) (f60_F0 F0 F1 i0)=some (Ex.exit 0,(f60_S2 F0 F1 i0))):=by
  unfold f60_o0
  cases c0:decide ((↑i0:Int)<(↑F0.length:Int)) with
  | true =>
    cases c1:(!(ByteArray.toList a == ByteArray.toList c && (ByteArray.toList b == ByteArray.toList d && true))) with
    | true =>
      exact ⟨fun _=>f60_r0_tt F0 F1 X call lf i0 a b r19 c d r23 c0 (g0 c0) (g1 c0) c1,fun h=>absurd (show (1:Nat)=2 from h) (by decide)⟩
    | false =>
      exact ⟨fun h=>absurd (show (0:Nat)=1 from h) (by decide),fun h=>absurd (show (0:Nat)=2 from h) (by decide)⟩
  | false =>
    exact ⟨fun h=>absurd (show (2:Nat)=1 from h) (by decide),fun _=>f60_r0_f F0 F1 X call lf i0 c0⟩
theorem f60_M (F0 F1:List Feat)(X:Ext)(call:Caller)(lf n:Nat)(a b:Nat→ByteArray)(r19:Nat→List AV)(c d:Nat→ByteArray)(r23:Nat→List AV)
 (hn:n<lf)
 (g0:∀ i0,i0 ≤ n→decide ((↑i0:Int)<(↑F0.length:Int))=true→keep [] (indexAddrv Tryd.prog 31 [] (lro F0.length 2 (F0.flatMap featC)) (i6 (↑i0:Int)))=some (AV.eaddr (st (a i0)::st (b i0)::(r19 i0)),[]))
 (g1:∀ i0,i0 ≤ n→decide ((↑i0:Int)<(↑F0.length:Int))=true→keep [] (indexAddrv Tryd.prog 31 [] (lro F1.length 2 (F1.flatMap featC)) (i6 (↑i0:Int)))=some (AV.eaddr (st (c i0)::st (d i0)::(r23 i0)),[]))
 (e0:∀ i0,i0<n→decide ((↑i0:Int)<(↑F0.length:Int))=true→(↑(i0 + 1):Int)=w6 ((↑i0:Int) + 1))
 (hz:∀ j,j<n→f60_o0 F0 j (a j) (b j) (c j) (d j)=0) :
    (f60_o0 F0 n (a n) (b n) (c n) (d n)=1→((↑F0.length:Int) != (↑F1.length:Int))=false→vbody Tryd.prog X call lf noFg Tryd.f60 (codeOf Tryd.f60) [featsV F0,featsV F1] [] 0=some (bo false,[]))∧(f60_o0 F0 n (a n) (b n) (c n) (d n)=2→((↑F0.length:Int) != (↑F1.length:Int))=false→vbody Tryd.prog X call lf noFg Tryd.f60 (codeOf Tryd.f60) [featsV F0,featsV F1] [] 0=some (bo true,[])):=by
  have key:∀ j,j<n→_:=fun j hj=>(f60_B0 F0 F1 X call lf j (a j) (b j) (r19 j) (c j) (d j) (r23 j) (g0 j (Nat.le_of_lt hj)) (g1 j (Nat.le_of_lt hj)) (e0 j hj)).1 (hz j hj)
  have kn:=f60_X0 F0 F1 X call lf n (a n) (b n) (r19 n) (c n) (d n) (r23 n) (g0 n (Nat.le_refl n)) (g1 n (Nat.le_refl n))
  exact ⟨fun hk q0=>f60_pfltt F0 F1 X call lf n (a n) (b n) (r19 n) (c n) (d n) (r23 n) q0 (f60_L0 F0 F1 X call lf n _ _ hn key (kn.1 hk) (by simp)),
    fun hk q0=>f60_pflf F0 F1 X call lf n q0 (f60_L0 F0 F1 X call lf n _ _ hn key (kn.2 hk) (by simp))⟩
theorem f25_pttttt (x0 x1:Lexm)(X:Ext)(call:Caller)(lf:Nat)
 (h0:(ByteArray.toList (Lexm.id x0) == ByteArray.toList (Lexm.id x1))=true)
 (h1:(ByteArray.toList (Lexm.cat x0) == ByteArray.toList (Lexm.cat x1))=true)
 (h2:(ByteArray.toList (Lexm.stem x0) == ByteArray.toList (Lexm.stem x1))=true)
 (h3:(ByteArray.toList (Lexm.par x0) == ByteArray.toList (Lexm.par x1))=true)
 (h4:callv X call false 60 [lro (List.length (Lexm.feats x0)) 2 (List.flatMap featC (Lexm.feats x0)),lro (List.length (Lexm.feats x1)) 2 (List.flatMap featC (Lexm.feats x1))] [Ob.cells [st (Lexm.id x0),st (Lexm.cat x0),st (Lexm.stem x0),st (Lexm.par x0),lro (List.length (Lexm.feats x0)) 2 (List.flatMap featC (Lexm.feats x0))],Ob.cells [st (Lexm.id x1),st (Lexm.cat x1),st (Lexm.stem x1),st (Lexm.par x1),lro (List.length (Lexm.feats x1)) 2 (List.flatMap featC (Lexm.feats x1))]] 0=some (bo true,[Ob.cells [st (Lexm.id x0),st (Lexm.cat x0),st (Lexm.stem x0),st (Lexm.par x0),lro (List.length (Lexm.feats x0)) 2 (List.flatMap featC (Lexm.feats x0))],Ob.cells [st (Lexm.id x1),st (Lexm.cat x1),st (Lexm.stem x1),st (Lexm.par x1),lro (List.length (Lexm.feats x1)) 2 (List.flatMap featC (Lexm.feats x1))]])):vbody Tryd.prog X call lf noFg Tryd.f25 (codeOf Tryd.f25) [AV.agg (lexC x0),AV.agg (lexC x1)] [] 0=some (bo true,[Ob.cells [st (Lexm.id x0),st (Lexm.cat x0),st (Lexm.stem x0),st (Lexm.par x0),lro (List.length (Lexm.feats x0)) 2 (List.flatMap featC (Lexm.feats x0))],Ob.cells [st (Lexm.id x1),st (Lexm.cat x1),st (Lexm.stem x1),st (Lexm.par x1),lro (List.length (Lexm.feats x1)) 2 (List.flatMap featC (Lexm.feats x1))]]) :=
  along_sound (ans:=[(9,Ans.b true),(20,Ans.b true),(32,Ans.b true),(44,Ans.b true),(56,Ans.v (bo true))]) (by kernel_rfl) (ai h0 (ai h1 (ai h2 (ai h3 (ai h4 trivial)))))
theorem f25_pttttf (x0 x1:Lexm)(X:Ext)(call:Caller)(lf:Nat)
 (h0:(ByteArray.toList (Lexm.id x0) == ByteArray.toList (Lexm.id x1))=true)
 (h1:(ByteArray.toList (Lexm.cat x0) == ByteArray.toList (Lexm.cat x1))=true)
 (h2:(ByteArray.toList (Lexm.stem x0) == ByteArray.toList (Lexm.stem x1))=true)
 (h3:(ByteArray.toList (Lexm.par x0) == ByteArray.toList (Lexm.par x1))=true)
 (h4:callv X call false 60 [lro (List.length (Lexm.feats x0)) 2 (List.flatMap featC (Lexm.feats x0)),lro (List.length (Lexm.feats x1)) 2 (List.flatMap featC (Lexm.feats x1))] [Ob.cells [st (Lexm.id x0),st (Lexm.cat x0),st (Lexm.stem x0),st (Lexm.par x0),lro (List.length (Lexm.feats x0)) 2 (List.flatMap featC (Lexm.feats x0))],Ob.cells [st (Lexm.id x1),st (Lexm.cat x1),st (Lexm.stem x1),st (Lexm.par x1),lro (List.length (Lexm.feats x1)) 2 (List.flatMap featC (Lexm.feats x1))]] 0=some (bo false,[Ob.cells [st (Lexm.id x0),st (Lexm.cat x0),st (Lexm.stem x0),st (Lexm.par x0),lro (List.length (Lexm.feats x0)) 2 (List.flatMap featC (Lexm.feats x0))],Ob.cells [st (Lexm.id x1),st (Lexm.cat x1),st (Lexm.stem x1),st (Lexm.par x1),lro (List.length (Lexm.feats x1)) 2 (List.flatMap featC (Lexm.feats x1))]])):vbody Tryd.prog X call lf noFg Tryd.f25 (codeOf Tryd.f25) [AV.agg (lexC x0),AV.agg (lexC x1)] [] 0=some (bo false,[Ob.cells [st (Lexm.id x0),st (Lexm.cat x0),st (Lexm.stem x0),st (Lexm.par x0),lro (List.length (Lexm.feats x0)) 2 (List.flatMap featC (Lexm.feats x0))],Ob.cells [st (Lexm.id x1),st (Lexm.cat x1),st (Lexm.stem x1),st (Lexm.par x1),lro (List.length (Lexm.feats x1)) 2 (List.flatMap featC (Lexm.feats x1))]]) :=
  along_sound (ans:=[(9,Ans.b true),(20,Ans.b true),(32,Ans.b true),(44,Ans.b true),(56,Ans.v (bo false))]) (by kernel_rfl) (ai h0 (ai h1 (ai h2 (ai h3 (ai h4 trivial)))))
theorem f25_ptttf (x0 x1:Lexm)(X:Ext)(call:Caller)(lf:Nat)
 (h0:(ByteArray.toList (Lexm.id x0) == ByteArray.toList (Lexm.id x1))=true)
 (h1:(ByteArray.toList (Lexm.cat x0) == ByteArray.toList (Lexm.cat x1))=true)
 (h2:(ByteArray.toList (Lexm.stem x0) == ByteArray.toList (Lexm.stem x1))=true)
 (h3:(ByteArray.toList (Lexm.par x0) == ByteArray.toList (Lexm.par x1))=false):vbody Tryd.prog X call lf noFg Tryd.f25 (codeOf Tryd.f25) [AV.agg (lexC x0),AV.agg (lexC x1)] [] 0=some (bo false,[Ob.cells [st (Lexm.id x0),st (Lexm.cat x0),st (Lexm.stem x0),st (Lexm.par x0),lro (List.length (Lexm.feats x0)) 2 (List.flatMap featC (Lexm.feats x0))],Ob.cells [st (Lexm.id x1),st (Lexm.cat x1),st (Lexm.stem x1),st (Lexm.par x1),lro (List.length (Lexm.feats x1)) 2 (List.flatMap featC (Lexm.feats x1))]]) :=
  along_sound (ans:=[(9,Ans.b true),(20,Ans.b true),(32,Ans.b true),(44,Ans.b false)]) (by kernel_rfl) (ai h0 (ai h1 (ai h2 (ai h3 trivial))))
theorem f25_pttf (x0 x1:Lexm)(X:Ext)(call:Caller)(lf:Nat)
 (h0:(ByteArray.toList (Lexm.id x0) == ByteArray.toList (Lexm.id x1))=true)
 (h1:(ByteArray.toList (Lexm.cat x0) == ByteArray.toList (Lexm.cat x1))=true)
 (h2:(ByteArray.toList (Lexm.stem x0) == ByteArray.toList (Lexm.stem x1))=false):vbody Tryd.prog X call lf noFg Tryd.f25 (codeOf Tryd.f25) [AV.agg (lexC x0),AV.agg (lexC x1)] [] 0=some (bo false,[Ob.cells [st (Lexm.id x0),st (Lexm.cat x0),st (Lexm.stem x0),st (Lexm.par x0),lro (List.length (Lexm.feats x0)) 2 (List.flatMap featC (Lexm.feats x0))],Ob.cells [st (Lexm.id x1),st (Lexm.cat x1),st (Lexm.stem x1),st (Lexm.par x1),lro (List.length (Lexm.feats x1)) 2 (List.flatMap featC (Lexm.feats x1))]]) :=
  along_sound (ans:=[(9,Ans.b true),(20,Ans.b true),(32,Ans.b false)]) (by kernel_rfl) (ai h0 (ai h1 (ai h2 trivial)))
theorem f25_ptf (x0 x1:Lexm)(X:Ext)(call:Caller)(lf:Nat)
 (h0:(ByteArray.toList (Lexm.id x0) == ByteArray.toList (Lexm.id x1))=true)
 (h1:(ByteArray.toList (Lexm.cat x0) == ByteArray.toList (Lexm.cat x1))=false):vbody Tryd.prog X call lf noFg Tryd.f25 (codeOf Tryd.f25) [AV.agg (lexC x0),AV.agg (lexC x1)] [] 0=some (bo false,[Ob.cells [st (Lexm.id x0),st (Lexm.cat x0),st (Lexm.stem x0),st (Lexm.par x0),lro (List.length (Lexm.feats x0)) 2 (List.flatMap featC (Lexm.feats x0))],Ob.cells [st (Lexm.id x1),st (Lexm.cat x1),st (Lexm.stem x1),st (Lexm.par x1),lro (List.length (Lexm.feats x1)) 2 (List.flatMap featC (Lexm.feats x1))]]) :=
  along_sound (ans:=[(9,Ans.b true),(20,Ans.b false)]) (by kernel_rfl) (ai h0 (ai h1 trivial))
theorem f25_pf (x0 x1:Lexm)(X:Ext)(call:Caller)(lf:Nat)
 (h0:(ByteArray.toList (Lexm.id x0) == ByteArray.toList (Lexm.id x1))=false):vbody Tryd.prog X call lf noFg Tryd.f25 (codeOf Tryd.f25) [AV.agg (lexC x0),AV.agg (lexC x1)] [] 0=some (bo false,[Ob.cells [st (Lexm.id x0),st (Lexm.cat x0),st (Lexm.stem x0),st (Lexm.par x0),lro (List.length (Lexm.feats x0)) 2 (List.flatMap featC (Lexm.feats x0))],Ob.cells [st (Lexm.id x1),st (Lexm.cat x1),st (Lexm.stem x1),st (Lexm.par x1),lro (List.length (Lexm.feats x1)) 2 (List.flatMap featC (Lexm.feats x1))]]) :=
  along_sound (ans:=[(9,Ans.b false)]) (by kernel_rfl) (ai h0 trivial)
def f25_q0 (x0 x1:Lexm)(b0:Bool):Nat :=
  (match (ByteArray.toList (Lexm.id x0) == ByteArray.toList (Lexm.id x1)) with
  | true=>(match (ByteArray.toList (Lexm.cat x0) == ByteArray.toList (Lexm.cat x1)) with
    | true=>(match (ByteArray.toList (Lexm.stem x0) == ByteArray.toList (Lexm.stem x1)) with
      | true=>(match (ByteArray.toList (Lexm.par x0) == ByteArray.toList (Lexm.par x1)) with
        | true=>(match b0 with
          | true=>0
          | false=>1)
        | false=>1)
      | false=>1)
    | false=>1)
  | false=>1)
theorem f25_P0 (x0 x1:Lexm)(X:Ext)(call:Caller)(lf:Nat)(b0:Bool)
 (g0:(ByteArray.toList (Lexm.id x0) == ByteArray.toList (Lexm.id x1))=true→(ByteArray.toList (Lexm.cat x0) == ByteArray.toList (Lexm.cat x1))=true→(ByteArray.toList (Lexm.stem x0) == ByteArray.toList (Lexm.stem x1))=true→(ByteArray.toList (Lexm.par x0) == ByteArray.toList (Lexm.par x1))=true→callv X call false 60 [lro (List.length (Lexm.feats x0)) 2 (List.flatMap featC (Lexm.feats x0)),lro (List.length (Lexm.feats x1)) 2 (List.flatMap featC (Lexm.feats x1))] [Ob.cells [st (Lexm.id x0),st (Lexm.cat x0),st (Lexm.stem x0),st (Lexm.par x0),lro (List.length (Lexm.feats x0)) 2 (List.flatMap featC (Lexm.feats x0))],Ob.cells [st (Lexm.id x1),st (Lexm.cat x1),st (Lexm.stem x1),st (Lexm.par x1),lro (List.length (Lexm.feats x1)) 2 (List.flatMap featC (Lexm.feats x1))]] 0=some (bo b0,[Ob.cells [st (Lexm.id x0),st (Lexm.cat x0),st (Lexm.stem x0),st (Lexm.par x0),lro (List.length (Lexm.feats x0)) 2 (List.flatMap featC (Lexm.feats x0))],Ob.cells [st (Lexm.id x1),st (Lexm.cat x1),st (Lexm.stem x1),st (Lexm.par x1),lro (List.length (Lexm.feats x1)) 2 (List.flatMap featC (Lexm.feats x1))]])) :
    (f25_q0 x0 x1 b0=0→vbody Tryd.prog X call lf noFg Tryd.f25 (codeOf Tryd.f25) [AV.agg (lexC x0),AV.agg (lexC x1)] [] 0=some (bo true,[Ob.cells [st (Lexm.id x0),st (Lexm.cat x0),st (Lexm.stem x0),st (Lexm.par x0),lro (List.length (Lexm.feats x0)) 2 (List.flatMap featC (Lexm.feats x0))],Ob.cells [st (Lexm.id x1),st (Lexm.cat x1),st (Lexm.stem x1),st (Lexm.par x1),lro (List.length (Lexm.feats x1)) 2 (List.flatMap featC (Lexm.feats x1))]]))∧(f25_q0 x0 x1 b0=1→vbody Tryd.prog X call lf noFg Tryd.f25 (codeOf Tryd.f25) [AV.agg (lexC x0),AV.agg (lexC x1)] [] 0=some (bo false,[Ob.cells [st (Lexm.id x0),st (Lexm.cat x0),st (Lexm.stem x0),st (Lexm.par x0),lro (List.length (Lexm.feats x0)) 2 (List.flatMap featC (Lexm.feats x0))],Ob.cells [st (Lexm.id x1),st (Lexm.cat x1),st (Lexm.stem x1),st (Lexm.par x1),lro (List.length (Lexm.feats x1)) 2 (List.flatMap featC (Lexm.feats x1))]])):=by
  unfold f25_q0
  cases c0:(ByteArray.toList (Lexm.id x0) == ByteArray.toList (Lexm.id x1)) with
  | true =>
    cases c1:(ByteArray.toList (Lexm.cat x0) == ByteArray.toList (Lexm.cat x1)) with
    | true =>
      cases c2:(ByteArray.toList (Lexm.stem x0) == ByteArray.toList (Lexm.stem x1)) with
      | true =>
        cases c3:(ByteArray.toList (Lexm.par x0) == ByteArray.toList (Lexm.par x1)) with
        | true =>
          cases c4:b0 with
          | true =>
            exact ⟨fun _=>f25_pttttt x0 x1 X call lf c0 c1 c2 c3 (by have:=(g0 c0 c1 c2 c3); rw [c4] at this; exact this),fun h=>absurd (show (0:Nat)=1 from h) (by decide)⟩
          | false =>
            exact ⟨fun h=>absurd (show (1:Nat)=0 from h) (by decide),fun _=>f25_pttttf x0 x1 X call lf c0 c1 c2 c3 (by have:=(g0 c0 c1 c2 c3); rw [c4] at this; exact this)⟩
        | false =>
          exact ⟨fun h=>absurd (show (1:Nat)=0 from h) (by decide),fun _=>f25_ptttf x0 x1 X call lf c0 c1 c2 c3⟩
      | false =>
        exact ⟨fun h=>absurd (show (1:Nat)=0 from h) (by decide),fun _=>f25_pttf x0 x1 X call lf c0 c1 c2⟩
    | false =>
      exact ⟨fun h=>absurd (show (1:Nat)=0 from h) (by decide),fun _=>f25_ptf x0 x1 X call lf c0 c1⟩
  | false =>
    exact ⟨fun h=>absurd (show (1:Nat)=0 from h) (by decide),fun _=>f25_pf x0 x1 X call lf c0⟩
def fg15:Nat→List Nat
  | 5004=>[1]
  | _=>[]
def f15_F0 (L0:List Lexm)(i0:Nat):St :=
  stOf 46 [2,4,5,6,7,8,9,10,11,12,13,14,15,16,17,18,19,20,21,22,23,24,25,26,27,28,29,30,31,32,33,34,35,36,37,38,39,40,41,42] [(0,lro L0.length 5 (List.flatMap lexC L0)),(3,i6 (↑i0:Int))] []
def f15_S0 (L0:List Lexm):St :=
  stOf 46 [] [(0,lro L0.length 5 (List.flatMap lexC L0)),(2,bo false),(3,i6 0)] []
abbrev f15_D0:List Nat:=[10,9,2,42,41,40,39,38,37,36,35,34,33,32,31,30,29,28,27,26,25,24,23,22,21,20,19,18,17,16,15,4,14,13,12,11,8,7,6,5]
theorem f15_L0 (L0:List Lexm)(X:Ext)(call:Caller)(lf n:Nat)(x:Ex) (S' : St)
 (hn:n<lf)
 (hs:∀ j,j<n→∃ S1,vexec Tryd.prog X call lf 0 fg15 (loopN Tryd.f15 0) (f15_F0 L0 j)=some (Ex.normal,S1)∧forget f15_D0 S1=(f15_F0 L0 (j + 1)))
 (he:vexec Tryd.prog X call lf 0 fg15 (loopN Tryd.f15 0) (f15_F0 L0 n)=some (x,S'))
 (hx:x ≠ Ex.normal):vexec Tryd.prog X call lf 0 fg15 (Go.Code.loop (loopN Tryd.f15 0)) (f15_S0 L0)=some (x,S') :=
  loop_runK (by kernel_rfl) (fun j=>(f15_F0 L0 j)) n hn (by show forget f15_D0 (f15_S0 L0)=(f15_F0 L0 0); unfold f15_F0; show _=_; kernel_rfl) hs he hx
def f15_S1 (L0:List Lexm)(i0:Nat)(a b c d:ByteArray)(e:Nat)(g r13:List AV):St :=
  stOf 46 [9,10] [(0,lro L0.length 5 (List.flatMap lexC L0)),(2,bo false),(3,i6 (↑i0:Int)),(4,AV.eaddr [st a,st b,st c,st d,lro e 2 g]),(5,i6 (↑i0:Int)),(6,lro L0.length 5 (List.flatMap lexC L0)),(7,i6 (↑L0.length:Int)),(8,bo true),(11,lro L0.length 5 (List.flatMap lexC L0)),(12,i6 (↑i0:Int)),(13,AV.eaddr (st a::st b::st c::st d::lro e 2 g::r13)),(14,AV.agg [st a,st b,st c,st d,lro e 2 g]),(15,AV.eaddr [st a,st b,st c,st d,lro e 2 g]),(16,st a),(17,i6 (↑(ByteArray.size a):Int)),(18,bo true),(19,bo true),(24,bo true),(25,bo true),(30,bo true),(31,bo true),(36,bo true),(37,bo true),(42,bo true)] []
theorem f15_r0_tt (L0:List Lexm)(X:Ext)(call:Caller)(lf i0:Nat)(a c d e:ByteArray)(g:Nat)(h r13:List AV)
 (h0:decide ((↑i0:Int)<(↑L0.length:Int))=true)
 (h1:keep [] (indexAddrv Tryd.prog 22 [] (lro L0.length 5 (List.flatMap lexC L0)) (i6 (↑i0:Int)))=some (AV.eaddr (st a::st c::st d::st e::lro g 2 h::r13),[]))
 (h2:decide ((↑(ByteArray.size a):Int)>60)=true):vexec Tryd.prog X call lf 0 fg15 (loopN Tryd.f15 0) (f15_F0 L0 i0)=some (Ex.ret,(f15_S1 L0 i0 a c d e g h r13)) :=
  around_sound (ans:=[(4,Ans.b true),(9,Ans.v (AV.eaddr (st a::st c::st d::st e::lro g 2 h::r13))),(15,Ans.b true)]) (by kernel_rfl) (ai h0 (ai h1 (ai h2 trivial)))
theorem f15_pltt (L0:List Lexm)(X:Ext)(call:Caller)(lf i0:Nat)(a b c d:ByteArray)(e:Nat)(g r13:List AV)
 (h0:vexec Tryd.prog X call lf 0 fg15 (Code.loop (loopN Tryd.f15 0)) (f15_S0 L0)=some (Ex.ret,(f15_S1 L0 i0 a b c d e g r13))):vbody Tryd.prog X call lf fg15 Tryd.f15 (codeOf Tryd.f15) [lexsV L0] [] 0=some (bo false,[]) :=
  along_sound (ans:=[(4,Ans.l Ex.ret (f15_S1 L0 i0 a b c d e g r13))]) (by kernel_rfl) (ai h0 trivial)
def f15_S2 (L0:List Lexm)(i0:Nat)(a b c d:ByteArray)(e:Nat)(g r13:List AV):St :=
  stOf 46 [9,10] [(0,lro L0.length 5 (List.flatMap lexC L0)),(2,bo false),(3,i6 (↑i0:Int)),(4,AV.eaddr [st a,st b,st c,st d,lro e 2 g]),(5,i6 (↑i0:Int)),(6,lro L0.length 5 (List.flatMap lexC L0)),(7,i6 (↑L0.length:Int)),(8,bo true),(11,lro L0.length 5 (List.flatMap lexC L0)),(12,i6 (↑i0:Int)),(13,AV.eaddr (st a::st b::st c::st d::lro e 2 g::r13)),(14,AV.agg [st a,st b,st c,st d,lro e 2 g]),(15,AV.eaddr [st a,st b,st c,st d,lro e 2 g]),(16,st a),(17,i6 (↑(ByteArray.size a):Int)),(18,bo false),(19,bo false),(20,AV.eaddr [st b,st c,st d,lro e 2 g]),(21,st b),(22,i6 (↑(ByteArray.size b):Int)),(23,bo true),(24,bo true),(25,bo true),(30,bo true),(31,bo true),(36,bo true),(37,bo true),(42,bo true)] []
theorem f15_r0_tft (L0:List Lexm)(X:Ext)(call:Caller)(lf i0:Nat)(a c d e:ByteArray)(g:Nat)(h r13:List AV)
 (h0:decide ((↑i0:Int)<(↑L0.length:Int))=true)
 (h1:keep [] (indexAddrv Tryd.prog 22 [] (lro L0.length 5 (List.flatMap lexC L0)) (i6 (↑i0:Int)))=some (AV.eaddr (st a::st c::st d::st e::lro g 2 h::r13),[]))
 (h2:decide ((↑(ByteArray.size a):Int)>60)=false)
 (h3:decide ((↑(ByteArray.size c):Int)>60)=true):vexec Tryd.prog X call lf 0 fg15 (loopN Tryd.f15 0) (f15_F0 L0 i0)=some (Ex.ret,(f15_S2 L0 i0 a c d e g h r13)) :=
  around_sound (ans:=[(4,Ans.b true),(9,Ans.v (AV.eaddr (st a::st c::st d::st e::lro g 2 h::r13))),(15,Ans.b false),(24,Ans.b true)]) (by kernel_rfl) (ai h0 (ai h1 (ai h2 (ai h3 trivial))))
theorem f15_pltft (L0:List Lexm)(X:Ext)(call:Caller)(lf i0:Nat)(a b c d:ByteArray)(e:Nat)(g r13:List AV)
 (h0:vexec Tryd.prog X call lf 0 fg15 (Code.loop (loopN Tryd.f15 0)) (f15_S0 L0)=some (Ex.ret,(f15_S2 L0 i0 a b c d e g r13))):vbody Tryd.prog X call lf fg15 Tryd.f15 (codeOf Tryd.f15) [lexsV L0] [] 0=some (bo false,[]) :=
  along_sound (ans:=[(4,Ans.l Ex.ret (f15_S2 L0 i0 a b c d e g r13))]) (by kernel_rfl) (ai h0 trivial)
def f15_S3 (L0:List Lexm)(i0:Nat)(a b c d:ByteArray)(e:Nat)(g r13:List AV):St :=
  stOf 46 [9,10] [(0,lro L0.length 5 (List.flatMap lexC L0)),(2,bo false),(3,i6 (↑i0:Int)),(4,AV.eaddr [st a,st b,st c,st d,lro e 2 g]),(5,i6 (↑i0:Int)),(6,lro L0.length 5 (List.flatMap lexC L0)),(7,i6 (↑L0.length:Int)),(8,bo true),(11,lro L0.length 5 (List.flatMap lexC L0)),(12,i6 (↑i0:Int)),(13,AV.eaddr (st a::st b::st c::st d::lro e 2 g::r13)),(14,AV.agg [st a,st b,st c,st d,lro e 2 g]),(15,AV.eaddr [st a,st b,st c,st d,lro e 2 g]),(16,st a),(17,i6 (↑(ByteArray.size a):Int)),(18,bo false),(19,bo false),(20,AV.eaddr [st b,st c,st d,lro e 2 g]),(21,st b),(22,i6 (↑(ByteArray.size b):Int)),(23,bo false),(24,bo false),(25,bo false),(26,AV.eaddr [st c,st d,lro e 2 g]),(27,st c),(28,i6 (↑(ByteArray.size c):Int)),(29,bo true),(30,bo true),(31,bo true),(36,bo true),(37,bo true),(42,bo true)] []
theorem f15_r0_tfft (L0:List Lexm)(X:Ext)(call:Caller)(lf i0:Nat)(a c d e:ByteArray)(g:Nat)(h r13:List AV)
 (h0:decide ((↑i0:Int)<(↑L0.length:Int))=true)
 (h1:keep [] (indexAddrv Tryd.prog 22 [] (lro L0.length 5 (List.flatMap lexC L0)) (i6 (↑i0:Int)))=some (AV.eaddr (st a::st c::st d::st e::lro g 2 h::r13),[]))
 (h2:decide ((↑(ByteArray.size a):Int)>60)=false)
 (h3:decide ((↑(ByteArray.size c):Int)>60)=false)
 (h4:decide ((↑(ByteArray.size d):Int)>200)=true):vexec Tryd.prog X call lf 0 fg15 (loopN Tryd.f15 0) (f15_F0 L0 i0)=some (Ex.ret,(f15_S3 L0 i0 a c d e g h r13)) :=
  around_sound (ans:=[(4,Ans.b true),(9,Ans.v (AV.eaddr (st a::st c::st d::st e::lro g 2 h::r13))),(15,Ans.b false),(24,Ans.b false),(34,Ans.b true)]) (by kernel_rfl) (ai h0 (ai h1 (ai h2 (ai h3 (ai h4 trivial)))))
theorem f15_pltfft (L0:List Lexm)(X:Ext)(call:Caller)(lf i0:Nat)(a b c d:ByteArray)(e:Nat)(g r13:List AV)
 (h0:vexec Tryd.prog X call lf 0 fg15 (Code.loop (loopN Tryd.f15 0)) (f15_S0 L0)=some (Ex.ret,(f15_S3 L0 i0 a b c d e g r13))):vbody Tryd.prog X call lf fg15 Tryd.f15 (codeOf Tryd.f15) [lexsV L0] [] 0=some (bo false,[]) :=
  along_sound (ans:=[(4,Ans.l Ex.ret (f15_S3 L0 i0 a b c d e g r13))]) (by kernel_rfl) (ai h0 trivial)
def f15_S4 (L0:List Lexm)(i0:Nat)(a b c d:ByteArray)(e:Nat)(g r13:List AV):St :=
  stOf 46 [9,10] [(0,lro L0.length 5 (List.flatMap lexC L0)),(2,bo false),(3,i6 (↑i0:Int)),(4,AV.eaddr [st a,st b,st c,st d,lro e 2 g]),(5,i6 (↑i0:Int)),(6,lro L0.length 5 (List.flatMap lexC L0)),(7,i6 (↑L0.length:Int)),(8,bo true),(11,lro L0.length 5 (List.flatMap lexC L0)),(12,i6 (↑i0:Int)),(13,AV.eaddr (st a::st b::st c::st d::lro e 2 g::r13)),(14,AV.agg [st a,st b,st c,st d,lro e 2 g]),(15,AV.eaddr [st a,st b,st c,st d,lro e 2 g]),(16,st a),(17,i6 (↑(ByteArray.size a):Int)),(18,bo false),(19,bo false),(20,AV.eaddr [st b,st c,st d,lro e 2 g]),(21,st b),(22,i6 (↑(ByteArray.size b):Int)),(23,bo false),(24,bo false),(25,bo false),(26,AV.eaddr [st c,st d,lro e 2 g]),(27,st c),(28,i6 (↑(ByteArray.size c):Int)),(29,bo false),(30,bo false),(31,bo false),(32,AV.eaddr [st d,lro e 2 g]),(33,st d),(34,i6 (↑(ByteArray.size d):Int)),(35,bo true),(36,bo true),(37,bo true),(42,bo true)] []
theorem f15_r0_tffft (L0:List Lexm)(X:Ext)(call:Caller)(lf i0:Nat)(a c d e:ByteArray)(g:Nat)(h r13:List AV)
 (h0:decide ((↑i0:Int)<(↑L0.length:Int))=true)
 (h1:keep [] (indexAddrv Tryd.prog 22 [] (lro L0.length 5 (List.flatMap lexC L0)) (i6 (↑i0:Int)))=some (AV.eaddr (st a::st c::st d::st e::lro g 2 h::r13),[]))
 (h2:decide ((↑(ByteArray.size a):Int)>60)=false)
 (h3:decide ((↑(ByteArray.size c):Int)>60)=false)
 (h4:decide ((↑(ByteArray.size d):Int)>200)=false)
 (h5:decide ((↑(ByteArray.size e):Int)>60)=true):vexec Tryd.prog X call lf 0 fg15 (loopN Tryd.f15 0) (f15_F0 L0 i0)=some (Ex.ret,(f15_S4 L0 i0 a c d e g h r13)) :=
  around_sound (ans:=[(4,Ans.b true),(9,Ans.v (AV.eaddr (st a::st c::st d::st e::lro g 2 h::r13))),(15,Ans.b false),(24,Ans.b false),(34,Ans.b false),(44,Ans.b true)]) (by kernel_rfl) (ai h0 (ai h1 (ai h2 (ai h3 (ai h4 (ai h5 trivial))))))
theorem f15_pltffft (L0:List Lexm)(X:Ext)(call:Caller)(lf i0:Nat)(a b c d:ByteArray)(e:Nat)(g r13:List AV)
 (h0:vexec Tryd.prog X call lf 0 fg15 (Code.loop (loopN Tryd.f15 0)) (f15_S0 L0)=some (Ex.ret,(f15_S4 L0 i0 a b c d e g r13))):vbody Tryd.prog X call lf fg15 Tryd.f15 (codeOf Tryd.f15) [lexsV L0] [] 0=some (bo false,[]) :=
  along_sound (ans:=[(4,Ans.l Ex.ret (f15_S4 L0 i0 a b c d e g r13))]) (by kernel_rfl) (ai h0 trivial)
def f15_S5 (L0:List Lexm)(i0:Nat)(a b c d:ByteArray)(e:Nat)(g r13:List AV):St :=
  stOf 46 [9,10] [(0,lro L0.length 5 (List.flatMap lexC L0)),(2,bo false),(3,i6 (↑i0:Int)),(4,AV.eaddr [st a,st b,st c,st d,lro e 2 g]),(5,i6 (↑i0:Int)),(6,lro L0.length 5 (List.flatMap lexC L0)),(7,i6 (↑L0.length:Int)),(8,bo true),(11,lro L0.length 5 (List.flatMap lexC L0)),(12,i6 (↑i0:Int)),(13,AV.eaddr (st a::st b::st c::st d::lro e 2 g::r13)),(14,AV.agg [st a,st b,st c,st d,lro e 2 g]),(15,AV.eaddr [st a,st b,st c,st d,lro e 2 g]),(16,st a),(17,i6 (↑(ByteArray.size a):Int)),(18,bo false),(19,bo false),(20,AV.eaddr [st b,st c,st d,lro e 2 g]),(21,st b),(22,i6 (↑(ByteArray.size b):Int)),(23,bo false),(24,bo false),(25,bo false),(26,AV.eaddr [st c,st d,lro e 2 g]),(27,st c),(28,i6 (↑(ByteArray.size c):Int)),(29,bo false),(30,bo false),(31,bo false),(32,AV.eaddr [st d,lro e 2 g]),(33,st d),(34,i6 (↑(ByteArray.size d):Int)),(35,bo false),(36,bo false),(37,bo false),(38,AV.eaddr [lro e 2 g]),(39,lro e 2 g),(40,i6 (↑e:Int)),(41,bo true),(42,bo true)] []
theorem f15_r0_tfffft (L0:List Lexm)(X:Ext)(call:Caller)(lf i0:Nat)(a c d e:ByteArray)(g:Nat)(h r13:List AV)
 (h0:decide ((↑i0:Int)<(↑L0.length:Int))=true)
 (h1:keep [] (indexAddrv Tryd.prog 22 [] (lro L0.length 5 (List.flatMap lexC L0)) (i6 (↑i0:Int)))=some (AV.eaddr (st a::st c::st d::st e::lro g 2 h::r13),[]))
 (h2:decide ((↑(ByteArray.size a):Int)>60)=false)
 (h3:decide ((↑(ByteArray.size c):Int)>60)=false)
 (h4:decide ((↑(ByteArray.size d):Int)>200)=false)
 (h5:decide ((↑(ByteArray.size e):Int)>60)=false)
 (h6:decide ((↑g:Int)>20)=true):vexec Tryd.prog X call lf 0 fg15 (loopN Tryd.f15 0) (f15_F0 L0 i0)=some (Ex.ret,(f15_S5 L0 i0 a c d e g h r13)) :=
  around_sound (ans:=[(4,Ans.b true),(9,Ans.v (AV.eaddr (st a::st c::st d::st e::lro g 2 h::r13))),(15,Ans.b false),(24,Ans.b false),(34,Ans.b false),(44,Ans.b false),(54,Ans.b true)]) (by kernel_rfl) (ai h0 (ai h1 (ai h2 (ai h3 (ai h4 (ai h5 (ai h6 trivial)))))))
theorem f15_pltfffft (L0:List Lexm)(X:Ext)(call:Caller)(lf i0:Nat)(a b c d:ByteArray)(e:Nat)(g r13:List AV)
 (h0:vexec Tryd.prog X call lf 0 fg15 (Code.loop (loopN Tryd.f15 0)) (f15_S0 L0)=some (Ex.ret,(f15_S5 L0 i0 a b c d e g r13))):vbody Tryd.prog X call lf fg15 Tryd.f15 (codeOf Tryd.f15) [lexsV L0] [] 0=some (bo false,[]) :=
  along_sound (ans:=[(4,Ans.l Ex.ret (f15_S5 L0 i0 a b c d e g r13))]) (by kernel_rfl) (ai h0 trivial)
theorem f15_s0_tfffff (L0:List Lexm)(X:Ext)(call:Caller)(lf i0:Nat)(a c d e:ByteArray)(g:Nat)(h r13:List AV)
 (h0:decide ((↑i0:Int)<(↑L0.length:Int))=true)
 (h1:keep [] (indexAddrv Tryd.prog 22 [] (lro L0.length 5 (List.flatMap lexC L0)) (i6 (↑i0:Int)))=some (AV.eaddr (st a::st c::st d::st e::lro g 2 h::r13),[]))
 (h2:decide ((↑(ByteArray.size a):Int)>60)=false)
 (h3:decide ((↑(ByteArray.size c):Int)>60)=false)
 (h4:decide ((↑(ByteArray.size d):Int)>200)=false)
 (h5:decide ((↑(ByteArray.size e):Int)>60)=false)
 (h6:decide ((↑g:Int)>20)=false)
 (e0:(↑(i0 + 1):Int)=w6 ((↑i0:Int) + 1)):∃ S1,vexec Tryd.prog X call lf 0 fg15 (loopN Tryd.f15 0) (f15_F0 L0 i0)=some (Ex.normal,S1)∧forget f15_D0 S1=(f15_F0 L0 (i0 + 1)) :=
  ⟨stOf 46 [2] [(0,lro L0.length 5 (List.flatMap lexC L0)),(3,i6 (w6 ((↑i0:Int) + 1))),(4,AV.eaddr [st a,st c,st d,st e,lro g 2 h]),(5,i6 (↑i0:Int)),(6,lro L0.length 5 (List.flatMap lexC L0)),(7,i6 (↑L0.length:Int)),(8,bo true),(9,i6 (↑i0:Int)),(10,i6 (w6 ((↑i0:Int) + 1))),(11,lro L0.length 5 (List.flatMap lexC L0)),(12,i6 (↑i0:Int)),(13,AV.eaddr (st a::st c::st d::st e::lro g 2 h::r13)),(14,AV.agg [st a,st c,st d,st e,lro g 2 h]),(15,AV.eaddr [st a,st c,st d,st e,lro g 2 h]),(16,st a),(17,i6 (↑(ByteArray.size a):Int)),(18,bo false),(19,bo false),(20,AV.eaddr [st c,st d,st e,lro g 2 h]),(21,st c),(22,i6 (↑(ByteArray.size c):Int)),(23,bo false),(24,bo false),(25,bo false),(26,AV.eaddr [st d,st e,lro g 2 h]),(27,st d),(28,i6 (↑(ByteArray.size d):Int)),(29,bo false),(30,bo false),(31,bo false),(32,AV.eaddr [st e,lro g 2 h]),(33,st e),(34,i6 (↑(ByteArray.size e):Int)),(35,bo false),(36,bo false),(37,bo false),(38,AV.eaddr [lro g 2 h]),(39,lro g 2 h),(40,i6 (↑g:Int)),(41,bo false),(42,bo false)] [],around_sound (ans:=[(4,Ans.b true),(9,Ans.v (AV.eaddr (st a::st c::st d::st e::lro g 2 h::r13))),(15,Ans.b false),(24,Ans.b false),(34,Ans.b false),(44,Ans.b false),(54,Ans.b false)]) (by kernel_rfl) (ai h0 (ai h1 (ai h2 (ai h3 (ai h4 (ai h5 (ai h6 trivial))))))),by unfold f15_F0; rw [e0]; show _=_; kernel_rfl⟩
def f15_S6 (L0:List Lexm)(i0:Nat):St :=
  stOf 46 [2,4,9,10,11,12,13,14,15,16,17,18,19,20,21,22,23,24,25,26,27,28,29,30,31,32,33,34,35,36,37,38,39,40,41,42] [(0,lro L0.length 5 (List.flatMap lexC L0)),(3,i6 (↑i0:Int)),(5,i6 (↑i0:Int)),(6,lro L0.length 5 (List.flatMap lexC L0)),(7,i6 (↑L0.length:Int)),(8,bo false)] []
theorem f15_r0_f (L0:List Lexm)(X:Ext)(call:Caller)(lf i0:Nat)
 (h0:decide ((↑i0:Int)<(↑L0.length:Int))=false):vexec Tryd.prog X call lf 0 fg15 (loopN Tryd.f15 0) (f15_F0 L0 i0)=some (Ex.exit 0,(f15_S6 L0 i0)) :=
  around_sound (ans:=[(4,Ans.b false)]) (by kernel_rfl) (ai h0 trivial)
theorem f15_plft (L0:List Lexm)(X:Ext)(call:Caller)(lf i0:Nat)
 (h0:vexec Tryd.prog X call lf 0 fg15 (Code.loop (loopN Tryd.f15 0)) (f15_S0 L0)=some (Ex.exit 0,(f15_S6 L0 i0)))
 (h1:decide ((↑L0.length:Int) ≤ 300)=true):vbody Tryd.prog X call lf fg15 Tryd.f15 (codeOf Tryd.f15) [lexsV L0] [] 0=some (bo true,[]) :=
  along_sound (ans:=[(4,Ans.l (Ex.exit 0) (f15_S6 L0 i0)),(8,Ans.b true)]) (by kernel_rfl) (ai h0 (ai h1 trivial))
theorem f15_plff (L0:List Lexm)(X:Ext)(call:Caller)(lf i0:Nat)
 (h0:vexec Tryd.prog X call lf 0 fg15 (Code.loop (loopN Tryd.f15 0)) (f15_S0 L0)=some (Ex.exit 0,(f15_S6 L0 i0)))
 (h1:decide ((↑L0.length:Int) ≤ 300)=false):vbody Tryd.prog X call lf fg15 Tryd.f15 (codeOf Tryd.f15) [lexsV L0] [] 0=some (bo false,[]) :=
  along_sound (ans:=[(4,Ans.l (Ex.exit 0) (f15_S6 L0 i0)),(8,Ans.b false)]) (by kernel_rfl) (ai h0 (ai h1 trivial))
def f15_o0 (L0:List Lexm)(i0:Nat)(a b c d:ByteArray)(e:Nat):Nat :=
  (match decide ((↑i0:Int)<(↑L0.length:Int)) with
  | true=>(match decide ((↑(ByteArray.size a):Int)>60) with
    | true=>1
    | false=>(match decide ((↑(ByteArray.size b):Int)>60) with
      | true=>2
      | false=>(match decide ((↑(ByteArray.size c):Int)>200) with
        | true=>3
        | false=>(match decide ((↑(ByteArray.size d):Int)>60) with
          | true=>4
          | false=>(match decide ((↑e:Int)>20) with
            | true=>5
            | false=>0)))))
  | false=>6)
theorem f15_B0 (L0:List Lexm)(X:Ext)(call:Caller)(lf i0:Nat)(a b c d:ByteArray)(e:Nat)(g r13:List AV)
 (g0:decide ((↑i0:Int)<(↑L0.length:Int))=true→keep [] (indexAddrv Tryd.prog 22 [] (lro L0.length 5 (List.flatMap lexC L0)) (i6 (↑i0:Int)))=some (AV.eaddr (st a::st b::st c::st d::lro e 2 g::r13),[]))
 (e0:decide ((↑i0:Int)<(↑L0.length:Int))=true→(↑(i0 + 1):Int)=w6 ((↑i0:Int) + 1)) :
    (f15_o0 L0 i0 a b c d e=0→∃ S1,vexec Tryd.prog X call lf 0 fg15 (loopN Tryd.f15 0) (f15_F0 L0 i0)=some (Ex.normal,S1)∧forget f15_D0 S1=(f15_F0 L0 (i0 + 1)))∧(f15_o0 L0 i0 a b c d e=1→vexec Tryd.prog X call lf 0 fg15 (loopN Tryd.f15 0) (f15_F0 L0 i0)=some (Ex.ret,(f15_S1 L0 i0 a b c d e g r13)))∧(f15_o0 L0 i0 a b c d e=2→vexec Tryd.prog X call lf 0 fg15 (loopN Tryd.f15 0) (f15_F0 L0 i0)=some (Ex.ret,(f15_S2 L0 i0 a b c d e g r13)))∧(f15_o0 L0 i0 a b c d e=3→vexec Tryd.prog X call lf 0 fg15 (loopN Tryd.f15 0) (f15_F0 L0 i0)=some (Ex.ret,(f15_S3 L0 i0 a b c d e g r13)))∧(f15_o0 L0 i0 a b c d e=4→vexec Tryd.prog X call lf 0 fg15 (loopN Tryd.f15 0) (f15_F0 L0 i0)=some (Ex.ret,(f15_S4 L0 i0 a b c d e g r13)))∧(f15_o0 L0 i0 a b c d e=5→vexec Tryd.prog X call lf 0 fg15 (loopN Tryd.f15 0) (f15_F0 L0 i0)=some (Ex.ret,(f15_S5 L0 i0 a b c d e g r13)))∧(f15_o0 L0 i0 a b c d e=6→vexec Tryd.prog X call lf 0 fg15 (loopN Tryd.f15 0) (f15_F0 L0 i0)=some (Ex.exit 0,(f15_S6 L0 i0))):=by
  unfold f15_o0
  cases c0:decide ((↑i0:Int)<(↑L0.length:Int)) with
  | true =>
    cases c1:decide ((↑(ByteArray.size a):Int)>60) with
    | true =>
      exact ⟨fun h=>absurd (show (1:Nat)=0 from h) (by decide),fun _=>f15_r0_tt L0 X call lf i0 a b c d e g r13 c0 (g0 c0) c1,fun h=>absurd (show (1:Nat)=2 from h) (by decide),fun h=>absurd (show (1:Nat)=3 from h) (by decide),fun h=>absurd (show (1:Nat)=4 from h) (by decide),fun h=>absurd (show (1:Nat)=5 from h) (by decide),fun h=>absurd (show (1:Nat)=6 from h) (by decide)⟩
    | false =>
      cases c2:decide ((↑(ByteArray.size b):Int)>60) with
      | true =>
        exact ⟨fun h=>absurd (show (2:Nat)=0 from h) (by decide),fun h=>absurd (show (2:Nat)=1 from h) (by decide),fun _=>f15_r0_tft L0 X call lf i0 a b c d e g r13 c0 (g0 c0) c1 c2,fun h=>absurd (show (2:Nat)=3 from h) (by decide),fun h=>absurd (show (2:Nat)=4 from h) (by decide),fun h=>absurd (show (2:Nat)=5 from h) (by decide),fun h=>absurd (show (2:Nat)=6 from h) (by decide)⟩
      | false =>
        cases c3:decide ((↑(ByteArray.size c):Int)>200) with
        | true =>
          exact ⟨fun h=>absurd (show (3:Nat)=0 from h) (by decide),fun h=>absurd (show (3:Nat)=1 from h) (by decide),fun h=>absurd (show (3:Nat)=2 from h) (by decide),fun _=>f15_r0_tfft L0 X call lf i0 a b c d e g r13 c0 (g0 c0) c1 c2 c3,fun h=>absurd (show (3:Nat)=4 from h) (by decide),fun h=>absurd (show (3:Nat)=5 from h) (by decide),fun h=>absurd (show (3:Nat)=6 from h) (by decide)⟩
        | false =>
          cases c4:decide ((↑(ByteArray.size d):Int)>60) with
          | true =>
            exact ⟨fun h=>absurd (show (4:Nat)=0 from h) (by decide),fun h=>absurd (show (4:Nat)=1 from h) (by decide),fun h=>absurd (show (4:Nat)=2 from h) (by decide),fun h=>absurd (show (4:Nat)=3 from h) (by decide),fun _=>f15_r0_tffft L0 X call lf i0 a b c d e g r13 c0 (g0 c0) c1 c2 c3 c4,fun h=>absurd (show (4:Nat)=5 from h) (by decide),fun h=>absurd (show (4:Nat)=6 from h) (by decide)⟩
          | false =>
            cases c5:decide ((↑e:Int)>20) with
            | true =>
              exact ⟨fun h=>absurd (show (5:Nat)=0 from h) (by decide),fun h=>absurd (show (5:Nat)=1 from h) (by decide),fun h=>absurd (show (5:Nat)=2 from h) (by decide),fun h=>absurd (show (5:Nat)=3 from h) (by decide),fun h=>absurd (show (5:Nat)=4 from h) (by decide),fun _=>f15_r0_tfffft L0 X call lf i0 a b c d e g r13 c0 (g0 c0) c1 c2 c3 c4 c5,fun h=>absurd (show (5:Nat)=6 from h) (by decide)⟩
            | false =>
              exact ⟨fun _=>f15_s0_tfffff L0 X call lf i0 a b c d e g r13 c0 (g0 c0) c1 c2 c3 c4 c5 (e0 c0),fun h=>absurd (show (0:Nat)=1 from h) (by decide),fun h=>absurd (show (0:Nat)=2 from h) (by decide),fun h=>absurd (show (0:Nat)=3 from h) (by decide),fun h=>absurd (show (0:Nat)=4 from h) (by decide),fun h=>absurd (show (0:Nat)=5 from h) (by decide),fun h=>absurd (show (0:Nat)=6 from h) (by decide)⟩
  | false =>
    exact ⟨fun h=>absurd (show (6:Nat)=0 from h) (by decide),fun h=>absurd (show (6:Nat)=1 from h) (by decide),fun h=>absurd (show (6:Nat)=2 from h) (by decide),fun h=>absurd (show (6:Nat)=3 from h) (by decide),fun h=>absurd (show (6:Nat)=4 from h) (by decide),fun h=>absurd (show (6:Nat)=5 from h) (by decide),fun _=>f15_r0_f L0 X call lf i0 c0⟩
theorem f15_X0 (L0:List Lexm)(X:Ext)(call:Caller)(lf i0:Nat)(a b c d:ByteArray)(e:Nat)(g r13:List AV)
 (g0:decide ((↑i0:Int)<(↑L0.length:Int))=true→keep [] (indexAddrv Tryd.prog 22 [] (lro L0.length 5 (List.flatMap lexC L0)) (i6 (↑i0:Int)))=some (AV.eaddr (st a::st b::st c::st d::lro e 2 g::r13),[])) :
    (f15_o0 L0 i0 a b c d e=1→vexec Tryd.prog X call lf 0 fg15 (loopN Tryd.f15 0) (f15_F0 L0 i0)=some (Ex.ret,(f15_S1 L0 i0 a b c d e g r13)))∧(f15_o0 L0 i0 a b c d e=2→vexec Tryd.prog X call lf 0 fg15 (loopN Tryd.f15 0) (f15_F0 L0 i0)=some (Ex.ret,(f15_S2 L0 i0 a b c d e g r13)))∧(f15_o0 L0 i0 a b c d e=3→vexec Tryd.prog X call lf 0 fg15 (loopN Tryd.f15 0) (f15_F0 L0 i0)=some (Ex.ret,(f15_S3 L0 i0 a b c d e g r13)))∧(f15_o0 L0 i0 a b c d e=4→vexec Tryd.prog X call lf 0 fg15 (loopN Tryd.f15 0) (f15_F0 L0 i0)=some (Ex.ret,(f15_S4 L0 i0 a b c d e g r13)))∧(f15_o0 L0 i0 a b c d e=5→vexec Tryd.prog X call lf 0 fg15 (loopN Tryd.f15 0) (f15_F0 L0 i0)=some (Ex.ret,(f15_S5 L0 i0 a b c d e g r13)))∧(f15_o0 L0 i0 a b c d e=6→vexec Tryd.prog X call lf 0 fg15 (loopN Tryd.f15 0) (f15_F0 L0 i0)=some (Ex.exit 0,(f15_S6 L0 i0))):=by
  unfold f15_o0
  cases c0:decide ((↑i0:Int)<(↑L0.length:Int)) with
  | true =>
    cases c1:decide ((↑(ByteArray.size a):Int)>60) with
    | true =>
      exact ⟨fun _=>f15_r0_tt L0 X call lf i0 a b c d e g r13 c0 (g0 c0) c1,fun h=>absurd (show (1:Nat)=2 from h) (by decide),fun h=>absurd (show (1:Nat)=3 from h) (by decide),fun h=>absurd (show (1:Nat)=4 from h) (by decide),fun h=>absurd (show (1:Nat)=5 from h) (by decide),fun h=>absurd (show (1:Nat)=6 from h) (by decide)⟩
    | false =>
      cases c2:decide ((↑(ByteArray.size b):Int)>60) with
      | true =>
        exact ⟨fun h=>absurd (show (2:Nat)=1 from h) (by decide),fun _=>f15_r0_tft L0 X call lf i0 a b c d e g r13 c0 (g0 c0) c1 c2,fun h=>absurd (show (2:Nat)=3 from h) (by decide),fun h=>absurd (show (2:Nat)=4 from h) (by decide),fun h=>absurd (show (2:Nat)=5 from h) (by decide),fun h=>absurd (show (2:Nat)=6 from h) (by decide)⟩
      | false =>
        cases c3:decide ((↑(ByteArray.size c):Int)>200) with
        | true =>
          exact ⟨fun h=>absurd (show (3:Nat)=1 from h) (by decide),fun h=>absurd (show (3:Nat)=2 from h) (by decide),fun _=>f15_r0_tfft L0 X call lf i0 a b c d e g r13 c0 (g0 c0) c1 c2 c3,fun h=>absurd (show (3:Nat)=4 from h) (by decide),fun h=>absurd (show (3:Nat)=5 from h) (by decide),fun h=>absurd (show (3:Nat)=6 from h) (by decide)⟩
        | false =>
          cases c4:decide ((↑(ByteArray.size d):Int)>60) with
          | true =>
            exact ⟨fun h=>absurd (show (4:Nat)=1 from h) (by decide),fun h=>absurd (show (4:Nat)=2 from h) (by decide),fun h=>absurd (show (4:Nat)=3 from h) (by decide),fun _=>f15_r0_tffft L0 X call lf i0 a b c d e g r13 c0 (g0 c0) c1 c2 c3 c4,fun h=>absurd (show (4:Nat)=5 from h) (by decide),fun h=>absurd (show (4:Nat)=6 from h) (by decide)⟩
          | false =>
            cases c5:decide ((↑e:Int)>20) with
            | true =>
              exact ⟨fun h=>absurd (show (5:Nat)=1 from h) (by decide),fun h=>absurd (show (5:Nat)=2 from h) (by decide),fun h=>absurd (show (5:Nat)=3 from h) (by decide),fun h=>absurd (show (5:Nat)=4 from h) (by decide),fun _=>f15_r0_tfffft L0 X call lf i0 a b c d e g r13 c0 (g0 c0) c1 c2 c3 c4 c5,fun h=>absurd (show (5:Nat)=6 from h) (by decide)⟩
            | false =>
              exact ⟨fun h=>absurd (show (0:Nat)=1 from h) (by decide),fun h=>absurd (show (0:Nat)=2 from h) (by decide),fun h=>absurd (show (0:Nat)=3 from h) (by decide),fun h=>absurd (show (0:Nat)=4 from h) (by decide),fun h=>absurd (show (0:Nat)=5 from h) (by decide),fun h=>absurd (show (0:Nat)=6 from h) (by decide)⟩
  | false =>
    exact ⟨fun h=>absurd (show (6:Nat)=1 from h) (by decide),fun h=>absurd (show (6:Nat)=2 from h) (by decide),fun h=>absurd (show (6:Nat)=3 from h) (by decide),fun h=>absurd (show (6:Nat)=4 from h) (by decide),fun h=>absurd (show (6:Nat)=5 from h) (by decide),fun _=>f15_r0_f L0 X call lf i0 c0⟩
theorem f15_M (L0:List Lexm)(X:Ext)(call:Caller)(lf n:Nat)(a b c d:Nat→ByteArray)(e:Nat→Nat)(g r13:Nat→List AV)
 (hn:n<lf)
 (g0:∀ i0,i0 ≤ n→decide ((↑i0:Int)<(↑L0.length:Int))=true→keep [] (indexAddrv Tryd.prog 22 [] (lro L0.length 5 (List.flatMap lexC L0)) (i6 (↑i0:Int)))=some (AV.eaddr (st (a i0)::st (b i0)::st (c i0)::st (d i0)::lro (e i0) 2 (g i0)::(r13 i0)),[]))
 (e0:∀ i0,i0<n→decide ((↑i0:Int)<(↑L0.length:Int))=true→(↑(i0 + 1):Int)=w6 ((↑i0:Int) + 1))
 (hz:∀ j,j<n→f15_o0 L0 j (a j) (b j) (c j) (d j) (e j)=0) :
    (f15_o0 L0 n (a n) (b n) (c n) (d n) (e n)=1→vbody Tryd.prog X call lf fg15 Tryd.f15 (codeOf Tryd.f15) [lexsV L0] [] 0=some (bo false,[]))∧(f15_o0 L0 n (a n) (b n) (c n) (d n) (e n)=2→vbody Tryd.prog X call lf fg15 Tryd.f15 (codeOf Tryd.f15) [lexsV L0] [] 0=some (bo false,[]))∧(f15_o0 L0 n (a n) (b n) (c n) (d n) (e n)=3→vbody Tryd.prog X call lf fg15 Tryd.f15 (codeOf Tryd.f15) [lexsV L0] [] 0=some (bo false,[]))∧(f15_o0 L0 n (a n) (b n) (c n) (d n) (e n)=4→vbody Tryd.prog X call lf fg15 Tryd.f15 (codeOf Tryd.f15) [lexsV L0] [] 0=some (bo false,[]))∧(f15_o0 L0 n (a n) (b n) (c n) (d n) (e n)=5→vbody Tryd.prog X call lf fg15 Tryd.f15 (codeOf Tryd.f15) [lexsV L0] [] 0=some (bo false,[]))∧(f15_o0 L0 n (a n) (b n) (c n) (d n) (e n)=6→decide ((↑L0.length:Int) ≤ 300)=true→vbody Tryd.prog X call lf fg15 Tryd.f15 (codeOf Tryd.f15) [lexsV L0] [] 0=some (bo true,[]))∧(f15_o0 L0 n (a n) (b n) (c n) (d n) (e n)=6→decide ((↑L0.length:Int) ≤ 300)=false→vbody Tryd.prog X call lf fg15 Tryd.f15 (codeOf Tryd.f15) [lexsV L0] [] 0=some (bo false,[])):=by
  have key:∀ j,j<n→_:=fun j hj=>(f15_B0 L0 X call lf j (a j) (b j) (c j) (d j) (e j) (g j) (r13 j) (g0 j (Nat.le_of_lt hj)) (e0 j hj)).1 (hz j hj)
  have kn:=f15_X0 L0 X call lf n (a n) (b n) (c n) (d n) (e n) (g n) (r13 n) (g0 n (Nat.le_refl n))
  exact ⟨fun hk=>f15_pltt L0 X call lf n (a n) (b n) (c n) (d n) (e n) (g n) (r13 n) (f15_L0 L0 X call lf n _ _ hn key (kn.1 hk) (by simp)),
    fun hk=>f15_pltft L0 X call lf n (a n) (b n) (c n) (d n) (e n) (g n) (r13 n) (f15_L0 L0 X call lf n _ _ hn key (kn.2.1 hk) (by simp)),
    fun hk=>f15_pltfft L0 X call lf n (a n) (b n) (c n) (d n) (e n) (g n) (r13 n) (f15_L0 L0 X call lf n _ _ hn key (kn.2.2.1 hk) (by simp)),
    fun hk=>f15_pltffft L0 X call lf n (a n) (b n) (c n) (d n) (e n) (g n) (r13 n) (f15_L0 L0 X call lf n _ _ hn key (kn.2.2.2.1 hk) (by simp)),
    fun hk=>f15_pltfffft L0 X call lf n (a n) (b n) (c n) (d n) (e n) (g n) (r13 n) (f15_L0 L0 X call lf n _ _ hn key (kn.2.2.2.2.1 hk) (by simp)),
    fun hk q0=>f15_plft L0 X call lf n (f15_L0 L0 X call lf n _ _ hn key (kn.2.2.2.2.2 hk) (by simp)) q0,
    fun hk q0=>f15_plff L0 X call lf n (f15_L0 L0 X call lf n _ _ hn key (kn.2.2.2.2.2 hk) (by simp)) q0⟩
theorem f47_pt (s0:ByteArray)(X:Ext)(call:Caller)(lf:Nat)
 (h0:(ByteArray.toList s0 == ByteArray.toList (ByteArray.mk #[]))=true):vbody Tryd.prog X call lf noFg Tryd.f47 (codeOf Tryd.f47) [st s0] [] 0=some (st (ByteArray.mk #[45]),[]) :=
  along_sound (ans:=[(4,Ans.b true)]) (by kernel_rfl) (ai h0 trivial)
theorem f47_pf (s0:ByteArray)(X:Ext)(call:Caller)(lf:Nat)
 (h0:(ByteArray.toList s0 == ByteArray.toList (ByteArray.mk #[]))=false):vbody Tryd.prog X call lf noFg Tryd.f47 (codeOf Tryd.f47) [st s0] [] 0=some (st s0,[]) :=
  along_sound (ans:=[(4,Ans.b false)]) (by kernel_rfl) (ai h0 trivial)
def f47_q0 (s0:ByteArray):Nat :=
  (match (ByteArray.toList s0 == ByteArray.toList (ByteArray.mk #[])) with
  | true=>0
  | false=>1)
theorem f47_P0 (s0:ByteArray)(X:Ext)(call:Caller)(lf:Nat) :
    (f47_q0 s0=0→vbody Tryd.prog X call lf noFg Tryd.f47 (codeOf Tryd.f47) [st s0] [] 0=some (st (ByteArray.mk #[45]),[]))∧(f47_q0 s0=1→vbody Tryd.prog X call lf noFg Tryd.f47 (codeOf Tryd.f47) [st s0] [] 0=some (st s0,[])):=by
  unfold f47_q0
  cases c0:(ByteArray.toList s0 == ByteArray.toList (ByteArray.mk #[])) with
  | true =>
    exact ⟨fun _=>f47_pt s0 X call lf c0,fun h=>absurd (show (0:Nat)=1 from h) (by decide)⟩
  | false =>
    exact ⟨fun h=>absurd (show (1:Nat)=0 from h) (by decide),fun _=>f47_pf s0 X call lf c0⟩
theorem f56_pt (s0:ByteArray)(X:Ext)(call:Caller)(lf:Nat)
 (h0:(ByteArray.toList s0 == ByteArray.toList (ByteArray.mk #[45]))=true):vbody Tryd.prog X call lf noFg Tryd.f56 (codeOf Tryd.f56) [st s0] [] 0=some (st (ByteArray.mk #[]),[]) :=
  along_sound (ans:=[(4,Ans.b true)]) (by kernel_rfl) (ai h0 trivial)
theorem f56_pf (s0:ByteArray)(X:Ext)(call:Caller)(lf:Nat)
 (h0:(ByteArray.toList s0 == ByteArray.toList (ByteArray.mk #[45]))=false):vbody Tryd.prog X call lf noFg Tryd.f56 (codeOf Tryd.f56) [st s0] [] 0=some (st s0,[]) :=
  along_sound (ans:=[(4,Ans.b false)]) (by kernel_rfl) (ai h0 trivial)
def f56_q0 (s0:ByteArray):Nat :=
  (match (ByteArray.toList s0 == ByteArray.toList (ByteArray.mk #[45])) with
  | true=>0
  | false=>1)
theorem f56_P0 (s0:ByteArray)(X:Ext)(call:Caller)(lf:Nat) :
    (f56_q0 s0=0→vbody Tryd.prog X call lf noFg Tryd.f56 (codeOf Tryd.f56) [st s0] [] 0=some (st (ByteArray.mk #[]),[]))∧(f56_q0 s0=1→vbody Tryd.prog X call lf noFg Tryd.f56 (codeOf Tryd.f56) [st s0] [] 0=some (st s0,[])):=by
  unfold f56_q0
  cases c0:(ByteArray.toList s0 == ByteArray.toList (ByteArray.mk #[45])) with
  | true =>
    exact ⟨fun _=>f56_pt s0 X call lf c0,fun h=>absurd (show (0:Nat)=1 from h) (by decide)⟩
  | false =>
    exact ⟨fun h=>absurd (show (1:Nat)=0 from h) (by decide),fun _=>f56_pf s0 X call lf c0⟩
def f29_F0 (L0:List Lexm)(s1:ByteArray)(i0:Nat):St :=
  stOf 20 [4,6,7,8,9,10,11,12,13,14,15,16,17,18,19] [(0,lro L0.length 5 (List.flatMap lexC L0)),(1,st s1),(5,i6 (↑i0:Int))] []
def f29_S0 (L0:List Lexm)(s1:ByteArray):St :=
  stOf 20 [] [(0,lro L0.length 5 (List.flatMap lexC L0)),(1,st s1),(4,i6 0),(5,i6 0)] []
abbrev f29_D0:List Nat:=[11,10,4,19,18,17,16,15,14,13,12,9,8,7,6]
theorem f29_L0 (L0:List Lexm)(s1:ByteArray)(X:Ext)(call:Caller)(lf n:Nat)(x:Ex) (S' : St)
 (hn:n<lf)
 (hs:∀ j,j<n→∃ S1,vexec Tryd.prog X call lf 0 noFg (loopN Tryd.f29 0) (f29_F0 L0 s1 j)=some (Ex.normal,S1)∧forget f29_D0 S1=(f29_F0 L0 s1 (j + 1)))
 (he:vexec Tryd.prog X call lf 0 noFg (loopN Tryd.f29 0) (f29_F0 L0 s1 n)=some (x,S'))
 (hx:x ≠ Ex.normal):vexec Tryd.prog X call lf 0 noFg (Go.Code.loop (loopN Tryd.f29 0)) (f29_S0 L0 s1)=some (x,S') :=
  loop_runK (by kernel_rfl) (fun j=>(f29_F0 L0 s1 j)) n hn (by show forget f29_D0 (f29_S0 L0 s1)=(f29_F0 L0 s1 0); unfold f29_F0; show _=_; kernel_rfl) hs he hx
def f29_S1 (L0:List Lexm)(s1:ByteArray)(i0:Nat)(a b c d:ByteArray)(e:Nat)(g r14:List AV):St :=
  stOf 20 [10,11] [(0,lro L0.length 5 (List.flatMap lexC L0)),(1,st s1),(4,i6 (↑i0:Int)),(5,i6 (↑i0:Int)),(6,i6 (↑i0:Int)),(7,lro L0.length 5 (List.flatMap lexC L0)),(8,i6 (↑L0.length:Int)),(9,bo true),(12,lro L0.length 5 (List.flatMap lexC L0)),(13,i6 (↑i0:Int)),(14,AV.eaddr (st a::st b::st c::st d::lro e 2 g::r14)),(15,AV.eaddr (st a::st b::st c::st d::lro e 2 g::r14)),(16,st a),(17,st s1),(18,bo true),(19,i6 (↑i0:Int))] []
theorem f29_r0_tt (L0:List Lexm)(s1:ByteArray)(X:Ext)(call:Caller)(lf i0:Nat)(a c d e:ByteArray)(g:Nat)(h r14:List AV)
 (h0:decide ((↑i0:Int)<(↑L0.length:Int))=true)
 (h1:keep [] (indexAddrv Tryd.prog 22 [] (lro L0.length 5 (List.flatMap lexC L0)) (i6 (↑i0:Int)))=some (AV.eaddr (st a::st c::st d::st e::lro g 2 h::r14),[]))
 (h2:(ByteArray.toList a == ByteArray.toList s1)=true):vexec Tryd.prog X call lf 0 noFg (loopN Tryd.f29 0) (f29_F0 L0 s1 i0)=some (Ex.ret,(f29_S1 L0 s1 i0 a c d e g h r14)) :=
  around_sound (ans:=[(4,Ans.b true),(9,Ans.v (AV.eaddr (st a::st c::st d::st e::lro g 2 h::r14))),(13,Ans.b true)]) (by kernel_rfl) (ai h0 (ai h1 (ai h2 trivial)))
theorem f29_pltt (L0:List Lexm)(s1:ByteArray)(X:Ext)(call:Caller)(lf i0:Nat)(a b c d:ByteArray)(e:Nat)(g r14:List AV)
 (h0:vexec Tryd.prog X call lf 0 noFg (Code.loop (loopN Tryd.f29 0)) (f29_S0 L0 s1)=some (Ex.ret,(f29_S1 L0 s1 i0 a b c d e g r14))):vbody Tryd.prog X call lf noFg Tryd.f29 (codeOf Tryd.f29) [lexsV L0,st s1] [] 0=some (i6 (↑i0:Int),[]) :=
  along_sound (ans:=[(4,Ans.l Ex.ret (f29_S1 L0 s1 i0 a b c d e g r14))]) (by kernel_rfl) (ai h0 trivial)
theorem f29_s0_tf (L0:List Lexm)(s1:ByteArray)(X:Ext)(call:Caller)(lf i0:Nat)(a c d e:ByteArray)(g:Nat)(h r14:List AV)
 (h0:decide ((↑i0:Int)<(↑L0.length:Int))=true)
 (h1:keep [] (indexAddrv Tryd.prog 22 [] (lro L0.length 5 (List.flatMap lexC L0)) (i6 (↑i0:Int)))=some (AV.eaddr (st a::st c::st d::st e::lro g 2 h::r14),[]))
 (h2:(ByteArray.toList a == ByteArray.toList s1)=false)
 (e0:(↑(i0 + 1):Int)=w6 ((↑i0:Int) + 1)):∃ S1,vexec Tryd.prog X call lf 0 noFg (loopN Tryd.f29 0) (f29_F0 L0 s1 i0)=some (Ex.normal,S1)∧forget f29_D0 S1=(f29_F0 L0 s1 (i0 + 1)) :=
  ⟨stOf 20 [4,19] [(0,lro L0.length 5 (List.flatMap lexC L0)),(1,st s1),(5,i6 (w6 ((↑i0:Int) + 1))),(6,i6 (↑i0:Int)),(7,lro L0.length 5 (List.flatMap lexC L0)),(8,i6 (↑L0.length:Int)),(9,bo true),(10,i6 (↑i0:Int)),(11,i6 (w6 ((↑i0:Int) + 1))),(12,lro L0.length 5 (List.flatMap lexC L0)),(13,i6 (↑i0:Int)),(14,AV.eaddr (st a::st c::st d::st e::lro g 2 h::r14)),(15,AV.eaddr (st a::st c::st d::st e::lro g 2 h::r14)),(16,st a),(17,st s1),(18,bo false)] [],around_sound (ans:=[(4,Ans.b true),(9,Ans.v (AV.eaddr (st a::st c::st d::st e::lro g 2 h::r14))),(13,Ans.b false)]) (by kernel_rfl) (ai h0 (ai h1 (ai h2 trivial))),by unfold f29_F0; rw [e0]; show _=_; kernel_rfl⟩
def f29_S2 (L0:List Lexm)(s1:ByteArray)(i0:Nat):St :=
  stOf 20 [4,10,11,12,13,14,15,16,17,18,19] [(0,lro L0.length 5 (List.flatMap lexC L0)),(1,st s1),(5,i6 (↑i0:Int)),(6,i6 (↑i0:Int)),(7,lro L0.length 5 (List.flatMap lexC L0)),(8,i6 (↑L0.length:Int)),(9,bo false)] []
theorem f29_r0_f (L0:List Lexm)(s1:ByteArray)(X:Ext)(call:Caller)(lf i0:Nat)
 (h0:decide ((↑i0:Int)<(↑L0.length:Int))=false):vexec Tryd.prog X call lf 0 noFg (loopN Tryd.f29 0) (f29_F0 L0 s1 i0)=some (Ex.exit 0,(f29_S2 L0 s1 i0)) :=
  around_sound (ans:=[(4,Ans.b false)]) (by kernel_rfl) (ai h0 trivial)
theorem f29_plf (L0:List Lexm)(s1:ByteArray)(X:Ext)(call:Caller)(lf i0:Nat)
 (h0:vexec Tryd.prog X call lf 0 noFg (Code.loop (loopN Tryd.f29 0)) (f29_S0 L0 s1)=some (Ex.exit 0,(f29_S2 L0 s1 i0))):vbody Tryd.prog X call lf noFg Tryd.f29 (codeOf Tryd.f29) [lexsV L0,st s1] [] 0=some (i6 (-1),[]) :=
  along_sound (ans:=[(4,Ans.l (Ex.exit 0) (f29_S2 L0 s1 i0))]) (by kernel_rfl) (ai h0 trivial)
def f29_o0 (L0:List Lexm)(s1:ByteArray)(i0:Nat)(a:ByteArray):Nat :=
  (match decide ((↑i0:Int)<(↑L0.length:Int)) with
  | true=>(match (ByteArray.toList a == ByteArray.toList s1) with
    | true=>1
    | false=>0)
  | false=>2)
theorem f29_B0 (L0:List Lexm)(s1:ByteArray)(X:Ext)(call:Caller)(lf i0:Nat)(a b c d:ByteArray)(e:Nat)(g r14:List AV)
 (g0:decide ((↑i0:Int)<(↑L0.length:Int))=true→keep [] (indexAddrv Tryd.prog 22 [] (lro L0.length 5 (List.flatMap lexC L0)) (i6 (↑i0:Int)))=some (AV.eaddr (st a::st b::st c::st d::lro e 2 g::r14),[]))
 (e0:decide ((↑i0:Int)<(↑L0.length:Int))=true→(↑(i0 + 1):Int)=w6 ((↑i0:Int) + 1)) :
    (f29_o0 L0 s1 i0 a=0→∃ S1,vexec Tryd.prog X call lf 0 noFg (loopN Tryd.f29 0) (f29_F0 L0 s1 i0)=some (Ex.normal,S1)∧forget f29_D0 S1=(f29_F0 L0 s1 (i0 + 1)))∧(f29_o0 L0 s1 i0 a=1→vexec Tryd.prog X call lf 0 noFg (loopN Tryd.f29 0) (f29_F0 L0 s1 i0)=some (Ex.ret,(f29_S1 L0 s1 i0 a b c d e g r14)))∧(f29_o0 L0 s1 i0 a=2→vexec Tryd.prog X call lf 0 noFg (loopN Tryd.f29 0) (f29_F0 L0 s1 i0)=some (Ex.exit 0,(f29_S2 L0 s1 i0))):=by
  unfold f29_o0
  cases c0:decide ((↑i0:Int)<(↑L0.length:Int)) with
  | true =>
    cases c1:(ByteArray.toList a == ByteArray.toList s1) with
    | true =>
      exact ⟨fun h=>absurd (show (1:Nat)=0 from h) (by decide),fun _=>f29_r0_tt L0 s1 X call lf i0 a b c d e g r14 c0 (g0 c0) c1,fun h=>absurd (show (1:Nat)=2 from h) (by decide)⟩
    | false =>
      exact ⟨fun _=>f29_s0_tf L0 s1 X call lf i0 a b c d e g r14 c0 (g0 c0) c1 (e0 c0),fun h=>absurd (show (0:Nat)=1 from h) (by decide),fun h=>absurd (show (0:Nat)=2 from h) (by decide)⟩
  | false =>
    exact ⟨fun h=>absurd (show (2:Nat)=0 from h) (by decide),fun h=>absurd (show (2:Nat)=1 from h) (by decide),fun _=>f29_r0_f L0 s1 X call lf i0 c0⟩
theorem f29_X0 (L0:List Lexm)(s1:ByteArray)(X:Ext)(call:Caller)(lf i0:Nat)(a b c d:ByteArray)(e:Nat)(g r14:List AV)
 (g0:decide ((↑i0:Int)<(↑L0.length:Int))=true→keep [] (indexAddrv Tryd.prog 22 [] (lro L0.length 5 (List.flatMap lexC L0)) (i6 (↑i0:Int)))=some (AV.eaddr (st a::st b::st c::st d::lro e 2 g::r14),[])) :
    (f29_o0 L0 s1 i0 a=1→vexec Tryd.prog X call lf 0 noFg (loopN Tryd.f29 0) (f29_F0 L0 s1 i0)=some (Ex.ret,(f29_S1 L0 s1 i0 a b c d e g r14)))∧(f29_o0 L0 s1 i0 a=2→vexec Tryd.prog X call lf 0 noFg (loopN Tryd.f29 0) (f29_F0 L0 s1 i0)=some (Ex.exit 0,(f29_S2 L0 s1 i0))):=by
  unfold f29_o0
  cases c0:decide ((↑i0:Int)<(↑L0.length:Int)) with
  | true =>
    cases c1:(ByteArray.toList a == ByteArray.toList s1) with
    | true =>
      exact ⟨fun _=>f29_r0_tt L0 s1 X call lf i0 a b c d e g r14 c0 (g0 c0) c1,fun h=>absurd (show (1:Nat)=2 from h) (by decide)⟩
    | false =>
      exact ⟨fun h=>absurd (show (0:Nat)=1 from h) (by decide),fun h=>absurd (show (0:Nat)=2 from h) (by decide)⟩
  | false =>
    exact ⟨fun h=>absurd (show (2:Nat)=1 from h) (by decide),fun _=>f29_r0_f L0 s1 X call lf i0 c0⟩
theorem f29_M (L0:List Lexm)(s1:ByteArray)(X:Ext)(call:Caller)(lf n:Nat)(a b c d:Nat→ByteArray)(e:Nat→Nat)(g r14:Nat→List AV)
 (hn:n<lf)
 (g0:∀ i0,i0 ≤ n→decide ((↑i0:Int)<(↑L0.length:Int))=true→keep [] (indexAddrv Tryd.prog 22 [] (lro L0.length 5 (List.flatMap lexC L0)) (i6 (↑i0:Int)))=some (AV.eaddr (st (a i0)::st (b i0)::st (c i0)::st (d i0)::lro (e i0) 2 (g i0)::(r14 i0)),[]))
 (e0:∀ i0,i0<n→decide ((↑i0:Int)<(↑L0.length:Int))=true→(↑(i0 + 1):Int)=w6 ((↑i0:Int) + 1))
 (hz:∀ j,j<n→f29_o0 L0 s1 j (a j)=0) :
    (f29_o0 L0 s1 n (a n)=1→vbody Tryd.prog X call lf noFg Tryd.f29 (codeOf Tryd.f29) [lexsV L0,st s1] [] 0=some (i6 (↑n:Int),[]))∧(f29_o0 L0 s1 n (a n)=2→vbody Tryd.prog X call lf noFg Tryd.f29 (codeOf Tryd.f29) [lexsV L0,st s1] [] 0=some (i6 (-1),[])):=by
  have key:∀ j,j<n→_:=fun j hj=>(f29_B0 L0 s1 X call lf j (a j) (b j) (c j) (d j) (e j) (g j) (r14 j) (g0 j (Nat.le_of_lt hj)) (e0 j hj)).1 (hz j hj)
  have kn:=f29_X0 L0 s1 X call lf n (a n) (b n) (c n) (d n) (e n) (g n) (r14 n) (g0 n (Nat.le_refl n))
  exact ⟨fun hk=>f29_pltt L0 s1 X call lf n (a n) (b n) (c n) (d n) (e n) (g n) (r14 n) (f29_L0 L0 s1 X call lf n _ _ hn key (kn.1 hk) (by simp)),
    fun hk=>f29_plf L0 s1 X call lf n (f29_L0 L0 s1 X call lf n _ _ hn key (kn.2 hk) (by simp))⟩
theorem f28_p (L0:List Lexm)(s1:ByteArray)(X:Ext)(call:Caller)(lf:Nat)(n7:Int)
 (h0:callv X call false 62 [lro L0.length 5 (List.flatMap lexC L0),AV.clo 63 [AV.ref 0 0]] [Ob.cells [st s1]] 0=some (i6 n7,[Ob.cells [st s1]])):vbody Tryd.prog X call lf noFg Tryd.f28 (codeOf Tryd.f28) [lexsV L0,st s1] [] 0=some (i6 n7,[Ob.cells [st s1]]) :=
  along_sound (ans:=[(6,Ans.v (i6 n7))]) (by kernel_rfl) (ai h0 trivial)
theorem f26_pt (L0:List Lexm)(s1:ByteArray)(X:Ext)(call:Caller)(lf:Nat)(n9:Int)(a d e g:ByteArray)(h:Nat)(j r14:List AV)(k p q r:ByteArray)(t:Nat)(u:List AV)
 (h0:callv X call false 28 [lro L0.length 5 (List.flatMap lexC L0),st s1] [Ob.cells [st (ByteArray.mk #[]),st (ByteArray.mk #[]),st (ByteArray.mk #[]),st (ByteArray.mk #[]),AV.list LK.nil 0 0 []]] 0=some (i6 n9,[Ob.cells [st (ByteArray.mk #[]),st (ByteArray.mk #[]),st (ByteArray.mk #[]),st (ByteArray.mk #[]),AV.list LK.nil 0 0 []]]))
 (h1:decide (n9 ≥ 0)=true)
 (h2:keep [Ob.cells [st (ByteArray.mk #[]),st (ByteArray.mk #[]),st (ByteArray.mk #[]),st (ByteArray.mk #[]),AV.list LK.nil 0 0 []]] (indexAddrv Tryd.prog 22 [Ob.cells [st (ByteArray.mk #[]),st (ByteArray.mk #[]),st (ByteArray.mk #[]),st (ByteArray.mk #[]),AV.list LK.nil 0 0 []]] (lro L0.length 5 (List.flatMap lexC L0)) (i6 n9))=some (AV.eaddr (st a::st d::st e::st g::lro h 2 j::r14),[Ob.cells [st (ByteArray.mk #[]),st (ByteArray.mk #[]),st (ByteArray.mk #[]),st (ByteArray.mk #[]),AV.list LK.nil 0 0 []]]))
 (h3:callv X call false 61 [AV.agg [st a,st d,st e,st g,lro h 2 j]] [Ob.cells [st (ByteArray.mk #[]),st (ByteArray.mk #[]),st (ByteArray.mk #[]),st (ByteArray.mk #[]),AV.list LK.nil 0 0 []]] 0=some (AV.agg [st k,st p,st q,st r,lro t 2 u],[Ob.cells [st (ByteArray.mk #[]),st (ByteArray.mk #[]),st (ByteArray.mk #[]),st (ByteArray.mk #[]),AV.list LK.nil 0 0 []]]))
 (h4:vend1 [] 0 [Ob.cells [st k,st p,st q,st r,lro t 2 u]] [AV.agg [st k,st p,st q,st r,lro t 2 u],bo true]=some (AV.tup [AV.agg [st k,st p,st q,st r,lro t 2 u],bo true],[Ob.cells [st k,st p,st q,st r,lro t 2 u]])):vbody Tryd.prog X call lf noFg Tryd.f26 (codeOf Tryd.f26) [lexsV L0,st s1] [] 0=some (AV.tup [AV.agg [st k,st p,st q,st r,lro t 2 u],bo true],[Ob.cells [st k,st p,st q,st r,lro t 2 u]]) :=
  along_sound (ans:=[(6,Ans.v (i6 n9)),(10,Ans.b true),(15,Ans.v (AV.eaddr (st a::st d::st e::st g::lro h 2 j::r14))),(17,Ans.v (AV.agg [st k,st p,st q,st r,lro t 2 u])),(20,Ans.c (AV.tup [AV.agg [st k,st p,st q,st r,lro t 2 u],bo true]) [Ob.cells [st k,st p,st q,st r,lro t 2 u]])]) (by kernel_rfl) (ai h0 (ai h1 (ai h2 (ai h3 (ai h4 trivial)))))
theorem f26_pf (L0:List Lexm)(s1:ByteArray)(X:Ext)(call:Caller)(lf:Nat)(n9:Int)
 (h0:callv X call false 28 [lro L0.length 5 (List.flatMap lexC L0),st s1] [Ob.cells [st (ByteArray.mk #[]),st (ByteArray.mk #[]),st (ByteArray.mk #[]),st (ByteArray.mk #[]),AV.list LK.nil 0 0 []]] 0=some (i6 n9,[Ob.cells [st (ByteArray.mk #[]),st (ByteArray.mk #[]),st (ByteArray.mk #[]),st (ByteArray.mk #[]),AV.list LK.nil 0 0 []]]))
 (h1:decide (n9 ≥ 0)=false):vbody Tryd.prog X call lf noFg Tryd.f26 (codeOf Tryd.f26) [lexsV L0,st s1] [] 0=some (AV.tup [AV.agg [st (ByteArray.mk #[]),st (ByteArray.mk #[]),st (ByteArray.mk #[]),st (ByteArray.mk #[]),AV.list LK.nil 0 0 []],bo false],[Ob.cells [st (ByteArray.mk #[]),st (ByteArray.mk #[]),st (ByteArray.mk #[]),st (ByteArray.mk #[]),AV.list LK.nil 0 0 []]]) :=
  along_sound (ans:=[(6,Ans.v (i6 n9)),(10,Ans.b false)]) (by kernel_rfl) (ai h0 (ai h1 trivial))
theorem f61_p (x0:Lexm)(X:Ext)(call:Caller)(lf m5:Nat)(c5:List AV)(m6:Nat)(c6:List AV)
 (h0:callv X call false 88 [lro (List.length (Lexm.feats x0)) 2 (List.flatMap featC (Lexm.feats x0))] [Ob.cells [st (Lexm.id x0),st (Lexm.cat x0),st (Lexm.stem x0),st (Lexm.par x0),lro (List.length (Lexm.feats x0)) 2 (List.flatMap featC (Lexm.feats x0))],Ob.cells [st (ByteArray.mk #[]),st (ByteArray.mk #[]),st (ByteArray.mk #[]),st (ByteArray.mk #[]),AV.list LK.nil 0 0 []]] 0=some (lro m5 2 c5,[Ob.cells [st (Lexm.id x0),st (Lexm.cat x0),st (Lexm.stem x0),st (Lexm.par x0),lro (List.length (Lexm.feats x0)) 2 (List.flatMap featC (Lexm.feats x0))],Ob.cells [st (ByteArray.mk #[]),st (ByteArray.mk #[]),st (ByteArray.mk #[]),st (ByteArray.mk #[]),AV.list LK.nil 0 0 []]]))
 (h1:callv X call false 87 [lro m5 2 c5] [Ob.cells [st (Lexm.id x0),st (Lexm.cat x0),st (Lexm.stem x0),st (Lexm.par x0),lro (List.length (Lexm.feats x0)) 2 (List.flatMap featC (Lexm.feats x0))],Ob.cells [st (ByteArray.mk #[]),st (ByteArray.mk #[]),st (ByteArray.mk #[]),st (ByteArray.mk #[]),AV.list LK.nil 0 0 []]] 0=some (lro m6 2 c6,[Ob.cells [st (Lexm.id x0),st (Lexm.cat x0),st (Lexm.stem x0),st (Lexm.par x0),lro (List.length (Lexm.feats x0)) 2 (List.flatMap featC (Lexm.feats x0))],Ob.cells [st (ByteArray.mk #[]),st (ByteArray.mk #[]),st (ByteArray.mk #[]),st (ByteArray.mk #[]),AV.list LK.nil 0 0 []]]))
 (h2:vend1 [] 0 [Ob.cells [st (Lexm.id x0),st (Lexm.cat x0),st (Lexm.stem x0),st (Lexm.par x0),lro m6 2 c6],Ob.cells [st (Lexm.id x0),st (Lexm.cat x0),st (Lexm.stem x0),st (Lexm.par x0),lro m6 2 c6]] [AV.agg [st (Lexm.id x0),st (Lexm.cat x0),st (Lexm.stem x0),st (Lexm.par x0),lro m6 2 c6]]=some (AV.agg [st (Lexm.id x0),st (Lexm.cat x0),st (Lexm.stem x0),st (Lexm.par x0),lro m6 2 c6],[Ob.cells [st (Lexm.id x0),st (Lexm.cat x0),st (Lexm.stem x0),st (Lexm.par x0),lro m6 2 c6],Ob.cells [st (Lexm.id x0),st (Lexm.cat x0),st (Lexm.stem x0),st (Lexm.par x0),lro m6 2 c6]])):vbody Tryd.prog X call lf noFg Tryd.f61 (codeOf Tryd.f61) [AV.agg (lexC x0)] [] 0=some (AV.agg [st (Lexm.id x0),st (Lexm.cat x0),st (Lexm.stem x0),st (Lexm.par x0),lro m6 2 c6],[Ob.cells [st (Lexm.id x0),st (Lexm.cat x0),st (Lexm.stem x0),st (Lexm.par x0),lro m6 2 c6],Ob.cells [st (Lexm.id x0),st (Lexm.cat x0),st (Lexm.stem x0),st (Lexm.par x0),lro m6 2 c6]]) :=
  along_sound (ans:=[(6,Ans.v (lro m5 2 c5)),(7,Ans.v (lro m6 2 c6)),(13,Ans.c (AV.agg [st (Lexm.id x0),st (Lexm.cat x0),st (Lexm.stem x0),st (Lexm.par x0),lro m6 2 c6]) [Ob.cells [st (Lexm.id x0),st (Lexm.cat x0),st (Lexm.stem x0),st (Lexm.par x0),lro m6 2 c6],Ob.cells [st (Lexm.id x0),st (Lexm.cat x0),st (Lexm.stem x0),st (Lexm.par x0),lro m6 2 c6]])]) (by kernel_rfl) (ai h0 (ai h1 (ai h2 trivial)))
def f89_F0 (F0:List Feat)(f1:Feat)(i0:Nat):St :=
  stOf 19 [4,5,9,10,11,12,13,14,15,16,17,18] [(0,lro F0.length 2 (F0.flatMap featC)),(1,AV.agg [st (Feat.name f1),st (Feat.value f1)]),(3,AV.ref 0 0),(6,lro F0.length 2 (F0.flatMap featC)),(7,i6 (↑F0.length:Int)),(8,i6 (↑i0:Int))] [Ob.cells [st (Feat.name f1),st (Feat.value f1)]]
def f89_S0 (F0:List Feat)(f1:Feat):St :=
  stOf 19 [] [(0,lro F0.length 2 (F0.flatMap featC)),(1,AV.agg [st (Feat.name f1),st (Feat.value f1)]),(3,AV.ref 0 0),(4,i6 0),(6,lro F0.length 2 (F0.flatMap featC)),(7,i6 (↑F0.length:Int)),(8,i6 0)] [Ob.cells [st (Feat.name f1),st (Feat.value f1)]]
abbrev f89_D0:List Nat:=[18,4,17,16,15,14,13,12,11,5,10,9]
theorem f89_L0 (F0:List Feat)(f1:Feat)(X:Ext)(call:Caller)(lf n:Nat)(x:Ex) (S' : St)
 (hn:n<lf)
 (hs:∀ j,j<n→∃ S1,vexec Tryd.prog X call lf 0 noFg (loopN Tryd.f89 0) (f89_F0 F0 f1 j)=some (Ex.normal,S1)∧forget f89_D0 S1=(f89_F0 F0 f1 (j + 1)))
 (he:vexec Tryd.prog X call lf 0 noFg (loopN Tryd.f89 0) (f89_F0 F0 f1 n)=some (x,S'))
 (hx:x ≠ Ex.normal):vexec Tryd.prog X call lf 0 noFg (Go.Code.loop (loopN Tryd.f89 0)) (f89_S0 F0 f1)=some (x,S') :=
  loop_runK (by kernel_rfl) (fun j=>(f89_F0 F0 f1 j)) n hn (by show forget f89_D0 (f89_S0 F0 f1)=(f89_F0 F0 f1 0); unfold f89_F0; show _=_; kernel_rfl) hs he hx
def f89_S1 (F0:List Feat)(f1:Feat)(i0:Nat)(a b:ByteArray)(r14:List AV):St :=
  stOf 19 [18] [(0,lro F0.length 2 (F0.flatMap featC)),(1,AV.agg [st (Feat.name f1),st (Feat.value f1)]),(3,AV.ref 0 0),(4,i6 (↑i0:Int)),(5,i6 (↑i0:Int)),(6,lro F0.length 2 (F0.flatMap featC)),(7,i6 (↑F0.length:Int)),(8,i6 (↑i0:Int)),(9,bo true),(10,i6 (↑i0:Int)),(11,AV.agg [st (Feat.name f1),st (Feat.value f1)]),(12,lro F0.length 2 (F0.flatMap featC)),(13,i6 (↑i0:Int)),(14,AV.eaddr (st a::st b::r14)),(15,AV.agg [st a,st b]),(16,bo true),(17,i6 (↑i0:Int))] [Ob.cells [st (Feat.name f1),st (Feat.value f1)]]
theorem f89_r0_tt (F0:List Feat)(f1:Feat)(X:Ext)(call:Caller)(lf i0:Nat)(a c:ByteArray)(r14:List AV)
 (h0:decide ((↑i0:Int)<(↑F0.length:Int))=true)
 (h1:keep [Ob.cells [st (Feat.name f1),st (Feat.value f1)]] (indexAddrv Tryd.prog 31 [Ob.cells [st (Feat.name f1),st (Feat.value f1)]] (lro F0.length 2 (F0.flatMap featC)) (i6 (↑i0:Int)))=some (AV.eaddr (st a::st c::r14),[Ob.cells [st (Feat.name f1),st (Feat.value f1)]]))
 (h2:(ByteArray.toList (Feat.name f1) == ByteArray.toList a && (ByteArray.toList (Feat.value f1) == ByteArray.toList c && true))=true):vexec Tryd.prog X call lf 0 noFg (loopN Tryd.f89 0) (f89_F0 F0 f1 i0)=some (Ex.ret,(f89_S1 F0 f1 i0 a c r14)) :=
  around_sound (ans:=[(1,Ans.b true),(10,Ans.v (AV.eaddr (st a::st c::r14))),(12,Ans.b true)]) (by kernel_rfl) (ai h0 (ai h1 (ai h2 trivial)))
theorem f89_pltt (F0:List Feat)(f1:Feat)(X:Ext)(call:Caller)(lf i0:Nat)(a b:ByteArray)(r14:List AV)
 (h0:vexec Tryd.prog X call lf 0 noFg (Code.loop (loopN Tryd.f89 0)) (f89_S0 F0 f1)=some (Ex.ret,(f89_S1 F0 f1 i0 a b r14))):vbody Tryd.prog X call lf noFg Tryd.f89 (codeOf Tryd.f89) [featsV F0,AV.agg (featC f1)] [] 0=some (i6 (↑i0:Int),[Ob.cells [st (Feat.name f1),st (Feat.value f1)]]) :=
  along_sound (ans:=[(7,Ans.l Ex.ret (f89_S1 F0 f1 i0 a b r14))]) (by kernel_rfl) (ai h0 trivial)
theorem f89_s0_tf (F0:List Feat)(f1:Feat)(X:Ext)(call:Caller)(lf i0:Nat)(a c:ByteArray)(r14:List AV)
 (h0:decide ((↑i0:Int)<(↑F0.length:Int))=true)
 (h1:keep [Ob.cells [st (Feat.name f1),st (Feat.value f1)]] (indexAddrv Tryd.prog 31 [Ob.cells [st (Feat.name f1),st (Feat.value f1)]] (lro F0.length 2 (F0.flatMap featC)) (i6 (↑i0:Int)))=some (AV.eaddr (st a::st c::r14),[Ob.cells [st (Feat.name f1),st (Feat.value f1)]]))
 (h2:(ByteArray.toList (Feat.name f1) == ByteArray.toList a && (ByteArray.toList (Feat.value f1) == ByteArray.toList c && true))=false)
 (e0:(↑(i0 + 1):Int)=w6 ((↑i0:Int) + 1)):∃ S1,vexec Tryd.prog X call lf 0 noFg (loopN Tryd.f89 0) (f89_F0 F0 f1 i0)=some (Ex.normal,S1)∧forget f89_D0 S1=(f89_F0 F0 f1 (i0 + 1)) :=
  ⟨stOf 19 [4,17] [(0,lro F0.length 2 (F0.flatMap featC)),(1,AV.agg [st (Feat.name f1),st (Feat.value f1)]),(3,AV.ref 0 0),(5,i6 (↑i0:Int)),(6,lro F0.length 2 (F0.flatMap featC)),(7,i6 (↑F0.length:Int)),(8,i6 (w6 ((↑i0:Int) + 1))),(9,bo true),(10,i6 (↑i0:Int)),(11,AV.agg [st (Feat.name f1),st (Feat.value f1)]),(12,lro F0.length 2 (F0.flatMap featC)),(13,i6 (↑i0:Int)),(14,AV.eaddr (st a::st c::r14)),(15,AV.agg [st a,st c]),(16,bo false),(18,i6 (w6 ((↑i0:Int) + 1)))] [Ob.cells [st (Feat.name f1),st (Feat.value f1)]],around_sound (ans:=[(1,Ans.b true),(10,Ans.v (AV.eaddr (st a::st c::r14))),(12,Ans.b false)]) (by kernel_rfl) (ai h0 (ai h1 (ai h2 trivial))),by unfold f89_F0; rw [e0]; show _=_; kernel_rfl⟩
def f89_S2 (F0:List Feat)(f1:Feat)(i0:Nat):St :=
  stOf 19 [4,5,10,11,12,13,14,15,16,17,18] [(0,lro F0.length 2 (F0.flatMap featC)),(1,AV.agg [st (Feat.name f1),st (Feat.value f1)]),(3,AV.ref 0 0),(6,lro F0.length 2 (F0.flatMap featC)),(7,i6 (↑F0.length:Int)),(8,i6 (↑i0:Int)),(9,bo false)] [Ob.cells [st (Feat.name f1),st (Feat.value f1)]]
theorem f89_r0_f (F0:List Feat)(f1:Feat)(X:Ext)(call:Caller)(lf i0:Nat)
 (h0:decide ((↑i0:Int)<(↑F0.length:Int))=false):vexec Tryd.prog X call lf 0 noFg (loopN Tryd.f89 0) (f89_F0 F0 f1 i0)=some (Ex.exit 0,(f89_S2 F0 f1 i0)) :=
  around_sound (ans:=[(1,Ans.b false)]) (by kernel_rfl) (ai h0 trivial)
theorem f89_plf (F0:List Feat)(f1:Feat)(X:Ext)(call:Caller)(lf i0:Nat)
 (h0:vexec Tryd.prog X call lf 0 noFg (Code.loop (loopN Tryd.f89 0)) (f89_S0 F0 f1)=some (Ex.exit 0,(f89_S2 F0 f1 i0))):vbody Tryd.prog X call lf noFg Tryd.f89 (codeOf Tryd.f89) [featsV F0,AV.agg (featC f1)] [] 0=some (i6 (-1),[Ob.cells [st (Feat.name f1),st (Feat.value f1)]]) :=
  along_sound (ans:=[(7,Ans.l (Ex.exit 0) (f89_S2 F0 f1 i0))]) (by kernel_rfl) (ai h0 trivial)
def f89_o0 (F0:List Feat)(f1:Feat)(i0:Nat)(a b:ByteArray):Nat :=
  (match decide ((↑i0:Int)<(↑F0.length:Int)) with
  | true=>(match (ByteArray.toList (Feat.name f1) == ByteArray.toList a && (ByteArray.toList (Feat.value f1) == ByteArray.toList b && true)) with
    | true=>1
    | false=>0)
  | false=>2)
theorem f89_B0 (F0:List Feat)(f1:Feat)(X:Ext)(call:Caller)(lf i0:Nat)(a b:ByteArray)(r14:List AV)
 (g0:decide ((↑i0:Int)<(↑F0.length:Int))=true→keep [Ob.cells [st (Feat.name f1),st (Feat.value f1)]] (indexAddrv Tryd.prog 31 [Ob.cells [st (Feat.name f1),st (Feat.value f1)]] (lro F0.length 2 (F0.flatMap featC)) (i6 (↑i0:Int)))=some (AV.eaddr (st a::st b::r14),[Ob.cells [st (Feat.name f1),st (Feat.value f1)]]))
 (e0:decide ((↑i0:Int)<(↑F0.length:Int))=true→(↑(i0 + 1):Int)=w6 ((↑i0:Int) + 1)) :
    (f89_o0 F0 f1 i0 a b=0→∃ S1,vexec Tryd.prog X call lf 0 noFg (loopN Tryd.f89 0) (f89_F0 F0 f1 i0)=some (Ex.normal,S1)∧forget f89_D0 S1=(f89_F0 F0 f1 (i0 + 1)))∧(f89_o0 F0 f1 i0 a b=1→vexec Tryd.prog X call lf 0 noFg (loopN Tryd.f89 0) (f89_F0 F0 f1 i0)=some (Ex.ret,(f89_S1 F0 f1 i0 a b r14)))∧(f89_o0 F0 f1 i0 a b=2→vexec Tryd.prog X call lf 0 noFg (loopN Tryd.f89 0) (f89_F0 F0 f1 i0)=some (Ex.exit 0,(f89_S2 F0 f1 i0))):=by
  unfold f89_o0
  cases c0:decide ((↑i0:Int)<(↑F0.length:Int)) with
  | true =>
    cases c1:(ByteArray.toList (Feat.name f1) == ByteArray.toList a && (ByteArray.toList (Feat.value f1) == ByteArray.toList b && true)) with
    | true =>
      exact ⟨fun h=>absurd (show (1:Nat)=0 from h) (by decide),fun _=>f89_r0_tt F0 f1 X call lf i0 a b r14 c0 (g0 c0) c1,fun h=>absurd (show (1:Nat)=2 from h) (by decide)⟩
    | false =>
      exact ⟨fun _=>f89_s0_tf F0 f1 X call lf i0 a b r14 c0 (g0 c0) c1 (e0 c0),fun h=>absurd (show (0:Nat)=1 from h) (by decide),fun h=>absurd (show (0:Nat)=2 from h) (by decide)⟩
  | false =>
    exact ⟨fun h=>absurd (show (2:Nat)=0 from h) (by decide),fun h=>absurd (show (2:Nat)=1 from h) (by decide),fun _=>f89_r0_f F0 f1 X call lf i0 c0⟩
theorem f89_X0 (F0:List Feat)(f1:Feat)(X:Ext)(call:Caller)(lf i0:Nat)(a b:ByteArray)(r14:List AV)
 (g0:decide ((↑i0:Int)<(↑F0.length:Int))=true→keep [Ob.cells [st (Feat.name f1),st (Feat.value f1)]] (indexAddrv Tryd.prog 31 [Ob.cells [st (Feat.name f1),st (Feat.value f1)]] (lro F0.length 2 (F0.flatMap featC)) (i6 (↑i0:Int)))=some (AV.eaddr (st a::st b::r14),[Ob.cells [st (Feat.name f1),st (Feat.value f1)]])) :
    (f89_o0 F0 f1 i0 a b=1→vexec Tryd.prog X call lf 0 noFg (loopN Tryd.f89 0) (f89_F0 F0 f1 i0)=some (Ex.ret,(f89_S1 F0 f1 i0 a b r14)))∧(f89_o0 F0 f1 i0 a b=2→vexec Tryd.prog X call lf 0 noFg (loopN Tryd.f89 0) (f89_F0 F0 f1 i0)=some (Ex.exit 0,(f89_S2 F0 f1 i0))):=by
  unfold f89_o0
  cases c0:decide ((↑i0:Int)<(↑F0.length:Int)) with
  | true =>
    cases c1:(ByteArray.toList (Feat.name f1) == ByteArray.toList a && (ByteArray.toList (Feat.value f1) == ByteArray.toList b && true)) with
    | true =>
      exact ⟨fun _=>f89_r0_tt F0 f1 X call lf i0 a b r14 c0 (g0 c0) c1,fun h=>absurd (show (1:Nat)=2 from h) (by decide)⟩
    | false =>
      exact ⟨fun h=>absurd (show (0:Nat)=1 from h) (by decide),fun h=>absurd (show (0:Nat)=2 from h) (by decide)⟩
  | false =>
    exact ⟨fun h=>absurd (show (2:Nat)=1 from h) (by decide),fun _=>f89_r0_f F0 f1 X call lf i0 c0⟩
theorem f89_M (F0:List Feat)(f1:Feat)(X:Ext)(call:Caller)(lf n:Nat)(a b:Nat→ByteArray)(r14:Nat→List AV)
 (hn:n<lf)
 (g0:∀ i0,i0 ≤ n→decide ((↑i0:Int)<(↑F0.length:Int))=true→keep [Ob.cells [st (Feat.name f1),st (Feat.value f1)]] (indexAddrv Tryd.prog 31 [Ob.cells [st (Feat.name f1),st (Feat.value f1)]] (lro F0.length 2 (F0.flatMap featC)) (i6 (↑i0:Int)))=some (AV.eaddr (st (a i0)::st (b i0)::(r14 i0)),[Ob.cells [st (Feat.name f1),st (Feat.value f1)]]))
 (e0:∀ i0,i0<n→decide ((↑i0:Int)<(↑F0.length:Int))=true→(↑(i0 + 1):Int)=w6 ((↑i0:Int) + 1))
 (hz:∀ j,j<n→f89_o0 F0 f1 j (a j) (b j)=0) :
    (f89_o0 F0 f1 n (a n) (b n)=1→vbody Tryd.prog X call lf noFg Tryd.f89 (codeOf Tryd.f89) [featsV F0,AV.agg (featC f1)] [] 0=some (i6 (↑n:Int),[Ob.cells [st (Feat.name f1),st (Feat.value f1)]]))∧(f89_o0 F0 f1 n (a n) (b n)=2→vbody Tryd.prog X call lf noFg Tryd.f89 (codeOf Tryd.f89) [featsV F0,AV.agg (featC f1)] [] 0=some (i6 (-1),[Ob.cells [st (Feat.name f1),st (Feat.value f1)]])):=by
  have key:∀ j,j<n→_:=fun j hj=>(f89_B0 F0 f1 X call lf j (a j) (b j) (r14 j) (g0 j (Nat.le_of_lt hj)) (e0 j hj)).1 (hz j hj)
  have kn:=f89_X0 F0 f1 X call lf n (a n) (b n) (r14 n) (g0 n (Nat.le_refl n))
  exact ⟨fun hk=>f89_pltt F0 f1 X call lf n (a n) (b n) (r14 n) (f89_L0 F0 f1 X call lf n _ _ hn key (kn.1 hk) (by simp)),
    fun hk=>f89_plf F0 f1 X call lf n (f89_L0 F0 f1 X call lf n _ _ hn key (kn.2 hk) (by simp))⟩
theorem f65_pt (F0:List Feat)(f1:Feat)(X:Ext)(call:Caller)(lf:Nat)(n7:Int)
 (h0:callv X call false 89 [lro F0.length 2 (F0.flatMap featC),AV.agg [st (Feat.name f1),st (Feat.value f1)]] [Ob.cells [st (Feat.name f1),st (Feat.value f1)]] 0=some (i6 n7,[Ob.cells [st (Feat.name f1),st (Feat.value f1)]]))
 (h1:decide (n7 ≥ 0)=true):vbody Tryd.prog X call lf noFg Tryd.f65 (codeOf Tryd.f65) [featsV F0,AV.agg (featC f1)] [] 0=some (bo true,[Ob.cells [st (Feat.name f1),st (Feat.value f1)]]) :=
  along_sound (ans:=[(6,Ans.v (i6 n7)),(7,Ans.b true)]) (by kernel_rfl) (ai h0 (ai h1 trivial))
theorem f65_pf (F0:List Feat)(f1:Feat)(X:Ext)(call:Caller)(lf:Nat)(n7:Int)
 (h0:callv X call false 89 [lro F0.length 2 (F0.flatMap featC),AV.agg [st (Feat.name f1),st (Feat.value f1)]] [Ob.cells [st (Feat.name f1),st (Feat.value f1)]] 0=some (i6 n7,[Ob.cells [st (Feat.name f1),st (Feat.value f1)]]))
 (h1:decide (n7 ≥ 0)=false):vbody Tryd.prog X call lf noFg Tryd.f65 (codeOf Tryd.f65) [featsV F0,AV.agg (featC f1)] [] 0=some (bo false,[Ob.cells [st (Feat.name f1),st (Feat.value f1)]]) :=
  along_sound (ans:=[(6,Ans.v (i6 n7)),(7,Ans.b false)]) (by kernel_rfl) (ai h0 (ai h1 trivial))
def fg67:Nat→List Nat
  | 5003=>[1]
  | 5007=>[1]
  | _=>[]
def f67_F0 (F0 F1:List Feat)(i0:Nat):St :=
  stOf 32 [4,6,7,9,13,14,15,16,17,18,19,20,21,22,23,24,25,26,27,28,29,30,31] [(0,lro F0.length 2 (F0.flatMap featC)),(1,lro F1.length 2 (F1.flatMap featC)),(10,lro F1.length 2 (F1.flatMap featC)),(11,i6 (↑F1.length:Int)),(12,i6 (↑i0:Int))] []
def f67_S0 (F0 F1:List Feat):St :=
  stOf 32 [] [(0,lro F0.length 2 (F0.flatMap featC)),(1,lro F1.length 2 (F1.flatMap featC)),(4,bo false),(10,lro F1.length 2 (F1.flatMap featC)),(11,i6 (↑F1.length:Int)),(12,i6 0)] []
abbrev f67_D0:List Nat:=[31,4,30,29,28,27,26,25,24,23,22,9,21,20,19,18,17,16,7,6,15,14,13]
theorem f67_L0 (F0 F1:List Feat)(X:Ext)(call:Caller)(lf n:Nat)(x:Ex) (S' : St)
 (hn:n<lf)
 (hs:∀ j,j<n→∃ S1,vexec Tryd.prog X call lf 0 fg67 (loopN Tryd.f67 0) (f67_F0 F0 F1 j)=some (Ex.normal,S1)∧forget f67_D0 S1=(f67_F0 F0 F1 (j + 1)))
 (he:vexec Tryd.prog X call lf 0 fg67 (loopN Tryd.f67 0) (f67_F0 F0 F1 n)=some (x,S'))
 (hx:x ≠ Ex.normal):vexec Tryd.prog X call lf 0 fg67 (Go.Code.loop (loopN Tryd.f67 0)) (f67_S0 F0 F1)=some (x,S') :=
  loop_runK (by kernel_rfl) (fun j=>(f67_F0 F0 F1 j)) n hn (by show forget f67_D0 (f67_S0 F0 F1)=(f67_F0 F0 F1 0); unfold f67_F0; show _=_; kernel_rfl) hs he hx
def f67_F1 (F0 F1:List Feat)(i0:Nat)(a b:ByteArray)(r14:List AV)(g7:Nat→Bool)(i1:Nat):St :=
  stOf 32 [4,9,19,20,21,22,23,24,25,26,27,28,29,30,31] [(0,lro F0.length 2 (F0.flatMap featC)),(1,lro F1.length 2 (F1.flatMap featC)),(6,AV.eaddr [st a,st b]),(7,bo (g7 i1)),(10,lro F1.length 2 (F1.flatMap featC)),(11,i6 (↑F1.length:Int)),(12,i6 (↑i0:Int)),(13,bo true),(14,AV.eaddr (st a::st b::r14)),(15,AV.agg [st a,st b]),(16,lro F0.length 2 (F0.flatMap featC)),(17,i6 (↑F0.length:Int)),(18,i6 (↑i1:Int))] []
def f67_S1 (F0 F1:List Feat)(i0:Nat)(a b:ByteArray)(r14:List AV):St :=
  stOf 32 [4,9,19,20,21,22,23,24,25,26,27,28,29,30,31] [(0,lro F0.length 2 (F0.flatMap featC)),(1,lro F1.length 2 (F1.flatMap featC)),(6,AV.eaddr [st a,st b]),(7,bo false),(10,lro F1.length 2 (F1.flatMap featC)),(11,i6 (↑F1.length:Int)),(12,i6 (↑i0:Int)),(13,bo true),(14,AV.eaddr (st a::st b::r14)),(15,AV.agg [st a,st b]),(16,lro F0.length 2 (F0.flatMap featC)),(17,i6 (↑F0.length:Int)),(18,i6 0)] []
abbrev f67_D1:List Nat:=[28,27,26,25,24,23,22,9,21,20,19]
theorem f67_L1 (F0 F1:List Feat)(i0:Nat)(a b:ByteArray)(r14:List AV)(g7:Nat→Bool)(X:Ext)(call:Caller)(lf n:Nat)(x:Ex) (S' : St)
 (e0:g7 0=false)
 (hn:n<lf)
 (hs:∀ j,j<n→∃ S1,vexec Tryd.prog X call lf 0 fg67 (loopN Tryd.f67 1) (f67_F1 F0 F1 i0 a b r14 g7 j)=some (Ex.normal,S1)∧forget f67_D1 S1=(f67_F1 F0 F1 i0 a b r14 g7 (j + 1)))
 (he:vexec Tryd.prog X call lf 0 fg67 (loopN Tryd.f67 1) (f67_F1 F0 F1 i0 a b r14 g7 n)=some (x,S'))
 (hx:x ≠ Ex.normal):vexec Tryd.prog X call lf 0 fg67 (Go.Code.loop (loopN Tryd.f67 1)) (f67_S1 F0 F1 i0 a b r14)=some (x,S') :=
  loop_runK (by kernel_rfl) (fun j=>(f67_F1 F0 F1 i0 a b r14 g7 j)) n hn (by show forget f67_D1 (f67_S1 F0 F1 i0 a b r14)=(f67_F1 F0 F1 i0 a b r14 g7 0); unfold f67_F1; rw [e0]; show _=_; kernel_rfl) hs he hx
theorem f67_s1_tt (F0 F1:List Feat)(X:Ext)(call:Caller)(lf i0:Nat)(a c:ByteArray)(r14:List AV)(g7:Nat→Bool)(i1:Nat)(d e:ByteArray)(r20:List AV)
 (h0:decide ((↑i1:Int)<(↑F0.length:Int))=true)
 (h1:keep [] (indexAddrv Tryd.prog 31 [] (lro F0.length 2 (F0.flatMap featC)) (i6 (↑i1:Int)))=some (AV.eaddr (st d::st e::r20),[]))
 (h2:g7 i1=true)
 (e0:g7 (i1 + 1)=true)
 (e1:(↑(i1 + 1):Int)=w6 ((↑i1:Int) + 1)):∃ S1,vexec Tryd.prog X call lf 0 fg67 (loopN Tryd.f67 1) (f67_F1 F0 F1 i0 a c r14 g7 i1)=some (Ex.normal,S1)∧forget f67_D1 S1=(f67_F1 F0 F1 i0 a c r14 g7 (i1 + 1)) :=
  ⟨stOf 32 [4,29,30,31] [(0,lro F0.length 2 (F0.flatMap featC)),(1,lro F1.length 2 (F1.flatMap featC)),(6,AV.eaddr [st a,st c]),(7,bo true),(9,AV.eaddr [st d,st e]),(10,lro F1.length 2 (F1.flatMap featC)),(11,i6 (↑F1.length:Int)),(12,i6 (↑i0:Int)),(13,bo true),(14,AV.eaddr (st a::st c::r14)),(15,AV.agg [st a,st c]),(16,lro F0.length 2 (F0.flatMap featC)),(17,i6 (↑F0.length:Int)),(18,i6 (w6 ((↑i1:Int) + 1))),(19,bo true),(20,AV.eaddr (st d::st e::r20)),(21,AV.agg [st d,st e]),(22,bo true),(23,bo true),(27,bo true),(28,i6 (w6 ((↑i1:Int) + 1)))] [],around_sound (ans:=[(1,Ans.b true),(4,Ans.v (AV.eaddr (st d::st e::r20))),(7,Ans.b true)]) (by kernel_rfl) (ai h0 (ai h1 (ai h2 trivial))),by unfold f67_F1; rw [e0,e1]; show _=_; kernel_rfl⟩
theorem f67_s1_tft (F0 F1:List Feat)(X:Ext)(call:Caller)(lf i0:Nat)(a c:ByteArray)(r14:List AV)(g7:Nat→Bool)(i1:Nat)(d e:ByteArray)(r20:List AV)
 (h0:decide ((↑i1:Int)<(↑F0.length:Int))=true)
 (h1:keep [] (indexAddrv Tryd.prog 31 [] (lro F0.length 2 (F0.flatMap featC)) (i6 (↑i1:Int)))=some (AV.eaddr (st d::st e::r20),[]))
 (h2:g7 i1=false)
 (h3:(ByteArray.toList a == ByteArray.toList d && (ByteArray.toList c == ByteArray.toList e && true))=true)
 (e0:g7 (i1 + 1)=true)
 (e1:(↑(i1 + 1):Int)=w6 ((↑i1:Int) + 1)):∃ S1,vexec Tryd.prog X call lf 0 fg67 (loopN Tryd.f67 1) (f67_F1 F0 F1 i0 a c r14 g7 i1)=some (Ex.normal,S1)∧forget f67_D1 S1=(f67_F1 F0 F1 i0 a c r14 g7 (i1 + 1)) :=
  ⟨stOf 32 [4,29,30,31] [(0,lro F0.length 2 (F0.flatMap featC)),(1,lro F1.length 2 (F1.flatMap featC)),(6,AV.eaddr [st a,st c]),(7,bo true),(9,AV.eaddr [st d,st e]),(10,lro F1.length 2 (F1.flatMap featC)),(11,i6 (↑F1.length:Int)),(12,i6 (↑i0:Int)),(13,bo true),(14,AV.eaddr (st a::st c::r14)),(15,AV.agg [st a,st c]),(16,lro F0.length 2 (F0.flatMap featC)),(17,i6 (↑F0.length:Int)),(18,i6 (w6 ((↑i1:Int) + 1))),(19,bo true),(20,AV.eaddr (st d::st e::r20)),(21,AV.agg [st d,st e]),(22,bo false),(23,bo false),(24,AV.agg [st a,st c]),(25,AV.agg [st d,st e]),(26,bo true),(27,bo true),(28,i6 (w6 ((↑i1:Int) + 1)))] [],around_sound (ans:=[(1,Ans.b true),(4,Ans.v (AV.eaddr (st d::st e::r20))),(7,Ans.b false),(14,Ans.b true)]) (by kernel_rfl) (ai h0 (ai h1 (ai h2 (ai h3 trivial)))),by unfold f67_F1; rw [e0,e1]; show _=_; kernel_rfl⟩
theorem f67_s1_tff (F0 F1:List Feat)(X:Ext)(call:Caller)(lf i0:Nat)(a c:ByteArray)(r14:List AV)(g7:Nat→Bool)(i1:Nat)(d e:ByteArray)(r20:List AV)
 (h0:decide ((↑i1:Int)<(↑F0.length:Int))=true)
 (h1:keep [] (indexAddrv Tryd.prog 31 [] (lro F0.length 2 (F0.flatMap featC)) (i6 (↑i1:Int)))=some (AV.eaddr (st d::st e::r20),[]))
 (h2:g7 i1=false)
 (h3:(ByteArray.toList a == ByteArray.toList d && (ByteArray.toList c == ByteArray.toList e && true))=false)
 (e0:g7 (i1 + 1)=false)
 (e1:(↑(i1 + 1):Int)=w6 ((↑i1:Int) + 1)):∃ S1,vexec Tryd.prog X call lf 0 fg67 (loopN Tryd.f67 1) (f67_F1 F0 F1 i0 a c r14 g7 i1)=some (Ex.normal,S1)∧forget f67_D1 S1=(f67_F1 F0 F1 i0 a c r14 g7 (i1 + 1)) :=
  ⟨stOf 32 [4,29,30,31] [(0,lro F0.length 2 (F0.flatMap featC)),(1,lro F1.length 2 (F1.flatMap featC)),(6,AV.eaddr [st a,st c]),(7,bo false),(9,AV.eaddr [st d,st e]),(10,lro F1.length 2 (F1.flatMap featC)),(11,i6 (↑F1.length:Int)),(12,i6 (↑i0:Int)),(13,bo true),(14,AV.eaddr (st a::st c::r14)),(15,AV.agg [st a,st c]),(16,lro F0.length 2 (F0.flatMap featC)),(17,i6 (↑F0.length:Int)),(18,i6 (w6 ((↑i1:Int) + 1))),(19,bo true),(20,AV.eaddr (st d::st e::r20)),(21,AV.agg [st d,st e]),(22,bo false),(23,bo false),(24,AV.agg [st a,st c]),(25,AV.agg [st d,st e]),(26,bo false),(27,bo false),(28,i6 (w6 ((↑i1:Int) + 1)))] [],around_sound (ans:=[(1,Ans.b true),(4,Ans.v (AV.eaddr (st d::st e::r20))),(7,Ans.b false),(14,Ans.b false)]) (by kernel_rfl) (ai h0 (ai h1 (ai h2 (ai h3 trivial)))),by unfold f67_F1; rw [e0,e1]; show _=_; kernel_rfl⟩
def f67_S2 (F0 F1:List Feat)(i0:Nat)(a b:ByteArray)(r14:List AV)(g7:Nat→Bool)(i1:Nat):St :=
  stOf 32 [4,9,20,21,22,23,24,25,26,27,28,29,30,31] [(0,lro F0.length 2 (F0.flatMap featC)),(1,lro F1.length 2 (F1.flatMap featC)),(6,AV.eaddr [st a,st b]),(7,bo (g7 i1)),(10,lro F1.length 2 (F1.flatMap featC)),(11,i6 (↑F1.length:Int)),(12,i6 (↑i0:Int)),(13,bo true),(14,AV.eaddr (st a::st b::r14)),(15,AV.agg [st a,st b]),(16,lro F0.length 2 (F0.flatMap featC)),(17,i6 (↑F0.length:Int)),(18,i6 (↑i1:Int)),(19,bo false)] []
theorem f67_r1_f (F0 F1:List Feat)(X:Ext)(call:Caller)(lf i0:Nat)(a c:ByteArray)(r14:List AV)(g7:Nat→Bool)(i1:Nat)
 (h0:decide ((↑i1:Int)<(↑F0.length:Int))=false):vexec Tryd.prog X call lf 0 fg67 (loopN Tryd.f67 1) (f67_F1 F0 F1 i0 a c r14 g7 i1)=some (Ex.exit 2,(f67_S2 F0 F1 i0 a c r14 g7 i1)) :=
  around_sound (ans:=[(1,Ans.b false)]) (by kernel_rfl) (ai h0 trivial)
theorem f67_s0_tlft (F0 F1:List Feat)(X:Ext)(call:Caller)(lf i0:Nat)(a c:ByteArray)(r14:List AV)(g7:Nat→Bool)(i1:Nat)
 (h0:decide ((↑i0:Int)<(↑F1.length:Int))=true)
 (h1:keep [] (indexAddrv Tryd.prog 31 [] (lro F1.length 2 (F1.flatMap featC)) (i6 (↑i0:Int)))=some (AV.eaddr (st a::st c::r14),[]))
 (h2:vexec Tryd.prog X call lf 0 fg67 (Code.loop (loopN Tryd.f67 1)) (f67_S1 F0 F1 i0 a c r14)=some (Ex.exit 2,(f67_S2 F0 F1 i0 a c r14 g7 i1)))
 (h3:g7 i1=true)
 (e0:(↑(i0 + 1):Int)=w6 ((↑i0:Int) + 1)):∃ S1,vexec Tryd.prog X call lf 0 fg67 (loopN Tryd.f67 0) (f67_F0 F0 F1 i0)=some (Ex.normal,S1)∧forget f67_D0 S1=(f67_F0 F0 F1 (i0 + 1)) :=
  ⟨stOf 32 [4,9,20,21,22,23,24,25,26,27,28] [(0,lro F0.length 2 (F0.flatMap featC)),(1,lro F1.length 2 (F1.flatMap featC)),(6,AV.eaddr [st a,st c]),(7,bo (g7 i1)),(10,lro F1.length 2 (F1.flatMap featC)),(11,i6 (↑F1.length:Int)),(12,i6 (w6 ((↑i0:Int) + 1))),(13,bo true),(14,AV.eaddr (st a::st c::r14)),(15,AV.agg [st a,st c]),(16,lro F0.length 2 (F0.flatMap featC)),(17,i6 (↑F0.length:Int)),(18,i6 (↑i1:Int)),(19,bo false),(29,bo true),(30,bo false),(31,i6 (w6 ((↑i0:Int) + 1)))] [],around_sound (ans:=[(1,Ans.b true),(4,Ans.v (AV.eaddr (st a::st c::r14))),(12,Ans.l (Ex.exit 2) (f67_S2 F0 F1 i0 a c r14 g7 i1)),(14,Ans.b true)]) (by kernel_rfl) (ai h0 (ai h1 (ai h2 (ai h3 trivial)))),by unfold f67_F0; rw [e0]; show _=_; kernel_rfl⟩
def f67_S3 (F0 F1:List Feat)(i0:Nat)(a b:ByteArray)(r14:List AV)(g7:Nat→Bool)(i1:Nat):St :=
  stOf 32 [9,20,21,22,23,24,25,26,27,28,31] [(0,lro F0.length 2 (F0.flatMap featC)),(1,lro F1.length 2 (F1.flatMap featC)),(4,bo false),(6,AV.eaddr [st a,st b]),(7,bo (g7 i1)),(10,lro F1.length 2 (F1.flatMap featC)),(11,i6 (↑F1.length:Int)),(12,i6 (↑i0:Int)),(13,bo true),(14,AV.eaddr (st a::st b::r14)),(15,AV.agg [st a,st b]),(16,lro F0.length 2 (F0.flatMap featC)),(17,i6 (↑F0.length:Int)),(18,i6 (↑i1:Int)),(19,bo false),(29,bo false),(30,bo true)] []
theorem f67_r0_tlff (F0 F1:List Feat)(X:Ext)(call:Caller)(lf i0:Nat)(a c:ByteArray)(r14:List AV)(g7:Nat→Bool)(i1:Nat)
 (h0:decide ((↑i0:Int)<(↑F1.length:Int))=true)
 (h1:keep [] (indexAddrv Tryd.prog 31 [] (lro F1.length 2 (F1.flatMap featC)) (i6 (↑i0:Int)))=some (AV.eaddr (st a::st c::r14),[]))
 (h2:vexec Tryd.prog X call lf 0 fg67 (Code.loop (loopN Tryd.f67 1)) (f67_S1 F0 F1 i0 a c r14)=some (Ex.exit 2,(f67_S2 F0 F1 i0 a c r14 g7 i1)))
 (h3:g7 i1=false):vexec Tryd.prog X call lf 0 fg67 (loopN Tryd.f67 0) (f67_F0 F0 F1 i0)=some (Ex.ret,(f67_S3 F0 F1 i0 a c r14 g7 i1)) :=
  around_sound (ans:=[(1,Ans.b true),(4,Ans.v (AV.eaddr (st a::st c::r14))),(12,Ans.l (Ex.exit 2) (f67_S2 F0 F1 i0 a c r14 g7 i1)),(14,Ans.b false)]) (by kernel_rfl) (ai h0 (ai h1 (ai h2 (ai h3 trivial))))
theorem f67_pltlff (F0 F1:List Feat)(X:Ext)(call:Caller)(lf i0:Nat)(a b:ByteArray)(r14:List AV)(g7:Nat→Bool)(i1:Nat)
 (h0:vexec Tryd.prog X call lf 0 fg67 (Code.loop (loopN Tryd.f67 0)) (f67_S0 F0 F1)=some (Ex.ret,(f67_S3 F0 F1 i0 a b r14 g7 i1))):vbody Tryd.prog X call lf fg67 Tryd.f67 (codeOf Tryd.f67) [featsV F0,featsV F1] [] 0=some (bo false,[]) :=
  along_sound (ans:=[(6,Ans.l Ex.ret (f67_S3 F0 F1 i0 a b r14 g7 i1))]) (by kernel_rfl) (ai h0 trivial)
def f67_S4 (F0 F1:List Feat)(i0:Nat):St :=
  stOf 32 [4,6,7,9,14,15,16,17,18,19,20,21,22,23,24,25,26,27,28,29,30,31] [(0,lro F0.length 2 (F0.flatMap featC)),(1,lro F1.length 2 (F1.flatMap featC)),(10,lro F1.length 2 (F1.flatMap featC)),(11,i6 (↑F1.length:Int)),(12,i6 (↑i0:Int)),(13,bo false)] []
theorem f67_r0_f (F0 F1:List Feat)(X:Ext)(call:Caller)(lf i0:Nat)
 (h0:decide ((↑i0:Int)<(↑F1.length:Int))=false):vexec Tryd.prog X call lf 0 fg67 (loopN Tryd.f67 0) (f67_F0 F0 F1 i0)=some (Ex.exit 0,(f67_S4 F0 F1 i0)) :=
  around_sound (ans:=[(1,Ans.b false)]) (by kernel_rfl) (ai h0 trivial)
theorem f67_plf (F0 F1:List Feat)(X:Ext)(call:Caller)(lf i0:Nat)
 (h0:vexec Tryd.prog X call lf 0 fg67 (Code.loop (loopN Tryd.f67 0)) (f67_S0 F0 F1)=some (Ex.exit 0,(f67_S4 F0 F1 i0))):vbody Tryd.prog X call lf fg67 Tryd.f67 (codeOf Tryd.f67) [featsV F0,featsV F1] [] 0=some (bo true,[]) :=
  along_sound (ans:=[(6,Ans.l (Ex.exit 0) (f67_S4 F0 F1 i0))]) (by kernel_rfl) (ai h0 trivial)
end Go.Proofs.Lex
end
/- Lexicon: lists that are equal; records; few; the first lexeme with an ID. -/
section
open Go Go.Vm Go.Proofs
namespace Go.Proofs.Lex
theorem eqB_iff {x y:ByteArray}:(x.toList == y.toList)=true ↔ x=y:=by
  rw [beq_iff_eq,ByteArray.toList_eq,ByteArray.toList_eq]
  constructor
  · intro h
    cases x; cases y
    simpa using h
  · rintro rfl; rfl
theorem eqB_ne {x y:ByteArray}:(x.toList == y.toList)=false ↔ x ≠ y:=by
  rw [← Bool.not_eq_true,eqB_iff]
theorem list_ext {α:Type} {d:α} {l m:List α} (h:l.length=m.length) (k:∀ i,i < l.length→l.getD i d=m.getD i d):l=m:=by
  apply List.ext_getElem h
  intro i h1 h2
  have:=k i h1
  rwa [getD_lt h1,getD_lt h2] at this
theorem neq_false {a b:Nat} (h:a=b):((↑a:Int) != (↑b:Int))=false:=by subst h; simp
theorem neq_true {a b:Nat} (h:a ≠ b):((↑a:Int) != (↑b:Int))=true:=by simp; omega
section
variable {X:Ext} {call:Caller} {lf:Nat}
/-- ref02.Same: two lists of features are equal. -/
theorem same60 {l m:List Feat} (hl:l.length ≤ big) (hlf:l.length < lf):∃ σ',vbody Tryd.prog X call lf noFg Tryd.f60 (codeOf Tryd.f60) [featsV l,featsV m] [] 0=some (bo (decide (l=m)),σ'):=by
  by_cases hlen:l.length=m.length
  case neg =>
    rw [decide_eq_false (fun e=>hlen (by rw [e]))]
    exact ⟨_,f60_pt l m X call lf (neq_true hlen)⟩
  have ho : ∀ i, (i < l.length → nF l i = nF m i → f60_o0 l i (nF l i).name (nF l i).value (nF m i).name (nF m i).value = 0) ∧ (i < l.length → nF l i ≠ nF m i → f60_o0 l i (nF l i).name (nF l i).value (nF m i).name (nF m i).value = 1) ∧ (¬ i < l.length → f60_o0 l i (nF l i).name (nF l i).value (nF m i).name (nF m i).value = 2) := by
    intro i
    unfold f60_o0
    refine ⟨fun h1 h2 => ?_,fun h1 h2 => ?_,fun h1 => ?_⟩
    · rw [decide_eq_true (by omega),h2]; simp
    · rw [decide_eq_true (by omega)]
      have : (((nF l i).name.toList == (nF m i).name.toList) && (((nF l i).value.toList == (nF m i).value.toList) && true)) = false := by
        rw [Bool.eq_false_iff]
        intro h
        simp only [Bool.and_eq_true,eqB_iff,and_true] at h
        apply h2
        cases hl:nF l i; cases hm:nF m i
        rw [hl,hm] at h
        simp only at h
        rw [h.1,h.2]
      rw [this]; rfl
    · rw [decide_eq_false (by omega)]
  rcases first_fail (p:=fun i=>nF l i=nF m i) l.length with hall | ⟨k,hk,hbad,hbef⟩
  · have M := f60_M l m X call lf l.length _ _ _ _ _ _ hlf (fun i _ h => at_feat (by simpa using h)) (fun i _ h => at_feat (by rw [← hlen]; simpa using h)) (fun i h _ => up h hl) (fun j hj => (ho j).1 hj (hall j hj))
    rw [decide_eq_true (list_ext hlen hall)]
    exact ⟨_,M.2 ((ho _).2.2 (by omega)) (neq_false hlen)⟩
  · have M := f60_M l m X call lf k _ _ _ _ _ _ (by omega) (fun i _ h => at_feat (by simpa using h)) (fun i _ h => at_feat (by rw [← hlen]; simpa using h)) (fun i h _ => up h (by omega)) (fun j hj => (ho j).1 (by omega) (hbef j hj))
    rw [decide_eq_false (fun e=>hbad (by rw [e]))]
    exact ⟨_,M.1 ((ho k).2.1 hk hbad) (neq_false hlen)⟩
/-- ref09.Same: two lexemes are equal. -/
theorem same25 {x y:Lexm} (h60:∀ σ,callv X call false 60 [featsV x.feats,featsV y.feats] σ 0=some (bo (decide (x.feats=y.feats)),σ)):∃ σ',vbody Tryd.prog X call lf noFg Tryd.f25 (codeOf Tryd.f25) [.agg (lexC x),.agg (lexC y)] [] 0=some (bo (decide (x=y)),σ'):=by
  have M:=f25_P0 x y X call lf (decide (x.feats=y.feats)) (fun _ _ _ _=>h60 _)
  have ho : f25_q0 x y (decide (x.feats = y.feats)) = if x = y then 0 else 1 := by
    unfold f25_q0
    cases x with
    | mk a b c d e =>
      cases y with
      | mk a' b' c' d' e' =>
        simp only [Lexm.mk.injEq]
        cases h1:(a.toList == a'.toList) with
        | false=>rw [if_neg (by rintro ⟨e,_⟩; exact eqB_ne.1 h1 e)]
        | true =>
          cases h2:(b.toList == b'.toList) with
          | false=>rw [if_neg (by rintro ⟨_,e,_⟩; exact eqB_ne.1 h2 e)]
          | true =>
            cases h3:(c.toList == c'.toList) with
            | false=>rw [if_neg (by rintro ⟨_,_,e,_⟩; exact eqB_ne.1 h3 e)]
            | true =>
              cases h4:(d.toList == d'.toList) with
              | false=>rw [if_neg (by rintro ⟨_,_,_,e,_⟩; exact eqB_ne.1 h4 e)]
              | true =>
                by_cases h5:e=e'
                · rw [decide_eq_true h5,if_pos ⟨eqB_iff.1 h1,eqB_iff.1 h2,eqB_iff.1 h3,eqB_iff.1 h4,h5⟩]
                · rw [decide_eq_false h5,if_neg (by rintro ⟨_,_,_,_,e⟩; exact h5 e)]
  by_cases h:x=y
  · rw [if_pos h] at ho
    rw [decide_eq_true h]
    exact ⟨_,M.1 ho⟩
  · rw [if_neg h] at ho
    rw [decide_eq_false h]
    exact ⟨_,M.2 ho⟩
end
end Go.Proofs.Lex
end
/- Lexicon: records; few; looking for a lexeme; small functions. -/
section
open Go Go.Vm Go.Proofs
namespace Go.Proofs.Lex
/-- The order of bytes. -/
def ltS (x y:ByteArray):Bool:=Op.bytesLess x.toList y.toList
/-- Names strictly ascend. -/
def ascF (F:List Feat):Bool:=(List.range (F.length - 1)).all fun i=>ltS (nF F i).name (nF F (i + 1)).name
theorem ascF_true {F:List Feat}:ascF F=true ↔ ∀ i,i + 1 < F.length→ltS (nF F i).name (nF F (i + 1)).name=true:=by
  simp only [ascF,List.all_eq_true,List.mem_range]
  constructor
  · intro h i hi; exact h i (by omega)
  · intro h i hi; exact h i (by omega)
def namesF (F:List Feat):Bool:=F.all fun f=>nameF f.name && nameF f.value
theorem all_nth {α:Type} {d:α} {p:α→Bool} {l:List α}:l.all p=true ↔ ∀ i,i < l.length→p (l.getD i d)=true:=by
  rw [List.all_eq_true]
  constructor
  · intro h i hi; rw [getD_lt hi]; exact h _ (List.getElem_mem hi)
  · intro h x hx
    obtain ⟨i,hi,rfl⟩:=List.getElem_of_mem hx
    have:=h i hi
    rwa [getD_lt hi] at this
/-- A valid record. -/
def validF (F:List Feat):Bool:=namesF F && (ascF F && decide (F.length ≤ 8))
section
variable {X:Ext} {call:Caller} {lf:Nat}
theorem pred {i:Nat} (h:0 < i) (hb:i ≤ big):w6 ((↑i:Int) - 1)=(↑(i - 1):Int):=by
  have:i ≤ 140737488355328:=hb
  rw [w6_id (by omega) (by omega)]
  omega
/-- ref02.Record. -/
theorem rec82 {F:List Feat} (hl:F.length ≤ big) (hlf:F.length < lf):∃ σ',vbody Tryd.prog X call lf noFg Tryd.f82 (codeOf Tryd.f82) [featsV F] [] 0=some (bo (ascF F),σ'):=by
  have hl' : F.length ≤ 140737488355328:=hl
  have ho : ∀ i, (i + 1 < F.length → ltS (nF F i).name (nF F (i + 1)).name = true → f82_o0 F (fun i => (↑(i + 1) : Int)) i (nF F i).name (nF F (i + 1)).name = 0) ∧ (i + 1 < F.length → ¬ ltS (nF F i).name (nF F (i + 1)).name = true → f82_o0 F (fun i => (↑(i + 1) : Int)) i (nF F i).name (nF F (i + 1)).name = 1) ∧ (¬ i + 1 < F.length → f82_o0 F (fun i => (↑(i + 1) : Int)) i (nF F i).name (nF F (i + 1)).name = 2) := by
    intro i
    unfold f82_o0 ltS
    refine ⟨fun h1 h2 => ?_,fun h1 h2 => ?_,fun h1 => ?_⟩
    · rw [show decide ((fun i:Nat=>(↑(i + 1):Int)) i < (↑(List.length F):Int))=true from decide_eq_true (by show (↑(i + 1):Int) < _; omega),h2]; rfl
    · rw [show decide ((fun i:Nat=>(↑(i + 1):Int)) i < (↑(List.length F):Int))=true from decide_eq_true (by show (↑(i + 1):Int) < _; omega),Bool.eq_false_iff.2 h2]; rfl
    · rw [show decide ((fun i:Nat=>(↑(i + 1):Int)) i < (↑(List.length F):Int))=false from decide_eq_false (by show ¬ (↑(i + 1):Int) < _; omega)]
  have g0 : ∀ (n i0 : Nat), i0 ≤ n → decide ((↑(i0 + 1) : Int) < (↑(List.length F) : Int)) = true → keep [] (indexAddrv Tryd.prog 31 [] (lro (List.length F) 2 (List.flatMap featC F)) (i6 (w6 ((↑(i0 + 1) : Int) - 1)))) = some (AV.eaddr (st (nF F i0).name :: st (nF F i0).value :: tF F i0), []) := by
    intro n i0 _ h
    have h:=of_decide_eq_true h
    rw [pred (by omega) (show _ ≤ 140737488355328 by omega),Nat.add_sub_cancel]
    exact at_feat (by omega)
  have g1 : ∀ (n i0 : Nat), i0 ≤ n → decide ((↑(i0 + 1) : Int) < (↑(List.length F) : Int)) = true → keep [] (indexAddrv Tryd.prog 31 [] (lro (List.length F) 2 (List.flatMap featC F)) (i6 (↑(i0 + 1) : Int))) = some (AV.eaddr (st (nF F (i0 + 1)).name :: st (nF F (i0 + 1)).value :: tF F (i0 + 1)), []) := by
    intro n i0 _ h
    have h:=of_decide_eq_true h
    exact at_feat (by omega)
  rcases first_fail (p:=fun i=>ltS (nF F i).name (nF F (i + 1)).name=true) (F.length - 1) with hall | ⟨k,hk,hbad,hbef⟩
  · have M := f82_M F (fun i => (↑(i + 1) : Int)) X call lf (F.length - 1) _ _ _ _ _ _ rfl (by omega) (g0 _) (g1 _) (fun i h _ => up (n := F.length) (by omega) hl) (fun j hj => (ho j).1 (by omega) (hall j hj))
    rw [ascF_true.2 fun i hi=>hall i (by omega)]
    exact ⟨_,M.2 ((ho _).2.2 (by omega))⟩
  · have M := f82_M F (fun i => (↑(i + 1) : Int)) X call lf k _ _ _ _ _ _ rfl (by omega) (g0 _) (g1 _) (fun i h _ => up (n := F.length) (by omega) hl) (fun j hj => (ho j).1 (by omega) (hbef j hj))
    have : ascF F = false := by
      rw [Bool.eq_false_iff]
      intro h
      exact hbad (ascF_true.1 h k (by omega))
    rw [this]
    exact ⟨_,M.1 ((ho k).2.1 (by omega) hbad)⟩
/-- ref02.Valid. -/
theorem valid50 {F:List Feat} (hl:F.length ≤ big) (hlf:F.length < lf) (h81:∀ i,i < F.length→∀ σ,callv X call false 81 [st (nF F i).name] σ 0=some (bo (nameF (nF F i).name),σ)∧callv X call false 81 [st (nF F i).value] σ 0=some (bo (nameF (nF F i).value),σ)) (h82:∀ σ,callv X call false 82 [featsV F] σ 0=some (bo (ascF F),σ)) :
    ∃ σ',vbody Tryd.prog X call lf noFg Tryd.f50 (codeOf Tryd.f50) [featsV F] [] 0=some (bo (validF F),σ'):=by
  have ho : ∀ i, (i < F.length → (nameF (nF F i).name && nameF (nF F i).value) = true → f50_o0 F i (nameF (nF F i).name) (nameF (nF F i).value) = 0) ∧ (i < F.length → ¬ (nameF (nF F i).name && nameF (nF F i).value) = true → f50_o0 F i (nameF (nF F i).name) (nameF (nF F i).value) = 1 ∨ f50_o0 F i (nameF (nF F i).name) (nameF (nF F i).value) = 2) ∧ (¬ i < F.length → f50_o0 F i (nameF (nF F i).name) (nameF (nF F i).value) = 3) := by
    intro i
    unfold f50_o0
    refine ⟨fun h1 h2 => ?_,fun h1 h2 => ?_,fun h1 => ?_⟩
    · rw [Bool.and_eq_true] at h2
      rw [decide_eq_true (by omega),h2.1,h2.2]
    · rw [decide_eq_true (by omega)]
      cases h3:nameF (nF F i).name with
      | false=>exact .inr rfl
      | true =>
        cases h4:nameF (nF F i).value with
        | false=>exact .inl rfl
        | true=>exact absurd (by rw [h3,h4]; rfl) h2
    · rw [decide_eq_false (by omega)]
  rcases first_fail (p:=fun i=>(nameF (nF F i).name && nameF (nF F i).value)=true) F.length with hall | ⟨k,hk,hbad,hbef⟩
  · have M := f50_M F X call lf F.length _ _ _ _ _ _ _ _ hlf (fun i _ h => at_feat (by simpa using h)) (fun i _ h => (h81 i (by simpa using h) _).1) (fun i _ h _ => at_feat (by simpa using h)) (fun i _ h _ => (h81 i (by simpa using h) _).2) (fun i h _ => up h hl) (fun j hj => (ho j).1 hj (hall j hj))
    have hn:namesF F=true:=all_nth.2 hall
    have h3:=(ho F.length).2.2 (by omega)
    unfold validF
    rw [hn,Bool.true_and]
    by_cases h8:F.length ≤ 8
    · rw [decide_eq_true h8, Bool.and_true]
      cases ha:ascF F with
      | true=>exact ⟨_,M.2.2.1 h3 (decide_eq_true (by omega)) (by have:=h82 []; rw [ha] at this; exact this)⟩
      | false=>exact ⟨_,M.2.2.2.1 h3 (decide_eq_true (by omega)) (by have:=h82 []; rw [ha] at this; exact this)⟩
    · rw [decide_eq_false h8, Bool.and_false]
      exact ⟨_,M.2.2.2.2 h3 (decide_eq_false (by omega))⟩
  · have M := f50_M F X call lf k _ _ _ _ _ _ _ _ (by omega) (fun i _ h => at_feat (by simpa using h)) (fun i _ h => (h81 i (by simpa using h) _).1) (fun i _ h _ => at_feat (by simpa using h)) (fun i _ h _ => (h81 i (by simpa using h) _).2) (fun i h _ => up (n := F.length) (by omega) hl) (fun j hj => (ho j).1 (by omega) (hbef j hj))
    have hn : namesF F = false := by
      rw [Bool.eq_false_iff]
      intro h
      exact hbad (all_nth.1 h k hk)
    unfold validF
    rw [hn,Bool.false_and]
    rcases (ho k).2.1 hk hbad with h | h
    · exact ⟨_,M.1 h⟩
    · exact ⟨_,M.2.1 h⟩
/-- feature.Valid. -/
theorem valid45 {F:List Feat} (hl:F.length ≤ big) (hlf:F.length < lf) (h75:∀ i,i < F.length→∀ σ,callv X call true 75 [st (nF F i).name] σ 0=some (bo (nameF (nF F i).name),σ)∧callv X call true 75 [st (nF F i).value] σ 0=some (bo (nameF (nF F i).value),σ)) :
    ∃ σ',vbody Tryd.prog X call lf fg45 Tryd.f45 (codeOf Tryd.f45) [featsV F] [] 0=some (bo (validF F),σ'):=by
  have hl' : F.length ≤ 140737488355328:=hl
  let good:Nat→Bool:=fun i=>(nameF (nF F i).name && nameF (nF F i).value) && (decide (i=0) || ltS (nF F (i - 1)).name (nF F i).name)
  have ho : ∀ i, (i < F.length → good i = true → f45_o0 F i (nF F i).name (nF F (i - 1)).name (nameF (nF F i).name) (nameF (nF F i).value) = 0) ∧ (i < F.length → ¬ good i = true → f45_o0 F i (nF F i).name (nF F (i - 1)).name (nameF (nF F i).name) (nameF (nF F i).value) = 1 ∨ f45_o0 F i (nF F i).name (nF F (i - 1)).name (nameF (nF F i).name) (nameF (nF F i).value) = 2 ∨ f45_o0 F i (nF F i).name (nF F (i - 1)).name (nameF (nF F i).name) (nameF (nF F i).value) = 3) ∧ (¬ i < F.length → f45_o0 F i (nF F i).name (nF F (i - 1)).name (nameF (nF F i).name) (nameF (nF F i).value) = 4) := by
    intro i
    unfold f45_o0
    refine ⟨fun h1 h2 => ?_,fun h1 h2 => ?_,fun h1 => ?_⟩
    · simp only [good, Bool.and_eq_true, Bool.or_eq_true, decide_eq_true_eq] at h2
      rw [decide_eq_true (by omega),h2.1.1,h2.1.2]
      by_cases h0:i=0
      · rw [decide_eq_false (show ¬ (↑i:Int) > 0 by omega)]
      · rw [decide_eq_true (show (↑i : Int) > 0 by omega)]
        have:=h2.2.resolve_left h0
        unfold ltS at this
        rw [this]; rfl
    · rw [decide_eq_true (by omega)]
      cases h3:nameF (nF F i).name with
      | false=>exact .inr (.inr rfl)
      | true =>
        cases h4:nameF (nF F i).value with
        | false=>exact .inr (.inl rfl)
        | true =>
          left
          simp only [good,h3,h4,Bool.and_self,Bool.true_and,Bool.or_eq_true,decide_eq_true_eq,not_or] at h2
          rw [decide_eq_true (show (↑i:Int) > 0 by omega)]
          have:=h2.2
          unfold ltS at this
          rw [Bool.eq_false_iff.2 this]; rfl
    · rw [decide_eq_false (by omega)]
  have key : (∀ i, i < F.length → good i = true) ↔ (namesF F && ascF F) = true := by
    rw [Bool.and_eq_true,ascF_true,namesF,all_nth (d:=d0F)]
    constructor
    · intro h
      refine ⟨fun i hi => ?_,fun i hi => ?_⟩
      · have := h i hi
        simp only [good,Bool.and_eq_true] at this
        rw [Bool.and_eq_true]
        exact this.1
      · have := h (i + 1) hi
        simp only [good,Bool.and_eq_true,Bool.or_eq_true,decide_eq_true_eq,Nat.add_sub_cancel] at this
        exact this.2.resolve_left (by omega)
    · rintro ⟨h1, h2⟩ i hi
      simp only [good,Bool.and_eq_true,Bool.or_eq_true,decide_eq_true_eq]
      have:=h1 i hi
      rw [Bool.and_eq_true] at this
      refine ⟨this,?_⟩
      by_cases h0:i=0
      · exact .inl h0
      · have := h2 (i - 1) (by omega)
        rw [show i - 1 + 1=i by omega] at this
        exact .inr this
  have g3 : ∀ (n i0 : Nat), i0 ≤ n → decide ((↑i0 : Int) < (↑(List.length F) : Int)) = true → nameF (nF F i0).name = true → nameF (nF F i0).value = true → decide ((↑i0 : Int) > 0) = true → keep [] (indexAddrv Tryd.prog 31 [] (lro (List.length F) 2 (List.flatMap featC F)) (i6 (w6 ((↑i0 : Int) - 1)))) = some (AV.eaddr (st (nF F (i0 - 1)).name :: st (nF F (i0 - 1)).value :: tF F (i0 - 1)), []) := by
    intro n i0 _ h _ _ h0
    have h:=of_decide_eq_true h
    have h0:=of_decide_eq_true h0
    rw [pred (by omega) (show _ ≤ 140737488355328 by omega)]
    exact at_feat (by omega)
  rcases first_fail (p:=fun i=>good i=true) F.length with hall | ⟨k,hk,hbad,hbef⟩
  · have M := f45_M F X call lf F.length _ _ _ _ _ _ _ _ hlf (fun i _ h => at_feat (by simpa using h)) (fun i _ h => (h75 i (by simpa using h) _).1) (fun i _ h _ => (h75 i (by simpa using h) _).2) (g3 _) (fun i h _ => up h hl) (fun j hj => (ho j).1 hj (hall j hj))
    have hn:=key.1 hall
    have h3:=(ho F.length).2.2 (by omega)
    unfold validF
    rw [← Bool.and_assoc,hn,Bool.true_and]
    by_cases h8:F.length ≤ 8
    · rw [decide_eq_true h8]
      exact ⟨_,M.2.2.2.1 h3 (decide_eq_true (by omega))⟩
    · rw [decide_eq_false h8]
      exact ⟨_,M.2.2.2.2 h3 (decide_eq_false (by omega))⟩
  · have M := f45_M F X call lf k _ _ _ _ _ _ _ _ (by omega) (fun i _ h => at_feat (by simpa using h)) (fun i _ h => (h75 i (by simpa using h) _).1) (fun i _ h _ => (h75 i (by simpa using h) _).2) (g3 _) (fun i h _ => up (n := F.length) (by omega) hl) (fun j hj => (ho j).1 (by omega) (hbef j hj))
    have hn : (namesF F && ascF F) = false := by
      rw [Bool.eq_false_iff]
      intro h
      exact hbad (key.2 h k hk)
    unfold validF
    rw [← Bool.and_assoc,hn,Bool.false_and]
    rcases (ho k).2.1 hk hbad with h | h | h
    · exact ⟨_,M.1 h⟩
    · exact ⟨_,M.2.1 h⟩
    · exact ⟨_,M.2.2.1 h⟩
end
end Go.Proofs.Lex
end
/- Lexicon: closures, walked (printed) -/
section
open Go Go.Vm Go.Proofs
namespace Go.Proofs.Lex
theorem f63_pt (x0:Lexm)(s:ByteArray)(X:Ext)(call:Caller)(lf:Nat)
 (h0:(ByteArray.toList (Lexm.id x0) == ByteArray.toList s)=true):vbody Tryd.prog X call lf noFg Tryd.f63 (codeOf Tryd.f63) [AV.agg (lexC x0),AV.ref 0 0] [Ob.cells [st s]] 0=some (bo true,[Ob.cells [st s],Ob.cells [st (Lexm.id x0),st (Lexm.cat x0),st (Lexm.stem x0),st (Lexm.par x0),lro (List.length (Lexm.feats x0)) 2 (List.flatMap featC (Lexm.feats x0))]]) :=
  along_sound (ans:=[(7,Ans.b true)]) (by kernel_rfl) (ai h0 trivial)
theorem f63_pf (x0:Lexm)(s:ByteArray)(X:Ext)(call:Caller)(lf:Nat)
 (h0:(ByteArray.toList (Lexm.id x0) == ByteArray.toList s)=false):vbody Tryd.prog X call lf noFg Tryd.f63 (codeOf Tryd.f63) [AV.agg (lexC x0),AV.ref 0 0] [Ob.cells [st s]] 0=some (bo false,[Ob.cells [st s],Ob.cells [st (Lexm.id x0),st (Lexm.cat x0),st (Lexm.stem x0),st (Lexm.par x0),lro (List.length (Lexm.feats x0)) 2 (List.flatMap featC (Lexm.feats x0))]]) :=
  along_sound (ans:=[(7,Ans.b false)]) (by kernel_rfl) (ai h0 trivial)
def f63_q0 (x0:Lexm)(s:ByteArray):Nat :=
  (match (ByteArray.toList (Lexm.id x0) == ByteArray.toList s) with
  | true=>0
  | false=>1)
theorem f63_P0 (x0:Lexm)(s:ByteArray)(X:Ext)(call:Caller)(lf:Nat) :
    (f63_q0 x0 s=0→vbody Tryd.prog X call lf noFg Tryd.f63 (codeOf Tryd.f63) [AV.agg (lexC x0),AV.ref 0 0] [Ob.cells [st s]] 0=some (bo true,[Ob.cells [st s],Ob.cells [st (Lexm.id x0),st (Lexm.cat x0),st (Lexm.stem x0),st (Lexm.par x0),lro (List.length (Lexm.feats x0)) 2 (List.flatMap featC (Lexm.feats x0))]]))∧(f63_q0 x0 s=1→vbody Tryd.prog X call lf noFg Tryd.f63 (codeOf Tryd.f63) [AV.agg (lexC x0),AV.ref 0 0] [Ob.cells [st s]] 0=some (bo false,[Ob.cells [st s],Ob.cells [st (Lexm.id x0),st (Lexm.cat x0),st (Lexm.stem x0),st (Lexm.par x0),lro (List.length (Lexm.feats x0)) 2 (List.flatMap featC (Lexm.feats x0))]])):=by
  unfold f63_q0
  cases c0:(ByteArray.toList (Lexm.id x0) == ByteArray.toList s) with
  | true =>
    exact ⟨fun _=>f63_pt x0 s X call lf c0,fun h=>absurd (show (0:Nat)=1 from h) (by decide)⟩
  | false =>
    exact ⟨fun h=>absurd (show (1:Nat)=0 from h) (by decide),fun _=>f63_pf x0 s X call lf c0⟩
theorem f41_pt (x0:Lexm)(s:ByteArray)(X:Ext)(call:Caller)(lf:Nat)
 (h0:(ByteArray.toList (Lexm.cat x0) == ByteArray.toList s)=true):vbody Tryd.prog X call lf noFg Tryd.f41 (codeOf Tryd.f41) [AV.agg (lexC x0),AV.ref 0 0] [Ob.cells [st s]] 0=some (bo true,[Ob.cells [st s],Ob.cells [st (Lexm.id x0),st (Lexm.cat x0),st (Lexm.stem x0),st (Lexm.par x0),lro (List.length (Lexm.feats x0)) 2 (List.flatMap featC (Lexm.feats x0))]]) :=
  along_sound (ans:=[(7,Ans.b true)]) (by kernel_rfl) (ai h0 trivial)
theorem f41_pf (x0:Lexm)(s:ByteArray)(X:Ext)(call:Caller)(lf:Nat)
 (h0:(ByteArray.toList (Lexm.cat x0) == ByteArray.toList s)=false):vbody Tryd.prog X call lf noFg Tryd.f41 (codeOf Tryd.f41) [AV.agg (lexC x0),AV.ref 0 0] [Ob.cells [st s]] 0=some (bo false,[Ob.cells [st s],Ob.cells [st (Lexm.id x0),st (Lexm.cat x0),st (Lexm.stem x0),st (Lexm.par x0),lro (List.length (Lexm.feats x0)) 2 (List.flatMap featC (Lexm.feats x0))]]) :=
  along_sound (ans:=[(7,Ans.b false)]) (by kernel_rfl) (ai h0 trivial)
def f41_q0 (x0:Lexm)(s:ByteArray):Nat :=
  (match (ByteArray.toList (Lexm.cat x0) == ByteArray.toList s) with
  | true=>0
  | false=>1)
theorem f41_P0 (x0:Lexm)(s:ByteArray)(X:Ext)(call:Caller)(lf:Nat) :
    (f41_q0 x0 s=0→vbody Tryd.prog X call lf noFg Tryd.f41 (codeOf Tryd.f41) [AV.agg (lexC x0),AV.ref 0 0] [Ob.cells [st s]] 0=some (bo true,[Ob.cells [st s],Ob.cells [st (Lexm.id x0),st (Lexm.cat x0),st (Lexm.stem x0),st (Lexm.par x0),lro (List.length (Lexm.feats x0)) 2 (List.flatMap featC (Lexm.feats x0))]]))∧(f41_q0 x0 s=1→vbody Tryd.prog X call lf noFg Tryd.f41 (codeOf Tryd.f41) [AV.agg (lexC x0),AV.ref 0 0] [Ob.cells [st s]] 0=some (bo false,[Ob.cells [st s],Ob.cells [st (Lexm.id x0),st (Lexm.cat x0),st (Lexm.stem x0),st (Lexm.par x0),lro (List.length (Lexm.feats x0)) 2 (List.flatMap featC (Lexm.feats x0))]])):=by
  unfold f41_q0
  cases c0:(ByteArray.toList (Lexm.cat x0) == ByteArray.toList s) with
  | true =>
    exact ⟨fun _=>f41_pt x0 s X call lf c0,fun h=>absurd (show (0:Nat)=1 from h) (by decide)⟩
  | false =>
    exact ⟨fun h=>absurd (show (1:Nat)=0 from h) (by decide),fun _=>f41_pf x0 s X call lf c0⟩
theorem f66_pt (x0:Lexm)(s:ByteArray)(X:Ext)(call:Caller)(lf:Nat)
 (h0:(ByteArray.toList (Lexm.stem x0) == ByteArray.toList s)=true):vbody Tryd.prog X call lf noFg Tryd.f66 (codeOf Tryd.f66) [AV.agg (lexC x0),AV.ref 0 0] [Ob.cells [st s]] 0=some (bo true,[Ob.cells [st s],Ob.cells [st (Lexm.id x0),st (Lexm.cat x0),st (Lexm.stem x0),st (Lexm.par x0),lro (List.length (Lexm.feats x0)) 2 (List.flatMap featC (Lexm.feats x0))]]) :=
  along_sound (ans:=[(7,Ans.b true)]) (by kernel_rfl) (ai h0 trivial)
theorem f66_pf (x0:Lexm)(s:ByteArray)(X:Ext)(call:Caller)(lf:Nat)
 (h0:(ByteArray.toList (Lexm.stem x0) == ByteArray.toList s)=false):vbody Tryd.prog X call lf noFg Tryd.f66 (codeOf Tryd.f66) [AV.agg (lexC x0),AV.ref 0 0] [Ob.cells [st s]] 0=some (bo false,[Ob.cells [st s],Ob.cells [st (Lexm.id x0),st (Lexm.cat x0),st (Lexm.stem x0),st (Lexm.par x0),lro (List.length (Lexm.feats x0)) 2 (List.flatMap featC (Lexm.feats x0))]]) :=
  along_sound (ans:=[(7,Ans.b false)]) (by kernel_rfl) (ai h0 trivial)
def f66_q0 (x0:Lexm)(s:ByteArray):Nat :=
  (match (ByteArray.toList (Lexm.stem x0) == ByteArray.toList s) with
  | true=>0
  | false=>1)
theorem f66_P0 (x0:Lexm)(s:ByteArray)(X:Ext)(call:Caller)(lf:Nat) :
    (f66_q0 x0 s=0→vbody Tryd.prog X call lf noFg Tryd.f66 (codeOf Tryd.f66) [AV.agg (lexC x0),AV.ref 0 0] [Ob.cells [st s]] 0=some (bo true,[Ob.cells [st s],Ob.cells [st (Lexm.id x0),st (Lexm.cat x0),st (Lexm.stem x0),st (Lexm.par x0),lro (List.length (Lexm.feats x0)) 2 (List.flatMap featC (Lexm.feats x0))]]))∧(f66_q0 x0 s=1→vbody Tryd.prog X call lf noFg Tryd.f66 (codeOf Tryd.f66) [AV.agg (lexC x0),AV.ref 0 0] [Ob.cells [st s]] 0=some (bo false,[Ob.cells [st s],Ob.cells [st (Lexm.id x0),st (Lexm.cat x0),st (Lexm.stem x0),st (Lexm.par x0),lro (List.length (Lexm.feats x0)) 2 (List.flatMap featC (Lexm.feats x0))]])):=by
  unfold f66_q0
  cases c0:(ByteArray.toList (Lexm.stem x0) == ByteArray.toList s) with
  | true =>
    exact ⟨fun _=>f66_pt x0 s X call lf c0,fun h=>absurd (show (0:Nat)=1 from h) (by decide)⟩
  | false =>
    exact ⟨fun h=>absurd (show (1:Nat)=0 from h) (by decide),fun _=>f66_pf x0 s X call lf c0⟩
def fg64:Nat→List Nat
  | 5003=>[1]
  | _=>[]
theorem f77_pt (s:ByteArray)(X:Ext)(call:Caller)(lf:Nat)
 (h0:(ByteArray.toList s == ByteArray.toList (ByteArray.mk #[]))=true):vbody Tryd.prog X call lf noFg Tryd.f77 (codeOf Tryd.f77) [st s] [] 0=some (bo true,[]) :=
  along_sound (ans:=[(4,Ans.b true)]) (by kernel_rfl) (ai h0 trivial)
theorem f77_pf (s:ByteArray)(X:Ext)(call:Caller)(lf:Nat)
 (h0:(ByteArray.toList s == ByteArray.toList (ByteArray.mk #[]))=false):vbody Tryd.prog X call lf noFg Tryd.f77 (codeOf Tryd.f77) [st s] [] 0=some (bo false,[]) :=
  along_sound (ans:=[(4,Ans.b false)]) (by kernel_rfl) (ai h0 trivial)
def f77_q0 (s:ByteArray):Nat :=
  (match (ByteArray.toList s == ByteArray.toList (ByteArray.mk #[])) with
  | true=>0
  | false=>1)
theorem f77_P0 (s:ByteArray)(X:Ext)(call:Caller)(lf:Nat) :
    (f77_q0 s=0→vbody Tryd.prog X call lf noFg Tryd.f77 (codeOf Tryd.f77) [st s] [] 0=some (bo true,[]))∧(f77_q0 s=1→vbody Tryd.prog X call lf noFg Tryd.f77 (codeOf Tryd.f77) [st s] [] 0=some (bo false,[])):=by
  unfold f77_q0
  cases c0:(ByteArray.toList s == ByteArray.toList (ByteArray.mk #[])) with
  | true =>
    exact ⟨fun _=>f77_pt s X call lf c0,fun h=>absurd (show (0:Nat)=1 from h) (by decide)⟩
  | false =>
    exact ⟨fun h=>absurd (show (1:Nat)=0 from h) (by decide),fun _=>f77_pf s X call lf c0⟩
def f62_F0 (L:List Lexm)(g:Nat)(c:AV)(i0:Nat):St :=
  stOf 19 [4,5,9,10,11,12,13,14,15,16,17,18] [(0,lro L.length 5 (List.flatMap lexC L)),(1,AV.clo g [AV.ref 0 0]),(6,lro L.length 5 (List.flatMap lexC L)),(7,i6 (↑L.length:Int)),(8,i6 (↑i0:Int))] [Ob.cells [c]]
def f62_S0 (L:List Lexm)(g:Nat)(c:AV):St :=
  stOf 19 [] [(0,lro L.length 5 (List.flatMap lexC L)),(1,AV.clo g [AV.ref 0 0]),(4,i6 0),(6,lro L.length 5 (List.flatMap lexC L)),(7,i6 (↑L.length:Int)),(8,i6 0)] [Ob.cells [c]]
abbrev f62_D0:List Nat:=[18,4,17,16,15,14,13,12,11,5,10,9]
theorem f62_L0 (L:List Lexm)(g:Nat)(c:AV)(X:Ext)(call:Caller)(lf n:Nat)(x:Ex) (S' : St)
 (hn:n<lf)
 (hs:∀ j,j<n→∃ S1,vexec Tryd.prog X call lf 0 noFg (loopN Tryd.f62 0) (f62_F0 L g c j)=some (Ex.normal,S1)∧forget f62_D0 S1=(f62_F0 L g c (j + 1)))
 (he:vexec Tryd.prog X call lf 0 noFg (loopN Tryd.f62 0) (f62_F0 L g c n)=some (x,S'))
 (hx:x ≠ Ex.normal):vexec Tryd.prog X call lf 0 noFg (Go.Code.loop (loopN Tryd.f62 0)) (f62_S0 L g c)=some (x,S') :=
  loop_runK (by kernel_rfl) (fun j=>(f62_F0 L g c j)) n hn (by show forget f62_D0 (f62_S0 L g c)=(f62_F0 L g c 0); unfold f62_F0; show _=_; kernel_rfl) hs he hx
def f62_S1 (L:List Lexm)(g:Nat)(c:AV)(i0:Nat)(a b d e:ByteArray)(h:Nat)(j r14:List AV):St :=
  stOf 19 [18] [(0,lro L.length 5 (List.flatMap lexC L)),(1,AV.clo g [AV.ref 0 0]),(4,i6 (↑i0:Int)),(5,i6 (↑i0:Int)),(6,lro L.length 5 (List.flatMap lexC L)),(7,i6 (↑L.length:Int)),(8,i6 (↑i0:Int)),(9,bo true),(10,i6 (↑i0:Int)),(11,AV.clo g [AV.ref 0 0]),(12,lro L.length 5 (List.flatMap lexC L)),(13,i6 (↑i0:Int)),(14,AV.eaddr (st a::st b::st d::st e::lro h 2 j::r14)),(15,AV.agg [st a,st b,st d,st e,lro h 2 j]),(16,bo true),(17,i6 (↑i0:Int))] [Ob.cells [c]]
theorem f62_r0_tt (L:List Lexm)(g:Nat)(c:AV)(X:Ext)(call:Caller)(lf i0:Nat)(a d e h:ByteArray)(j:Nat)(k r14:List AV)
 (h0:decide ((↑i0:Int)<(↑L.length:Int))=true)
 (h1:keep [Ob.cells [c]] (indexAddrv Tryd.prog 22 [Ob.cells [c]] (lro L.length 5 (List.flatMap lexC L)) (i6 (↑i0:Int)))=some (AV.eaddr (st a::st d::st e::st h::lro j 2 k::r14),[Ob.cells [c]]))
 (h2:callv X call false g [AV.agg [st a,st d,st e,st h,lro j 2 k],AV.ref 0 0] [Ob.cells [c]] 0=some (bo true,[Ob.cells [c]])):vexec Tryd.prog X call lf 0 noFg (loopN Tryd.f62 0) (f62_F0 L g c i0)=some (Ex.ret,(f62_S1 L g c i0 a d e h j k r14)) :=
  around_sound (ans:=[(1,Ans.b true),(10,Ans.v (AV.eaddr (st a::st d::st e::st h::lro j 2 k::r14))),(12,Ans.v (bo true))]) (by kernel_rfl) (ai h0 (ai h1 (ai h2 trivial)))
theorem f62_pltt (L:List Lexm)(g:Nat)(c:AV)(X:Ext)(call:Caller)(lf i0:Nat)(a b d e:ByteArray)(h:Nat)(j r14:List AV)
 (h0:vexec Tryd.prog X call lf 0 noFg (Code.loop (loopN Tryd.f62 0)) (f62_S0 L g c)=some (Ex.ret,(f62_S1 L g c i0 a b d e h j r14))):vbody Tryd.prog X call lf noFg Tryd.f62 (codeOf Tryd.f62) [lexsV L,AV.clo g [AV.ref 0 0]] [Ob.cells [c]] 0=some (i6 (↑i0:Int),[Ob.cells [c]]) :=
  along_sound (ans:=[(6,Ans.l Ex.ret (f62_S1 L g c i0 a b d e h j r14))]) (by kernel_rfl) (ai h0 trivial)
theorem f62_s0_tf (L:List Lexm)(g:Nat)(c:AV)(X:Ext)(call:Caller)(lf i0:Nat)(a d e h:ByteArray)(j:Nat)(k r14:List AV)
 (h0:decide ((↑i0:Int)<(↑L.length:Int))=true)
 (h1:keep [Ob.cells [c]] (indexAddrv Tryd.prog 22 [Ob.cells [c]] (lro L.length 5 (List.flatMap lexC L)) (i6 (↑i0:Int)))=some (AV.eaddr (st a::st d::st e::st h::lro j 2 k::r14),[Ob.cells [c]]))
 (h2:callv X call false g [AV.agg [st a,st d,st e,st h,lro j 2 k],AV.ref 0 0] [Ob.cells [c]] 0=some (bo false,[Ob.cells [c]]))
 (e0:(↑(i0 + 1):Int)=w6 ((↑i0:Int) + 1)):∃ S1,vexec Tryd.prog X call lf 0 noFg (loopN Tryd.f62 0) (f62_F0 L g c i0)=some (Ex.normal,S1)∧forget f62_D0 S1=(f62_F0 L g c (i0 + 1)) :=
  ⟨stOf 19 [4,17] [(0,lro L.length 5 (List.flatMap lexC L)),(1,AV.clo g [AV.ref 0 0]),(5,i6 (↑i0:Int)),(6,lro L.length 5 (List.flatMap lexC L)),(7,i6 (↑L.length:Int)),(8,i6 (w6 ((↑i0:Int) + 1))),(9,bo true),(10,i6 (↑i0:Int)),(11,AV.clo g [AV.ref 0 0]),(12,lro L.length 5 (List.flatMap lexC L)),(13,i6 (↑i0:Int)),(14,AV.eaddr (st a::st d::st e::st h::lro j 2 k::r14)),(15,AV.agg [st a,st d,st e,st h,lro j 2 k]),(16,bo false),(18,i6 (w6 ((↑i0:Int) + 1)))] [Ob.cells [c]],around_sound (ans:=[(1,Ans.b true),(10,Ans.v (AV.eaddr (st a::st d::st e::st h::lro j 2 k::r14))),(12,Ans.v (bo false))]) (by kernel_rfl) (ai h0 (ai h1 (ai h2 trivial))),by unfold f62_F0; rw [e0]; show _=_; kernel_rfl⟩
def f62_S2 (L:List Lexm)(g:Nat)(c:AV)(i0:Nat):St :=
  stOf 19 [4,5,10,11,12,13,14,15,16,17,18] [(0,lro L.length 5 (List.flatMap lexC L)),(1,AV.clo g [AV.ref 0 0]),(6,lro L.length 5 (List.flatMap lexC L)),(7,i6 (↑L.length:Int)),(8,i6 (↑i0:Int)),(9,bo false)] [Ob.cells [c]]
theorem f62_r0_f (L:List Lexm)(g:Nat)(c:AV)(X:Ext)(call:Caller)(lf i0:Nat)
 (h0:decide ((↑i0:Int)<(↑L.length:Int))=false):vexec Tryd.prog X call lf 0 noFg (loopN Tryd.f62 0) (f62_F0 L g c i0)=some (Ex.exit 0,(f62_S2 L g c i0)) :=
  around_sound (ans:=[(1,Ans.b false)]) (by kernel_rfl) (ai h0 trivial)
theorem f62_plf (L:List Lexm)(g:Nat)(c:AV)(X:Ext)(call:Caller)(lf i0:Nat)
 (h0:vexec Tryd.prog X call lf 0 noFg (Code.loop (loopN Tryd.f62 0)) (f62_S0 L g c)=some (Ex.exit 0,(f62_S2 L g c i0))):vbody Tryd.prog X call lf noFg Tryd.f62 (codeOf Tryd.f62) [lexsV L,AV.clo g [AV.ref 0 0]] [Ob.cells [c]] 0=some (i6 (-1),[Ob.cells [c]]) :=
  along_sound (ans:=[(6,Ans.l (Ex.exit 0) (f62_S2 L g c i0))]) (by kernel_rfl) (ai h0 trivial)
def f62_o0 (L:List Lexm)(i0:Nat)(b0:Bool):Nat :=
  (match decide ((↑i0:Int)<(↑L.length:Int)) with
  | true=>(match b0 with
    | true=>1
    | false=>0)
  | false=>2)
theorem f62_B0 (L:List Lexm)(g:Nat)(c:AV)(X:Ext)(call:Caller)(lf i0:Nat)(a b d e:ByteArray)(j:Nat)(k r14:List AV)(b0:Bool)
 (g0:decide ((↑i0:Int)<(↑L.length:Int))=true→keep [Ob.cells [c]] (indexAddrv Tryd.prog 22 [Ob.cells [c]] (lro L.length 5 (List.flatMap lexC L)) (i6 (↑i0:Int)))=some (AV.eaddr (st a::st b::st d::st e::lro j 2 k::r14),[Ob.cells [c]]))
 (g1:decide ((↑i0:Int)<(↑L.length:Int))=true→callv X call false g [AV.agg [st a,st b,st d,st e,lro j 2 k],AV.ref 0 0] [Ob.cells [c]] 0=some (bo b0,[Ob.cells [c]]))
 (e0:decide ((↑i0:Int)<(↑L.length:Int))=true→(↑(i0 + 1):Int)=w6 ((↑i0:Int) + 1)) :
    (f62_o0 L i0 b0=0→∃ S1,vexec Tryd.prog X call lf 0 noFg (loopN Tryd.f62 0) (f62_F0 L g c i0)=some (Ex.normal,S1)∧forget f62_D0 S1=(f62_F0 L g c (i0 + 1)))∧(f62_o0 L i0 b0=1→vexec Tryd.prog X call lf 0 noFg (loopN Tryd.f62 0) (f62_F0 L g c i0)=some (Ex.ret,(f62_S1 L g c i0 a b d e j k r14)))∧(f62_o0 L i0 b0=2→vexec Tryd.prog X call lf 0 noFg (loopN Tryd.f62 0) (f62_F0 L g c i0)=some (Ex.exit 0,(f62_S2 L g c i0))):=by
  unfold f62_o0
  cases c0:decide ((↑i0:Int)<(↑L.length:Int)) with
  | true =>
    cases c1:b0 with
    | true =>
      exact ⟨fun h=>absurd (show (1:Nat)=0 from h) (by decide),fun _=>f62_r0_tt L g c X call lf i0 a b d e j k r14 c0 (g0 c0) (by have:=(g1 c0); rw [c1] at this; exact this),fun h=>absurd (show (1:Nat)=2 from h) (by decide)⟩
    | false =>
      exact ⟨fun _=>f62_s0_tf L g c X call lf i0 a b d e j k r14 c0 (g0 c0) (by have:=(g1 c0); rw [c1] at this; exact this) (e0 c0),fun h=>absurd (show (0:Nat)=1 from h) (by decide),fun h=>absurd (show (0:Nat)=2 from h) (by decide)⟩
  | false =>
    exact ⟨fun h=>absurd (show (2:Nat)=0 from h) (by decide),fun h=>absurd (show (2:Nat)=1 from h) (by decide),fun _=>f62_r0_f L g c X call lf i0 c0⟩
theorem f62_X0 (L:List Lexm)(g:Nat)(c:AV)(X:Ext)(call:Caller)(lf i0:Nat)(a b d e:ByteArray)(j:Nat)(k r14:List AV)(b0:Bool)
 (g0:decide ((↑i0:Int)<(↑L.length:Int))=true→keep [Ob.cells [c]] (indexAddrv Tryd.prog 22 [Ob.cells [c]] (lro L.length 5 (List.flatMap lexC L)) (i6 (↑i0:Int)))=some (AV.eaddr (st a::st b::st d::st e::lro j 2 k::r14),[Ob.cells [c]]))
 (g1:decide ((↑i0:Int)<(↑L.length:Int))=true→callv X call false g [AV.agg [st a,st b,st d,st e,lro j 2 k],AV.ref 0 0] [Ob.cells [c]] 0=some (bo b0,[Ob.cells [c]])) :
    (f62_o0 L i0 b0=1→vexec Tryd.prog X call lf 0 noFg (loopN Tryd.f62 0) (f62_F0 L g c i0)=some (Ex.ret,(f62_S1 L g c i0 a b d e j k r14)))∧(f62_o0 L i0 b0=2→vexec Tryd.prog X call lf 0 noFg (loopN Tryd.f62 0) (f62_F0 L g c i0)=some (Ex.exit 0,(f62_S2 L g c i0))):=by
  unfold f62_o0
  cases c0:decide ((↑i0:Int)<(↑L.length:Int)) with
  | true =>
    cases c1:b0 with
    | true =>
      exact ⟨fun _=>f62_r0_tt L g c X call lf i0 a b d e j k r14 c0 (g0 c0) (by have:=(g1 c0); rw [c1] at this; exact this),fun h=>absurd (show (1:Nat)=2 from h) (by decide)⟩
    | false =>
      exact ⟨fun h=>absurd (show (0:Nat)=1 from h) (by decide),fun h=>absurd (show (0:Nat)=2 from h) (by decide)⟩
  | false =>
    exact ⟨fun h=>absurd (show (2:Nat)=1 from h) (by decide),fun _=>f62_r0_f L g c X call lf i0 c0⟩
theorem f62_M (L:List Lexm)(g:Nat)(c:AV)(X:Ext)(call:Caller)(lf n:Nat)(a b d e:Nat→ByteArray)(h:Nat→Nat)(k r14:Nat→List AV)(b0:Nat→Bool)
 (hn:n<lf)
 (g0:∀ i0,i0 ≤ n→decide ((↑i0:Int)<(↑L.length:Int))=true→keep [Ob.cells [c]] (indexAddrv Tryd.prog 22 [Ob.cells [c]] (lro L.length 5 (List.flatMap lexC L)) (i6 (↑i0:Int)))=some (AV.eaddr (st (a i0)::st (b i0)::st (d i0)::st (e i0)::lro (h i0) 2 (k i0)::(r14 i0)),[Ob.cells [c]]))
 (g1:∀ i0,i0 ≤ n→decide ((↑i0:Int)<(↑L.length:Int))=true→callv X call false g [AV.agg [st (a i0),st (b i0),st (d i0),st (e i0),lro (h i0) 2 (k i0)],AV.ref 0 0] [Ob.cells [c]] 0=some (bo (b0 i0),[Ob.cells [c]]))
 (e0:∀ i0,i0<n→decide ((↑i0:Int)<(↑L.length:Int))=true→(↑(i0 + 1):Int)=w6 ((↑i0:Int) + 1))
 (hz:∀ j,j<n→f62_o0 L j (b0 j)=0) :
    (f62_o0 L n (b0 n)=1→vbody Tryd.prog X call lf noFg Tryd.f62 (codeOf Tryd.f62) [lexsV L,AV.clo g [AV.ref 0 0]] [Ob.cells [c]] 0=some (i6 (↑n:Int),[Ob.cells [c]]))∧(f62_o0 L n (b0 n)=2→vbody Tryd.prog X call lf noFg Tryd.f62 (codeOf Tryd.f62) [lexsV L,AV.clo g [AV.ref 0 0]] [Ob.cells [c]] 0=some (i6 (-1),[Ob.cells [c]])):=by
  have key:∀ j,j<n→_:=fun j hj=>(f62_B0 L g c X call lf j (a j) (b j) (d j) (e j) (h j) (k j) (r14 j) (b0 j) (g0 j (Nat.le_of_lt hj)) (g1 j (Nat.le_of_lt hj)) (e0 j hj)).1 (hz j hj)
  have kn:=f62_X0 L g c X call lf n (a n) (b n) (d n) (e n) (h n) (k n) (r14 n) (b0 n) (g0 n (Nat.le_refl n)) (g1 n (Nat.le_refl n))
  exact ⟨fun hk=>f62_pltt L g c X call lf n (a n) (b n) (d n) (e n) (h n) (k n) (r14 n) (f62_L0 L g c X call lf n _ _ hn key (kn.1 hk) (by simp)),
    fun hk=>f62_plf L g c X call lf n (f62_L0 L g c X call lf n _ _ hn key (kn.2 hk) (by simp))⟩
end Go.Proofs.Lex
end
/- Lexicon: looking for a lexeme; small functions. -/
section
open Go Go.Vm Go.Proofs
namespace Go.Proofs.Lex
mutual
theorem thaw_id {σ:List Ob}:∀ (v:AV),AV.owns v=[]→AV.thaw σ v=some v:=by
  intro v h
  match v with
  | .own id n=>simp [AV.owns] at h
  | .list k n sz cs =>
    simp only [AV.owns] at h
    simp only [AV.thaw,thawAll_id cs h]
  | .agg cs =>
    simp only [AV.owns] at h
    simp only [AV.thaw,thawAll_id cs h]
  | .tup cs =>
    simp only [AV.owns] at h
    simp only [AV.thaw,thawAll_id cs h]
  | .int _ _ | .bool _ | .str _ | .pnil | .mnil | .fnil | .inil | .undef | .any | .raw _ | .ptag _ | .ref _ _ | .eref _ _ _ | .map _ | .eaddr _ | .clo _ _ | .iface _ _=>rfl
theorem thawAll_id {σ:List Ob}:∀ (vs:List AV),AV.ownsAll vs=[]→AV.thawAll σ vs=some vs:=by
  intro vs h
  match vs with
  | []=>rfl
  | v :: vs =>
    simp only [AV.ownsAll,List.append_eq_nil_iff] at h
    simp only [AV.thawAll,thaw_id v h.1,thawAll_id vs h.2]
end
/-- Results without a row of the call's own. -/
theorem vend1_plain {σ:List Ob} {rs:List AV} (h:AV.ownsAll rs=[]):vend1 [] 0 σ rs=some (unfr (oneOf rs),σ):=by
  unfold vend1
  rw [thawAll_id rs h,h]
  simp only [freezeIds,Option.some.injEq,Prod.mk.injEq,and_true]
  unfold resOf
  split
  · simp [AV.ownsAll,AV.owns] at h
  · rfl
section
variable [Fixed]
theorem owns_feats (F:List Feat):AV.ownsAll (F.flatMap featC)=[]:=Cod.flat_owns (A:=cF) F
theorem owns_lexs (L:List Lexm):AV.ownsAll (L.flatMap lexC)=[]:=Cod.flat_owns (A:=cL) L
theorem owns_lex (x:Lexm):AV.ownsAll (lexC x)=[]:=cL.owns x
end
/-- The place of the first that fits, or -1. -/
def idxP (p:Lexm→Bool) (L:List Lexm):Int:=match L.findIdx? p with
  | some i=>i
  | none => -1
theorem idxP_none {p:Lexm→Bool} {L:List Lexm} (h:∀ i,i < L.length → ¬ p (nL L i)=true):idxP p L = -1:=by
  unfold idxP
  rw [List.findIdx?_eq_none_iff.2 fun x hx => by
    obtain ⟨i,hi,rfl⟩:=List.getElem_of_mem hx
    have:=h i hi
    rw [nL,getD_lt hi] at this
    simpa using this]
theorem idxP_some {p:Lexm→Bool} {L:List Lexm} {k:Nat} (hk:k < L.length) (hp:p (nL L k)=true) (h:∀ i,i < k → ¬ p (nL L i)=true):idxP p L=(k:Int):=by
  unfold idxP
  rw [List.findIdx?_eq_some_iff_getElem.2 ⟨hk, by rw [nL, getD_lt hk] at hp; exact hp, fun j hj => by
    have:=h j hj
    rw [nL,getD_lt (show j < L.length by omega)] at this
    exact this⟩]
theorem idxP_cases (p:Lexm→Bool) (L:List Lexm):(idxP p L = -1∧∀ i,i < L.length → ¬ p (nL L i)=true) ∨ ∃ k,k < L.length∧idxP p L=(k:Int)∧p (nL L k)=true∧∀ i,i < k → ¬ p (nL L i)=true:=by
  rcases first_fail (p:=fun i => ¬ p (nL L i)=true) L.length with hall | ⟨k,hk,hbad,hbef⟩
  · exact .inl ⟨idxP_none hall,hall⟩
  · have hp : p (nL L k) = true := by simpa using hbad
    exact .inr ⟨k,hk,idxP_some hk hp hbef,hp,hbef⟩
section
variable {X:Ext} {call:Caller} {lf:Nat}
/-- slices.IndexFunc over lexemes. -/
theorem index62 {L:List Lexm} {g:Nat} {c:AV} {p:Lexm→Bool} (hl:L.length ≤ big) (hlf:L.length < lf) (hg:∀ i,i < L.length→callv X call false g [.agg (lexC (nL L i)),.ref 0 0] [Ob.cells [c]] 0=some (bo (p (nL L i)),[Ob.cells [c]])) :
    vbody Tryd.prog X call lf noFg Tryd.f62 (codeOf Tryd.f62) [lexsV L,.clo g [.ref 0 0]] [Ob.cells [c]] 0=some (i6 (idxP p L),[Ob.cells [c]]):=by
  have ho : ∀ i, (i < L.length → ¬ p (nL L i) = true → f62_o0 L i (p (nL L i)) = 0) ∧ (i < L.length → p (nL L i) = true → f62_o0 L i (p (nL L i)) = 1) ∧ (¬ i < L.length → f62_o0 L i (p (nL L i)) = 2) := by
    intro i
    unfold f62_o0
    refine ⟨fun h1 h2 => ?_,fun h1 h2 => ?_,fun h1 => ?_⟩
    · rw [decide_eq_true (by omega),Bool.eq_false_iff.2 h2]
    · rw [decide_eq_true (by omega),h2]
    · rw [decide_eq_false (by omega)]
  rcases idxP_cases p L with ⟨e,hall⟩ | ⟨k,hk,e,hp,hbef⟩
  · have M := f62_M L g c X call lf L.length _ _ _ _ _ _ _ _ hlf (fun i _ h => at_lex (by simpa using h)) (fun i _ h => hg i (by simpa using h)) (fun i h _ => up h hl) (fun j hj => (ho j).1 hj (hall j hj))
    rw [e]
    exact M.2 ((ho _).2.2 (by omega))
  · have M := f62_M L g c X call lf k _ _ _ _ _ _ _ _ (by omega) (fun i _ h => at_lex (by simpa using h)) (fun i _ h => hg i (by simpa using h)) (fun i h _ => up (n := L.length) (by omega) hl) (fun j hj => (ho j).1 (by omega) (hbef j hj))
    rw [e]
    exact M.1 ((ho k).2.1 hk hp)
/-- ref09.Index. -/
theorem index29 {L:List Lexm} {s:ByteArray} (hl:L.length ≤ big) (hlf:L.length < lf):∃ σ',vbody Tryd.prog X call lf noFg Tryd.f29 (codeOf Tryd.f29) [lexsV L,st s] [] 0=some (i6 (idxP (fun x=>decide (x.id=s)) L),σ'):=by
  have ho : ∀ i, (i < L.length → ¬ decide ((nL L i).id = s) = true → f29_o0 L s i (nL L i).id = 0) ∧ (i < L.length → decide ((nL L i).id = s) = true → f29_o0 L s i (nL L i).id = 1) ∧ (¬ i < L.length → f29_o0 L s i (nL L i).id = 2) := by
    intro i
    unfold f29_o0
    refine ⟨fun h1 h2 => ?_,fun h1 h2 => ?_,fun h1 => ?_⟩
    · rw [decide_eq_true (by omega),eqB_ne.2 (by simpa using h2)]
    · rw [decide_eq_true (by omega),eqB_iff.2 (of_decide_eq_true h2)]
    · rw [decide_eq_false (by omega)]
  rcases idxP_cases (fun x=>decide (x.id=s)) L with ⟨e,hall⟩ | ⟨k,hk,e,hp,hbef⟩
  · have M := f29_M L s X call lf L.length _ _ _ _ _ _ _ hlf (fun i _ h => at_lex (by simpa using h)) (fun i h _ => up h hl) (fun j hj => (ho j).1 hj (hall j hj))
    rw [e]
    exact ⟨_,M.2 ((ho _).2.2 (by omega))⟩
  · have M := f29_M L s X call lf k _ _ _ _ _ _ _ (by omega) (fun i _ h => at_lex (by simpa using h)) (fun i h _ => up (n := L.length) (by omega) hl) (fun j hj => (ho j).1 (by omega) (hbef j hj))
    rw [e]
    exact ⟨_,M.1 ((ho k).2.1 hk hp)⟩
end
end Go.Proofs.Lex
end
/- Lexicon: rows that grow, walked (printed) -/
section
open Go Go.Vm Go.Proofs
namespace Go.Proofs.Lex
def fg40:Nat→List Nat
  | 5004=>[1]
  | _=>[]
def f40_F0 (L0:List Lexm)(G1:Nat)(S0:Nat→List Ob)(o5:Nat→AV)(i0:Nat):St :=
  stOf 24 [7,11,12,13,14,15,16,17,18,19,20,21,22] [(0,lro L0.length 5 (List.flatMap lexC L0)),(1,AV.clo G1 [AV.ref 0 0]),(4,AV.list LK.nil 0 0 []),(5,o5 i0),(8,lro L0.length 5 (List.flatMap lexC L0)),(9,i6 (↑L0.length:Int)),(10,i6 (↑i0:Int))] (S0 i0)
def f40_S0 (L0:List Lexm)(G1:Nat)(C1:List AV):St :=
  stOf 24 [] [(0,lro L0.length 5 (List.flatMap lexC L0)),(1,AV.clo G1 [AV.ref 0 0]),(4,AV.list LK.nil 0 0 []),(5,AV.list LK.nil 0 0 []),(8,lro L0.length 5 (List.flatMap lexC L0)),(9,i6 (↑L0.length:Int)),(10,i6 0)] [Ob.cells C1]
abbrev f40_D0:List Nat:=[22,21,20,19,18,17,16,15,14,7,13,12,11]
theorem f40_L0 (L0:List Lexm)(G1:Nat)(C1:List AV)(S0:Nat→List Ob)(o5:Nat→AV)(X:Ext)(call:Caller)(lf n:Nat)(x:Ex) (S' : St)
 (e0:o5 0=AV.list LK.nil 0 0 [])
 (e1:S0 0=[Ob.cells C1])
 (hn:n<lf)
 (hs:∀ j,j<n→∃ S1,vexec Tryd.prog X call lf 0 fg40 (loopN Tryd.f40 0) (f40_F0 L0 G1 S0 o5 j)=some (Ex.normal,S1)∧forget f40_D0 S1=(f40_F0 L0 G1 S0 o5 (j + 1)))
 (he:vexec Tryd.prog X call lf 0 fg40 (loopN Tryd.f40 0) (f40_F0 L0 G1 S0 o5 n)=some (x,S'))
 (hx:x ≠ Ex.normal):vexec Tryd.prog X call lf 0 fg40 (Go.Code.loop (loopN Tryd.f40 0)) (f40_S0 L0 G1 C1)=some (x,S') :=
  loop_runK (by kernel_rfl) (fun j=>(f40_F0 L0 G1 S0 o5 j)) n hn (by show forget f40_D0 (f40_S0 L0 G1 C1)=(f40_F0 L0 G1 S0 o5 0); unfold f40_F0; rw [e0,e1]; show _=_; kernel_rfl) hs he hx
theorem f40_s0_tt (L0:List Lexm)(G1:Nat)(X:Ext)(call:Caller)(lf:Nat)(S0:Nat→List Ob)(o5:Nat→AV)(i0:Nat)(a d e g:ByteArray)(h:Nat)(j r12:List AV)(k p q r:ByteArray)(t:Nat)(u:List AV)(m20:Nat)(c20:List AV)(k20:LK)(v21:AV)(s21:List Ob)
 (h0:decide ((↑i0:Int)<(↑L0.length:Int))=true)
 (h1:keep (S0 i0) (indexAddrv Tryd.prog 22 (S0 i0) (lro L0.length 5 (List.flatMap lexC L0)) (i6 (↑i0:Int)))=some (AV.eaddr (st a::st d::st e::st g::lro h 2 j::r12),S0 i0))
 (h2:callv X call false G1 [AV.agg [st a,st d,st e,st g,lro h 2 j],AV.ref 0 0] (S0 i0) 0=some (bo true,S0 i0))
 (h3:callv X call false 61 [AV.agg [st a,st d,st e,st g,lro h 2 j]] (S0 i0) 0=some (AV.agg [st k,st p,st q,st r,lro t 2 u],S0 i0))
 (h4:bsl Tryd.prog 22 1 (S0 i0) false 0 [(0,AV.agg [st k,st p,st q,st r,lro t 2 u])]=some (AV.list k20 m20 5 c20,S0 i0))
 (h5:appendv Tryd.prog 22 (S0 i0) 0 (o5 i0) (AV.list k20 m20 5 c20)=some (v21,s21))
 (e0:o5 (i0 + 1)=v21)
 (e1:(↑(i0 + 1):Int)=w6 ((↑i0:Int) + 1))
 (e2:S0 (i0 + 1)=s21):∃ S1,vexec Tryd.prog X call lf 0 fg40 (loopN Tryd.f40 0) (f40_F0 L0 G1 S0 o5 i0)=some (Ex.normal,S1)∧forget f40_D0 S1=(f40_F0 L0 G1 S0 o5 (i0 + 1)) :=
  ⟨stOf 24 [] [(0,lro L0.length 5 (List.flatMap lexC L0)),(1,AV.clo G1 [AV.ref 0 0]),(4,AV.list LK.nil 0 0 []),(5,v21),(7,AV.eaddr [st a,st d,st e,st g,lro h 2 j]),(8,lro L0.length 5 (List.flatMap lexC L0)),(9,i6 (↑L0.length:Int)),(10,i6 (w6 ((↑i0:Int) + 1))),(11,bo true),(12,AV.eaddr (st a::st d::st e::st g::lro h 2 j::r12)),(13,AV.agg [st a,st d,st e,st g,lro h 2 j]),(14,AV.clo G1 [AV.ref 0 0]),(15,AV.agg [st a,st d,st e,st g,lro h 2 j]),(16,bo true),(17,o5 i0),(18,AV.agg [st a,st d,st e,st g,lro h 2 j]),(19,AV.agg [st k,st p,st q,st r,lro t 2 u]),(20,AV.list k20 m20 5 c20),(21,v21),(22,i6 (w6 ((↑i0:Int) + 1)))] s21,around_sound (ans:=[(1,Ans.b true),(4,Ans.v (AV.eaddr (st a::st d::st e::st g::lro h 2 j::r12))),(9,Ans.v (bo true)),(14,Ans.v (AV.agg [st k,st p,st q,st r,lro t 2 u])),(15,Ans.v (AV.list k20 m20 5 c20)),(16,Ans.c v21 s21)]) (by kernel_rfl) (ai h0 (ai h1 (ai h2 (ai h3 (ai h4 (ai h5 trivial)))))),by unfold f40_F0; rw [e0,e1,e2]; show _=_; kernel_rfl⟩
theorem f40_s0_tf (L0:List Lexm)(G1:Nat)(X:Ext)(call:Caller)(lf:Nat)(S0:Nat→List Ob)(o5:Nat→AV)(i0:Nat)(a c d e:ByteArray)(g:Nat)(h r12:List AV)
 (h0:decide ((↑i0:Int)<(↑L0.length:Int))=true)
 (h1:keep (S0 i0) (indexAddrv Tryd.prog 22 (S0 i0) (lro L0.length 5 (List.flatMap lexC L0)) (i6 (↑i0:Int)))=some (AV.eaddr (st a::st c::st d::st e::lro g 2 h::r12),S0 i0))
 (h2:callv X call false G1 [AV.agg [st a,st c,st d,st e,lro g 2 h],AV.ref 0 0] (S0 i0) 0=some (bo false,S0 i0))
 (e0:o5 (i0 + 1)=o5 i0)
 (e1:(↑(i0 + 1):Int)=w6 ((↑i0:Int) + 1))
 (e2:S0 (i0 + 1)=S0 i0):∃ S1,vexec Tryd.prog X call lf 0 fg40 (loopN Tryd.f40 0) (f40_F0 L0 G1 S0 o5 i0)=some (Ex.normal,S1)∧forget f40_D0 S1=(f40_F0 L0 G1 S0 o5 (i0 + 1)) :=
  ⟨stOf 24 [17,18,19,20,21] [(0,lro L0.length 5 (List.flatMap lexC L0)),(1,AV.clo G1 [AV.ref 0 0]),(4,AV.list LK.nil 0 0 []),(5,o5 i0),(7,AV.eaddr [st a,st c,st d,st e,lro g 2 h]),(8,lro L0.length 5 (List.flatMap lexC L0)),(9,i6 (↑L0.length:Int)),(10,i6 (w6 ((↑i0:Int) + 1))),(11,bo true),(12,AV.eaddr (st a::st c::st d::st e::lro g 2 h::r12)),(13,AV.agg [st a,st c,st d,st e,lro g 2 h]),(14,AV.clo G1 [AV.ref 0 0]),(15,AV.agg [st a,st c,st d,st e,lro g 2 h]),(16,bo false),(22,i6 (w6 ((↑i0:Int) + 1)))] (S0 i0),around_sound (ans:=[(1,Ans.b true),(4,Ans.v (AV.eaddr (st a::st c::st d::st e::lro g 2 h::r12))),(9,Ans.v (bo false))]) (by kernel_rfl) (ai h0 (ai h1 (ai h2 trivial))),by unfold f40_F0; rw [e0,e1,e2]; show _=_; kernel_rfl⟩
def f40_S1 (L0:List Lexm)(G1:Nat)(S0:Nat→List Ob)(o5:Nat→AV)(i0:Nat):St :=
  stOf 24 [7,12,13,14,15,16,17,18,19,20,21,22] [(0,lro L0.length 5 (List.flatMap lexC L0)),(1,AV.clo G1 [AV.ref 0 0]),(4,AV.list LK.nil 0 0 []),(5,o5 i0),(8,lro L0.length 5 (List.flatMap lexC L0)),(9,i6 (↑L0.length:Int)),(10,i6 (↑i0:Int)),(11,bo false)] (S0 i0)
theorem f40_r0_f (L0:List Lexm)(G1:Nat)(X:Ext)(call:Caller)(lf:Nat)(S0:Nat→List Ob)(o5:Nat→AV)(i0:Nat)
 (h0:decide ((↑i0:Int)<(↑L0.length:Int))=false):vexec Tryd.prog X call lf 0 fg40 (loopN Tryd.f40 0) (f40_F0 L0 G1 S0 o5 i0)=some (Ex.exit 0,(f40_S1 L0 G1 S0 o5 i0)) :=
  around_sound (ans:=[(1,Ans.b false)]) (by kernel_rfl) (ai h0 trivial)
theorem f40_plf (L0:List Lexm)(G1:Nat)(C1:List AV)(X:Ext)(call:Caller)(lf:Nat)(S0:Nat→List Ob)(o5:Nat→AV)(i0:Nat)(rE:AV)(sE:List Ob)
 (h0:vexec Tryd.prog X call lf 0 fg40 (Code.loop (loopN Tryd.f40 0)) (f40_S0 L0 G1 C1)=some (Ex.exit 0,(f40_S1 L0 G1 S0 o5 i0)))
 (h1:vend1 [Ob.cells C1] 0 (S0 i0) [o5 i0]=some (rE,sE)):vbody Tryd.prog X call lf fg40 Tryd.f40 (codeOf Tryd.f40) [lexsV L0,AV.clo G1 [AV.ref 0 0]] [Ob.cells C1] 0=some (rE,sE) :=
  along_sound (ans:=[(8,Ans.l (Ex.exit 0) (f40_S1 L0 G1 S0 o5 i0)),(12,Ans.c rE sE)]) (by kernel_rfl) (ai h0 (ai h1 trivial))
def f40_o0 (L0:List Lexm)(i0:Nat)(b0:Bool):Nat :=
  (match decide ((↑i0:Int)<(↑L0.length:Int)) with
  | true=>(match b0 with
    | true=>0
    | false=>0)
  | false=>1)
theorem f40_B0 (L0:List Lexm)(G1:Nat)(X:Ext)(call:Caller)(lf:Nat)(S0:Nat→List Ob)(o5:Nat→AV)(i0:Nat)(a b c d:ByteArray)(e:Nat)(g r12:List AV)(j k p q:ByteArray)(r:Nat)(t:List AV)(m20:Nat)(c20:List AV)(k20:LK)(v21:AV)(s21:List Ob)(b0:Bool)
 (g0:decide ((↑i0:Int)<(↑L0.length:Int))=true→keep (S0 i0) (indexAddrv Tryd.prog 22 (S0 i0) (lro L0.length 5 (List.flatMap lexC L0)) (i6 (↑i0:Int)))=some (AV.eaddr (st a::st b::st c::st d::lro e 2 g::r12),S0 i0))
 (g1:decide ((↑i0:Int)<(↑L0.length:Int))=true→callv X call false G1 [AV.agg [st a,st b,st c,st d,lro e 2 g],AV.ref 0 0] (S0 i0) 0=some (bo b0,S0 i0))
 (g2:decide ((↑i0:Int)<(↑L0.length:Int))=true→b0=true→callv X call false 61 [AV.agg [st a,st b,st c,st d,lro e 2 g]] (S0 i0) 0=some (AV.agg [st j,st k,st p,st q,lro r 2 t],S0 i0))
 (g3:decide ((↑i0:Int)<(↑L0.length:Int))=true→b0=true→bsl Tryd.prog 22 1 (S0 i0) false 0 [(0,AV.agg [st j,st k,st p,st q,lro r 2 t])]=some (AV.list k20 m20 5 c20,S0 i0))
 (g4:decide ((↑i0:Int)<(↑L0.length:Int))=true→b0=true→appendv Tryd.prog 22 (S0 i0) 0 (o5 i0) (AV.list k20 m20 5 c20)=some (v21,s21))
 (e0:decide ((↑i0:Int)<(↑L0.length:Int))=true→b0=true→o5 (i0 + 1)=v21)
 (e1:decide ((↑i0:Int)<(↑L0.length:Int))=true→(↑(i0 + 1):Int)=w6 ((↑i0:Int) + 1))
 (e2:decide ((↑i0:Int)<(↑L0.length:Int))=true→b0=true→S0 (i0 + 1)=s21)
 (e3:decide ((↑i0:Int)<(↑L0.length:Int))=true→b0=false→o5 (i0 + 1)=o5 i0)
 (e4:decide ((↑i0:Int)<(↑L0.length:Int))=true→b0=false→S0 (i0 + 1)=S0 i0) :
    (f40_o0 L0 i0 b0=0→∃ S1,vexec Tryd.prog X call lf 0 fg40 (loopN Tryd.f40 0) (f40_F0 L0 G1 S0 o5 i0)=some (Ex.normal,S1)∧forget f40_D0 S1=(f40_F0 L0 G1 S0 o5 (i0 + 1)))∧(f40_o0 L0 i0 b0=1→vexec Tryd.prog X call lf 0 fg40 (loopN Tryd.f40 0) (f40_F0 L0 G1 S0 o5 i0)=some (Ex.exit 0,(f40_S1 L0 G1 S0 o5 i0))):=by
  unfold f40_o0
  cases c0:decide ((↑i0:Int)<(↑L0.length:Int)) with
  | true =>
    cases c1:b0 with
    | true =>
      exact ⟨fun _=>f40_s0_tt L0 G1 X call lf S0 o5 i0 a b c d e g r12 j k p q r t m20 c20 k20 v21 s21 c0 (g0 c0) (by have:=(g1 c0); rw [c1] at this; exact this) (g2 c0 c1) (g3 c0 c1) (g4 c0 c1) (e0 c0 c1) (e1 c0) (e2 c0 c1),fun h=>absurd (show (0:Nat)=1 from h) (by decide)⟩
    | false =>
      exact ⟨fun _=>f40_s0_tf L0 G1 X call lf S0 o5 i0 a b c d e g r12 c0 (g0 c0) (by have:=(g1 c0); rw [c1] at this; exact this) (e3 c0 c1) (e1 c0) (e4 c0 c1),fun h=>absurd (show (0:Nat)=1 from h) (by decide)⟩
  | false =>
    exact ⟨fun h=>absurd (show (1:Nat)=0 from h) (by decide),fun _=>f40_r0_f L0 G1 X call lf S0 o5 i0 c0⟩
theorem f40_X0 (L0:List Lexm)(G1:Nat)(X:Ext)(call:Caller)(lf:Nat)(S0:Nat→List Ob)(o5:Nat→AV)(i0:Nat)(a b c d:ByteArray)(e:Nat)(g r12:List AV)(j k p q:ByteArray)(r:Nat)(t:List AV)(m20:Nat)(c20:List AV)(k20:LK)(v21:AV)(s21:List Ob)(b0:Bool)
 (g0:decide ((↑i0:Int)<(↑L0.length:Int))=true→keep (S0 i0) (indexAddrv Tryd.prog 22 (S0 i0) (lro L0.length 5 (List.flatMap lexC L0)) (i6 (↑i0:Int)))=some (AV.eaddr (st a::st b::st c::st d::lro e 2 g::r12),S0 i0))
 (g1:decide ((↑i0:Int)<(↑L0.length:Int))=true→callv X call false G1 [AV.agg [st a,st b,st c,st d,lro e 2 g],AV.ref 0 0] (S0 i0) 0=some (bo b0,S0 i0))
 (g2:decide ((↑i0:Int)<(↑L0.length:Int))=true→b0=true→callv X call false 61 [AV.agg [st a,st b,st c,st d,lro e 2 g]] (S0 i0) 0=some (AV.agg [st j,st k,st p,st q,lro r 2 t],S0 i0))
 (g3:decide ((↑i0:Int)<(↑L0.length:Int))=true→b0=true→bsl Tryd.prog 22 1 (S0 i0) false 0 [(0,AV.agg [st j,st k,st p,st q,lro r 2 t])]=some (AV.list k20 m20 5 c20,S0 i0))
 (g4:decide ((↑i0:Int)<(↑L0.length:Int))=true→b0=true→appendv Tryd.prog 22 (S0 i0) 0 (o5 i0) (AV.list k20 m20 5 c20)=some (v21,s21)) :
    (f40_o0 L0 i0 b0=1→vexec Tryd.prog X call lf 0 fg40 (loopN Tryd.f40 0) (f40_F0 L0 G1 S0 o5 i0)=some (Ex.exit 0,(f40_S1 L0 G1 S0 o5 i0))):=by
  unfold f40_o0
  cases c0:decide ((↑i0:Int)<(↑L0.length:Int)) with
  | true =>
    cases c1:b0 with
    | true =>
      exact fun h=>absurd (show (0:Nat)=1 from h) (by decide)
    | false =>
      exact fun h=>absurd (show (0:Nat)=1 from h) (by decide)
  | false =>
    exact fun _=>f40_r0_f L0 G1 X call lf S0 o5 i0 c0
theorem f40_M (L0:List Lexm)(G1:Nat)(C1:List AV)(S0:Nat→List Ob)(o5:Nat→AV)(X:Ext)(call:Caller)(lf n:Nat)(a b c d:Nat→ByteArray)(e:Nat→Nat)(g r12:Nat→List AV)(h k p q:Nat→ByteArray)(r:Nat→Nat)(t:Nat→List AV)(m20:Nat→Nat)(c20:Nat→List AV)(k20:Nat→LK)(v21:Nat→AV)(s21:Nat→List Ob)(b0:Nat→Bool)
 (z0:o5 0=AV.list LK.nil 0 0 [])
 (z1:S0 0=[Ob.cells C1])
 (hn:n<lf)
 (g0:∀ i0,i0 ≤ n→decide ((↑i0:Int)<(↑L0.length:Int))=true→keep (S0 i0) (indexAddrv Tryd.prog 22 (S0 i0) (lro L0.length 5 (List.flatMap lexC L0)) (i6 (↑i0:Int)))=some (AV.eaddr (st (a i0)::st (b i0)::st (c i0)::st (d i0)::lro (e i0) 2 (g i0)::(r12 i0)),S0 i0))
 (g1:∀ i0,i0 ≤ n→decide ((↑i0:Int)<(↑L0.length:Int))=true→callv X call false G1 [AV.agg [st (a i0),st (b i0),st (c i0),st (d i0),lro (e i0) 2 (g i0)],AV.ref 0 0] (S0 i0) 0=some (bo (b0 i0),S0 i0))
 (g2:∀ i0,i0 ≤ n→decide ((↑i0:Int)<(↑L0.length:Int))=true→(b0 i0)=true→callv X call false 61 [AV.agg [st (a i0),st (b i0),st (c i0),st (d i0),lro (e i0) 2 (g i0)]] (S0 i0) 0=some (AV.agg [st (h i0),st (k i0),st (p i0),st (q i0),lro (r i0) 2 (t i0)],S0 i0))
 (g3:∀ i0,i0 ≤ n→decide ((↑i0:Int)<(↑L0.length:Int))=true→(b0 i0)=true→bsl Tryd.prog 22 1 (S0 i0) false 0 [(0,AV.agg [st (h i0),st (k i0),st (p i0),st (q i0),lro (r i0) 2 (t i0)])]=some (AV.list (k20 i0) (m20 i0) 5 (c20 i0),S0 i0))
 (g4:∀ i0,i0 ≤ n→decide ((↑i0:Int)<(↑L0.length:Int))=true→(b0 i0)=true→appendv Tryd.prog 22 (S0 i0) 0 (o5 i0) (AV.list (k20 i0) (m20 i0) 5 (c20 i0))=some ((v21 i0),(s21 i0)))
 (e0:∀ i0,i0<n→decide ((↑i0:Int)<(↑L0.length:Int))=true→(b0 i0)=true→o5 (i0 + 1)=(v21 i0))
 (e1:∀ i0,i0<n→decide ((↑i0:Int)<(↑L0.length:Int))=true→(↑(i0 + 1):Int)=w6 ((↑i0:Int) + 1))
 (e2:∀ i0,i0<n→decide ((↑i0:Int)<(↑L0.length:Int))=true→(b0 i0)=true→S0 (i0 + 1)=(s21 i0))
 (e3:∀ i0,i0<n→decide ((↑i0:Int)<(↑L0.length:Int))=true→(b0 i0)=false→o5 (i0 + 1)=o5 i0)
 (e4:∀ i0,i0<n→decide ((↑i0:Int)<(↑L0.length:Int))=true→(b0 i0)=false→S0 (i0 + 1)=S0 i0)
 (hz:∀ j,j<n→f40_o0 L0 j (b0 j)=0) :
    (f40_o0 L0 n (b0 n)=1→∀ (rE:AV),∀ (sE:List Ob),vend1 [Ob.cells C1] 0 (S0 n) [o5 n]=some (rE,sE)→vbody Tryd.prog X call lf fg40 Tryd.f40 (codeOf Tryd.f40) [lexsV L0,AV.clo G1 [AV.ref 0 0]] [Ob.cells C1] 0=some (rE,sE)):=by
  have key:∀ j,j<n→_:=fun j hj=>(f40_B0 L0 G1 X call lf S0 o5 j (a j) (b j) (c j) (d j) (e j) (g j) (r12 j) (h j) (k j) (p j) (q j) (r j) (t j) (m20 j) (c20 j) (k20 j) (v21 j) (s21 j) (b0 j) (g0 j (Nat.le_of_lt hj)) (g1 j (Nat.le_of_lt hj)) (g2 j (Nat.le_of_lt hj)) (g3 j (Nat.le_of_lt hj)) (g4 j (Nat.le_of_lt hj)) (e0 j hj) (e1 j hj) (e2 j hj) (e3 j hj) (e4 j hj)).1 (hz j hj)
  have kn:=f40_X0 L0 G1 X call lf S0 o5 n (a n) (b n) (c n) (d n) (e n) (g n) (r12 n) (h n) (k n) (p n) (q n) (r n) (t n) (m20 n) (c20 n) (k20 n) (v21 n) (s21 n) (b0 n) (g0 n (Nat.le_refl n)) (g1 n (Nat.le_refl n)) (g2 n (Nat.le_refl n)) (g3 n (Nat.le_refl n)) (g4 n (Nat.le_refl n))
  exact fun hk rE sE q0=>f40_plf L0 G1 C1 X call lf S0 o5 n rE sE (f40_L0 L0 G1 C1 S0 o5 X call lf n _ _ z0 z1 hn key (kn hk) (by simp)) q0
theorem f87_p (F0:List Feat)(X:Ext)(call:Caller)(lf m8:Nat)(c8:List AV)(k8:LK)(rE:AV)(sE:List Ob)
 (h0:slc Tryd.prog 31 [] false 0 (lro F0.length 2 (F0.flatMap featC)) none (some (i6 (↑F0.length:Int))) (some (i6 (↑F0.length:Int)))=some (AV.list k8 m8 2 c8,[]))
 (h1:vend1 [] 0 [] [AV.list k8 m8 2 c8]=some (rE,sE)):vbody Tryd.prog X call lf noFg Tryd.f87 (codeOf Tryd.f87) [featsV F0] [] 0=some (rE,sE) :=
  along_sound (ans:=[(8,Ans.v (AV.list k8 m8 2 c8)),(10,Ans.c rE sE)]) (by kernel_rfl) (ai h0 (ai h1 trivial))
end Go.Proofs.Lex
end
/- Lexicon: rows that grow. -/
section
open Go Go.Vm Go.Proofs
namespace Go.Proofs.Lex
theorem vend1_any {σ1 σ:List Ob} {rs:List AV} (h:AV.ownsAll rs=[]):vend1 σ1 0 σ rs=some (unfr (oneOf rs),σ):=by
  unfold vend1
  rw [thawAll_id rs h,h]
  simp only [freezeIds,Option.some.injEq,Prod.mk.injEq,and_true]
  cases σ1 with
  | cons=>rfl
  | nil => cases rs with
    | nil=>rfl
    | cons v vs=>cases v <;> first | rfl | (simp [AV.ownsAll,AV.owns] at h)
section
variable [Fixed] {α:Type}
/-- A type of rows, and how its elements lie. -/
structure RowT (A:Cod α) (t e:TypeId) (kb:Nat):Prop where
  und:Tryd.prog.underlying t=some (.slice e)
  cells:Tryd.prog.cellsOf e=A.k
  zero:∃ z,zerov Tryd.prog e=some z∧z.cells.length=A.k
  bytes:Tryd.prog.bytesOf e=kb
  nob:isByte Tryd.prog e=false
def grV (v0:AV) (id n:Nat):AV:=if n=0 then v0 else .own id n
def grS (A:Cod α) (σ0:List Ob) (l:List α):List Ob:=if l.length=0 then σ0 else σ0 ++ [.arr l.length A.k (l.flatMap A.enc)]
theorem appended_row {A:Cod α} {σ:List Ob} {lk:LK} (m:List α):appended σ A.k (.list lk m.length A.k (m.flatMap A.enc))=some (m.length,m.flatMap A.enc):=by
  simp only [appended]
  by_cases h:m.length=0
  · have : m = [] := List.eq_nil_of_length_eq_zero h
    subst this
    rfl
  · rw [if_neg h,if_pos trivial]
theorem gr_stepR {A:Cod α} {t e:TypeId} {kb:Nat} (h:RowT A t e kb) {lk:LK} {sz0:Nat} (hk:lk = .nil ∨ lk = .clip) {σ0:List Ob} {ro:Nat} (hro:ro ≤ σ0.length) {l m:List α} {x:AV}
    (hx:appended (grS A σ0 l) A.k x=some (m.length,m.flatMap A.enc)) (hb:(l.length + m.length) * (kb + 1) ≤ big) :
    appendv Tryd.prog t (grS A σ0 l) ro (grV (.list lk 0 sz0 []) σ0.length l.length) x=some (grV (.list lk 0 sz0 []) σ0.length (l ++ m).length,grS A σ0 (l ++ m)):=by
  obtain ⟨z,hz,hzl⟩:=h.zero
  have hb:(l.length + m.length) * (kb + 1) ≤ 140737488355328:=hb
  by_cases hl:l.length=0
  · have hl' : l = [] := List.eq_nil_of_length_eq_zero hl
    subst hl'
    unfold appendv
    rw [h.und]
    have hno : ∀ (n : Nat) (cs : List AV), newOb Tryd.prog e n A.k cs = .arr n A.k cs := fun n cs => by
      unfold newOb
      rw [h.nob]
      rfl
    simp only [h.cells,hx,hz,h.bytes]
    rw [if_pos ⟨Cod.flat_owns m,hzl⟩]
    simp only [hno,grV,grS,List.length_nil,if_true,List.nil_append]
    rw [if_pos ⟨hk,.inl trivial,rfl,by simpa using hb⟩]
    by_cases hm:m.length=0
    · rw [if_pos hm,if_pos hm,if_pos hm]
    · rw [if_neg hm,if_neg hm,if_neg hm,Nat.zero_add]
  · have hlm : ¬ (l ++ m).length = 0 := by rw [List.length_append]; omega
    have ho : (grS A σ0 l)[σ0.length]? = some (.arr l.length (Tryd.prog.cellsOf e) (l.flatMap A.enc)) := by
      rw [grS,if_neg hl,h.cells]; simp
    have hv:grV (.list lk 0 sz0 []) σ0.length l.length = .own σ0.length l.length:=if_neg hl
    have hx' : appended (grS A σ0 l) (Tryd.prog.cellsOf e) x=some (m.length,m.flatMap A.enc):=by rw [h.cells]; exact hx
    rw [hv,grV,if_neg hlm]
    by_cases hm:m.length=0
    · have hm' : m = [] := List.eq_nil_of_length_eq_zero hm
      subst hm'
      rw [grow_none h.und hz (by rw [hzl,h.cells]) ho hro hx' rfl (by rw [h.bytes]; simpa using hb)]
      simp
    · rw [grow_own h.und hz (by rw [hzl, h.cells]) ho hro hx' (Cod.flat_owns m) hm (by rw [h.bytes]; exact hb)]
      rw [List.length_append,h.cells]
      simp only [grS,if_neg hl]
      rw [if_neg (by rw [List.length_append]; omega)]
      rw [setOb_last,List.flatMap_append,List.length_append]
theorem gr_step {A:Cod α} {t e:TypeId} {kb:Nat} (h:RowT A t e kb) {lk:LK} {sz0:Nat} (hk:lk = .nil ∨ lk = .clip) {σ0:List Ob} {l m:List α} {x:AV}
    (hx:appended (grS A σ0 l) A.k x=some (m.length,m.flatMap A.enc)) (hb:(l.length + m.length) * (kb + 1) ≤ big) :
    appendv Tryd.prog t (grS A σ0 l) 0 (grV (.list lk 0 sz0 []) σ0.length l.length) x=some (grV (.list lk 0 sz0 []) σ0.length (l ++ m).length,grS A σ0 (l ++ m)) :=
  gr_stepR h hk (Nat.zero_le _) hx hb
/-- The row at the function's end. -/
theorem gr_end {A:Cod α} {lk:LK} {sz0:Nat} {σ1 σ0:List Ob} (l:List α):∃ (r:AV) (σ' : List Ob),vend1 σ1 0 (grS A σ0 l) [grV (.list lk 0 sz0 []) σ0.length l.length]=some (r,σ0 ++ σ')∧A.list.dec [r]=some l∧AV.owns r=[]:=by
  by_cases hl:l.length=0
  · have hl' : l = [] := List.eq_nil_of_length_eq_zero hl
    subst hl'
    refine ⟨unfr (.list lk 0 sz0 []),[],?_,?_,?_⟩
    · simp only [grV, grS, List.length_nil, if_true, List.append_nil]
      exact vend1_any rfl
    · cases lk <;> rfl
    · cases lk <;> rfl
  · have hg : grS A σ0 l = σ0 ++ [.arr l.length A.k (l.flatMap A.enc)] := if_neg hl
    have hv:grV (.list lk 0 sz0 []) σ0.length l.length = .own σ0.length l.length:=if_neg hl
    have ho:(σ0 ++ [Ob.arr l.length A.k (l.flatMap A.enc)])[σ0.length]? = some (.arr l.length A.k (l.flatMap A.enc)):=by simp
    have ht : AV.thawAll (σ0 ++ [Ob.arr l.length A.k (l.flatMap A.enc)]) [.own σ0.length l.length] = some [.list .ro l.length A.k (l.flatMap A.enc)] := by
      simp only [AV.thawAll,AV.thaw,ho,if_true]
    have hf : freezeIds 0 (σ0 ++ [Ob.arr l.length A.k (l.flatMap A.enc)]) (AV.ownsAll [.own σ0.length l.length]) = some (σ0 ++ [.fro l.length A.k (l.flatMap A.enc)]) := by
      simp only [AV.ownsAll,AV.owns,List.append_nil,List.nil_append,List.cons_append,freezeIds,freezeId,ho,Nat.zero_le,if_true,setOb_last]
    have hd : ∀ k, A.list.dec [.list k l.length A.k (l.flatMap A.enc)] = some l := by
      intro k
      show (if l.length=0 then _ else if A.k=A.k then A.many l.length (l.flatMap A.enc) else none)=some l
      rw [if_neg hl,if_pos rfl,Cod.many_de]
    have hw:AV.ownsAll (l.flatMap A.enc)=[]:=Cod.flat_owns l
    rw [hg,hv]
    unfold vend1
    rw [ht,hf]
    simp only
    refine ⟨_,_,rfl,?_,?_⟩
    · unfold resOf
      split
      · rename_i h1 h2
        simp only [List.cons.injEq,AV.own.injEq,AV.list.injEq] at h1 h2
        obtain ⟨⟨e1,e2⟩,e3⟩:=h1
        obtain ⟨⟨-,-,e4,e5⟩,e6⟩:=h2
        subst e1 e2 e3 e4 e5 e6
        rw [ho]
        simp only [AV.ownsAll,if_true,oneOf]
        exact hd _
      · exact hd _
    · unfold resOf
      split
      · rename_i h1 h2
        simp only [List.cons.injEq,AV.own.injEq,AV.list.injEq] at h1 h2
        obtain ⟨⟨e1,e2⟩,e3⟩:=h1
        obtain ⟨⟨-,-,e4,e5⟩,e6⟩:=h2
        subst e1 e2 e3 e4 e5 e6
        rw [ho]
        simp only [AV.ownsAll,if_true,oneOf,AV.owns]
        exact hw
      · simp only [oneOf, unfr, unfr1, AV.owns]
        exact hw
end
end Go.Proofs.Lex
end
/- Lexicon: rows of lexemes, features, strings; Clip; the filter. -/
section
open Go Go.Vm Go.Proofs
namespace Go.Proofs.Lex
theorem cells33:Tryd.prog.cellsOf 33=5:=by kernel_rfl
theorem cells57:Tryd.prog.cellsOf 57=2:=by kernel_rfl
theorem cells9:Tryd.prog.cellsOf 9=1:=by kernel_rfl
theorem zero33:zerov Tryd.prog 33=some (.agg [st emp,st emp,st emp,st emp,.list .nil 0 0 []]):=by kernel_rfl
theorem zero57:zerov Tryd.prog 57=some (.agg [st emp,st emp]):=by kernel_rfl
theorem zero9:zerov Tryd.prog 9=some (st emp):=by kernel_rfl
theorem bytes33:Tryd.prog.bytesOf 33=88:=by kernel_rfl
theorem bytes57:Tryd.prog.bytesOf 57=32:=by kernel_rfl
theorem bytes9:Tryd.prog.bytesOf 9=16:=by kernel_rfl
theorem info57:(Tryd.prog.info? 57).isSome=true:=by kernel_rfl
theorem info9:(Tryd.prog.info? 9).isSome=true:=by kernel_rfl
section
variable [Fixed]
theorem rowL:RowT cL 22 33 88:=⟨Tryd.underlying22,cells33,⟨_,zero33,rfl⟩,bytes33,by kernel_rfl⟩
theorem rowF:RowT cF 31 57 32:=⟨Tryd.underlying31,cells57,⟨_,zero57,rfl⟩,bytes57,by kernel_rfl⟩
theorem rowS:RowT Cod.str 25 9 16:=⟨Tryd.underlying25,cells9,⟨_,zero9,rfl⟩,bytes9,by kernel_rfl⟩
end
/-- A row of one, built. -/
theorem bsl_one {t e:TypeId} {cs zs:List AV} {z:AV} {σ:List Ob} (hu:Tryd.prog.underlying t=some (.slice e)) (hc:Tryd.prog.cellsOf e=cs.length) (hz:zerov Tryd.prog e=some z) (hzl:z.cells=zs) (hl:zs.length=cs.length) (h0:cs.length ≤ 16777216) (ho:AV.ownsAll cs=[]) (hf:(AV.agg cs).flat=true) :
    bsl Tryd.prog t 1 σ false 0 [(0,.agg cs)]=some (.list .clip 1 cs.length cs,σ):=by
  have hov : overlay zs 0 cs = cs := by
    simp only [overlay,List.take_zero,List.nil_append,Nat.zero_add]
    rw [List.drop_eq_nil_of_le (by omega),List.append_nil]
  unfold bsl byValue
  simp only [List.map_cons,List.map_nil,AV.ownsAll,AV.owns,ho,List.append_nil,if_true]
  unfold buildSlicev
  rw [hu]
  simp only [hc,hz,hzl,hl,if_true]
  rw [if_neg (by omega)]
  simp only [fillv,replv,AV.cells,keep,Nat.zero_mul,List.append_nil,hl,hf,Nat.zero_add,Nat.le_refl,and_self,if_true,hov]
theorem slc_all {t e:TypeId} {n k:Nat} {cs:List AV} {σ:List Ob} (hu:Tryd.prog.underlying t=some (.slice e)) (hc:Tryd.prog.cellsOf e=k) (hi:(Tryd.prog.info? e).isSome=true) (hl:cs.length=n * k) (ho:AV.ownsAll cs=[]) :
    slc Tryd.prog t σ false 0 (lro n k cs) none (some (i6 (↑n:Int))) (some (i6 (↑n:Int)))=some (.list .clip n k cs,σ):=by
  unfold slc cutOwn
  simp only
  unfold byValue1
  simp only [AV.owns,ho,if_true,Bool.false_eq_true,if_false]
  unfold slicev
  rw [hu]
  simp only [hc,hi]
  simp [boundv]
  rw [List.take_of_length_le (by omega)]
  rfl
section
variable [Fixed] {X:Ext} {call:Caller} {lf:Nat}
theorem take_filter {α:Type} {L:List α} {p:α→Bool} {i:Nat} (h:i < L.length):(L.take (i + 1)).filter p=(L.take i).filter p ++ if p L[i] then [L[i]] else []:=by
  rw [List.take_succ_eq_append_getElem h,List.filter_append]
  cases hp:p L[i] <;> simp [hp]
/-- lexicon.filter. -/
theorem filter40 {L:List Lexm} {G:Nat} {c:List AV} {p:Lexm→Bool} (hl:L.length * 89 ≤ big) (hlf:L.length < lf) (hc:AV.ltAll 0 c=true)
    (hg:∀ i σ,i < L.length→(σ=[] ∨ ∃ o,σ=[o])→ltObs (σ.length + 1) (Ob.cells c::σ)=true→callv X call false G [.agg (lexC (nL L i)),.ref 0 0] (Ob.cells c::σ) 0=some (bo (p (nL L i)),Ob.cells c::σ))
    (h61:∀ i σ,i < L.length→callv X call false 61 [.agg (lexC (nL L i))] σ 0=some (.agg (lexC (nL L i)),σ)) :
    ∃ (r:AV) (σ' : List Ob),vbody Tryd.prog X call lf fg40 Tryd.f40 (codeOf Tryd.f40) [lexsV L,.clo G [.ref 0 0]] [Ob.cells c] 0=some (r,[Ob.cells c] ++ σ')∧aLs.dec r=some (L.filter p)∧AV.owns r=[]:=by
  have hL:L.length * 89 ≤ 140737488355328:=hl
  have ho : ∀ i, (i < L.length → f40_o0 L i (p (nL L i)) = 0) ∧ (¬ i < L.length → f40_o0 L i (p (nL L i)) = 1) := by
    intro i
    unfold f40_o0
    refine ⟨fun h1 => ?_,fun h1 => ?_⟩
    · rw [decide_eq_true (by omega)]; cases p (nL L i) <;> rfl
    · rw [decide_eq_false (by omega)]
  let l:Nat→List Lexm:=fun i=>(L.take i).filter p
  let S:Nat→List Ob:=fun i=>grS cL [Ob.cells c] (l i)
  let o:Nat→AV:=fun i=>grV (.list .nil 0 0 []) 1 (l i).length
  have hS : ∀ i, ∃ σ, S i = Ob.cells c :: σ ∧ (σ = [] ∨ ∃ o, σ = [o]) ∧ ltObs (σ.length + 1) (Ob.cells c :: σ) = true := by
    intro i
    show ∃ σ,grS cL [Ob.cells c] (l i)=Ob.cells c::σ∧_
    unfold grS
    split
    · exact ⟨[],rfl,.inl rfl,by simp [ltObs,ltAll_up (Nat.zero_le _) c hc]⟩
    · exact ⟨[.arr (l i).length cL.k ((l i).flatMap cL.enc)],rfl,.inr ⟨_,rfl⟩,by simp only [ltObs,ltAll_up (Nat.zero_le _) c hc,ltAll_up (Nat.zero_le _) _ (Cod.flat_lt (l i)),Bool.and_self]⟩
  have hlen:∀ i,(l i).length ≤ i:=fun i=>Nat.le_trans (List.length_filter_le _ _) (by rw [List.length_take]; omega)
  have hstep : ∀ i, i < L.length → p (nL L i) = true → l (i + 1) = l i ++ [nL L i] := by
    intro i hi hp
    show (L.take (i + 1)).filter p=_
    rw [take_filter hi,nL,getD_lt hi] at *
    rw [if_pos hp]
  have hsame : ∀ i, i < L.length → p (nL L i) = false → l (i + 1) = l i := by
    intro i hi hp
    show (L.take (i + 1)).filter p=_
    rw [nL,getD_lt hi] at hp
    rw [take_filter hi,hp]
    simp [l]
  have M := f40_M L G c S o X call lf L.length (fun i => (nL L i).id) (fun i => (nL L i).cat) (fun i => (nL L i).stem) (fun i => (nL L i).par) _ _ _ (fun i => (nL L i).id) (fun i => (nL L i).cat) (fun i => (nL L i).stem) (fun i => (nL L i).par) _ _ _ _ _ _ _ (fun i => p (nL L i)) rfl rfl hlf
    (fun i _ h=>at_lex (by simpa using h))
    (fun i _ h=>by obtain ⟨σ,e,k0,k⟩:=hS i; rw [e]; exact hg i σ (by simpa using h) k0 k)
    (fun i _ h _=>h61 i _ (by simpa using h))
    (fun i _ h _=>bsl_one Tryd.underlying22 cells33 zero33 rfl rfl (by simp) (owns_lex _) rfl)
    (fun i _ h hp => by
      refine gr_step (m:=[nL L i]) rowL (.inl rfl) (appended_row [nL L i]) ?_
      have:=hlen i
      have:i < L.length:=by simpa using h
      show _ ≤ 140737488355328
      simp only [List.length_singleton]
      omega)
    (fun i h _ hp=>by show grV _ _ (l (i + 1)).length=_; rw [hstep i h hp]; rfl)
    (fun i h _=>up h (by show _ ≤ 140737488355328; omega))
    (fun i h _ hp=>by show grS _ _ (l (i + 1))=_; rw [hstep i h hp])
    (fun i h _ hp=>by show grV _ _ (l (i + 1)).length=_; rw [hsame i h hp])
    (fun i h _ hp=>by show grS _ _ (l (i + 1))=_; rw [hsame i h hp])
    (fun j hj=>(ho j).1 hj)
  obtain ⟨r,σ',h1,h2,h3⟩:=gr_end (A:=cL) (lk := .nil) (sz0:=0) (σ1:=[Ob.cells c]) (σ0:=[Ob.cells c]) (l L.length)
  refine ⟨r,σ',M ((ho _).2 (by omega)) _ _ h1,?_,h3⟩
  have:l L.length=L.filter p:=by show (L.take _).filter p=_; rw [List.take_length]
  rw [this] at h2
  exact h2
end
end Go.Proofs.Lex
end
/- Lexicon: closures, with a row behind (printed) -/
section
open Go Go.Vm Go.Proofs
namespace Go.Proofs.Lex
theorem f41b_pt (x0:Lexm)(s0:ByteArray)(O1:Ob)(X:Ext)(call:Caller)(lf:Nat)
 (h0:(ByteArray.toList (Lexm.cat x0) == ByteArray.toList s0)=true):vbody Tryd.prog X call lf noFg Tryd.f41 (codeOf Tryd.f41) [AV.agg (lexC x0),AV.ref 0 0] [Ob.cells [st s0],O1] 0=some (bo true,[Ob.cells [st s0],O1,Ob.cells [st (Lexm.id x0),st (Lexm.cat x0),st (Lexm.stem x0),st (Lexm.par x0),lro (List.length (Lexm.feats x0)) 2 (List.flatMap featC (Lexm.feats x0))]]) :=
  along_sound (ans:=[(7,Ans.b true)]) (by kernel_rfl) (ai h0 trivial)
theorem f41b_pf (x0:Lexm)(s0:ByteArray)(O1:Ob)(X:Ext)(call:Caller)(lf:Nat)
 (h0:(ByteArray.toList (Lexm.cat x0) == ByteArray.toList s0)=false):vbody Tryd.prog X call lf noFg Tryd.f41 (codeOf Tryd.f41) [AV.agg (lexC x0),AV.ref 0 0] [Ob.cells [st s0],O1] 0=some (bo false,[Ob.cells [st s0],O1,Ob.cells [st (Lexm.id x0),st (Lexm.cat x0),st (Lexm.stem x0),st (Lexm.par x0),lro (List.length (Lexm.feats x0)) 2 (List.flatMap featC (Lexm.feats x0))]]) :=
  along_sound (ans:=[(7,Ans.b false)]) (by kernel_rfl) (ai h0 trivial)
def f41b_q0 (x0:Lexm)(s0:ByteArray):Nat :=
  (match (ByteArray.toList (Lexm.cat x0) == ByteArray.toList s0) with
  | true=>0
  | false=>1)
theorem f41b_P0 (x0:Lexm)(s0:ByteArray)(O1:Ob)(X:Ext)(call:Caller)(lf:Nat) :
    (f41b_q0 x0 s0=0→vbody Tryd.prog X call lf noFg Tryd.f41 (codeOf Tryd.f41) [AV.agg (lexC x0),AV.ref 0 0] [Ob.cells [st s0],O1] 0=some (bo true,[Ob.cells [st s0],O1,Ob.cells [st (Lexm.id x0),st (Lexm.cat x0),st (Lexm.stem x0),st (Lexm.par x0),lro (List.length (Lexm.feats x0)) 2 (List.flatMap featC (Lexm.feats x0))]]))∧(f41b_q0 x0 s0=1→vbody Tryd.prog X call lf noFg Tryd.f41 (codeOf Tryd.f41) [AV.agg (lexC x0),AV.ref 0 0] [Ob.cells [st s0],O1] 0=some (bo false,[Ob.cells [st s0],O1,Ob.cells [st (Lexm.id x0),st (Lexm.cat x0),st (Lexm.stem x0),st (Lexm.par x0),lro (List.length (Lexm.feats x0)) 2 (List.flatMap featC (Lexm.feats x0))]])):=by
  unfold f41b_q0
  cases c0:(ByteArray.toList (Lexm.cat x0) == ByteArray.toList s0) with
  | true =>
    exact ⟨fun _=>f41b_pt x0 s0 O1 X call lf c0,fun h=>absurd (show (0:Nat)=1 from h) (by decide)⟩
  | false =>
    exact ⟨fun h=>absurd (show (1:Nat)=0 from h) (by decide),fun _=>f41b_pf x0 s0 O1 X call lf c0⟩
theorem f66b_pt (x0:Lexm)(s0:ByteArray)(O1:Ob)(X:Ext)(call:Caller)(lf:Nat)
 (h0:(ByteArray.toList (Lexm.stem x0) == ByteArray.toList s0)=true):vbody Tryd.prog X call lf noFg Tryd.f66 (codeOf Tryd.f66) [AV.agg (lexC x0),AV.ref 0 0] [Ob.cells [st s0],O1] 0=some (bo true,[Ob.cells [st s0],O1,Ob.cells [st (Lexm.id x0),st (Lexm.cat x0),st (Lexm.stem x0),st (Lexm.par x0),lro (List.length (Lexm.feats x0)) 2 (List.flatMap featC (Lexm.feats x0))]]) :=
  along_sound (ans:=[(7,Ans.b true)]) (by kernel_rfl) (ai h0 trivial)
theorem f66b_pf (x0:Lexm)(s0:ByteArray)(O1:Ob)(X:Ext)(call:Caller)(lf:Nat)
 (h0:(ByteArray.toList (Lexm.stem x0) == ByteArray.toList s0)=false):vbody Tryd.prog X call lf noFg Tryd.f66 (codeOf Tryd.f66) [AV.agg (lexC x0),AV.ref 0 0] [Ob.cells [st s0],O1] 0=some (bo false,[Ob.cells [st s0],O1,Ob.cells [st (Lexm.id x0),st (Lexm.cat x0),st (Lexm.stem x0),st (Lexm.par x0),lro (List.length (Lexm.feats x0)) 2 (List.flatMap featC (Lexm.feats x0))]]) :=
  along_sound (ans:=[(7,Ans.b false)]) (by kernel_rfl) (ai h0 trivial)
def f66b_q0 (x0:Lexm)(s0:ByteArray):Nat :=
  (match (ByteArray.toList (Lexm.stem x0) == ByteArray.toList s0) with
  | true=>0
  | false=>1)
theorem f66b_P0 (x0:Lexm)(s0:ByteArray)(O1:Ob)(X:Ext)(call:Caller)(lf:Nat) :
    (f66b_q0 x0 s0=0→vbody Tryd.prog X call lf noFg Tryd.f66 (codeOf Tryd.f66) [AV.agg (lexC x0),AV.ref 0 0] [Ob.cells [st s0],O1] 0=some (bo true,[Ob.cells [st s0],O1,Ob.cells [st (Lexm.id x0),st (Lexm.cat x0),st (Lexm.stem x0),st (Lexm.par x0),lro (List.length (Lexm.feats x0)) 2 (List.flatMap featC (Lexm.feats x0))]]))∧(f66b_q0 x0 s0=1→vbody Tryd.prog X call lf noFg Tryd.f66 (codeOf Tryd.f66) [AV.agg (lexC x0),AV.ref 0 0] [Ob.cells [st s0],O1] 0=some (bo false,[Ob.cells [st s0],O1,Ob.cells [st (Lexm.id x0),st (Lexm.cat x0),st (Lexm.stem x0),st (Lexm.par x0),lro (List.length (Lexm.feats x0)) 2 (List.flatMap featC (Lexm.feats x0))]])):=by
  unfold f66b_q0
  cases c0:(ByteArray.toList (Lexm.stem x0) == ByteArray.toList s0) with
  | true =>
    exact ⟨fun _=>f66b_pt x0 s0 O1 X call lf c0,fun h=>absurd (show (0:Nat)=1 from h) (by decide)⟩
  | false =>
    exact ⟨fun h=>absurd (show (1:Nat)=0 from h) (by decide),fun _=>f66b_pf x0 s0 O1 X call lf c0⟩
end Go.Proofs.Lex
end
/- Lexicon: Clip, Clone. -/
section
open Go Go.Vm Go.Proofs
namespace Go.Proofs.Lex
def opsR (c:Code):Array Oper:=match c with
  | .region _ ops _=>ops
  | _ => #[]
def opsF (fn:Func) (k:Nat):Array Oper:=opsR (regN fn k)
def cloneC (fn:Func):Code := .seq (.region 0 (opsF fn 0) false) (.seq (.seq (.region 1 (opsF fn 1) false) (.cond (.tmp 4) (.seq (.region 2 (opsF fn 2) false) .ret) .skip)) (.seq (.region 3 (opsF fn 3) false) .ret))
theorem body88:Tryd.f88.body=some (cloneC Tryd.f88):=by kernel_rfl
section
variable {X:Ext} {call:Caller} {lf:Nat}
def S88 (F:List Feat):St := { tmps:=[featsV F] ++ List.replicate 7 .undef,st:=[] }
theorem r88_0 (F:List Feat):vexec Tryd.prog X call lf 0 noFg (.region 0 (opsF Tryd.f88 0) false) (S88 F)=some (.normal,{ tmps:=[featsV F,.undef,.list .nil 0 0 [],.undef,.undef,.undef,.undef,.undef],st:=[] }):=by kernel_rfl
theorem r88_2 (F:List Feat) (b:Bool):vexec Tryd.prog X call lf 0 noFg (.seq (.region 2 (opsF Tryd.f88 2) false) .ret) { tmps:=[featsV F,.undef,.list .nil 0 0 [],featsV F,.bool b,.undef,.undef,.undef],st:=[] }=some (.ret,{ tmps:=[featsV F,.undef,.list .nil 0 0 [],featsV F,.bool b,.undef,.undef,.undef],st:=[] }):=by kernel_rfl
theorem r88_3 (F:List Feat) (b:Bool) (v:AV) (σ:List Ob) (h:appendv Tryd.prog 31 [] 0 (.list .clip 0 2 []) (featsV F)=some (v,σ)):vexec Tryd.prog X call lf 0 noFg (.seq (.region 3 (opsF Tryd.f88 3) false) .ret) { tmps:=[featsV F,.undef,.list .nil 0 0 [],featsV F,.bool b,.undef,.undef,.undef],st:=[] }=some (.ret,{ tmps:=[featsV F,.undef,v,featsV F,.bool b,.list .clip 0 2 [],featsV F,v],st:=σ }) :=
  around_sound (ans:=[(3,Ans.c v σ)]) (by kernel_rfl) (And.intro h trivial)
def preF (fn:Func) (k n:Nat):List Oper:=(opsF fn k).toList.take n
def opF (fn:Func) (k n:Nat):Oper:=((opsF fn k).toList[n]?).getD default
theorem split88:(opsF Tryd.f88 1).toList=preF Tryd.f88 1 1 ++ [opF Tryd.f88 1 1]:=by kernel_rfl
end
section
variable [Fixed] {X:Ext}
/-- slices.Clone of features. -/
theorem clone88 (hX:ExtOk Tryd.prog X) {F:List Feat} (hF:F.length * 33 ≤ big):CallAt Tryd.prog 88 [aFs.enc F] [] 0 (aFs.enc F) []:=by
  have hC:CallOk Tryd.prog (callerOf fun _ _=>none):=callerOf_ok SpecOk.none'
  have hbig:F.length * 33 ≤ 140737488355328:=hF
  refine call_rel (B:=aFs) (fn:=Tryd.f88) (c:=cloneC Tryd.f88) (R:=fun x T=>(x = .normal ∨ x = .ret)∧∃ r σ',vend Tryd.prog Tryd.f88 [] 0 T=some (r,σ')∧aFs.dec r=some F) Tryd.func88 body88 (of_decide_eq_false (by kernel_rfl)) ?_ (fun x T h=>h)
  refine SR.seq (SR.exec hX hC (lf:=0) (fg:=noFg) (by kernel_rfl) (r88_0 F)) (fun T hT => ?_) (fun x T hx h=>absurd h.1 hx)
  obtain ⟨-,rfl⟩:=hT
  refine SR.seq (R1:=fun x T=>(x = .ret∧∃ b,F=[]∧T = { tmps:=[featsV F,.undef,.list .nil 0 0 [],featsV F,.bool b,.undef,.undef,.undef],st:=[] }) ∨ (x = .normal∧∃ b,T = { tmps:=[featsV F,.undef,.list .nil 0 0 [],featsV F,.bool b,.undef,.undef,.undef],st:=[] })) ?_ (fun T hT => ?_) (fun x T hx h => ?_)
  · refine SR.seq (SR.nilTest hX hC (pre := preF Tryd.f88 1 1) (o := opF Tryd.f88 1 1) (t := 31) (e := 57) (x := .tmp 3) (nb := 31) (d := 4) (n := F.length) (sz := 2) (k := .ro) (cs := F.flatMap featC)
      (S1 := { tmps:=[featsV F,.undef,.list .nil 0 0 [],featsV F,.undef,.undef,.undef,.undef],st:=[] }) split88 (by kernel_rfl) (by kernel_rfl) (by kernel_rfl) (by kernel_rfl) Tryd.underlying31 (by kernel_rfl)) (fun T hT => ?_) (fun x T hx h=>absurd h.1 hx)
    obtain ⟨-,b,hb,rfl⟩:=hT
    refine SR.cond (b:=b) (by rfl) ?_
    cases b with
    | true =>
      refine (SR.exec hX hC (lf:=0) (fg:=noFg) (by kernel_rfl) (r88_2 F true)).mono fun x T h => ?_
      exact .inl ⟨h.1,true,List.eq_nil_of_length_eq_zero (hb rfl),h.2⟩
    | false=>exact SR.skip (.inr ⟨rfl,false,rfl⟩)
  · rcases hT with ⟨h, _⟩ | ⟨-, b, rfl⟩
    · cases h
    · have hg := gr_step (σ0 := []) (l := []) (m := F) (lk := .clip) (sz0 := 2) rowF (.inr rfl) (x := featsV F) (appended_row F) (by simpa using hF)
      obtain ⟨r,σ',h1,h2,-⟩:=gr_end (A:=cF) (lk := .clip) (sz0:=2) (σ1:=[]) (σ0:=[]) F
      refine (SR.exec hX hC (lf:=0) (fg:=noFg) (by kernel_rfl) (r88_3 F b _ _ hg)).mono fun x T h => ?_
      obtain ⟨rfl,rfl⟩:=h
      exact ⟨.inr rfl,r,σ',h1,h2⟩
  · rcases h with ⟨rfl, b, rfl, rfl⟩ | ⟨rfl, _⟩
    · exact ⟨.inr rfl,.list .nil 0 0 [],[],rfl,rfl⟩
    · exact absurd rfl hx
end
end Go.Proofs.Lex
end
/- Lexicon: the builder, feature.Text (printed) -/
section
open Go Go.Vm Go.Proofs
namespace Go.Proofs.Lex
theorem f78_p (c0:Int)(p0:AV)(n0 n1:Nat)(T0 T1:List Ob)(X:Ext)(call:Caller)(lf:Nat)
 (h0:callv X call false 110 [AV.ref 0 0] (Ob.cells [p0,AV.own 1 n0]::T0) 0=some (AV.tup [],Ob.cells [AV.ref 0 0,AV.own 1 n0]::T0))
 (h1:appendv Tryd.prog 89 (Ob.cells [AV.ref 0 0,AV.own 1 n0]::T0) 0 (AV.own 1 n0) (AV.list LK.clip 1 1 [AV.int IntKind.u8 c0])=some (AV.own 1 n1,Ob.cells [AV.ref 0 0,AV.own 1 n0]::T1)):vbody Tryd.prog X call lf noFg Tryd.f78 (codeOf Tryd.f78) [AV.ref 0 0,AV.int IntKind.u8 c0] (Ob.cells [p0,AV.own 1 n0]::T0) 0=some (AV.inil,Ob.cells [AV.ref 0 0,AV.own 1 n1]::T1) :=
  along_sound (ans:=[(4,Ans.c (AV.tup []) (Ob.cells [AV.ref 0 0,AV.own 1 n0]::T0)),(13,Ans.c (AV.own 1 n1) (Ob.cells [AV.ref 0 0,AV.own 1 n0]::T1))]) (by kernel_rfl) (ai h0 (ai h1 trivial))
theorem f78n_p (c0:Int)(p0:AV)(X:Ext)(call:Caller)(lf:Nat)
 (h0:callv X call false 110 [AV.ref 0 0] [Ob.cells [p0,AV.list LK.nil 0 0 []]] 0=some (AV.tup [],[Ob.cells [AV.ref 0 0,AV.list LK.nil 0 0 []]])):vbody Tryd.prog X call lf noFg Tryd.f78 (codeOf Tryd.f78) [AV.ref 0 0,AV.int IntKind.u8 c0] [Ob.cells [p0,AV.list LK.nil 0 0 []]] 0=some (AV.inil,[Ob.cells [AV.ref 0 0,AV.own 1 1],newOb Tryd.prog 5 (0 + 1) (Program.cellsOf Tryd.prog 5) ([] ++ [AV.int IntKind.u8 c0])]) :=
  along_sound (ans:=[(4,Ans.c (AV.tup []) [Ob.cells [AV.ref 0 0,AV.list LK.nil 0 0 []]])]) (by kernel_rfl) (ai h0 trivial)
theorem f79_p (s0:ByteArray)(p0:AV)(n0 n1:Nat)(T0 T1:List Ob)(X:Ext)(call:Caller)(lf:Nat)
 (h0:callv X call false 110 [AV.ref 0 0] (Ob.cells [p0,AV.own 1 n0]::T0) 0=some (AV.tup [],Ob.cells [AV.ref 0 0,AV.own 1 n0]::T0))
 (h1:appendv Tryd.prog 89 (Ob.cells [AV.ref 0 0,AV.own 1 n0]::T0) 0 (AV.own 1 n0) (st s0)=some (AV.own 1 n1,Ob.cells [AV.ref 0 0,AV.own 1 n0]::T1)):vbody Tryd.prog X call lf noFg Tryd.f79 (codeOf Tryd.f79) [AV.ref 0 0,st s0] (Ob.cells [p0,AV.own 1 n0]::T0) 0=some (AV.tup [i6 (↑(ByteArray.size s0):Int),AV.inil],Ob.cells [AV.ref 0 0,AV.own 1 n1]::T1) :=
  along_sound (ans:=[(5,Ans.c (AV.tup []) (Ob.cells [AV.ref 0 0,AV.own 1 n0]::T0)),(13,Ans.c (AV.own 1 n1) (Ob.cells [AV.ref 0 0,AV.own 1 n0]::T1))]) (by kernel_rfl) (ai h0 (ai h1 trivial))
theorem f79n_p (s0:ByteArray)(p0:AV)(n1:Nat)(T0 T1:List Ob)(X:Ext)(call:Caller)(lf:Nat)
 (h0:callv X call false 110 [AV.ref 0 0] (Ob.cells [p0,AV.list LK.nil 0 0 []]::T0) 0=some (AV.tup [],Ob.cells [AV.ref 0 0,AV.list LK.nil 0 0 []]::T0))
 (h1:appendv Tryd.prog 89 (Ob.cells [AV.ref 0 0,AV.list LK.nil 0 0 []]::T0) 0 (AV.list LK.nil 0 0 []) (st s0)=some (AV.own 1 n1,Ob.cells [AV.ref 0 0,AV.list LK.nil 0 0 []]::T1)):vbody Tryd.prog X call lf noFg Tryd.f79 (codeOf Tryd.f79) [AV.ref 0 0,st s0] (Ob.cells [p0,AV.list LK.nil 0 0 []]::T0) 0=some (AV.tup [i6 (↑(ByteArray.size s0):Int),AV.inil],Ob.cells [AV.ref 0 0,AV.own 1 n1]::T1) :=
  along_sound (ans:=[(5,Ans.c (AV.tup []) (Ob.cells [AV.ref 0 0,AV.list LK.nil 0 0 []]::T0)),(13,Ans.c (AV.own 1 n1) (Ob.cells [AV.ref 0 0,AV.list LK.nil 0 0 []]::T1))]) (by kernel_rfl) (ai h0 (ai h1 trivial))
theorem f79e_p (s0:ByteArray)(p0:AV)(T0 T1:List Ob)(X:Ext)(call:Caller)(lf:Nat)
 (h0:callv X call false 110 [AV.ref 0 0] (Ob.cells [p0,AV.list LK.nil 0 0 []]::T0) 0=some (AV.tup [],Ob.cells [AV.ref 0 0,AV.list LK.nil 0 0 []]::T0))
 (h1:appendv Tryd.prog 89 (Ob.cells [AV.ref 0 0,AV.list LK.nil 0 0 []]::T0) 0 (AV.list LK.nil 0 0 []) (st s0)=some (AV.list LK.nil 0 0 [],Ob.cells [AV.ref 0 0,AV.list LK.nil 0 0 []]::T1)):vbody Tryd.prog X call lf noFg Tryd.f79 (codeOf Tryd.f79) [AV.ref 0 0,st s0] (Ob.cells [p0,AV.list LK.nil 0 0 []]::T0) 0=some (AV.tup [i6 (↑(ByteArray.size s0):Int),AV.inil],Ob.cells [AV.ref 0 0,AV.list LK.nil 0 0 []]::T1) :=
  along_sound (ans:=[(5,Ans.c (AV.tup []) (Ob.cells [AV.ref 0 0,AV.list LK.nil 0 0 []]::T0)),(13,Ans.c (AV.list LK.nil 0 0 []) (Ob.cells [AV.ref 0 0,AV.list LK.nil 0 0 []]::T1))]) (by kernel_rfl) (ai h0 (ai h1 trivial))
def fg48:Nat→List Nat
  | 5004=>[1]
  | _=>[]
def f48_F0 (F0:List Feat)(S0:Nat→List Ob)(i0:Nat):St :=
  stOf 25 [4,5,9,10,11,12,13,14,15,16,17,18,19,20,21,22,23] [(0,lro F0.length 2 (F0.flatMap featC)),(2,st (ByteArray.mk #[])),(3,AV.ref 0 0),(6,lro F0.length 2 (F0.flatMap featC)),(7,i6 (↑F0.length:Int)),(8,i6 (↑i0:Int))] (S0 i0)
def f48_S0 (F0:List Feat):St :=
  stOf 25 [] [(0,lro F0.length 2 (F0.flatMap featC)),(2,st (ByteArray.mk #[])),(3,AV.ref 0 0),(6,lro F0.length 2 (F0.flatMap featC)),(7,i6 (↑F0.length:Int)),(8,i6 0)] [Ob.cells [AV.ptag 91,AV.list LK.nil 0 0 []]]
abbrev f48_D0:List Nat:=[23,22,21,20,19,18,17,16,15,14,13,4,5,12,11,10,9]
theorem f48_L0 (F0:List Feat)(S0:Nat→List Ob)(X:Ext)(call:Caller)(lf n:Nat)(x:Ex) (S' : St)
 (e0:S0 0=[Ob.cells [AV.ptag 91,AV.list LK.nil 0 0 []]])
 (hn:n<lf)
 (hs:∀ j,j<n→∃ S1,vexec Tryd.prog X call lf 0 fg48 (loopN Tryd.f48 0) (f48_F0 F0 S0 j)=some (Ex.normal,S1)∧forget f48_D0 S1=(f48_F0 F0 S0 (j + 1)))
 (he:vexec Tryd.prog X call lf 0 fg48 (loopN Tryd.f48 0) (f48_F0 F0 S0 n)=some (x,S'))
 (hx:x ≠ Ex.normal):vexec Tryd.prog X call lf 0 fg48 (Go.Code.loop (loopN Tryd.f48 0)) (f48_S0 F0)=some (x,S') :=
  loop_runK (by kernel_rfl) (fun j=>(f48_F0 F0 S0 j)) n hn (by show forget f48_D0 (f48_S0 F0)=(f48_F0 F0 S0 0); unfold f48_F0; rw [e0]; show _=_; kernel_rfl) hs he hx
theorem f48_s0_tt (F0:List Feat)(X:Ext)(call:Caller)(lf:Nat)(S0:Nat→List Ob)(i0:Nat)(a d:ByteArray)(r11:List AV)(s15:List Ob)(v15:AV)(s18:List Ob)(e:Int)(g:AV)(s19:List Ob)(v19:AV)(s22:List Ob)(h:Int)(j:AV)
 (h0:decide ((↑i0:Int)<(↑F0.length:Int))=true)
 (h1:keep (S0 i0) (indexAddrv Tryd.prog 31 (S0 i0) (lro F0.length 2 (F0.flatMap featC)) (i6 (↑i0:Int)))=some (AV.eaddr (st a::st d::r11),S0 i0))
 (h2:decide ((↑i0:Int)>0)=true)
 (h3:callv X call false 78 [AV.ref 0 0,AV.int IntKind.u8 32] (S0 i0) 0=some (v15,s15))
 (h4:callv X call false 79 [AV.ref 0 0,st a] s15 0=some (AV.tup [i6 e,g],s18))
 (h5:callv X call false 78 [AV.ref 0 0,AV.int IntKind.u8 61] s18 0=some (v19,s19))
 (h6:callv X call false 79 [AV.ref 0 0,st d] s19 0=some (AV.tup [i6 h,j],s22))
 (e0:(↑(i0 + 1):Int)=w6 ((↑i0:Int) + 1))
 (e1:S0 (i0 + 1)=s22):∃ S1,vexec Tryd.prog X call lf 0 fg48 (loopN Tryd.f48 0) (f48_F0 F0 S0 i0)=some (Ex.normal,S1)∧forget f48_D0 S1=(f48_F0 F0 S0 (i0 + 1)) :=
  ⟨stOf 25 [] [(0,lro F0.length 2 (F0.flatMap featC)),(2,st (ByteArray.mk #[])),(3,AV.ref 0 0),(4,i6 (↑i0:Int)),(5,AV.eaddr [st a,st d]),(6,lro F0.length 2 (F0.flatMap featC)),(7,i6 (↑F0.length:Int)),(8,i6 (w6 ((↑i0:Int) + 1))),(9,bo true),(10,i6 (↑i0:Int)),(11,AV.eaddr (st a::st d::r11)),(12,AV.agg [st a,st d]),(13,i6 (↑i0:Int)),(14,bo true),(15,v15),(16,AV.eaddr [st a,st d]),(17,st a),(18,AV.tup [i6 e,g]),(19,v19),(20,AV.eaddr [st d]),(21,st d),(22,AV.tup [i6 h,j]),(23,i6 (w6 ((↑i0:Int) + 1)))] s22,around_sound (ans:=[(1,Ans.b true),(5,Ans.v (AV.eaddr (st a::st d::r11))),(9,Ans.b true),(12,Ans.c v15 s15),(16,Ans.c (AV.tup [i6 e,g]) s18),(18,Ans.c v19 s19),(22,Ans.c (AV.tup [i6 h,j]) s22)]) (by kernel_rfl) (ai h0 (ai h1 (ai h2 (ai h3 (ai h4 (ai h5 (ai h6 trivial))))))),by unfold f48_F0; rw [e0,e1]; show _=_; kernel_rfl⟩
theorem f48_s0_tf (F0:List Feat)(X:Ext)(call:Caller)(lf:Nat)(S0:Nat→List Ob)(i0:Nat)(a d:ByteArray)(r11:List AV)(s18:List Ob)(e:Int)(g:AV)(s19:List Ob)(v19:AV)(s22:List Ob)(h:Int)(j:AV)
 (h0:decide ((↑i0:Int)<(↑F0.length:Int))=true)
 (h1:keep (S0 i0) (indexAddrv Tryd.prog 31 (S0 i0) (lro F0.length 2 (F0.flatMap featC)) (i6 (↑i0:Int)))=some (AV.eaddr (st a::st d::r11),S0 i0))
 (h2:decide ((↑i0:Int)>0)=false)
 (h3:callv X call false 79 [AV.ref 0 0,st a] (S0 i0) 0=some (AV.tup [i6 e,g],s18))
 (h4:callv X call false 78 [AV.ref 0 0,AV.int IntKind.u8 61] s18 0=some (v19,s19))
 (h5:callv X call false 79 [AV.ref 0 0,st d] s19 0=some (AV.tup [i6 h,j],s22))
 (e0:(↑(i0 + 1):Int)=w6 ((↑i0:Int) + 1))
 (e1:S0 (i0 + 1)=s22):∃ S1,vexec Tryd.prog X call lf 0 fg48 (loopN Tryd.f48 0) (f48_F0 F0 S0 i0)=some (Ex.normal,S1)∧forget f48_D0 S1=(f48_F0 F0 S0 (i0 + 1)) :=
  ⟨stOf 25 [15] [(0,lro F0.length 2 (F0.flatMap featC)),(2,st (ByteArray.mk #[])),(3,AV.ref 0 0),(4,i6 (↑i0:Int)),(5,AV.eaddr [st a,st d]),(6,lro F0.length 2 (F0.flatMap featC)),(7,i6 (↑F0.length:Int)),(8,i6 (w6 ((↑i0:Int) + 1))),(9,bo true),(10,i6 (↑i0:Int)),(11,AV.eaddr (st a::st d::r11)),(12,AV.agg [st a,st d]),(13,i6 (↑i0:Int)),(14,bo false),(16,AV.eaddr [st a,st d]),(17,st a),(18,AV.tup [i6 e,g]),(19,v19),(20,AV.eaddr [st d]),(21,st d),(22,AV.tup [i6 h,j]),(23,i6 (w6 ((↑i0:Int) + 1)))] s22,around_sound (ans:=[(1,Ans.b true),(5,Ans.v (AV.eaddr (st a::st d::r11))),(9,Ans.b false),(14,Ans.c (AV.tup [i6 e,g]) s18),(16,Ans.c v19 s19),(20,Ans.c (AV.tup [i6 h,j]) s22)]) (by kernel_rfl) (ai h0 (ai h1 (ai h2 (ai h3 (ai h4 (ai h5 trivial)))))),by unfold f48_F0; rw [e0,e1]; show _=_; kernel_rfl⟩
def f48_S1 (F0:List Feat)(S0:Nat→List Ob)(i0:Nat):St :=
  stOf 25 [4,5,10,11,12,13,14,15,16,17,18,19,20,21,22,23] [(0,lro F0.length 2 (F0.flatMap featC)),(2,st (ByteArray.mk #[])),(3,AV.ref 0 0),(6,lro F0.length 2 (F0.flatMap featC)),(7,i6 (↑F0.length:Int)),(8,i6 (↑i0:Int)),(9,bo false)] (S0 i0)
theorem f48_r0_f (F0:List Feat)(X:Ext)(call:Caller)(lf:Nat)(S0:Nat→List Ob)(i0:Nat)
 (h0:decide ((↑i0:Int)<(↑F0.length:Int))=false):vexec Tryd.prog X call lf 0 fg48 (loopN Tryd.f48 0) (f48_F0 F0 S0 i0)=some (Ex.exit 0,(f48_S1 F0 S0 i0)) :=
  around_sound (ans:=[(1,Ans.b false)]) (by kernel_rfl) (ai h0 trivial)
theorem f48_plf (F0:List Feat)(X:Ext)(call:Caller)(lf:Nat)(S0:Nat→List Ob)(i0:Nat)(s24:List Ob)(x24:ByteArray)
 (h0:vexec Tryd.prog X call lf 0 fg48 (Code.loop (loopN Tryd.f48 0)) (f48_S0 F0)=some (Ex.exit 0,(f48_S1 F0 S0 i0)))
 (h1:callv X call false 80 [AV.ref 0 0] (S0 i0) 0=some (st x24,s24)):vbody Tryd.prog X call lf fg48 Tryd.f48 (codeOf Tryd.f48) [featsV F0] [] 0=some (st x24,s24) :=
  along_sound (ans:=[(8,Ans.l (Ex.exit 0) (f48_S1 F0 S0 i0)),(10,Ans.c (st x24) s24)]) (by kernel_rfl) (ai h0 (ai h1 trivial))
def f48_o0 (F0:List Feat)(i0:Nat):Nat :=
  (match decide ((↑i0:Int)<(↑F0.length:Int)) with
  | true=>(match decide ((↑i0:Int)>0) with
    | true=>0
    | false=>0)
  | false=>1)
theorem f48_B0 (F0:List Feat)(X:Ext)(call:Caller)(lf:Nat)(S0:Nat→List Ob)(i0:Nat)(a b:ByteArray)(r11:List AV)(s15:List Ob)(v15:AV)(s18:List Ob)(c:Int)(d:AV)(s19:List Ob)(v19:AV)(s22:List Ob)(e:Int)(g:AV)(s18_v1:List Ob)(n18_0_v1:Int)(v18_1_v1:AV)(s19_v1:List Ob)(v19_v1:AV)(s22_v1:List Ob)(n22_0_v1:Int)(v22_1_v1:AV)
 (g0:decide ((↑i0:Int)<(↑F0.length:Int))=true→keep (S0 i0) (indexAddrv Tryd.prog 31 (S0 i0) (lro F0.length 2 (F0.flatMap featC)) (i6 (↑i0:Int)))=some (AV.eaddr (st a::st b::r11),S0 i0))
 (g1:decide ((↑i0:Int)<(↑F0.length:Int))=true→decide ((↑i0:Int)>0)=true→callv X call false 78 [AV.ref 0 0,AV.int IntKind.u8 32] (S0 i0) 0=some (v15,s15))
 (g2:decide ((↑i0:Int)<(↑F0.length:Int))=true→decide ((↑i0:Int)>0)=true→callv X call false 79 [AV.ref 0 0,st a] s15 0=some (AV.tup [i6 c,d],s18))
 (g3:decide ((↑i0:Int)<(↑F0.length:Int))=true→decide ((↑i0:Int)>0)=true→callv X call false 78 [AV.ref 0 0,AV.int IntKind.u8 61] s18 0=some (v19,s19))
 (g4:decide ((↑i0:Int)<(↑F0.length:Int))=true→decide ((↑i0:Int)>0)=true→callv X call false 79 [AV.ref 0 0,st b] s19 0=some (AV.tup [i6 e,g],s22))
 (g5:decide ((↑i0:Int)<(↑F0.length:Int))=true→decide ((↑i0:Int)>0)=false→callv X call false 79 [AV.ref 0 0,st a] (S0 i0) 0=some (AV.tup [i6 n18_0_v1,v18_1_v1],s18_v1))
 (g6:decide ((↑i0:Int)<(↑F0.length:Int))=true→decide ((↑i0:Int)>0)=false→callv X call false 78 [AV.ref 0 0,AV.int IntKind.u8 61] s18_v1 0=some (v19_v1,s19_v1))
 (g7:decide ((↑i0:Int)<(↑F0.length:Int))=true→decide ((↑i0:Int)>0)=false→callv X call false 79 [AV.ref 0 0,st b] s19_v1 0=some (AV.tup [i6 n22_0_v1,v22_1_v1],s22_v1))
 (e0:decide ((↑i0:Int)<(↑F0.length:Int))=true→(↑(i0 + 1):Int)=w6 ((↑i0:Int) + 1))
 (e1:decide ((↑i0:Int)<(↑F0.length:Int))=true→S0 (i0 + 1)=s22)
 (e2:decide ((↑i0:Int)<(↑F0.length:Int))=true→S0 (i0 + 1)=s22_v1) :
    (f48_o0 F0 i0=0→∃ S1,vexec Tryd.prog X call lf 0 fg48 (loopN Tryd.f48 0) (f48_F0 F0 S0 i0)=some (Ex.normal,S1)∧forget f48_D0 S1=(f48_F0 F0 S0 (i0 + 1)))∧(f48_o0 F0 i0=1→vexec Tryd.prog X call lf 0 fg48 (loopN Tryd.f48 0) (f48_F0 F0 S0 i0)=some (Ex.exit 0,(f48_S1 F0 S0 i0))):=by
  unfold f48_o0
  cases c0:decide ((↑i0:Int)<(↑F0.length:Int)) with
  | true =>
    cases c1:decide ((↑i0:Int)>0) with
    | true =>
      exact ⟨fun _=>f48_s0_tt F0 X call lf S0 i0 a b r11 s15 v15 s18 c d s19 v19 s22 e g c0 (g0 c0) c1 (g1 c0 c1) (g2 c0 c1) (g3 c0 c1) (g4 c0 c1) (e0 c0) (e1 c0),fun h=>absurd (show (0:Nat)=1 from h) (by decide)⟩
    | false =>
      exact ⟨fun _=>f48_s0_tf F0 X call lf S0 i0 a b r11 s18_v1 n18_0_v1 v18_1_v1 s19_v1 v19_v1 s22_v1 n22_0_v1 v22_1_v1 c0 (g0 c0) c1 (g5 c0 c1) (g6 c0 c1) (g7 c0 c1) (e0 c0) (e2 c0),fun h=>absurd (show (0:Nat)=1 from h) (by decide)⟩
  | false =>
    exact ⟨fun h=>absurd (show (1:Nat)=0 from h) (by decide),fun _=>f48_r0_f F0 X call lf S0 i0 c0⟩
theorem f48_X0 (F0:List Feat)(X:Ext)(call:Caller)(lf:Nat)(S0:Nat→List Ob)(i0:Nat)(a b:ByteArray)(r11:List AV)(s15:List Ob)(v15:AV)(s18:List Ob)(c:Int)(d:AV)(s19:List Ob)(v19:AV)(s22:List Ob)(e:Int)(g:AV)(s18_v1:List Ob)(n18_0_v1:Int)(v18_1_v1:AV)(s19_v1:List Ob)(v19_v1:AV)(s22_v1:List Ob)(n22_0_v1:Int)(v22_1_v1:AV)
 (g0:decide ((↑i0:Int)<(↑F0.length:Int))=true→keep (S0 i0) (indexAddrv Tryd.prog 31 (S0 i0) (lro F0.length 2 (F0.flatMap featC)) (i6 (↑i0:Int)))=some (AV.eaddr (st a::st b::r11),S0 i0))
 (g1:decide ((↑i0:Int)<(↑F0.length:Int))=true→decide ((↑i0:Int)>0)=true→callv X call false 78 [AV.ref 0 0,AV.int IntKind.u8 32] (S0 i0) 0=some (v15,s15))
 (g2:decide ((↑i0:Int)<(↑F0.length:Int))=true→decide ((↑i0:Int)>0)=true→callv X call false 79 [AV.ref 0 0,st a] s15 0=some (AV.tup [i6 c,d],s18))
 (g3:decide ((↑i0:Int)<(↑F0.length:Int))=true→decide ((↑i0:Int)>0)=true→callv X call false 78 [AV.ref 0 0,AV.int IntKind.u8 61] s18 0=some (v19,s19))
 (g4:decide ((↑i0:Int)<(↑F0.length:Int))=true→decide ((↑i0:Int)>0)=true→callv X call false 79 [AV.ref 0 0,st b] s19 0=some (AV.tup [i6 e,g],s22))
 (g5:decide ((↑i0:Int)<(↑F0.length:Int))=true→decide ((↑i0:Int)>0)=false→callv X call false 79 [AV.ref 0 0,st a] (S0 i0) 0=some (AV.tup [i6 n18_0_v1,v18_1_v1],s18_v1))
 (g6:decide ((↑i0:Int)<(↑F0.length:Int))=true→decide ((↑i0:Int)>0)=false→callv X call false 78 [AV.ref 0 0,AV.int IntKind.u8 61] s18_v1 0=some (v19_v1,s19_v1))
 (g7:decide ((↑i0:Int)<(↑F0.length:Int))=true→decide ((↑i0:Int)>0)=false→callv X call false 79 [AV.ref 0 0,st b] s19_v1 0=some (AV.tup [i6 n22_0_v1,v22_1_v1],s22_v1)) :
    (f48_o0 F0 i0=1→vexec Tryd.prog X call lf 0 fg48 (loopN Tryd.f48 0) (f48_F0 F0 S0 i0)=some (Ex.exit 0,(f48_S1 F0 S0 i0))):=by
  unfold f48_o0
  cases c0:decide ((↑i0:Int)<(↑F0.length:Int)) with
  | true =>
    cases c1:decide ((↑i0:Int)>0) with
    | true =>
      exact fun h=>absurd (show (0:Nat)=1 from h) (by decide)
    | false =>
      exact fun h=>absurd (show (0:Nat)=1 from h) (by decide)
  | false =>
    exact fun _=>f48_r0_f F0 X call lf S0 i0 c0
theorem f48_M (F0:List Feat)(S0:Nat→List Ob)(X:Ext)(call:Caller)(lf n:Nat)(a b:Nat→ByteArray)(r11:Nat→List AV)(s15:Nat→List Ob)(v15:Nat→AV)(s18:Nat→List Ob)(c:Nat→Int)(d:Nat→AV)(s19:Nat→List Ob)(v19:Nat→AV)(s22:Nat→List Ob)(e:Nat→Int)(g:Nat→AV)(s18_v1:Nat→List Ob)(n18_0_v1:Nat→Int)(v18_1_v1:Nat→AV)(s19_v1:Nat→List Ob)(v19_v1:Nat→AV)(s22_v1:Nat→List Ob)(n22_0_v1:Nat→Int)(v22_1_v1:Nat→AV)
 (z0:S0 0=[Ob.cells [AV.ptag 91,AV.list LK.nil 0 0 []]])
 (hn:n<lf)
 (g0:∀ i0,i0 ≤ n→decide ((↑i0:Int)<(↑F0.length:Int))=true→keep (S0 i0) (indexAddrv Tryd.prog 31 (S0 i0) (lro F0.length 2 (F0.flatMap featC)) (i6 (↑i0:Int)))=some (AV.eaddr (st (a i0)::st (b i0)::(r11 i0)),S0 i0))
 (g1:∀ i0,i0 ≤ n→decide ((↑i0:Int)<(↑F0.length:Int))=true→decide ((↑i0:Int)>0)=true→callv X call false 78 [AV.ref 0 0,AV.int IntKind.u8 32] (S0 i0) 0=some ((v15 i0),(s15 i0)))
 (g2:∀ i0,i0 ≤ n→decide ((↑i0:Int)<(↑F0.length:Int))=true→decide ((↑i0:Int)>0)=true→callv X call false 79 [AV.ref 0 0,st (a i0)] (s15 i0) 0=some (AV.tup [i6 (c i0),(d i0)],(s18 i0)))
 (g3:∀ i0,i0 ≤ n→decide ((↑i0:Int)<(↑F0.length:Int))=true→decide ((↑i0:Int)>0)=true→callv X call false 78 [AV.ref 0 0,AV.int IntKind.u8 61] (s18 i0) 0=some ((v19 i0),(s19 i0)))
 (g4:∀ i0,i0 ≤ n→decide ((↑i0:Int)<(↑F0.length:Int))=true→decide ((↑i0:Int)>0)=true→callv X call false 79 [AV.ref 0 0,st (b i0)] (s19 i0) 0=some (AV.tup [i6 (e i0),(g i0)],(s22 i0)))
 (g5:∀ i0,i0 ≤ n→decide ((↑i0:Int)<(↑F0.length:Int))=true→decide ((↑i0:Int)>0)=false→callv X call false 79 [AV.ref 0 0,st (a i0)] (S0 i0) 0=some (AV.tup [i6 (n18_0_v1 i0),(v18_1_v1 i0)],(s18_v1 i0)))
 (g6:∀ i0,i0 ≤ n→decide ((↑i0:Int)<(↑F0.length:Int))=true→decide ((↑i0:Int)>0)=false→callv X call false 78 [AV.ref 0 0,AV.int IntKind.u8 61] (s18_v1 i0) 0=some ((v19_v1 i0),(s19_v1 i0)))
 (g7:∀ i0,i0 ≤ n→decide ((↑i0:Int)<(↑F0.length:Int))=true→decide ((↑i0:Int)>0)=false→callv X call false 79 [AV.ref 0 0,st (b i0)] (s19_v1 i0) 0=some (AV.tup [i6 (n22_0_v1 i0),(v22_1_v1 i0)],(s22_v1 i0)))
 (e0:∀ i0,i0<n→decide ((↑i0:Int)<(↑F0.length:Int))=true→(↑(i0 + 1):Int)=w6 ((↑i0:Int) + 1))
 (e1:∀ i0,i0<n→decide ((↑i0:Int)<(↑F0.length:Int))=true→S0 (i0 + 1)=(s22 i0))
 (e2:∀ i0,i0<n→decide ((↑i0:Int)<(↑F0.length:Int))=true→S0 (i0 + 1)=(s22_v1 i0))
 (hz:∀ j,j<n→f48_o0 F0 j=0) :
    (f48_o0 F0 n=1→∀ (s24:List Ob),∀ (x24:ByteArray),callv X call false 80 [AV.ref 0 0] (S0 n) 0=some (st x24,s24)→vbody Tryd.prog X call lf fg48 Tryd.f48 (codeOf Tryd.f48) [featsV F0] [] 0=some (st x24,s24)):=by
  have key:∀ j,j<n→_:=fun j hj=>(f48_B0 F0 X call lf S0 j (a j) (b j) (r11 j) (s15 j) (v15 j) (s18 j) (c j) (d j) (s19 j) (v19 j) (s22 j) (e j) (g j) (s18_v1 j) (n18_0_v1 j) (v18_1_v1 j) (s19_v1 j) (v19_v1 j) (s22_v1 j) (n22_0_v1 j) (v22_1_v1 j) (g0 j (Nat.le_of_lt hj)) (g1 j (Nat.le_of_lt hj)) (g2 j (Nat.le_of_lt hj)) (g3 j (Nat.le_of_lt hj)) (g4 j (Nat.le_of_lt hj)) (g5 j (Nat.le_of_lt hj)) (g6 j (Nat.le_of_lt hj)) (g7 j (Nat.le_of_lt hj)) (e0 j hj) (e1 j hj) (e2 j hj)).1 (hz j hj)
  have kn:=f48_X0 F0 X call lf S0 n (a n) (b n) (r11 n) (s15 n) (v15 n) (s18 n) (c n) (d n) (s19 n) (v19 n) (s22 n) (e n) (g n) (s18_v1 n) (n18_0_v1 n) (v18_1_v1 n) (s19_v1 n) (v19_v1 n) (s22_v1 n) (n22_0_v1 n) (v22_1_v1 n) (g0 n (Nat.le_refl n)) (g1 n (Nat.le_refl n)) (g2 n (Nat.le_refl n)) (g3 n (Nat.le_refl n)) (g4 n (Nat.le_refl n)) (g5 n (Nat.le_refl n)) (g6 n (Nat.le_refl n)) (g7 n (Nat.le_refl n))
  exact fun hk s24 x24 q0=>f48_plf F0 X call lf S0 n s24 x24 (f48_L0 F0 S0 X call lf n _ _ z0 hn key (kn hk) (by simp)) q0
end Go.Proofs.Lex
end
