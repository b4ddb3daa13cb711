/- Part 7 of the texts of this claim: the evaluator, and what it says of the program's functions. -/
import Derived.Test.YtfjmemmjjihohaaDoorFirstD
import Derived.Test.YtfjmemmjjihohaaDoorFirstF
import Derived.Test.YtfjmemmjjihohaaDoorFirstC
import Derived.Test.YtfjmemmjjihohaaDoorTie
import Derived.Test.YtfjmemmjjihohaaDoorCards
import Derived.Lib.LaidU8T
import Derived.Lib.LaidIn
import Derived.Lay
import Derived.SevenTiedAt
import Derived.HandedShaped
import Derived.Shelf.Vars
set_option linter.unusedSectionVars false
set_option linter.unusedVariables false
set_option linter.unusedSimpArgs false
set_option linter.constructorNameAsVariable false
/- Signature: few, walked (printed) -/
section
open Go Go.Vm Go.Proofs
namespace Go.Proofs.Sig
theorem f13_pt (x0:Sgn)(X:Ext)(call:Caller)(lf:Nat)
 (h0:decide ((↑x0.sorts.length:Int)>300)=true):vbody Tryd.prog X call lf noFg Tryd.f13 (codeOf Tryd.f13) [AV.agg (sgnC x0)] [] 0=some (bo false,[Ob.cells (gQ x0)]) :=
  along_sound (ans:=[(7,Ans.b true)]) (by kernel_rfl) (ai h0 trivial)
theorem f13_pft (x0:Sgn)(X:Ext)(call:Caller)(lf:Nat)
 (h0:decide ((↑x0.sorts.length:Int)>300)=false)
 (h1:decide ((↑x0.consts.length:Int)>300)=true):vbody Tryd.prog X call lf noFg Tryd.f13 (codeOf Tryd.f13) [AV.agg (sgnC x0)] [] 0=some (bo false,[Ob.cells (gQ x0)]) :=
  along_sound (ans:=[(7,Ans.b false),(16,Ans.b true)]) (by kernel_rfl) (ai h0 (ai h1 trivial))
theorem f13_pfft (x0:Sgn)(X:Ext)(call:Caller)(lf:Nat)
 (h0:decide ((↑x0.sorts.length:Int)>300)=false)
 (h1:decide ((↑x0.consts.length:Int)>300)=false)
 (h2:decide ((↑x0.preds.length:Int)>300)=true):vbody Tryd.prog X call lf noFg Tryd.f13 (codeOf Tryd.f13) [AV.agg (sgnC x0)] [] 0=some (bo false,[Ob.cells (gQ x0)]) :=
  along_sound (ans:=[(7,Ans.b false),(16,Ans.b false),(26,Ans.b true)]) (by kernel_rfl) (ai h0 (ai h1 (ai h2 trivial)))
theorem f13_pffft (x0:Sgn)(X:Ext)(call:Caller)(lf:Nat)
 (h0:decide ((↑x0.sorts.length:Int)>300)=false)
 (h1:decide ((↑x0.consts.length:Int)>300)=false)
 (h2:decide ((↑x0.preds.length:Int)>300)=false)
 (h3:decide (w6 (w6 ((↑x0.sorts.length:Int) + (↑x0.consts.length:Int)) + (↑x0.preds.length:Int))>300)=true):vbody Tryd.prog X call lf noFg Tryd.f13 (codeOf Tryd.f13) [AV.agg (sgnC x0)] [] 0=some (bo false,[Ob.cells (gQ x0)]) :=
  along_sound (ans:=[(7,Ans.b false),(16,Ans.b false),(26,Ans.b false),(52,Ans.b true)]) (by kernel_rfl) (ai h0 (ai h1 (ai h2 (ai h3 trivial))))
def f13_F0 (x0:Sgn)(i0:Nat):St :=
  stOf 123 [2,37,38,39,40,41,42,43,44,45,46,47,48,49,50] [(0,AV.agg (gQ x0)),(1,AV.ref 0 0),(3,i6 (↑i0:Int)),(7,AV.ref 0 0),(8,sQ x0.sorts),(9,i6 (↑x0.sorts.length:Int)),(10,bo false),(11,bo false),(12,AV.ref 0 1),(13,cQ x0.consts),(14,i6 (↑x0.consts.length:Int)),(15,bo false),(16,bo false),(17,bo false),(18,AV.ref 0 2),(19,pQ x0.preds),(20,i6 (↑x0.preds.length:Int)),(21,bo false),(22,bo false),(23,bo false),(24,AV.ref 0 0),(25,sQ x0.sorts),(26,i6 (↑x0.sorts.length:Int)),(27,AV.ref 0 1),(28,cQ x0.consts),(29,i6 (↑x0.consts.length:Int)),(30,i6 (w6 ((↑x0.sorts.length:Int) + (↑x0.consts.length:Int)))),(31,AV.ref 0 2),(32,pQ x0.preds),(33,i6 (↑x0.preds.length:Int)),(34,i6 (w6 (w6 ((↑x0.sorts.length:Int) + (↑x0.consts.length:Int)) + (↑x0.preds.length:Int)))),(35,bo false),(36,bo false)] [Ob.cells (gQ x0)]
def f13_S0 (x0:Sgn):St :=
  stOf 123 [] [(0,AV.agg (gQ x0)),(1,AV.ref 0 0),(2,bo false),(3,i6 0),(7,AV.ref 0 0),(8,sQ x0.sorts),(9,i6 (↑x0.sorts.length:Int)),(10,bo false),(11,bo false),(12,AV.ref 0 1),(13,cQ x0.consts),(14,i6 (↑x0.consts.length:Int)),(15,bo false),(16,bo false),(17,bo false),(18,AV.ref 0 2),(19,pQ x0.preds),(20,i6 (↑x0.preds.length:Int)),(21,bo false),(22,bo false),(23,bo false),(24,AV.ref 0 0),(25,sQ x0.sorts),(26,i6 (↑x0.sorts.length:Int)),(27,AV.ref 0 1),(28,cQ x0.consts),(29,i6 (↑x0.consts.length:Int)),(30,i6 (w6 ((↑x0.sorts.length:Int) + (↑x0.consts.length:Int)))),(31,AV.ref 0 2),(32,pQ x0.preds),(33,i6 (↑x0.preds.length:Int)),(34,i6 (w6 (w6 ((↑x0.sorts.length:Int) + (↑x0.consts.length:Int)) + (↑x0.preds.length:Int)))),(35,bo false),(36,bo false)] [Ob.cells (gQ x0)]
abbrev f13_D0:List Nat:=[43,42,2,50,49,48,47,46,45,44,41,40,39,38,37]
theorem f13_L0 (x0:Sgn)(X:Ext)(call:Caller)(lf n:Nat)(x:Ex) (S' : St)
 (hn:n<lf)
 (hs:∀ j,j<n→∃ Sx,vexec Tryd.prog X call lf 0 noFg (loopN Tryd.f13 0) (f13_F0 x0 j)=some (Ex.normal,Sx)∧forget f13_D0 Sx=(f13_F0 x0 (j + 1)))
 (he:vexec Tryd.prog X call lf 0 noFg (loopN Tryd.f13 0) (f13_F0 x0 n)=some (x,S'))
 (hx:x ≠ Ex.normal):vexec Tryd.prog X call lf 0 noFg (Go.Code.loop (loopN Tryd.f13 0)) (f13_S0 x0)=some (x,S') :=
  loop_runK (by kernel_rfl) (fun j=>(f13_F0 x0 j)) n hn (by show forget f13_D0 (f13_S0 x0)=(f13_F0 x0 0); unfold f13_F0; show _=_; kernel_rfl) hs he hx
def f13_S1 (x0:Sgn)(i0:Nat)(a:ByteArray)(r47:List AV):St :=
  stOf 123 [42,43] [(0,AV.agg (gQ x0)),(1,AV.ref 0 0),(2,bo false),(3,i6 (↑i0:Int)),(7,AV.ref 0 0),(8,sQ x0.sorts),(9,i6 (↑x0.sorts.length:Int)),(10,bo false),(11,bo false),(12,AV.ref 0 1),(13,cQ x0.consts),(14,i6 (↑x0.consts.length:Int)),(15,bo false),(16,bo false),(17,bo false),(18,AV.ref 0 2),(19,pQ x0.preds),(20,i6 (↑x0.preds.length:Int)),(21,bo false),(22,bo false),(23,bo false),(24,AV.ref 0 0),(25,sQ x0.sorts),(26,i6 (↑x0.sorts.length:Int)),(27,AV.ref 0 1),(28,cQ x0.consts),(29,i6 (↑x0.consts.length:Int)),(30,i6 (w6 ((↑x0.sorts.length:Int) + (↑x0.consts.length:Int)))),(31,AV.ref 0 2),(32,pQ x0.preds),(33,i6 (↑x0.preds.length:Int)),(34,i6 (w6 (w6 ((↑x0.sorts.length:Int) + (↑x0.consts.length:Int)) + (↑x0.preds.length:Int)))),(35,bo false),(36,bo false),(37,i6 (↑i0:Int)),(38,AV.ref 0 0),(39,sQ x0.sorts),(40,i6 (↑x0.sorts.length:Int)),(41,bo true),(44,AV.ref 0 0),(45,sQ x0.sorts),(46,i6 (↑i0:Int)),(47,AV.eaddr (st a::r47)),(48,st a),(49,i6 (↑(ByteArray.size a):Int)),(50,bo true)] [Ob.cells (gQ x0)]
theorem f13_r0_tt (x0:Sgn)(X:Ext)(call:Caller)(lf i0:Nat)(a:ByteArray)(r47:List AV)
 (h0:decide ((↑i0:Int)<(↑x0.sorts.length:Int))=true)
 (h1:kiq 22 [Ob.cells (gQ x0)] (sQ x0.sorts) (i6 (↑i0:Int)) (st a::r47))
 (h2:decide ((↑(ByteArray.size a):Int)>40)=true):vexec Tryd.prog X call lf 0 noFg (loopN Tryd.f13 0) (f13_F0 x0 i0)=some (Ex.ret,(f13_S1 x0 i0 a r47)) :=
  around_sound (ans:=[(5,Ans.b true),(11,Ans.v (AV.eaddr (st a::r47))),(14,Ans.b true)]) (by kernel_rfl) (ai h0 (ai h1 (ai h2 trivial)))
theorem f13_pffffltt (x0:Sgn)(X:Ext)(call:Caller)(lf i0:Nat)(a:ByteArray)(r47:List AV)
 (h0:decide ((↑x0.sorts.length:Int)>300)=false)
 (h1:decide ((↑x0.consts.length:Int)>300)=false)
 (h2:decide ((↑x0.preds.length:Int)>300)=false)
 (h3:decide (w6 (w6 ((↑x0.sorts.length:Int) + (↑x0.consts.length:Int)) + (↑x0.preds.length:Int))>300)=false)
 (h4:vexec Tryd.prog X call lf 0 noFg (Code.loop (loopN Tryd.f13 0)) (f13_S0 x0)=some (Ex.ret,(f13_S1 x0 i0 a r47))):vbody Tryd.prog X call lf noFg Tryd.f13 (codeOf Tryd.f13) [AV.agg (sgnC x0)] [] 0=some (bo false,[Ob.cells (gQ x0)]) :=
  along_sound (ans:=[(7,Ans.b false),(16,Ans.b false),(26,Ans.b false),(52,Ans.b false),(57,Ans.l Ex.ret (f13_S1 x0 i0 a r47))]) (by kernel_rfl) (ai h0 (ai h1 (ai h2 (ai h3 (ai h4 trivial)))))
theorem f13_s0_tf (x0:Sgn)(X:Ext)(call:Caller)(lf i0:Nat)(a:ByteArray)(r47:List AV)
 (h0:decide ((↑i0:Int)<(↑x0.sorts.length:Int))=true)
 (h1:kiq 22 [Ob.cells (gQ x0)] (sQ x0.sorts) (i6 (↑i0:Int)) (st a::r47))
 (h2:decide ((↑(ByteArray.size a):Int)>40)=false)
 (e0:(↑(i0 + 1):Int)=w6 ((↑i0:Int) + 1)):∃ Sx,vexec Tryd.prog X call lf 0 noFg (loopN Tryd.f13 0) (f13_F0 x0 i0)=some (Ex.normal,Sx)∧forget f13_D0 Sx=(f13_F0 x0 (i0 + 1)) :=
  ⟨stOf 123 [2] [(0,AV.agg (gQ x0)),(1,AV.ref 0 0),(3,i6 (w6 ((↑i0:Int) + 1))),(7,AV.ref 0 0),(8,sQ x0.sorts),(9,i6 (↑x0.sorts.length:Int)),(10,bo false),(11,bo false),(12,AV.ref 0 1),(13,cQ x0.consts),(14,i6 (↑x0.consts.length:Int)),(15,bo false),(16,bo false),(17,bo false),(18,AV.ref 0 2),(19,pQ x0.preds),(20,i6 (↑x0.preds.length:Int)),(21,bo false),(22,bo false),(23,bo false),(24,AV.ref 0 0),(25,sQ x0.sorts),(26,i6 (↑x0.sorts.length:Int)),(27,AV.ref 0 1),(28,cQ x0.consts),(29,i6 (↑x0.consts.length:Int)),(30,i6 (w6 ((↑x0.sorts.length:Int) + (↑x0.consts.length:Int)))),(31,AV.ref 0 2),(32,pQ x0.preds),(33,i6 (↑x0.preds.length:Int)),(34,i6 (w6 (w6 ((↑x0.sorts.length:Int) + (↑x0.consts.length:Int)) + (↑x0.preds.length:Int)))),(35,bo false),(36,bo false),(37,i6 (↑i0:Int)),(38,AV.ref 0 0),(39,sQ x0.sorts),(40,i6 (↑x0.sorts.length:Int)),(41,bo true),(42,i6 (↑i0:Int)),(43,i6 (w6 ((↑i0:Int) + 1))),(44,AV.ref 0 0),(45,sQ x0.sorts),(46,i6 (↑i0:Int)),(47,AV.eaddr (st a::r47)),(48,st a),(49,i6 (↑(ByteArray.size a):Int)),(50,bo false)] [Ob.cells (gQ x0)],around_sound (ans:=[(5,Ans.b true),(11,Ans.v (AV.eaddr (st a::r47))),(14,Ans.b false)]) (by kernel_rfl) (ai h0 (ai h1 (ai h2 trivial))),by unfold f13_F0; rw [e0]; show _=_; kernel_rfl⟩
def f13_S2 (x0:Sgn)(i0:Nat):St :=
  stOf 123 [2,42,43,44,45,46,47,48,49,50] [(0,AV.agg (gQ x0)),(1,AV.ref 0 0),(3,i6 (↑i0:Int)),(7,AV.ref 0 0),(8,sQ x0.sorts),(9,i6 (↑x0.sorts.length:Int)),(10,bo false),(11,bo false),(12,AV.ref 0 1),(13,cQ x0.consts),(14,i6 (↑x0.consts.length:Int)),(15,bo false),(16,bo false),(17,bo false),(18,AV.ref 0 2),(19,pQ x0.preds),(20,i6 (↑x0.preds.length:Int)),(21,bo false),(22,bo false),(23,bo false),(24,AV.ref 0 0),(25,sQ x0.sorts),(26,i6 (↑x0.sorts.length:Int)),(27,AV.ref 0 1),(28,cQ x0.consts),(29,i6 (↑x0.consts.length:Int)),(30,i6 (w6 ((↑x0.sorts.length:Int) + (↑x0.consts.length:Int)))),(31,AV.ref 0 2),(32,pQ x0.preds),(33,i6 (↑x0.preds.length:Int)),(34,i6 (w6 (w6 ((↑x0.sorts.length:Int) + (↑x0.consts.length:Int)) + (↑x0.preds.length:Int)))),(35,bo false),(36,bo false),(37,i6 (↑i0:Int)),(38,AV.ref 0 0),(39,sQ x0.sorts),(40,i6 (↑x0.sorts.length:Int)),(41,bo false)] [Ob.cells (gQ x0)]
theorem f13_r0_f (x0:Sgn)(X:Ext)(call:Caller)(lf i0:Nat)
 (h0:decide ((↑i0:Int)<(↑x0.sorts.length:Int))=false):vexec Tryd.prog X call lf 0 noFg (loopN Tryd.f13 0) (f13_F0 x0 i0)=some (Ex.exit 0,(f13_S2 x0 i0)) :=
  around_sound (ans:=[(5,Ans.b false)]) (by kernel_rfl) (ai h0 trivial)
def f13_F1 (x0:Sgn)(i0 i1:Nat):St :=
  stOf 123 [2,42,43,44,45,46,47,48,49,50,51,52,53,54,55,56,57,58,59,60,61,62,63,64,65,66,67,68,69,70,71,72,73,74,75] [(0,AV.agg (gQ x0)),(1,AV.ref 0 0),(3,i6 (↑i0:Int)),(4,i6 (↑i1:Int)),(7,AV.ref 0 0),(8,sQ x0.sorts),(9,i6 (↑x0.sorts.length:Int)),(10,bo false),(11,bo false),(12,AV.ref 0 1),(13,cQ x0.consts),(14,i6 (↑x0.consts.length:Int)),(15,bo false),(16,bo false),(17,bo false),(18,AV.ref 0 2),(19,pQ x0.preds),(20,i6 (↑x0.preds.length:Int)),(21,bo false),(22,bo false),(23,bo false),(24,AV.ref 0 0),(25,sQ x0.sorts),(26,i6 (↑x0.sorts.length:Int)),(27,AV.ref 0 1),(28,cQ x0.consts),(29,i6 (↑x0.consts.length:Int)),(30,i6 (w6 ((↑x0.sorts.length:Int) + (↑x0.consts.length:Int)))),(31,AV.ref 0 2),(32,pQ x0.preds),(33,i6 (↑x0.preds.length:Int)),(34,i6 (w6 (w6 ((↑x0.sorts.length:Int) + (↑x0.consts.length:Int)) + (↑x0.preds.length:Int)))),(35,bo false),(36,bo false),(37,i6 (↑i0:Int)),(38,AV.ref 0 0),(39,sQ x0.sorts),(40,i6 (↑x0.sorts.length:Int)),(41,bo false)] [Ob.cells (gQ x0)]
def f13_S3 (x0:Sgn)(i0:Nat):St :=
  stOf 123 [2,42,43,44,45,46,47,48,49,50] [(0,AV.agg (gQ x0)),(1,AV.ref 0 0),(3,i6 (↑i0:Int)),(4,i6 0),(7,AV.ref 0 0),(8,sQ x0.sorts),(9,i6 (↑x0.sorts.length:Int)),(10,bo false),(11,bo false),(12,AV.ref 0 1),(13,cQ x0.consts),(14,i6 (↑x0.consts.length:Int)),(15,bo false),(16,bo false),(17,bo false),(18,AV.ref 0 2),(19,pQ x0.preds),(20,i6 (↑x0.preds.length:Int)),(21,bo false),(22,bo false),(23,bo false),(24,AV.ref 0 0),(25,sQ x0.sorts),(26,i6 (↑x0.sorts.length:Int)),(27,AV.ref 0 1),(28,cQ x0.consts),(29,i6 (↑x0.consts.length:Int)),(30,i6 (w6 ((↑x0.sorts.length:Int) + (↑x0.consts.length:Int)))),(31,AV.ref 0 2),(32,pQ x0.preds),(33,i6 (↑x0.preds.length:Int)),(34,i6 (w6 (w6 ((↑x0.sorts.length:Int) + (↑x0.consts.length:Int)) + (↑x0.preds.length:Int)))),(35,bo false),(36,bo false),(37,i6 (↑i0:Int)),(38,AV.ref 0 0),(39,sQ x0.sorts),(40,i6 (↑x0.sorts.length:Int)),(41,bo false)] [Ob.cells (gQ x0)]
abbrev f13_D1:List Nat:=[57,56,2,75,74,73,72,71,70,69,68,67,66,65,64,63,62,61,60,59,58,55,54,53,52,51]
theorem f13_L1 (x0:Sgn)(i0:Nat)(X:Ext)(call:Caller)(lf n:Nat)(x:Ex) (S' : St)
 (hn:n<lf)
 (hs:∀ j,j<n→∃ Sx,vexec Tryd.prog X call lf 0 noFg (loopN Tryd.f13 1) (f13_F1 x0 i0 j)=some (Ex.normal,Sx)∧forget f13_D1 Sx=(f13_F1 x0 i0 (j + 1)))
 (he:vexec Tryd.prog X call lf 0 noFg (loopN Tryd.f13 1) (f13_F1 x0 i0 n)=some (x,S'))
 (hx:x ≠ Ex.normal):vexec Tryd.prog X call lf 0 noFg (Go.Code.loop (loopN Tryd.f13 1)) (f13_S3 x0 i0)=some (x,S') :=
  loop_runK (by kernel_rfl) (fun j=>(f13_F1 x0 i0 j)) n hn (by show forget f13_D1 (f13_S3 x0 i0)=(f13_F1 x0 i0 0); unfold f13_F1; show _=_; kernel_rfl) hs he hx
def f13_S4 (x0:Sgn)(i0 i1:Nat)(a b:ByteArray)(r61:List AV):St :=
  stOf 123 [42,43,44,45,46,47,48,49,50,56,57] [(0,AV.agg (gQ x0)),(1,AV.ref 0 0),(2,bo false),(3,i6 (↑i0:Int)),(4,i6 (↑i1:Int)),(7,AV.ref 0 0),(8,sQ x0.sorts),(9,i6 (↑x0.sorts.length:Int)),(10,bo false),(11,bo false),(12,AV.ref 0 1),(13,cQ x0.consts),(14,i6 (↑x0.consts.length:Int)),(15,bo false),(16,bo false),(17,bo false),(18,AV.ref 0 2),(19,pQ x0.preds),(20,i6 (↑x0.preds.length:Int)),(21,bo false),(22,bo false),(23,bo false),(24,AV.ref 0 0),(25,sQ x0.sorts),(26,i6 (↑x0.sorts.length:Int)),(27,AV.ref 0 1),(28,cQ x0.consts),(29,i6 (↑x0.consts.length:Int)),(30,i6 (w6 ((↑x0.sorts.length:Int) + (↑x0.consts.length:Int)))),(31,AV.ref 0 2),(32,pQ x0.preds),(33,i6 (↑x0.preds.length:Int)),(34,i6 (w6 (w6 ((↑x0.sorts.length:Int) + (↑x0.consts.length:Int)) + (↑x0.preds.length:Int)))),(35,bo false),(36,bo false),(37,i6 (↑i0:Int)),(38,AV.ref 0 0),(39,sQ x0.sorts),(40,i6 (↑x0.sorts.length:Int)),(41,bo false),(51,i6 (↑i1:Int)),(52,AV.ref 0 1),(53,cQ x0.consts),(54,i6 (↑x0.consts.length:Int)),(55,bo true),(58,AV.ref 0 1),(59,cQ x0.consts),(60,i6 (↑i1:Int)),(61,AV.eaddr (st a::st b::r61)),(62,AV.eaddr (st a::st b::r61)),(63,st a),(64,i6 (↑(ByteArray.size a):Int)),(65,bo true),(66,bo true),(75,bo true)] [Ob.cells (gQ x0)]
theorem f13_r1_tt (x0:Sgn)(X:Ext)(call:Caller)(lf i0 i1:Nat)(a c:ByteArray)(r61:List AV)
 (h0:decide ((↑i1:Int)<(↑x0.consts.length:Int))=true)
 (h1:kiq 23 [Ob.cells (gQ x0)] (cQ x0.consts) (i6 (↑i1:Int)) (st a::st c::r61))
 (h2:decide ((↑(ByteArray.size a):Int)>40)=true):vexec Tryd.prog X call lf 0 noFg (loopN Tryd.f13 1) (f13_F1 x0 i0 i1)=some (Ex.ret,(f13_S4 x0 i0 i1 a c r61)) :=
  around_sound (ans:=[(5,Ans.b true),(11,Ans.v (AV.eaddr (st a::st c::r61))),(15,Ans.b true)]) (by kernel_rfl) (ai h0 (ai h1 (ai h2 trivial)))
theorem f13_pfffflfltt (x0:Sgn)(X:Ext)(call:Caller)(lf i0 i1:Nat)(a c:ByteArray)(r61:List AV)
 (h0:decide ((↑x0.sorts.length:Int)>300)=false)
 (h1:decide ((↑x0.consts.length:Int)>300)=false)
 (h2:decide ((↑x0.preds.length:Int)>300)=false)
 (h3:decide (w6 (w6 ((↑x0.sorts.length:Int) + (↑x0.consts.length:Int)) + (↑x0.preds.length:Int))>300)=false)
 (h4:vexec Tryd.prog X call lf 0 noFg (Code.loop (loopN Tryd.f13 0)) (f13_S0 x0)=some (Ex.exit 0,(f13_S2 x0 i0)))
 (h5:vexec Tryd.prog X call lf 0 noFg (Code.loop (loopN Tryd.f13 1)) (f13_S3 x0 i0)=some (Ex.ret,(f13_S4 x0 i0 i1 a c r61))):vbody Tryd.prog X call lf noFg Tryd.f13 (codeOf Tryd.f13) [AV.agg (sgnC x0)] [] 0=some (bo false,[Ob.cells (gQ x0)]) :=
  along_sound (ans:=[(7,Ans.b false),(16,Ans.b false),(26,Ans.b false),(52,Ans.b false),(57,Ans.l (Ex.exit 0) (f13_S2 x0 i0)),(60,Ans.l Ex.ret (f13_S4 x0 i0 i1 a c r61))]) (by kernel_rfl) (ai h0 (ai h1 (ai h2 (ai h3 (ai h4 (ai h5 trivial))))))
def f13_S5 (x0:Sgn)(i0 i1:Nat)(a b:ByteArray)(r61:List AV)(c d:ByteArray)(r70:List AV):St :=
  stOf 123 [42,43,44,45,46,47,48,49,50,56,57] [(0,AV.agg (gQ x0)),(1,AV.ref 0 0),(2,bo false),(3,i6 (↑i0:Int)),(4,i6 (↑i1:Int)),(7,AV.ref 0 0),(8,sQ x0.sorts),(9,i6 (↑x0.sorts.length:Int)),(10,bo false),(11,bo false),(12,AV.ref 0 1),(13,cQ x0.consts),(14,i6 (↑x0.consts.length:Int)),(15,bo false),(16,bo false),(17,bo false),(18,AV.ref 0 2),(19,pQ x0.preds),(20,i6 (↑x0.preds.length:Int)),(21,bo false),(22,bo false),(23,bo false),(24,AV.ref 0 0),(25,sQ x0.sorts),(26,i6 (↑x0.sorts.length:Int)),(27,AV.ref 0 1),(28,cQ x0.consts),(29,i6 (↑x0.consts.length:Int)),(30,i6 (w6 ((↑x0.sorts.length:Int) + (↑x0.consts.length:Int)))),(31,AV.ref 0 2),(32,pQ x0.preds),(33,i6 (↑x0.preds.length:Int)),(34,i6 (w6 (w6 ((↑x0.sorts.length:Int) + (↑x0.consts.length:Int)) + (↑x0.preds.length:Int)))),(35,bo false),(36,bo false),(37,i6 (↑i0:Int)),(38,AV.ref 0 0),(39,sQ x0.sorts),(40,i6 (↑x0.sorts.length:Int)),(41,bo false),(51,i6 (↑i1:Int)),(52,AV.ref 0 1),(53,cQ x0.consts),(54,i6 (↑x0.consts.length:Int)),(55,bo true),(58,AV.ref 0 1),(59,cQ x0.consts),(60,i6 (↑i1:Int)),(61,AV.eaddr (st a::st b::r61)),(62,AV.eaddr (st a::st b::r61)),(63,st a),(64,i6 (↑(ByteArray.size a):Int)),(65,bo false),(66,bo false),(67,AV.ref 0 1),(68,cQ x0.consts),(69,i6 (↑i1:Int)),(70,AV.eaddr (st c::st d::r70)),(71,AV.eaddr (st d::r70)),(72,st d),(73,i6 (↑(ByteArray.size d):Int)),(74,bo true),(75,bo true)] [Ob.cells (gQ x0)]
theorem f13_r1_tft (x0:Sgn)(X:Ext)(call:Caller)(lf i0 i1:Nat)(a c:ByteArray)(r61:List AV)(d e:ByteArray)(r70:List AV)
 (h0:decide ((↑i1:Int)<(↑x0.consts.length:Int))=true)
 (h1:kiq 23 [Ob.cells (gQ x0)] (cQ x0.consts) (i6 (↑i1:Int)) (st a::st c::r61))
 (h2:decide ((↑(ByteArray.size a):Int)>40)=false)
 (h3:kiq 23 [Ob.cells (gQ x0)] (cQ x0.consts) (i6 (↑i1:Int)) (st d::st e::r70))
 (h4:decide ((↑(ByteArray.size e):Int)>40)=true):vexec Tryd.prog X call lf 0 noFg (loopN Tryd.f13 1) (f13_F1 x0 i0 i1)=some (Ex.ret,(f13_S5 x0 i0 i1 a c r61 d e r70)) :=
  around_sound (ans:=[(5,Ans.b true),(11,Ans.v (AV.eaddr (st a::st c::r61))),(15,Ans.b false),(24,Ans.v (AV.eaddr (st d::st e::r70))),(32,Ans.b true)]) (by kernel_rfl) (ai h0 (ai h1 (ai h2 (ai h3 (ai h4 trivial)))))
theorem f13_pfffflfltft (x0:Sgn)(X:Ext)(call:Caller)(lf i0 i1:Nat)(a c:ByteArray)(r61:List AV)(d e:ByteArray)(r70:List AV)
 (h0:decide ((↑x0.sorts.length:Int)>300)=false)
 (h1:decide ((↑x0.consts.length:Int)>300)=false)
 (h2:decide ((↑x0.preds.length:Int)>300)=false)
 (h3:decide (w6 (w6 ((↑x0.sorts.length:Int) + (↑x0.consts.length:Int)) + (↑x0.preds.length:Int))>300)=false)
 (h4:vexec Tryd.prog X call lf 0 noFg (Code.loop (loopN Tryd.f13 0)) (f13_S0 x0)=some (Ex.exit 0,(f13_S2 x0 i0)))
 (h5:vexec Tryd.prog X call lf 0 noFg (Code.loop (loopN Tryd.f13 1)) (f13_S3 x0 i0)=some (Ex.ret,(f13_S5 x0 i0 i1 a c r61 d e r70))):vbody Tryd.prog X call lf noFg Tryd.f13 (codeOf Tryd.f13) [AV.agg (sgnC x0)] [] 0=some (bo false,[Ob.cells (gQ x0)]) :=
  along_sound (ans:=[(7,Ans.b false),(16,Ans.b false),(26,Ans.b false),(52,Ans.b false),(57,Ans.l (Ex.exit 0) (f13_S2 x0 i0)),(60,Ans.l Ex.ret (f13_S5 x0 i0 i1 a c r61 d e r70))]) (by kernel_rfl) (ai h0 (ai h1 (ai h2 (ai h3 (ai h4 (ai h5 trivial))))))
theorem f13_s1_tff (x0:Sgn)(X:Ext)(call:Caller)(lf i0 i1:Nat)(a c:ByteArray)(r61:List AV)(d e:ByteArray)(r70:List AV)
 (h0:decide ((↑i1:Int)<(↑x0.consts.length:Int))=true)
 (h1:kiq 23 [Ob.cells (gQ x0)] (cQ x0.consts) (i6 (↑i1:Int)) (st a::st c::r61))
 (h2:decide ((↑(ByteArray.size a):Int)>40)=false)
 (h3:kiq 23 [Ob.cells (gQ x0)] (cQ x0.consts) (i6 (↑i1:Int)) (st d::st e::r70))
 (h4:decide ((↑(ByteArray.size e):Int)>40)=false)
 (e0:(↑(i1 + 1):Int)=w6 ((↑i1:Int) + 1)):∃ Sx,vexec Tryd.prog X call lf 0 noFg (loopN Tryd.f13 1) (f13_F1 x0 i0 i1)=some (Ex.normal,Sx)∧forget f13_D1 Sx=(f13_F1 x0 i0 (i1 + 1)) :=
  ⟨stOf 123 [2,42,43,44,45,46,47,48,49,50] [(0,AV.agg (gQ x0)),(1,AV.ref 0 0),(3,i6 (↑i0:Int)),(4,i6 (w6 ((↑i1:Int) + 1))),(7,AV.ref 0 0),(8,sQ x0.sorts),(9,i6 (↑x0.sorts.length:Int)),(10,bo false),(11,bo false),(12,AV.ref 0 1),(13,cQ x0.consts),(14,i6 (↑x0.consts.length:Int)),(15,bo false),(16,bo false),(17,bo false),(18,AV.ref 0 2),(19,pQ x0.preds),(20,i6 (↑x0.preds.length:Int)),(21,bo false),(22,bo false),(23,bo false),(24,AV.ref 0 0),(25,sQ x0.sorts),(26,i6 (↑x0.sorts.length:Int)),(27,AV.ref 0 1),(28,cQ x0.consts),(29,i6 (↑x0.consts.length:Int)),(30,i6 (w6 ((↑x0.sorts.length:Int) + (↑x0.consts.length:Int)))),(31,AV.ref 0 2),(32,pQ x0.preds),(33,i6 (↑x0.preds.length:Int)),(34,i6 (w6 (w6 ((↑x0.sorts.length:Int) + (↑x0.consts.length:Int)) + (↑x0.preds.length:Int)))),(35,bo false),(36,bo false),(37,i6 (↑i0:Int)),(38,AV.ref 0 0),(39,sQ x0.sorts),(40,i6 (↑x0.sorts.length:Int)),(41,bo false),(51,i6 (↑i1:Int)),(52,AV.ref 0 1),(53,cQ x0.consts),(54,i6 (↑x0.consts.length:Int)),(55,bo true),(56,i6 (↑i1:Int)),(57,i6 (w6 ((↑i1:Int) + 1))),(58,AV.ref 0 1),(59,cQ x0.consts),(60,i6 (↑i1:Int)),(61,AV.eaddr (st a::st c::r61)),(62,AV.eaddr (st a::st c::r61)),(63,st a),(64,i6 (↑(ByteArray.size a):Int)),(65,bo false),(66,bo false),(67,AV.ref 0 1),(68,cQ x0.consts),(69,i6 (↑i1:Int)),(70,AV.eaddr (st d::st e::r70)),(71,AV.eaddr (st e::r70)),(72,st e),(73,i6 (↑(ByteArray.size e):Int)),(74,bo false),(75,bo false)] [Ob.cells (gQ x0)],around_sound (ans:=[(5,Ans.b true),(11,Ans.v (AV.eaddr (st a::st c::r61))),(15,Ans.b false),(24,Ans.v (AV.eaddr (st d::st e::r70))),(32,Ans.b false)]) (by kernel_rfl) (ai h0 (ai h1 (ai h2 (ai h3 (ai h4 trivial))))),by unfold f13_F1; rw [e0]; show _=_; kernel_rfl⟩
def f13_S6 (x0:Sgn)(i0 i1:Nat):St :=
  stOf 123 [2,42,43,44,45,46,47,48,49,50,56,57,58,59,60,61,62,63,64,65,66,67,68,69,70,71,72,73,74,75] [(0,AV.agg (gQ x0)),(1,AV.ref 0 0),(3,i6 (↑i0:Int)),(4,i6 (↑i1:Int)),(7,AV.ref 0 0),(8,sQ x0.sorts),(9,i6 (↑x0.sorts.length:Int)),(10,bo false),(11,bo false),(12,AV.ref 0 1),(13,cQ x0.consts),(14,i6 (↑x0.consts.length:Int)),(15,bo false),(16,bo false),(17,bo false),(18,AV.ref 0 2),(19,pQ x0.preds),(20,i6 (↑x0.preds.length:Int)),(21,bo false),(22,bo false),(23,bo false),(24,AV.ref 0 0),(25,sQ x0.sorts),(26,i6 (↑x0.sorts.length:Int)),(27,AV.ref 0 1),(28,cQ x0.consts),(29,i6 (↑x0.consts.length:Int)),(30,i6 (w6 ((↑x0.sorts.length:Int) + (↑x0.consts.length:Int)))),(31,AV.ref 0 2),(32,pQ x0.preds),(33,i6 (↑x0.preds.length:Int)),(34,i6 (w6 (w6 ((↑x0.sorts.length:Int) + (↑x0.consts.length:Int)) + (↑x0.preds.length:Int)))),(35,bo false),(36,bo false),(37,i6 (↑i0:Int)),(38,AV.ref 0 0),(39,sQ x0.sorts),(40,i6 (↑x0.sorts.length:Int)),(41,bo false),(51,i6 (↑i1:Int)),(52,AV.ref 0 1),(53,cQ x0.consts),(54,i6 (↑x0.consts.length:Int)),(55,bo false)] [Ob.cells (gQ x0)]
theorem f13_r1_f (x0:Sgn)(X:Ext)(call:Caller)(lf i0 i1:Nat)
 (h0:decide ((↑i1:Int)<(↑x0.consts.length:Int))=false):vexec Tryd.prog X call lf 0 noFg (loopN Tryd.f13 1) (f13_F1 x0 i0 i1)=some (Ex.exit 2,(f13_S6 x0 i0 i1)) :=
  around_sound (ans:=[(5,Ans.b false)]) (by kernel_rfl) (ai h0 trivial)
def f13_F2 (x0:Sgn)(i0 i1 i2:Nat):St :=
  stOf 123 [2,6,42,43,44,45,46,47,48,49,50,56,57,58,59,60,61,62,63,64,65,66,67,68,69,70,71,72,73,74,75,76,77,78,79,80,81,82,83,84,85,86,87,88,89,90,91,92,93,94,95,96,97,98,99,100,101,102,103,104,105,106,107,108,109,110,111,112,113,114,115,116,117,118,119,120,121,122] [(0,AV.agg (gQ x0)),(1,AV.ref 0 0),(3,i6 (↑i0:Int)),(4,i6 (↑i1:Int)),(5,i6 (↑i2:Int)),(7,AV.ref 0 0),(8,sQ x0.sorts),(9,i6 (↑x0.sorts.length:Int)),(10,bo false),(11,bo false),(12,AV.ref 0 1),(13,cQ x0.consts),(14,i6 (↑x0.consts.length:Int)),(15,bo false),(16,bo false),(17,bo false),(18,AV.ref 0 2),(19,pQ x0.preds),(20,i6 (↑x0.preds.length:Int)),(21,bo false),(22,bo false),(23,bo false),(24,AV.ref 0 0),(25,sQ x0.sorts),(26,i6 (↑x0.sorts.length:Int)),(27,AV.ref 0 1),(28,cQ x0.consts),(29,i6 (↑x0.consts.length:Int)),(30,i6 (w6 ((↑x0.sorts.length:Int) + (↑x0.consts.length:Int)))),(31,AV.ref 0 2),(32,pQ x0.preds),(33,i6 (↑x0.preds.length:Int)),(34,i6 (w6 (w6 ((↑x0.sorts.length:Int) + (↑x0.consts.length:Int)) + (↑x0.preds.length:Int)))),(35,bo false),(36,bo false),(37,i6 (↑i0:Int)),(38,AV.ref 0 0),(39,sQ x0.sorts),(40,i6 (↑x0.sorts.length:Int)),(41,bo false),(51,i6 (↑i1:Int)),(52,AV.ref 0 1),(53,cQ x0.consts),(54,i6 (↑x0.consts.length:Int)),(55,bo false)] [Ob.cells (gQ x0)]
def f13_S7 (x0:Sgn)(i0 i1:Nat):St :=
  stOf 123 [2,42,43,44,45,46,47,48,49,50,56,57,58,59,60,61,62,63,64,65,66,67,68,69,70,71,72,73,74,75] [(0,AV.agg (gQ x0)),(1,AV.ref 0 0),(3,i6 (↑i0:Int)),(4,i6 (↑i1:Int)),(5,i6 0),(7,AV.ref 0 0),(8,sQ x0.sorts),(9,i6 (↑x0.sorts.length:Int)),(10,bo false),(11,bo false),(12,AV.ref 0 1),(13,cQ x0.consts),(14,i6 (↑x0.consts.length:Int)),(15,bo false),(16,bo false),(17,bo false),(18,AV.ref 0 2),(19,pQ x0.preds),(20,i6 (↑x0.preds.length:Int)),(21,bo false),(22,bo false),(23,bo false),(24,AV.ref 0 0),(25,sQ x0.sorts),(26,i6 (↑x0.sorts.length:Int)),(27,AV.ref 0 1),(28,cQ x0.consts),(29,i6 (↑x0.consts.length:Int)),(30,i6 (w6 ((↑x0.sorts.length:Int) + (↑x0.consts.length:Int)))),(31,AV.ref 0 2),(32,pQ x0.preds),(33,i6 (↑x0.preds.length:Int)),(34,i6 (w6 (w6 ((↑x0.sorts.length:Int) + (↑x0.consts.length:Int)) + (↑x0.preds.length:Int)))),(35,bo false),(36,bo false),(37,i6 (↑i0:Int)),(38,AV.ref 0 0),(39,sQ x0.sorts),(40,i6 (↑x0.sorts.length:Int)),(41,bo false),(51,i6 (↑i1:Int)),(52,AV.ref 0 1),(53,cQ x0.consts),(54,i6 (↑x0.consts.length:Int)),(55,bo false)] [Ob.cells (gQ x0)]
abbrev f13_D2:List Nat:=[82,81,111,110,2,122,121,120,119,118,117,116,115,114,113,112,109,108,107,106,105,104,103,102,101,6,2,100,99,98,97,96,95,94,93,92,91,90,89,88,87,86,85,84,83,80,79,78,77,76]
theorem f13_L2 (x0:Sgn)(i0 i1:Nat)(X:Ext)(call:Caller)(lf n:Nat)(x:Ex) (S' : St)
 (hn:n<lf)
 (hs:∀ j,j<n→∃ Sx,vexec Tryd.prog X call lf 0 noFg (loopN Tryd.f13 2) (f13_F2 x0 i0 i1 j)=some (Ex.normal,Sx)∧forget f13_D2 Sx=(f13_F2 x0 i0 i1 (j + 1)))
 (he:vexec Tryd.prog X call lf 0 noFg (loopN Tryd.f13 2) (f13_F2 x0 i0 i1 n)=some (x,S'))
 (hx:x ≠ Ex.normal):vexec Tryd.prog X call lf 0 noFg (Go.Code.loop (loopN Tryd.f13 2)) (f13_S7 x0 i0 i1)=some (x,S') :=
  loop_runK (by kernel_rfl) (fun j=>(f13_F2 x0 i0 i1 j)) n hn (by show forget f13_D2 (f13_S7 x0 i0 i1)=(f13_F2 x0 i0 i1 0); unfold f13_F2; show _=_; kernel_rfl) hs he hx
def f13_S8 (x0:Sgn)(i0 i1 i2:Nat)(a:ByteArray)(b:List ByteArray)(r86:List AV):St :=
  stOf 123 [6,42,43,44,45,46,47,48,49,50,56,57,58,59,60,61,62,63,64,65,66,67,68,69,70,71,72,73,74,75,81,82,101,102,103,104,105,106,107,108,109,110,111,112,113,114,115,116,117,118,119,120,121,122] [(0,AV.agg (gQ x0)),(1,AV.ref 0 0),(2,bo false),(3,i6 (↑i0:Int)),(4,i6 (↑i1:Int)),(5,i6 (↑i2:Int)),(7,AV.ref 0 0),(8,sQ x0.sorts),(9,i6 (↑x0.sorts.length:Int)),(10,bo false),(11,bo false),(12,AV.ref 0 1),(13,cQ x0.consts),(14,i6 (↑x0.consts.length:Int)),(15,bo false),(16,bo false),(17,bo false),(18,AV.ref 0 2),(19,pQ x0.preds),(20,i6 (↑x0.preds.length:Int)),(21,bo false),(22,bo false),(23,bo false),(24,AV.ref 0 0),(25,sQ x0.sorts),(26,i6 (↑x0.sorts.length:Int)),(27,AV.ref 0 1),(28,cQ x0.consts),(29,i6 (↑x0.consts.length:Int)),(30,i6 (w6 ((↑x0.sorts.length:Int) + (↑x0.consts.length:Int)))),(31,AV.ref 0 2),(32,pQ x0.preds),(33,i6 (↑x0.preds.length:Int)),(34,i6 (w6 (w6 ((↑x0.sorts.length:Int) + (↑x0.consts.length:Int)) + (↑x0.preds.length:Int)))),(35,bo false),(36,bo false),(37,i6 (↑i0:Int)),(38,AV.ref 0 0),(39,sQ x0.sorts),(40,i6 (↑x0.sorts.length:Int)),(41,bo false),(51,i6 (↑i1:Int)),(52,AV.ref 0 1),(53,cQ x0.consts),(54,i6 (↑x0.consts.length:Int)),(55,bo false),(76,i6 (↑i2:Int)),(77,AV.ref 0 2),(78,pQ x0.preds),(79,i6 (↑x0.preds.length:Int)),(80,bo true),(83,AV.ref 0 2),(84,pQ x0.preds),(85,i6 (↑i2:Int)),(86,AV.eaddr (st a::sQ b::r86)),(87,AV.eaddr (st a::sQ b::r86)),(88,st a),(89,i6 (↑(ByteArray.size a):Int)),(90,bo true),(91,bo true),(100,bo true)] [Ob.cells (gQ x0)]
theorem f13_r2_tt (x0:Sgn)(X:Ext)(call:Caller)(lf i0 i1 i2:Nat)(a:ByteArray)(c:List ByteArray)(r86:List AV)
 (h0:decide ((↑i2:Int)<(↑x0.preds.length:Int))=true)
 (h1:kiq 24 [Ob.cells (gQ x0)] (pQ x0.preds) (i6 (↑i2:Int)) (st a::sQ c::r86))
 (h2:decide ((↑(ByteArray.size a):Int)>40)=true):vexec Tryd.prog X call lf 0 noFg (loopN Tryd.f13 2) (f13_F2 x0 i0 i1 i2)=some (Ex.ret,(f13_S8 x0 i0 i1 i2 a c r86)) :=
  around_sound (ans:=[(5,Ans.b true),(11,Ans.v (AV.eaddr (st a::sQ c::r86))),(15,Ans.b true)]) (by kernel_rfl) (ai h0 (ai h1 (ai h2 trivial)))
theorem f13_pfffflflfltt (x0:Sgn)(X:Ext)(call:Caller)(lf i0 i1 i2:Nat)(a:ByteArray)(c:List ByteArray)(r86:List AV)
 (h0:decide ((↑x0.sorts.length:Int)>300)=false)
 (h1:decide ((↑x0.consts.length:Int)>300)=false)
 (h2:decide ((↑x0.preds.length:Int)>300)=false)
 (h3:decide (w6 (w6 ((↑x0.sorts.length:Int) + (↑x0.consts.length:Int)) + (↑x0.preds.length:Int))>300)=false)
 (h4:vexec Tryd.prog X call lf 0 noFg (Code.loop (loopN Tryd.f13 0)) (f13_S0 x0)=some (Ex.exit 0,(f13_S2 x0 i0)))
 (h5:vexec Tryd.prog X call lf 0 noFg (Code.loop (loopN Tryd.f13 1)) (f13_S3 x0 i0)=some (Ex.exit 2,(f13_S6 x0 i0 i1)))
 (h6:vexec Tryd.prog X call lf 0 noFg (Code.loop (loopN Tryd.f13 2)) (f13_S7 x0 i0 i1)=some (Ex.ret,(f13_S8 x0 i0 i1 i2 a c r86))):vbody Tryd.prog X call lf noFg Tryd.f13 (codeOf Tryd.f13) [AV.agg (sgnC x0)] [] 0=some (bo false,[Ob.cells (gQ x0)]) :=
  along_sound (ans:=[(7,Ans.b false),(16,Ans.b false),(26,Ans.b false),(52,Ans.b false),(57,Ans.l (Ex.exit 0) (f13_S2 x0 i0)),(60,Ans.l (Ex.exit 2) (f13_S6 x0 i0 i1)),(63,Ans.l Ex.ret (f13_S8 x0 i0 i1 i2 a c r86))]) (by kernel_rfl) (ai h0 (ai h1 (ai h2 (ai h3 (ai h4 (ai h5 (ai h6 trivial)))))))
def f13_S9 (x0:Sgn)(i0 i1 i2:Nat)(a:ByteArray)(b:List ByteArray)(r86:List AV)(c:ByteArray)(d:List ByteArray)(r95:List AV):St :=
  stOf 123 [6,42,43,44,45,46,47,48,49,50,56,57,58,59,60,61,62,63,64,65,66,67,68,69,70,71,72,73,74,75,81,82,101,102,103,104,105,106,107,108,109,110,111,112,113,114,115,116,117,118,119,120,121,122] [(0,AV.agg (gQ x0)),(1,AV.ref 0 0),(2,bo false),(3,i6 (↑i0:Int)),(4,i6 (↑i1:Int)),(5,i6 (↑i2:Int)),(7,AV.ref 0 0),(8,sQ x0.sorts),(9,i6 (↑x0.sorts.length:Int)),(10,bo false),(11,bo false),(12,AV.ref 0 1),(13,cQ x0.consts),(14,i6 (↑x0.consts.length:Int)),(15,bo false),(16,bo false),(17,bo false),(18,AV.ref 0 2),(19,pQ x0.preds),(20,i6 (↑x0.preds.length:Int)),(21,bo false),(22,bo false),(23,bo false),(24,AV.ref 0 0),(25,sQ x0.sorts),(26,i6 (↑x0.sorts.length:Int)),(27,AV.ref 0 1),(28,cQ x0.consts),(29,i6 (↑x0.consts.length:Int)),(30,i6 (w6 ((↑x0.sorts.length:Int) + (↑x0.consts.length:Int)))),(31,AV.ref 0 2),(32,pQ x0.preds),(33,i6 (↑x0.preds.length:Int)),(34,i6 (w6 (w6 ((↑x0.sorts.length:Int) + (↑x0.consts.length:Int)) + (↑x0.preds.length:Int)))),(35,bo false),(36,bo false),(37,i6 (↑i0:Int)),(38,AV.ref 0 0),(39,sQ x0.sorts),(40,i6 (↑x0.sorts.length:Int)),(41,bo false),(51,i6 (↑i1:Int)),(52,AV.ref 0 1),(53,cQ x0.consts),(54,i6 (↑x0.consts.length:Int)),(55,bo false),(76,i6 (↑i2:Int)),(77,AV.ref 0 2),(78,pQ x0.preds),(79,i6 (↑x0.preds.length:Int)),(80,bo true),(83,AV.ref 0 2),(84,pQ x0.preds),(85,i6 (↑i2:Int)),(86,AV.eaddr (st a::sQ b::r86)),(87,AV.eaddr (st a::sQ b::r86)),(88,st a),(89,i6 (↑(ByteArray.size a):Int)),(90,bo false),(91,bo false),(92,AV.ref 0 2),(93,pQ x0.preds),(94,i6 (↑i2:Int)),(95,AV.eaddr (st c::sQ d::r95)),(96,AV.eaddr (sQ d::r95)),(97,sQ d),(98,i6 (↑d.length:Int)),(99,bo true),(100,bo true)] [Ob.cells (gQ x0)]
theorem f13_r2_tft (x0:Sgn)(X:Ext)(call:Caller)(lf i0 i1 i2:Nat)(a:ByteArray)(c:List ByteArray)(r86:List AV)(d:ByteArray)(e:List ByteArray)(r95:List AV)
 (h0:decide ((↑i2:Int)<(↑x0.preds.length:Int))=true)
 (h1:kiq 24 [Ob.cells (gQ x0)] (pQ x0.preds) (i6 (↑i2:Int)) (st a::sQ c::r86))
 (h2:decide ((↑(ByteArray.size a):Int)>40)=false)
 (h3:kiq 24 [Ob.cells (gQ x0)] (pQ x0.preds) (i6 (↑i2:Int)) (st d::sQ e::r95))
 (h4:decide ((↑e.length:Int)>6)=true):vexec Tryd.prog X call lf 0 noFg (loopN Tryd.f13 2) (f13_F2 x0 i0 i1 i2)=some (Ex.ret,(f13_S9 x0 i0 i1 i2 a c r86 d e r95)) :=
  around_sound (ans:=[(5,Ans.b true),(11,Ans.v (AV.eaddr (st a::sQ c::r86))),(15,Ans.b false),(24,Ans.v (AV.eaddr (st d::sQ e::r95))),(32,Ans.b true)]) (by kernel_rfl) (ai h0 (ai h1 (ai h2 (ai h3 (ai h4 trivial)))))
theorem f13_pfffflflfltft (x0:Sgn)(X:Ext)(call:Caller)(lf i0 i1 i2:Nat)(a:ByteArray)(c:List ByteArray)(r86:List AV)(d:ByteArray)(e:List ByteArray)(r95:List AV)
 (h0:decide ((↑x0.sorts.length:Int)>300)=false)
 (h1:decide ((↑x0.consts.length:Int)>300)=false)
 (h2:decide ((↑x0.preds.length:Int)>300)=false)
 (h3:decide (w6 (w6 ((↑x0.sorts.length:Int) + (↑x0.consts.length:Int)) + (↑x0.preds.length:Int))>300)=false)
 (h4:vexec Tryd.prog X call lf 0 noFg (Code.loop (loopN Tryd.f13 0)) (f13_S0 x0)=some (Ex.exit 0,(f13_S2 x0 i0)))
 (h5:vexec Tryd.prog X call lf 0 noFg (Code.loop (loopN Tryd.f13 1)) (f13_S3 x0 i0)=some (Ex.exit 2,(f13_S6 x0 i0 i1)))
 (h6:vexec Tryd.prog X call lf 0 noFg (Code.loop (loopN Tryd.f13 2)) (f13_S7 x0 i0 i1)=some (Ex.ret,(f13_S9 x0 i0 i1 i2 a c r86 d e r95))):vbody Tryd.prog X call lf noFg Tryd.f13 (codeOf Tryd.f13) [AV.agg (sgnC x0)] [] 0=some (bo false,[Ob.cells (gQ x0)]) :=
  along_sound (ans:=[(7,Ans.b false),(16,Ans.b false),(26,Ans.b false),(52,Ans.b false),(57,Ans.l (Ex.exit 0) (f13_S2 x0 i0)),(60,Ans.l (Ex.exit 2) (f13_S6 x0 i0 i1)),(63,Ans.l Ex.ret (f13_S9 x0 i0 i1 i2 a c r86 d e r95))]) (by kernel_rfl) (ai h0 (ai h1 (ai h2 (ai h3 (ai h4 (ai h5 (ai h6 trivial)))))))
def f13_F3 (x0:Sgn)(i0 i1 i2:Nat)(a:ByteArray)(b:List ByteArray)(r86:List AV)(c:ByteArray)(d:List ByteArray)(r95:List AV)(i3:Nat):St :=
  stOf 123 [2,42,43,44,45,46,47,48,49,50,56,57,58,59,60,61,62,63,64,65,66,67,68,69,70,71,72,73,74,75,81,82,101,102,103,104,105,106,107,108,109,110,111,112,113,114,115,116,117,118,119,120,121,122] [(0,AV.agg (gQ x0)),(1,AV.ref 0 0),(3,i6 (↑i0:Int)),(4,i6 (↑i1:Int)),(5,i6 (↑i2:Int)),(6,i6 (↑i3:Int)),(7,AV.ref 0 0),(8,sQ x0.sorts),(9,i6 (↑x0.sorts.length:Int)),(10,bo false),(11,bo false),(12,AV.ref 0 1),(13,cQ x0.consts),(14,i6 (↑x0.consts.length:Int)),(15,bo false),(16,bo false),(17,bo false),(18,AV.ref 0 2),(19,pQ x0.preds),(20,i6 (↑x0.preds.length:Int)),(21,bo false),(22,bo false),(23,bo false),(24,AV.ref 0 0),(25,sQ x0.sorts),(26,i6 (↑x0.sorts.length:Int)),(27,AV.ref 0 1),(28,cQ x0.consts),(29,i6 (↑x0.consts.length:Int)),(30,i6 (w6 ((↑x0.sorts.length:Int) + (↑x0.consts.length:Int)))),(31,AV.ref 0 2),(32,pQ x0.preds),(33,i6 (↑x0.preds.length:Int)),(34,i6 (w6 (w6 ((↑x0.sorts.length:Int) + (↑x0.consts.length:Int)) + (↑x0.preds.length:Int)))),(35,bo false),(36,bo false),(37,i6 (↑i0:Int)),(38,AV.ref 0 0),(39,sQ x0.sorts),(40,i6 (↑x0.sorts.length:Int)),(41,bo false),(51,i6 (↑i1:Int)),(52,AV.ref 0 1),(53,cQ x0.consts),(54,i6 (↑x0.consts.length:Int)),(55,bo false),(76,i6 (↑i2:Int)),(77,AV.ref 0 2),(78,pQ x0.preds),(79,i6 (↑x0.preds.length:Int)),(80,bo true),(83,AV.ref 0 2),(84,pQ x0.preds),(85,i6 (↑i2:Int)),(86,AV.eaddr (st a::sQ b::r86)),(87,AV.eaddr (st a::sQ b::r86)),(88,st a),(89,i6 (↑(ByteArray.size a):Int)),(90,bo false),(91,bo false),(92,AV.ref 0 2),(93,pQ x0.preds),(94,i6 (↑i2:Int)),(95,AV.eaddr (st c::sQ d::r95)),(96,AV.eaddr (sQ d::r95)),(97,sQ d),(98,i6 (↑d.length:Int)),(99,bo false),(100,bo false)] [Ob.cells (gQ x0)]
def f13_S10 (x0:Sgn)(i0 i1 i2:Nat)(a:ByteArray)(b:List ByteArray)(r86:List AV)(c:ByteArray)(d:List ByteArray)(r95:List AV):St :=
  stOf 123 [2,42,43,44,45,46,47,48,49,50,56,57,58,59,60,61,62,63,64,65,66,67,68,69,70,71,72,73,74,75,81,82,101,102,103,104,105,106,107,108,109,110,111,112,113,114,115,116,117,118,119,120,121,122] [(0,AV.agg (gQ x0)),(1,AV.ref 0 0),(3,i6 (↑i0:Int)),(4,i6 (↑i1:Int)),(5,i6 (↑i2:Int)),(6,i6 0),(7,AV.ref 0 0),(8,sQ x0.sorts),(9,i6 (↑x0.sorts.length:Int)),(10,bo false),(11,bo false),(12,AV.ref 0 1),(13,cQ x0.consts),(14,i6 (↑x0.consts.length:Int)),(15,bo false),(16,bo false),(17,bo false),(18,AV.ref 0 2),(19,pQ x0.preds),(20,i6 (↑x0.preds.length:Int)),(21,bo false),(22,bo false),(23,bo false),(24,AV.ref 0 0),(25,sQ x0.sorts),(26,i6 (↑x0.sorts.length:Int)),(27,AV.ref 0 1),(28,cQ x0.consts),(29,i6 (↑x0.consts.length:Int)),(30,i6 (w6 ((↑x0.sorts.length:Int) + (↑x0.consts.length:Int)))),(31,AV.ref 0 2),(32,pQ x0.preds),(33,i6 (↑x0.preds.length:Int)),(34,i6 (w6 (w6 ((↑x0.sorts.length:Int) + (↑x0.consts.length:Int)) + (↑x0.preds.length:Int)))),(35,bo false),(36,bo false),(37,i6 (↑i0:Int)),(38,AV.ref 0 0),(39,sQ x0.sorts),(40,i6 (↑x0.sorts.length:Int)),(41,bo false),(51,i6 (↑i1:Int)),(52,AV.ref 0 1),(53,cQ x0.consts),(54,i6 (↑x0.consts.length:Int)),(55,bo false),(76,i6 (↑i2:Int)),(77,AV.ref 0 2),(78,pQ x0.preds),(79,i6 (↑x0.preds.length:Int)),(80,bo true),(83,AV.ref 0 2),(84,pQ x0.preds),(85,i6 (↑i2:Int)),(86,AV.eaddr (st a::sQ b::r86)),(87,AV.eaddr (st a::sQ b::r86)),(88,st a),(89,i6 (↑(ByteArray.size a):Int)),(90,bo false),(91,bo false),(92,AV.ref 0 2),(93,pQ x0.preds),(94,i6 (↑i2:Int)),(95,AV.eaddr (st c::sQ d::r95)),(96,AV.eaddr (sQ d::r95)),(97,sQ d),(98,i6 (↑d.length:Int)),(99,bo false),(100,bo false)] [Ob.cells (gQ x0)]
abbrev f13_D3:List Nat:=[111,110,2,122,121,120,119,118,117,116,115,114,113,112,109,108,107,106,105,104,103,102,101]
theorem f13_L3 (x0:Sgn)(i0 i1 i2:Nat)(a:ByteArray)(b:List ByteArray)(r86:List AV)(c:ByteArray)(d:List ByteArray)(r95:List AV)(X:Ext)(call:Caller)(lf n:Nat)(x:Ex) (S' : St)
 (hn:n<lf)
 (hs:∀ j,j<n→∃ Sx,vexec Tryd.prog X call lf 0 noFg (loopN Tryd.f13 3) (f13_F3 x0 i0 i1 i2 a b r86 c d r95 j)=some (Ex.normal,Sx)∧forget f13_D3 Sx=(f13_F3 x0 i0 i1 i2 a b r86 c d r95 (j + 1)))
 (he:vexec Tryd.prog X call lf 0 noFg (loopN Tryd.f13 3) (f13_F3 x0 i0 i1 i2 a b r86 c d r95 n)=some (x,S'))
 (hx:x ≠ Ex.normal):vexec Tryd.prog X call lf 0 noFg (Go.Code.loop (loopN Tryd.f13 3)) (f13_S10 x0 i0 i1 i2 a b r86 c d r95)=some (x,S') :=
  loop_runK (by kernel_rfl) (fun j=>(f13_F3 x0 i0 i1 i2 a b r86 c d r95 j)) n hn (by show forget f13_D3 (f13_S10 x0 i0 i1 i2 a b r86 c d r95)=(f13_F3 x0 i0 i1 i2 a b r86 c d r95 0); unfold f13_F3; show _=_; kernel_rfl) hs he hx
def f13_S11 (x0:Sgn)(i0 i1 i2:Nat)(a:ByteArray)(b:List ByteArray)(r86:List AV)(c:ByteArray)(d:List ByteArray)(r95:List AV)(i3:Nat)(e:ByteArray)(g:List ByteArray)(r105:List AV)(h:ByteArray)(j:List ByteArray)(r115:List AV)(k:ByteArray)(r119:List AV):St :=
  stOf 123 [42,43,44,45,46,47,48,49,50,56,57,58,59,60,61,62,63,64,65,66,67,68,69,70,71,72,73,74,75,81,82,110,111] [(0,AV.agg (gQ x0)),(1,AV.ref 0 0),(2,bo false),(3,i6 (↑i0:Int)),(4,i6 (↑i1:Int)),(5,i6 (↑i2:Int)),(6,i6 (↑i3:Int)),(7,AV.ref 0 0),(8,sQ x0.sorts),(9,i6 (↑x0.sorts.length:Int)),(10,bo false),(11,bo false),(12,AV.ref 0 1),(13,cQ x0.consts),(14,i6 (↑x0.consts.length:Int)),(15,bo false),(16,bo false),(17,bo false),(18,AV.ref 0 2),(19,pQ x0.preds),(20,i6 (↑x0.preds.length:Int)),(21,bo false),(22,bo false),(23,bo false),(24,AV.ref 0 0),(25,sQ x0.sorts),(26,i6 (↑x0.sorts.length:Int)),(27,AV.ref 0 1),(28,cQ x0.consts),(29,i6 (↑x0.consts.length:Int)),(30,i6 (w6 ((↑x0.sorts.length:Int) + (↑x0.consts.length:Int)))),(31,AV.ref 0 2),(32,pQ x0.preds),(33,i6 (↑x0.preds.length:Int)),(34,i6 (w6 (w6 ((↑x0.sorts.length:Int) + (↑x0.consts.length:Int)) + (↑x0.preds.length:Int)))),(35,bo false),(36,bo false),(37,i6 (↑i0:Int)),(38,AV.ref 0 0),(39,sQ x0.sorts),(40,i6 (↑x0.sorts.length:Int)),(41,bo false),(51,i6 (↑i1:Int)),(52,AV.ref 0 1),(53,cQ x0.consts),(54,i6 (↑x0.consts.length:Int)),(55,bo false),(76,i6 (↑i2:Int)),(77,AV.ref 0 2),(78,pQ x0.preds),(79,i6 (↑x0.preds.length:Int)),(80,bo true),(83,AV.ref 0 2),(84,pQ x0.preds),(85,i6 (↑i2:Int)),(86,AV.eaddr (st a::sQ b::r86)),(87,AV.eaddr (st a::sQ b::r86)),(88,st a),(89,i6 (↑(ByteArray.size a):Int)),(90,bo false),(91,bo false),(92,AV.ref 0 2),(93,pQ x0.preds),(94,i6 (↑i2:Int)),(95,AV.eaddr (st c::sQ d::r95)),(96,AV.eaddr (sQ d::r95)),(97,sQ d),(98,i6 (↑d.length:Int)),(99,bo false),(100,bo false),(101,i6 (↑i3:Int)),(102,AV.ref 0 2),(103,pQ x0.preds),(104,i6 (↑i2:Int)),(105,AV.eaddr (st e::sQ g::r105)),(106,AV.eaddr (sQ g::r105)),(107,sQ g),(108,i6 (↑g.length:Int)),(109,bo true),(112,AV.ref 0 2),(113,pQ x0.preds),(114,i6 (↑i2:Int)),(115,AV.eaddr (st h::sQ j::r115)),(116,AV.eaddr (sQ j::r115)),(117,sQ j),(118,i6 (↑i3:Int)),(119,AV.eaddr (st k::r119)),(120,st k),(121,i6 (↑(ByteArray.size k):Int)),(122,bo true)] [Ob.cells (gQ x0)]
theorem f13_r3_tt (x0:Sgn)(X:Ext)(call:Caller)(lf i0 i1 i2:Nat)(a:ByteArray)(c:List ByteArray)(r86:List AV)(d:ByteArray)(e:List ByteArray)(r95:List AV)(i3:Nat)(g:ByteArray)(h:List ByteArray)(r105:List AV)(j:ByteArray)(k:List ByteArray)(r115:List AV)(p:ByteArray)(r119:List AV)
 (h0:kiq 24 [Ob.cells (gQ x0)] (pQ x0.preds) (i6 (↑i2:Int)) (st g::sQ h::r105))
 (h1:decide ((↑i3:Int)<(↑h.length:Int))=true)
 (h2:kiq 24 [Ob.cells (gQ x0)] (pQ x0.preds) (i6 (↑i2:Int)) (st j::sQ k::r115))
 (h3:kiq 22 [Ob.cells (gQ x0)] (sQ k) (i6 (↑i3:Int)) (st p::r119))
 (h4:decide ((↑(ByteArray.size p):Int)>40)=true):vexec Tryd.prog X call lf 0 noFg (loopN Tryd.f13 3) (f13_F3 x0 i0 i1 i2 a c r86 d e r95 i3)=some (Ex.ret,(f13_S11 x0 i0 i1 i2 a c r86 d e r95 i3 g h r105 j k r115 p r119)) :=
  around_sound (ans:=[(5,Ans.v (AV.eaddr (st g::sQ h::r105))),(9,Ans.b true),(15,Ans.v (AV.eaddr (st j::sQ k::r115))),(19,Ans.v (AV.eaddr (st p::r119))),(22,Ans.b true)]) (by kernel_rfl) (ai h0 (ai h1 (ai h2 (ai h3 (ai h4 trivial)))))
theorem f13_r2_tffltt (x0:Sgn)(X:Ext)(call:Caller)(lf i0 i1 i2:Nat)(a:ByteArray)(c:List ByteArray)(r86:List AV)(d:ByteArray)(e:List ByteArray)(r95:List AV)(i3:Nat)(g:ByteArray)(h:List ByteArray)(r105:List AV)(j:ByteArray)(k:List ByteArray)(r115:List AV)(p:ByteArray)(r119:List AV)
 (h0:decide ((↑i2:Int)<(↑x0.preds.length:Int))=true)
 (h1:kiq 24 [Ob.cells (gQ x0)] (pQ x0.preds) (i6 (↑i2:Int)) (st a::sQ c::r86))
 (h2:decide ((↑(ByteArray.size a):Int)>40)=false)
 (h3:kiq 24 [Ob.cells (gQ x0)] (pQ x0.preds) (i6 (↑i2:Int)) (st d::sQ e::r95))
 (h4:decide ((↑e.length:Int)>6)=false)
 (h5:vexec Tryd.prog X call lf 0 noFg (Code.loop (loopN Tryd.f13 3)) (f13_S10 x0 i0 i1 i2 a c r86 d e r95)=some (Ex.ret,(f13_S11 x0 i0 i1 i2 a c r86 d e r95 i3 g h r105 j k r115 p r119))):vexec Tryd.prog X call lf 0 noFg (loopN Tryd.f13 2) (f13_F2 x0 i0 i1 i2)=some (Ex.ret,(f13_S11 x0 i0 i1 i2 a c r86 d e r95 i3 g h r105 j k r115 p r119)) :=
  around_sound (ans:=[(5,Ans.b true),(11,Ans.v (AV.eaddr (st a::sQ c::r86))),(15,Ans.b false),(24,Ans.v (AV.eaddr (st d::sQ e::r95))),(32,Ans.b false),(37,Ans.l Ex.ret (f13_S11 x0 i0 i1 i2 a c r86 d e r95 i3 g h r105 j k r115 p r119))]) (by kernel_rfl) (ai h0 (ai h1 (ai h2 (ai h3 (ai h4 (ai h5 trivial))))))
theorem f13_pfffflflfltffltt (x0:Sgn)(X:Ext)(call:Caller)(lf i0 i1 i2:Nat)(a:ByteArray)(c:List ByteArray)(r86:List AV)(d:ByteArray)(e:List ByteArray)(r95:List AV)(i3:Nat)(g:ByteArray)(h:List ByteArray)(r105:List AV)(j:ByteArray)(k:List ByteArray)(r115:List AV)(p:ByteArray)(r119:List AV)
 (h0:decide ((↑x0.sorts.length:Int)>300)=false)
 (h1:decide ((↑x0.consts.length:Int)>300)=false)
 (h2:decide ((↑x0.preds.length:Int)>300)=false)
 (h3:decide (w6 (w6 ((↑x0.sorts.length:Int) + (↑x0.consts.length:Int)) + (↑x0.preds.length:Int))>300)=false)
 (h4:vexec Tryd.prog X call lf 0 noFg (Code.loop (loopN Tryd.f13 0)) (f13_S0 x0)=some (Ex.exit 0,(f13_S2 x0 i0)))
 (h5:vexec Tryd.prog X call lf 0 noFg (Code.loop (loopN Tryd.f13 1)) (f13_S3 x0 i0)=some (Ex.exit 2,(f13_S6 x0 i0 i1)))
 (h6:vexec Tryd.prog X call lf 0 noFg (Code.loop (loopN Tryd.f13 2)) (f13_S7 x0 i0 i1)=some (Ex.ret,(f13_S11 x0 i0 i1 i2 a c r86 d e r95 i3 g h r105 j k r115 p r119))):vbody Tryd.prog X call lf noFg Tryd.f13 (codeOf Tryd.f13) [AV.agg (sgnC x0)] [] 0=some (bo false,[Ob.cells (gQ x0)]) :=
  along_sound (ans:=[(7,Ans.b false),(16,Ans.b false),(26,Ans.b false),(52,Ans.b false),(57,Ans.l (Ex.exit 0) (f13_S2 x0 i0)),(60,Ans.l (Ex.exit 2) (f13_S6 x0 i0 i1)),(63,Ans.l Ex.ret (f13_S11 x0 i0 i1 i2 a c r86 d e r95 i3 g h r105 j k r115 p r119))]) (by kernel_rfl) (ai h0 (ai h1 (ai h2 (ai h3 (ai h4 (ai h5 (ai h6 trivial)))))))
theorem f13_s3_tf (x0:Sgn)(X:Ext)(call:Caller)(lf i0 i1 i2:Nat)(a:ByteArray)(c:List ByteArray)(r86:List AV)(d:ByteArray)(e:List ByteArray)(r95:List AV)(i3:Nat)(g:ByteArray)(h:List ByteArray)(r105:List AV)(j:ByteArray)(k:List ByteArray)(r115:List AV)(p:ByteArray)(r119:List AV)
 (h0:kiq 24 [Ob.cells (gQ x0)] (pQ x0.preds) (i6 (↑i2:Int)) (st g::sQ h::r105))
 (h1:decide ((↑i3:Int)<(↑h.length:Int))=true)
 (h2:kiq 24 [Ob.cells (gQ x0)] (pQ x0.preds) (i6 (↑i2:Int)) (st j::sQ k::r115))
 (h3:kiq 22 [Ob.cells (gQ x0)] (sQ k) (i6 (↑i3:Int)) (st p::r119))
 (h4:decide ((↑(ByteArray.size p):Int)>40)=false)
 (e0:(↑(i3 + 1):Int)=w6 ((↑i3:Int) + 1)):∃ Sx,vexec Tryd.prog X call lf 0 noFg (loopN Tryd.f13 3) (f13_F3 x0 i0 i1 i2 a c r86 d e r95 i3)=some (Ex.normal,Sx)∧forget f13_D3 Sx=(f13_F3 x0 i0 i1 i2 a c r86 d e r95 (i3 + 1)) :=
  ⟨stOf 123 [2,42,43,44,45,46,47,48,49,50,56,57,58,59,60,61,62,63,64,65,66,67,68,69,70,71,72,73,74,75,81,82] [(0,AV.agg (gQ x0)),(1,AV.ref 0 0),(3,i6 (↑i0:Int)),(4,i6 (↑i1:Int)),(5,i6 (↑i2:Int)),(6,i6 (w6 ((↑i3:Int) + 1))),(7,AV.ref 0 0),(8,sQ x0.sorts),(9,i6 (↑x0.sorts.length:Int)),(10,bo false),(11,bo false),(12,AV.ref 0 1),(13,cQ x0.consts),(14,i6 (↑x0.consts.length:Int)),(15,bo false),(16,bo false),(17,bo false),(18,AV.ref 0 2),(19,pQ x0.preds),(20,i6 (↑x0.preds.length:Int)),(21,bo false),(22,bo false),(23,bo false),(24,AV.ref 0 0),(25,sQ x0.sorts),(26,i6 (↑x0.sorts.length:Int)),(27,AV.ref 0 1),(28,cQ x0.consts),(29,i6 (↑x0.consts.length:Int)),(30,i6 (w6 ((↑x0.sorts.length:Int) + (↑x0.consts.length:Int)))),(31,AV.ref 0 2),(32,pQ x0.preds),(33,i6 (↑x0.preds.length:Int)),(34,i6 (w6 (w6 ((↑x0.sorts.length:Int) + (↑x0.consts.length:Int)) + (↑x0.preds.length:Int)))),(35,bo false),(36,bo false),(37,i6 (↑i0:Int)),(38,AV.ref 0 0),(39,sQ x0.sorts),(40,i6 (↑x0.sorts.length:Int)),(41,bo false),(51,i6 (↑i1:Int)),(52,AV.ref 0 1),(53,cQ x0.consts),(54,i6 (↑x0.consts.length:Int)),(55,bo false),(76,i6 (↑i2:Int)),(77,AV.ref 0 2),(78,pQ x0.preds),(79,i6 (↑x0.preds.length:Int)),(80,bo true),(83,AV.ref 0 2),(84,pQ x0.preds),(85,i6 (↑i2:Int)),(86,AV.eaddr (st a::sQ c::r86)),(87,AV.eaddr (st a::sQ c::r86)),(88,st a),(89,i6 (↑(ByteArray.size a):Int)),(90,bo false),(91,bo false),(92,AV.ref 0 2),(93,pQ x0.preds),(94,i6 (↑i2:Int)),(95,AV.eaddr (st d::sQ e::r95)),(96,AV.eaddr (sQ e::r95)),(97,sQ e),(98,i6 (↑e.length:Int)),(99,bo false),(100,bo false),(101,i6 (↑i3:Int)),(102,AV.ref 0 2),(103,pQ x0.preds),(104,i6 (↑i2:Int)),(105,AV.eaddr (st g::sQ h::r105)),(106,AV.eaddr (sQ h::r105)),(107,sQ h),(108,i6 (↑h.length:Int)),(109,bo true),(110,i6 (↑i3:Int)),(111,i6 (w6 ((↑i3:Int) + 1))),(112,AV.ref 0 2),(113,pQ x0.preds),(114,i6 (↑i2:Int)),(115,AV.eaddr (st j::sQ k::r115)),(116,AV.eaddr (sQ k::r115)),(117,sQ k),(118,i6 (↑i3:Int)),(119,AV.eaddr (st p::r119)),(120,st p),(121,i6 (↑(ByteArray.size p):Int)),(122,bo false)] [Ob.cells (gQ x0)],around_sound (ans:=[(5,Ans.v (AV.eaddr (st g::sQ h::r105))),(9,Ans.b true),(15,Ans.v (AV.eaddr (st j::sQ k::r115))),(19,Ans.v (AV.eaddr (st p::r119))),(22,Ans.b false)]) (by kernel_rfl) (ai h0 (ai h1 (ai h2 (ai h3 (ai h4 trivial))))),by unfold f13_F3; rw [e0]; show _=_; kernel_rfl⟩
def f13_S12 (x0:Sgn)(i0 i1 i2:Nat)(a:ByteArray)(b:List ByteArray)(r86:List AV)(c:ByteArray)(d:List ByteArray)(r95:List AV)(i3:Nat)(e:ByteArray)(g:List ByteArray)(r105:List AV):St :=
  stOf 123 [2,42,43,44,45,46,47,48,49,50,56,57,58,59,60,61,62,63,64,65,66,67,68,69,70,71,72,73,74,75,81,82,110,111,112,113,114,115,116,117,118,119,120,121,122] [(0,AV.agg (gQ x0)),(1,AV.ref 0 0),(3,i6 (↑i0:Int)),(4,i6 (↑i1:Int)),(5,i6 (↑i2:Int)),(6,i6 (↑i3:Int)),(7,AV.ref 0 0),(8,sQ x0.sorts),(9,i6 (↑x0.sorts.length:Int)),(10,bo false),(11,bo false),(12,AV.ref 0 1),(13,cQ x0.consts),(14,i6 (↑x0.consts.length:Int)),(15,bo false),(16,bo false),(17,bo false),(18,AV.ref 0 2),(19,pQ x0.preds),(20,i6 (↑x0.preds.length:Int)),(21,bo false),(22,bo false),(23,bo false),(24,AV.ref 0 0),(25,sQ x0.sorts),(26,i6 (↑x0.sorts.length:Int)),(27,AV.ref 0 1),(28,cQ x0.consts),(29,i6 (↑x0.consts.length:Int)),(30,i6 (w6 ((↑x0.sorts.length:Int) + (↑x0.consts.length:Int)))),(31,AV.ref 0 2),(32,pQ x0.preds),(33,i6 (↑x0.preds.length:Int)),(34,i6 (w6 (w6 ((↑x0.sorts.length:Int) + (↑x0.consts.length:Int)) + (↑x0.preds.length:Int)))),(35,bo false),(36,bo false),(37,i6 (↑i0:Int)),(38,AV.ref 0 0),(39,sQ x0.sorts),(40,i6 (↑x0.sorts.length:Int)),(41,bo false),(51,i6 (↑i1:Int)),(52,AV.ref 0 1),(53,cQ x0.consts),(54,i6 (↑x0.consts.length:Int)),(55,bo false),(76,i6 (↑i2:Int)),(77,AV.ref 0 2),(78,pQ x0.preds),(79,i6 (↑x0.preds.length:Int)),(80,bo true),(83,AV.ref 0 2),(84,pQ x0.preds),(85,i6 (↑i2:Int)),(86,AV.eaddr (st a::sQ b::r86)),(87,AV.eaddr (st a::sQ b::r86)),(88,st a),(89,i6 (↑(ByteArray.size a):Int)),(90,bo false),(91,bo false),(92,AV.ref 0 2),(93,pQ x0.preds),(94,i6 (↑i2:Int)),(95,AV.eaddr (st c::sQ d::r95)),(96,AV.eaddr (sQ d::r95)),(97,sQ d),(98,i6 (↑d.length:Int)),(99,bo false),(100,bo false),(101,i6 (↑i3:Int)),(102,AV.ref 0 2),(103,pQ x0.preds),(104,i6 (↑i2:Int)),(105,AV.eaddr (st e::sQ g::r105)),(106,AV.eaddr (sQ g::r105)),(107,sQ g),(108,i6 (↑g.length:Int)),(109,bo false)] [Ob.cells (gQ x0)]
theorem f13_r3_f (x0:Sgn)(X:Ext)(call:Caller)(lf i0 i1 i2:Nat)(a:ByteArray)(c:List ByteArray)(r86:List AV)(d:ByteArray)(e:List ByteArray)(r95:List AV)(i3:Nat)(g:ByteArray)(h:List ByteArray)(r105:List AV)
 (h0:kiq 24 [Ob.cells (gQ x0)] (pQ x0.preds) (i6 (↑i2:Int)) (st g::sQ h::r105))
 (h1:decide ((↑i3:Int)<(↑h.length:Int))=false):vexec Tryd.prog X call lf 0 noFg (loopN Tryd.f13 3) (f13_F3 x0 i0 i1 i2 a c r86 d e r95 i3)=some (Ex.exit 6,(f13_S12 x0 i0 i1 i2 a c r86 d e r95 i3 g h r105)) :=
  around_sound (ans:=[(5,Ans.v (AV.eaddr (st g::sQ h::r105))),(9,Ans.b false)]) (by kernel_rfl) (ai h0 (ai h1 trivial))
theorem f13_s2_tfflf (x0:Sgn)(X:Ext)(call:Caller)(lf i0 i1 i2:Nat)(a:ByteArray)(c:List ByteArray)(r86:List AV)(d:ByteArray)(e:List ByteArray)(r95:List AV)(i3:Nat)(g:ByteArray)(h:List ByteArray)(r105:List AV)
 (h0:decide ((↑i2:Int)<(↑x0.preds.length:Int))=true)
 (h1:kiq 24 [Ob.cells (gQ x0)] (pQ x0.preds) (i6 (↑i2:Int)) (st a::sQ c::r86))
 (h2:decide ((↑(ByteArray.size a):Int)>40)=false)
 (h3:kiq 24 [Ob.cells (gQ x0)] (pQ x0.preds) (i6 (↑i2:Int)) (st d::sQ e::r95))
 (h4:decide ((↑e.length:Int)>6)=false)
 (h5:vexec Tryd.prog X call lf 0 noFg (Code.loop (loopN Tryd.f13 3)) (f13_S10 x0 i0 i1 i2 a c r86 d e r95)=some (Ex.exit 6,(f13_S12 x0 i0 i1 i2 a c r86 d e r95 i3 g h r105)))
 (e0:(↑(i2 + 1):Int)=w6 ((↑i2:Int) + 1)):∃ Sx,vexec Tryd.prog X call lf 0 noFg (loopN Tryd.f13 2) (f13_F2 x0 i0 i1 i2)=some (Ex.normal,Sx)∧forget f13_D2 Sx=(f13_F2 x0 i0 i1 (i2 + 1)) :=
  ⟨stOf 123 [2,42,43,44,45,46,47,48,49,50,56,57,58,59,60,61,62,63,64,65,66,67,68,69,70,71,72,73,74,75,110,111,112,113,114,115,116,117,118,119,120,121,122] [(0,AV.agg (gQ x0)),(1,AV.ref 0 0),(3,i6 (↑i0:Int)),(4,i6 (↑i1:Int)),(5,i6 (w6 ((↑i2:Int) + 1))),(6,i6 (↑i3:Int)),(7,AV.ref 0 0),(8,sQ x0.sorts),(9,i6 (↑x0.sorts.length:Int)),(10,bo false),(11,bo false),(12,AV.ref 0 1),(13,cQ x0.consts),(14,i6 (↑x0.consts.length:Int)),(15,bo false),(16,bo false),(17,bo false),(18,AV.ref 0 2),(19,pQ x0.preds),(20,i6 (↑x0.preds.length:Int)),(21,bo false),(22,bo false),(23,bo false),(24,AV.ref 0 0),(25,sQ x0.sorts),(26,i6 (↑x0.sorts.length:Int)),(27,AV.ref 0 1),(28,cQ x0.consts),(29,i6 (↑x0.consts.length:Int)),(30,i6 (w6 ((↑x0.sorts.length:Int) + (↑x0.consts.length:Int)))),(31,AV.ref 0 2),(32,pQ x0.preds),(33,i6 (↑x0.preds.length:Int)),(34,i6 (w6 (w6 ((↑x0.sorts.length:Int) + (↑x0.consts.length:Int)) + (↑x0.preds.length:Int)))),(35,bo false),(36,bo false),(37,i6 (↑i0:Int)),(38,AV.ref 0 0),(39,sQ x0.sorts),(40,i6 (↑x0.sorts.length:Int)),(41,bo false),(51,i6 (↑i1:Int)),(52,AV.ref 0 1),(53,cQ x0.consts),(54,i6 (↑x0.consts.length:Int)),(55,bo false),(76,i6 (↑i2:Int)),(77,AV.ref 0 2),(78,pQ x0.preds),(79,i6 (↑x0.preds.length:Int)),(80,bo true),(81,i6 (↑i2:Int)),(82,i6 (w6 ((↑i2:Int) + 1))),(83,AV.ref 0 2),(84,pQ x0.preds),(85,i6 (↑i2:Int)),(86,AV.eaddr (st a::sQ c::r86)),(87,AV.eaddr (st a::sQ c::r86)),(88,st a),(89,i6 (↑(ByteArray.size a):Int)),(90,bo false),(91,bo false),(92,AV.ref 0 2),(93,pQ x0.preds),(94,i6 (↑i2:Int)),(95,AV.eaddr (st d::sQ e::r95)),(96,AV.eaddr (sQ e::r95)),(97,sQ e),(98,i6 (↑e.length:Int)),(99,bo false),(100,bo false),(101,i6 (↑i3:Int)),(102,AV.ref 0 2),(103,pQ x0.preds),(104,i6 (↑i2:Int)),(105,AV.eaddr (st g::sQ h::r105)),(106,AV.eaddr (sQ h::r105)),(107,sQ h),(108,i6 (↑h.length:Int)),(109,bo false)] [Ob.cells (gQ x0)],around_sound (ans:=[(5,Ans.b true),(11,Ans.v (AV.eaddr (st a::sQ c::r86))),(15,Ans.b false),(24,Ans.v (AV.eaddr (st d::sQ e::r95))),(32,Ans.b false),(37,Ans.l (Ex.exit 6) (f13_S12 x0 i0 i1 i2 a c r86 d e r95 i3 g h r105))]) (by kernel_rfl) (ai h0 (ai h1 (ai h2 (ai h3 (ai h4 (ai h5 trivial)))))),by unfold f13_F2; rw [e0]; show _=_; kernel_rfl⟩
def f13_S13 (x0:Sgn)(i0 i1 i2:Nat):St :=
  stOf 123 [2,6,42,43,44,45,46,47,48,49,50,56,57,58,59,60,61,62,63,64,65,66,67,68,69,70,71,72,73,74,75,81,82,83,84,85,86,87,88,89,90,91,92,93,94,95,96,97,98,99,100,101,102,103,104,105,106,107,108,109,110,111,112,113,114,115,116,117,118,119,120,121,122] [(0,AV.agg (gQ x0)),(1,AV.ref 0 0),(3,i6 (↑i0:Int)),(4,i6 (↑i1:Int)),(5,i6 (↑i2:Int)),(7,AV.ref 0 0),(8,sQ x0.sorts),(9,i6 (↑x0.sorts.length:Int)),(10,bo false),(11,bo false),(12,AV.ref 0 1),(13,cQ x0.consts),(14,i6 (↑x0.consts.length:Int)),(15,bo false),(16,bo false),(17,bo false),(18,AV.ref 0 2),(19,pQ x0.preds),(20,i6 (↑x0.preds.length:Int)),(21,bo false),(22,bo false),(23,bo false),(24,AV.ref 0 0),(25,sQ x0.sorts),(26,i6 (↑x0.sorts.length:Int)),(27,AV.ref 0 1),(28,cQ x0.consts),(29,i6 (↑x0.consts.length:Int)),(30,i6 (w6 ((↑x0.sorts.length:Int) + (↑x0.consts.length:Int)))),(31,AV.ref 0 2),(32,pQ x0.preds),(33,i6 (↑x0.preds.length:Int)),(34,i6 (w6 (w6 ((↑x0.sorts.length:Int) + (↑x0.consts.length:Int)) + (↑x0.preds.length:Int)))),(35,bo false),(36,bo false),(37,i6 (↑i0:Int)),(38,AV.ref 0 0),(39,sQ x0.sorts),(40,i6 (↑x0.sorts.length:Int)),(41,bo false),(51,i6 (↑i1:Int)),(52,AV.ref 0 1),(53,cQ x0.consts),(54,i6 (↑x0.consts.length:Int)),(55,bo false),(76,i6 (↑i2:Int)),(77,AV.ref 0 2),(78,pQ x0.preds),(79,i6 (↑x0.preds.length:Int)),(80,bo false)] [Ob.cells (gQ x0)]
theorem f13_r2_f (x0:Sgn)(X:Ext)(call:Caller)(lf i0 i1 i2:Nat)
 (h0:decide ((↑i2:Int)<(↑x0.preds.length:Int))=false):vexec Tryd.prog X call lf 0 noFg (loopN Tryd.f13 2) (f13_F2 x0 i0 i1 i2)=some (Ex.exit 4,(f13_S13 x0 i0 i1 i2)) :=
  around_sound (ans:=[(5,Ans.b false)]) (by kernel_rfl) (ai h0 trivial)
theorem f13_pfffflflflf (x0:Sgn)(X:Ext)(call:Caller)(lf i0 i1 i2:Nat)
 (h0:decide ((↑x0.sorts.length:Int)>300)=false)
 (h1:decide ((↑x0.consts.length:Int)>300)=false)
 (h2:decide ((↑x0.preds.length:Int)>300)=false)
 (h3:decide (w6 (w6 ((↑x0.sorts.length:Int) + (↑x0.consts.length:Int)) + (↑x0.preds.length:Int))>300)=false)
 (h4:vexec Tryd.prog X call lf 0 noFg (Code.loop (loopN Tryd.f13 0)) (f13_S0 x0)=some (Ex.exit 0,(f13_S2 x0 i0)))
 (h5:vexec Tryd.prog X call lf 0 noFg (Code.loop (loopN Tryd.f13 1)) (f13_S3 x0 i0)=some (Ex.exit 2,(f13_S6 x0 i0 i1)))
 (h6:vexec Tryd.prog X call lf 0 noFg (Code.loop (loopN Tryd.f13 2)) (f13_S7 x0 i0 i1)=some (Ex.exit 4,(f13_S13 x0 i0 i1 i2))):vbody Tryd.prog X call lf noFg Tryd.f13 (codeOf Tryd.f13) [AV.agg (sgnC x0)] [] 0=some (bo true,[Ob.cells (gQ x0)]) :=
  along_sound (ans:=[(7,Ans.b false),(16,Ans.b false),(26,Ans.b false),(52,Ans.b false),(57,Ans.l (Ex.exit 0) (f13_S2 x0 i0)),(60,Ans.l (Ex.exit 2) (f13_S6 x0 i0 i1)),(63,Ans.l (Ex.exit 4) (f13_S13 x0 i0 i1 i2))]) (by kernel_rfl) (ai h0 (ai h1 (ai h2 (ai h3 (ai h4 (ai h5 (ai h6 trivial)))))))
def f13_q0 (x0:Sgn):Nat :=
  (match decide ((↑x0.sorts.length:Int)>300) with
  | true=>0
  | false=>(match decide ((↑x0.consts.length:Int)>300) with
    | true=>0
    | false=>(match decide ((↑x0.preds.length:Int)>300) with
      | true=>0
      | false=>(match decide (w6 (w6 ((↑x0.sorts.length:Int) + (↑x0.consts.length:Int)) + (↑x0.preds.length:Int))>300) with
        | true=>0
        | false=>999))))
theorem f13_P0 (x0:Sgn)(X:Ext)(call:Caller)(lf:Nat) :
    (f13_q0 x0=0→vbody Tryd.prog X call lf noFg Tryd.f13 (codeOf Tryd.f13) [AV.agg (sgnC x0)] [] 0=some (bo false,[Ob.cells (gQ x0)])):=by
  unfold f13_q0
  cases c0:decide ((↑x0.sorts.length:Int)>300) with
  | true =>
    exact fun _=>f13_pt x0 X call lf c0
  | false =>
    cases c1:decide ((↑x0.consts.length:Int)>300) with
    | true =>
      exact fun _=>f13_pft x0 X call lf c0 c1
    | false =>
      cases c2:decide ((↑x0.preds.length:Int)>300) with
      | true =>
        exact fun _=>f13_pfft x0 X call lf c0 c1 c2
      | false =>
        cases c3:decide (w6 (w6 ((↑x0.sorts.length:Int) + (↑x0.consts.length:Int)) + (↑x0.preds.length:Int))>300) with
        | true =>
          exact fun _=>f13_pffft x0 X call lf c0 c1 c2 c3
        | false =>
          exact fun h=>absurd (show (999:Nat)=0 from h) (by decide)
def f13_o0 (x0:Sgn)(i0:Nat)(a:ByteArray):Nat :=
  (match decide ((↑i0:Int)<(↑x0.sorts.length:Int)) with
  | true=>(match decide ((↑(ByteArray.size a):Int)>40) with
    | true=>1
    | false=>0)
  | false=>2)
theorem f13_B0 (x0:Sgn)(X:Ext)(call:Caller)(lf i0:Nat)(a:ByteArray)(r47:List AV)
 (g0:decide ((↑i0:Int)<(↑x0.sorts.length:Int))=true→kiq 22 [Ob.cells (gQ x0)] (sQ x0.sorts) (i6 (↑i0:Int)) (st a::r47))
 (e0:decide ((↑i0:Int)<(↑x0.sorts.length:Int))=true→(↑(i0 + 1):Int)=w6 ((↑i0:Int) + 1)) :
    (f13_o0 x0 i0 a=0→∃ Sx,vexec Tryd.prog X call lf 0 noFg (loopN Tryd.f13 0) (f13_F0 x0 i0)=some (Ex.normal,Sx)∧forget f13_D0 Sx=(f13_F0 x0 (i0 + 1)))∧(f13_o0 x0 i0 a=1→vexec Tryd.prog X call lf 0 noFg (loopN Tryd.f13 0) (f13_F0 x0 i0)=some (Ex.ret,(f13_S1 x0 i0 a r47)))∧(f13_o0 x0 i0 a=2→vexec Tryd.prog X call lf 0 noFg (loopN Tryd.f13 0) (f13_F0 x0 i0)=some (Ex.exit 0,(f13_S2 x0 i0))):=by
  unfold f13_o0
  cases c0:decide ((↑i0:Int)<(↑x0.sorts.length:Int)) with
  | true =>
    cases c1:decide ((↑(ByteArray.size a):Int)>40) with
    | true =>
      exact ⟨fun h=>nq h,fun _=>f13_r0_tt x0 X call lf i0 a r47 c0 (g0 c0) c1,fun h=>nq h⟩
    | false =>
      exact ⟨fun _=>f13_s0_tf x0 X call lf i0 a r47 c0 (g0 c0) c1 (e0 c0),fun h=>nq h,fun h=>nq h⟩
  | false =>
    exact ⟨fun h=>nq h,fun h=>nq h,fun _=>f13_r0_f x0 X call lf i0 c0⟩
def f13_o1 (x0:Sgn)(i1:Nat)(a b:ByteArray):Nat :=
  (match decide ((↑i1:Int)<(↑x0.consts.length:Int)) with
  | true=>(match decide ((↑(ByteArray.size a):Int)>40) with
    | true=>1
    | false=>(match decide ((↑(ByteArray.size b):Int)>40) with
      | true=>2
      | false=>0))
  | false=>3)
theorem f13_B1 (x0:Sgn)(X:Ext)(call:Caller)(lf i0 i1:Nat)(a b:ByteArray)(r61:List AV)(c d:ByteArray)(r70:List AV)
 (g0:decide ((↑i1:Int)<(↑x0.consts.length:Int))=true→kiq 23 [Ob.cells (gQ x0)] (cQ x0.consts) (i6 (↑i1:Int)) (st a::st b::r61))
 (g1:decide ((↑i1:Int)<(↑x0.consts.length:Int))=true→decide ((↑(ByteArray.size a):Int)>40)=false→kiq 23 [Ob.cells (gQ x0)] (cQ x0.consts) (i6 (↑i1:Int)) (st c::st d::r70))
 (e0:decide ((↑i1:Int)<(↑x0.consts.length:Int))=true→(↑(i1 + 1):Int)=w6 ((↑i1:Int) + 1)) :
    (f13_o1 x0 i1 a d=0→∃ Sx,vexec Tryd.prog X call lf 0 noFg (loopN Tryd.f13 1) (f13_F1 x0 i0 i1)=some (Ex.normal,Sx)∧forget f13_D1 Sx=(f13_F1 x0 i0 (i1 + 1)))∧(f13_o1 x0 i1 a d=1→vexec Tryd.prog X call lf 0 noFg (loopN Tryd.f13 1) (f13_F1 x0 i0 i1)=some (Ex.ret,(f13_S4 x0 i0 i1 a b r61)))∧(f13_o1 x0 i1 a d=2→vexec Tryd.prog X call lf 0 noFg (loopN Tryd.f13 1) (f13_F1 x0 i0 i1)=some (Ex.ret,(f13_S5 x0 i0 i1 a b r61 c d r70)))∧(f13_o1 x0 i1 a d=3→vexec Tryd.prog X call lf 0 noFg (loopN Tryd.f13 1) (f13_F1 x0 i0 i1)=some (Ex.exit 2,(f13_S6 x0 i0 i1))):=by
  unfold f13_o1
  cases c0:decide ((↑i1:Int)<(↑x0.consts.length:Int)) with
  | true =>
    cases c1:decide ((↑(ByteArray.size a):Int)>40) with
    | true =>
      exact ⟨fun h=>nq h,fun _=>f13_r1_tt x0 X call lf i0 i1 a b r61 c0 (g0 c0) c1,fun h=>nq h,fun h=>nq h⟩
    | false =>
      cases c2:decide ((↑(ByteArray.size d):Int)>40) with
      | true =>
        exact ⟨fun h=>nq h,fun h=>nq h,fun _=>f13_r1_tft x0 X call lf i0 i1 a b r61 c d r70 c0 (g0 c0) c1 (g1 c0 c1) c2,fun h=>nq h⟩
      | false =>
        exact ⟨fun _=>f13_s1_tff x0 X call lf i0 i1 a b r61 c d r70 c0 (g0 c0) c1 (g1 c0 c1) c2 (e0 c0),fun h=>nq h,fun h=>nq h,fun h=>nq h⟩
  | false =>
    exact ⟨fun h=>nq h,fun h=>nq h,fun h=>nq h,fun _=>f13_r1_f x0 X call lf i0 i1 c0⟩
def f13_o3 (i3:Nat)(a:List ByteArray)(b:ByteArray):Nat :=
  (match decide ((↑i3:Int)<(↑a.length:Int)) with
  | true=>(match decide ((↑(ByteArray.size b):Int)>40) with
    | true=>1
    | false=>0)
  | false=>2)
theorem f13_B3 (x0:Sgn)(X:Ext)(call:Caller)(lf i0 i1 i2:Nat)(a:ByteArray)(b:List ByteArray)(r86:List AV)(c:ByteArray)(d:List ByteArray)(r95:List AV)(i3:Nat)(e:ByteArray)(g:List ByteArray)(r105:List AV)(j:ByteArray)(k:List ByteArray)(r115:List AV)(p:ByteArray)(r119:List AV)
 (g0:kiq 24 [Ob.cells (gQ x0)] (pQ x0.preds) (i6 (↑i2:Int)) (st e::sQ g::r105))
 (g1:decide ((↑i3:Int)<(↑g.length:Int))=true→kiq 24 [Ob.cells (gQ x0)] (pQ x0.preds) (i6 (↑i2:Int)) (st j::sQ k::r115))
 (g2:decide ((↑i3:Int)<(↑g.length:Int))=true→kiq 22 [Ob.cells (gQ x0)] (sQ k) (i6 (↑i3:Int)) (st p::r119))
 (e0:decide ((↑i3:Int)<(↑g.length:Int))=true→(↑(i3 + 1):Int)=w6 ((↑i3:Int) + 1)) :
    (f13_o3 i3 g p=0→∃ Sx,vexec Tryd.prog X call lf 0 noFg (loopN Tryd.f13 3) (f13_F3 x0 i0 i1 i2 a b r86 c d r95 i3)=some (Ex.normal,Sx)∧forget f13_D3 Sx=(f13_F3 x0 i0 i1 i2 a b r86 c d r95 (i3 + 1)))∧(f13_o3 i3 g p=1→vexec Tryd.prog X call lf 0 noFg (loopN Tryd.f13 3) (f13_F3 x0 i0 i1 i2 a b r86 c d r95 i3)=some (Ex.ret,(f13_S11 x0 i0 i1 i2 a b r86 c d r95 i3 e g r105 j k r115 p r119)))∧(f13_o3 i3 g p=2→vexec Tryd.prog X call lf 0 noFg (loopN Tryd.f13 3) (f13_F3 x0 i0 i1 i2 a b r86 c d r95 i3)=some (Ex.exit 6,(f13_S12 x0 i0 i1 i2 a b r86 c d r95 i3 e g r105))):=by
  unfold f13_o3
  cases c0:decide ((↑i3:Int)<(↑g.length:Int)) with
  | true =>
    cases c1:decide ((↑(ByteArray.size p):Int)>40) with
    | true =>
      exact ⟨fun h=>nq h,fun _=>f13_r3_tt x0 X call lf i0 i1 i2 a b r86 c d r95 i3 e g r105 j k r115 p r119 g0 c0 (g1 c0) (g2 c0) c1,fun h=>nq h⟩
    | false =>
      exact ⟨fun _=>f13_s3_tf x0 X call lf i0 i1 i2 a b r86 c d r95 i3 e g r105 j k r115 p r119 g0 c0 (g1 c0) (g2 c0) c1 (e0 c0),fun h=>nq h,fun h=>nq h⟩
  | false =>
    exact ⟨fun h=>nq h,fun h=>nq h,fun _=>f13_r3_f x0 X call lf i0 i1 i2 a b r86 c d r95 i3 e g r105 g0 c0⟩
end Go.Proofs.Sig
end
/- Signature: Clip, awake, walked (printed) -/
section
open Go Go.Vm Go.Proofs
namespace Go.Proofs.Sig
theorem f55_p (l0:List ByteArray)(X:Ext)(call:Caller)(lf:Nat)(l8:List ByteArray)(k8:LK)(rE:AV)(sE:List Ob)
 (h0:slc Tryd.prog 22 [] false 0 (sQ l0) none (some (i6 (↑l0.length:Int))) (some (i6 (↑l0.length:Int)))=some (AV.list k8 l8.length 1 (List.map st l8),[]))
 (h1:vend1 [] 0 [] [AV.list k8 l8.length 1 (List.map st l8)]=some (rE,sE)):vbody Tryd.prog X call lf noFg Tryd.f55 (codeOf Tryd.f55) [strsV l0] [] 0=some (rE,sE) :=
  along_sound (ans:=[(8,Ans.v (AV.list k8 l8.length 1 (List.map st l8))),(10,Ans.c rE sE)]) (by kernel_rfl) (ai h0 (ai h1 trivial))
theorem f12_p (x1:Sgn)(X:Ext)(call:Caller)(lf:Nat)
 (h0:cvq X call false 16 [st (ByteArray.mk (List.toArray (List.append [115,111,114,116,32,112,101,114,115,111,110,10,99,111,110,115,116,97,110,116,32,109,97,114,116,97,32,112,101,114,115,111,110,10,112,114,101,100,105,99,97,116] [101,32,119,97,105,116,32,112,101,114,115,111,110,10,112,114,101,100,105,99,97,116,101,32,99,111,115,116,32,112,101,114,115,111,110,32,110,117,109,98,101,114,10])))] [] (AV.tup [AV.agg (gQ x1),i6 0,i6 0]))
 (h1:cvq X call false 19 [AV.agg (gQ x1),st (ByteArray.mk #[109,97,114,116,97])] [Ob.cells (gQ x1)] (AV.tup [st (ByteArray.mk #[112,101,114,115,111,110]),bo true]))
 (h2:cvq X call false 31 [AV.agg (gQ x1),st (ByteArray.mk #[112,101,114,115,111,110])] [Ob.cells (gQ x1)] (lro 1 1 [st (ByteArray.mk #[119,97,105,116])]))
 (h3:cvq X call false 16 [st (ByteArray.mk #[112,114,101,100,105,99,97,116,101,32,119,97,105,116,32,112,101,114,115,111,110,10])] [Ob.cells (gQ x1)] (AV.tup [AV.agg [lro 0 1 [],lro 0 2 [],lro 0 2 []],i6 1,i6 3]))
 (h4:cvq X call false 14 [AV.agg (gQ x1)] [Ob.cells (gQ x1),Ob.cells [lro 0 1 [],lro 0 2 [],lro 0 2 []]] (bo true))
 (h5:cvq X call false 23 [AV.agg (gQ x1),st (ByteArray.mk #[110,117,109,98,101,114])] [Ob.cells (gQ x1),Ob.cells [lro 0 1 [],lro 0 2 [],lro 0 2 []]] (bo true)):vbody Tryd.prog X call lf noFg Tryd.f12 (codeOf Tryd.f12) [] [] 0=some (bo true,[Ob.cells (gQ x1),Ob.cells [lro 0 1 [],lro 0 2 [],lro 0 2 []]]) :=
  along_sound (ans:=[(3,Ans.v (AV.tup [AV.agg (gQ x1),i6 0,i6 0])),(14,Ans.v (AV.tup [st (ByteArray.mk #[112,101,114,115,111,110]),bo true])),(22,Ans.v (lro 1 1 [st (ByteArray.mk #[119,97,105,116])])),(25,Ans.v (AV.tup [AV.agg [lro 0 1 [],lro 0 2 [],lro 0 2 []],i6 1,i6 3])),(47,Ans.v (bo true)),(81,Ans.v (bo true))]) (by kernel_rfl) (ai h0 (ai h1 (ai h2 (ai h3 (ai h4 (ai h5 trivial))))))
end Go.Proofs.Sig
end
/- Signature: few, told. -/
section
open Go Go.Vm Go.Proofs
namespace Go.Proofs.Sig
def fewS (s:ByteArray):Bool := !decide ((↑s.size:Int) > 40)
def fewC (c:Cst):Bool:=fewS c.name && fewS c.sort
def fewP (p:Prd):Bool:=fewS p.name && !decide ((↑p.args.length:Int) > 6) && p.args.all fewS
def fewN (x:Sgn):Bool := !decide ((↑x.sorts.length:Int) > 300) && !decide ((↑x.consts.length:Int) > 300) && !decide ((↑x.preds.length:Int) > 300) && !decide (w6 (w6 ((↑x.sorts.length:Int) + (↑x.consts.length:Int)) + (↑x.preds.length:Int)) > 300)
def fewB (x:Sgn):Bool:=fewN x && x.sorts.all fewS && x.consts.all fewC && x.preds.all fewP
theorem all_false {α:Type} {d:α} {l:List α} {p:α→Bool} {k:Nat} (hk:k < l.length) (h:p (l.getD k d)=false):l.all p=false:=by
  rw [Bool.eq_false_iff]
  intro h2
  rw [List.all_eq_true] at h2
  have:=h2 (l.getD k d) (by rw [getD_lt hk]; exact List.getElem_mem hk)
  rw [h] at this; cases this
theorem all_true {α:Type} {d:α} {l:List α} {p:α→Bool} (h:∀ i,i < l.length→p (l.getD i d)=true):l.all p=true:=by
  rw [List.all_eq_true]
  intro x hx
  obtain ⟨i,hi,e⟩:=List.getElem_of_mem hx
  have:=h i hi
  rwa [getD_lt hi,e] at this
/-- All hold, or there is a first that does not. -/
theorem all_cases {α:Type} (d:α) (l:List α) (p:α→Bool):(l.all p=true∧∀ i,i < l.length→p (l.getD i d)=true) ∨ (l.all p=false∧∃ k,k < l.length∧p (l.getD k d)=false∧∀ i,i < k→p (l.getD i d)=true):=by
  rcases first_fail (p:=fun i=>p (l.getD i d)=true) l.length with h | ⟨k,h1,h2,h3⟩
  · exact .inl ⟨all_true h,h⟩
  · have h2 : p (l.getD k d) = false := by simpa using h2
    exact .inr ⟨all_false h1 h2,k,h1,h2,h3⟩
theorem dt {a b:Nat} (h:a < b):decide ((↑a:Int) < (↑b:Int))=true:=decide_eq_true (by omega)
theorem df {a b:Nat} (h:b ≤ a):decide ((↑a:Int) < (↑b:Int))=false:=decide_eq_false (by omega)
theorem dlt {a b:Nat} (h:decide ((↑a:Int) < (↑b:Int))=true):a < b:=by have:=of_decide_eq_true h; omega
section
variable [Fixed] {X:Ext} {call:Caller} {lf:Nat} {x:Sgn}
set_option maxRecDepth 100000 in
theorem few13 (hlf:1000 < lf):∃ σ',vbody Tryd.prog X call lf noFg Tryd.f13 (codeOf Tryd.f13) [.agg (sgnC x)] [] 0=some (bo (fewB x),σ'):=by
  cases hN:fewN x with
  | false =>
    have hq : f13_q0 x = 0 := by
      unfold fewN at hN
      unfold f13_q0
      revert hN
      cases decide ((↑x.sorts.length:Int) > 300) <;> cases decide ((↑x.consts.length:Int) > 300) <;> cases decide ((↑x.preds.length:Int) > 300) <;> cases decide (w6 (w6 ((↑x.sorts.length:Int) + (↑x.consts.length:Int)) + (↑x.preds.length:Int)) > 300) <;> simp
    have e:fewB x=false:=by unfold fewB; rw [hN]; rfl
    rw [e]
    exact ⟨_,f13_P0 x X call lf hq⟩
  | true =>
  have hN' := hN
  unfold fewN at hN
  simp only [Bool.and_eq_true,Bool.not_eq_true'] at hN
  obtain ⟨⟨⟨h0,h1⟩,h2⟩,h3⟩:=hN
  have hns:x.sorts.length ≤ 300:=by have:=of_decide_eq_false h0; omega
  have hnc:x.consts.length ≤ 300:=by have:=of_decide_eq_false h1; omega
  have hnp:x.preds.length ≤ 300:=by have:=of_decide_eq_false h2; omega
  have hbig:big=140737488355328:=rfl
  unfold fewB
  rw [hN',Bool.true_and]
  have o0 : ∀ i s, (i < x.sorts.length → fewS s = true → f13_o0 x i s = 0) ∧ (x.sorts.length ≤ i → f13_o0 x i s = 2) := by
    intro i s
    unfold f13_o0 fewS
    refine ⟨fun a b => ?_,fun a => ?_⟩
    · rw [dt a]; revert b; cases decide ((↑s.size:Int) > 40) <;> simp
    · rw [df a]
  have o1 : ∀ i (c : Cst), (i < x.consts.length → fewC c = true → f13_o1 x i c.name c.sort = 0) ∧ (x.consts.length ≤ i → f13_o1 x i c.name c.sort = 3) := by
    intro i c
    unfold f13_o1 fewC fewS
    refine ⟨fun a b => ?_,fun a => ?_⟩
    · rw [dt a]; revert b; cases decide ((↑c.name.size:Int) > 40) <;> cases decide ((↑c.sort.size:Int) > 40) <;> simp
    · rw [df a]
  have o3 : ∀ i l s, (i < l.length → fewS s = true → f13_o3 i l s = 0) ∧ (l.length ≤ i → f13_o3 i l s = 2) := by
    intro i l s
    unfold f13_o3 fewS
    refine ⟨fun a b => ?_,fun a => ?_⟩
    · rw [dt a]; revert b; cases decide ((↑s.size:Int) > 40) <;> simp
    · rw [df a]
  have B0:=fun i=>f13_B0 x X call lf i (nS x.sorts i) (tS x.sorts i) (fun h=>at_strs (dlt h)) (fun h=>up (dlt h) (by omega))
  have B1:=fun i=>f13_B1 x X call lf x.sorts.length i (nC x.consts i).name (nC x.consts i).sort (tC x.consts i) (nC x.consts i).name (nC x.consts i).sort (tC x.consts i) (fun h=>at_cst (dlt h)) (fun h _=>at_cst (dlt h)) (fun h=>up (dlt h) (by omega))
  rcases all_cases emp x.sorts fewS with ⟨e,hall⟩ | ⟨e,k,hk,hbad,hbef⟩
  rotate_left
  · rw [e]
    have r:=f13_r0_tt x X call lf k (nS x.sorts k) (tS x.sorts k) (dt hk) (at_strs hk) (by unfold fewS at hbad; simpa using hbad)
    have l0:=f13_L0 x X call lf k _ _ (by omega) (fun j hj=>(B0 j).1 ((o0 j _).1 (by omega) (hbef j hj))) r (by simp)
    exact ⟨_,f13_pffffltt x X call lf k _ _ h0 h1 h2 h3 l0⟩
  rw [e,Bool.true_and]
  have l0:=f13_L0 x X call lf x.sorts.length _ _ (by omega) (fun j hj=>(B0 j).1 ((o0 j _).1 hj (hall j hj))) ((B0 x.sorts.length).2.2 ((o0 _ _).2 (Nat.le_refl _))) (by simp)
  clear e hall
  rcases all_cases d0C x.consts fewC with ⟨e,hall⟩ | ⟨e,k,hk,hbad,hbef⟩
  rotate_left
  · rw [e]
    cases hc:decide ((↑(nC x.consts k).name.size:Int) > 40) with
    | true =>
      have r:=f13_r1_tt x X call lf x.sorts.length k (nC x.consts k).name (nC x.consts k).sort (tC x.consts k) (dt hk) (at_cst hk) hc
      have l1:=f13_L1 x x.sorts.length X call lf k _ _ (by omega) (fun j hj=>(B1 j).1 ((o1 j _).1 (by omega) (hbef j hj))) r (by simp)
      exact ⟨_,f13_pfffflfltt x X call lf x.sorts.length k _ _ _ h0 h1 h2 h3 l0 l1⟩
    | false =>
      have hc2 : decide ((↑(nC x.consts k).sort.size : Int) > 40) = true := by
        unfold fewC fewS at hbad
        rw [show x.consts.getD k d0C=nC x.consts k from rfl,hc] at hbad
        simpa using hbad
      have r:=f13_r1_tft x X call lf x.sorts.length k (nC x.consts k).name (nC x.consts k).sort (tC x.consts k) (nC x.consts k).name (nC x.consts k).sort (tC x.consts k) (dt hk) (at_cst hk) hc (at_cst hk) hc2
      have l1:=f13_L1 x x.sorts.length X call lf k _ _ (by omega) (fun j hj=>(B1 j).1 ((o1 j _).1 (by omega) (hbef j hj))) r (by simp)
      exact ⟨_,f13_pfffflfltft x X call lf x.sorts.length k _ _ _ _ _ _ h0 h1 h2 h3 l0 l1⟩
  rw [e,Bool.true_and]
  have l1:=f13_L1 x x.sorts.length X call lf x.consts.length _ _ (by omega) (fun j hj=>(B1 j).1 ((o1 j _).1 hj (hall j hj))) ((B1 x.consts.length).2.2.2 ((o1 _ _).2 (Nat.le_refl _))) (by simp)
  clear e hall
  -- the loop over a predicate's arguments
  have B3 := fun i j (hi : i < x.preds.length) (hj : (nP x.preds i).args.length ≤ 6) => f13_B3 x X call lf x.sorts.length x.consts.length i (nP x.preds i).name (nP x.preds i).args (tP x.preds i) (nP x.preds i).name (nP x.preds i).args (tP x.preds i) j (nP x.preds i).name (nP x.preds i).args (tP x.preds i) (nP x.preds i).name (nP x.preds i).args (tP x.preds i) (nS (nP x.preds i).args j) (tS (nP x.preds i).args j)
    (at_prd hi) (fun _=>at_prd hi) (fun h=>at_strs (dlt h)) (fun h=>up (dlt h) (by omega))
  have good : ∀ i, i < x.preds.length → fewP (nP x.preds i) = true → ∃ Sx, vexec Tryd.prog X call lf 0 noFg (loopN Tryd.f13 2) (f13_F2 x x.sorts.length x.consts.length i) = some (Ex.normal, Sx) ∧ forget f13_D2 Sx = f13_F2 x x.sorts.length x.consts.length (i + 1) := by
    intro i hi hp
    unfold fewP at hp
    simp only [Bool.and_eq_true,Bool.not_eq_true'] at hp
    obtain ⟨⟨p1,p2⟩,p3⟩:=hp
    have p1:decide ((↑(nP x.preds i).name.size:Int) > 40)=false:=by unfold fewS at p1; simpa using p1
    have hlen:(nP x.preds i).args.length ≤ 6:=by have:=of_decide_eq_false p2; omega
    have hall:∀ j,j < (nP x.preds i).args.length→fewS (nS (nP x.preds i).args j)=true:=fun j hj=>List.all_eq_true.1 p3 _ (by rw [nS,getD_lt hj]; exact List.getElem_mem hj)
    have l3:=f13_L3 x x.sorts.length x.consts.length i (nP x.preds i).name (nP x.preds i).args (tP x.preds i) (nP x.preds i).name (nP x.preds i).args (tP x.preds i) X call lf (nP x.preds i).args.length _ _ (by omega) (fun j hj=>(B3 i j hi hlen).1 ((o3 j _ _).1 hj (hall j hj))) ((B3 i (nP x.preds i).args.length hi hlen).2.2 ((o3 _ _ _).2 (Nat.le_refl _))) (by simp)
    exact f13_s2_tfflf x X call lf x.sorts.length x.consts.length i _ _ _ _ _ _ _ _ _ _ (dt hi) (at_prd hi) p1 (at_prd hi) p2 l3 (up hi (by omega))
  rcases all_cases d0P x.preds fewP with ⟨e,hall⟩ | ⟨e,k,hk,hbad,hbef⟩
  rotate_left
  · rw [e]
    have hbad:fewP (nP x.preds k)=false:=hbad
    cases hc:decide ((↑(nP x.preds k).name.size:Int) > 40) with
    | true =>
      have r:=f13_r2_tt x X call lf x.sorts.length x.consts.length k (nP x.preds k).name (nP x.preds k).args (tP x.preds k) (dt hk) (at_prd hk) hc
      have l2:=f13_L2 x x.sorts.length x.consts.length X call lf k _ _ (by omega) (fun j hj=>good j (by omega) (hbef j hj)) r (by simp)
      exact ⟨_,f13_pfffflflfltt x X call lf x.sorts.length x.consts.length k _ _ _ h0 h1 h2 h3 l0 l1 l2⟩
    | false =>
    cases hc2:decide ((↑(nP x.preds k).args.length:Int) > 6) with
    | true =>
      have r:=f13_r2_tft x X call lf x.sorts.length x.consts.length k (nP x.preds k).name (nP x.preds k).args (tP x.preds k) (nP x.preds k).name (nP x.preds k).args (tP x.preds k) (dt hk) (at_prd hk) hc (at_prd hk) hc2
      have l2:=f13_L2 x x.sorts.length x.consts.length X call lf k _ _ (by omega) (fun j hj=>good j (by omega) (hbef j hj)) r (by simp)
      exact ⟨_,f13_pfffflflfltft x X call lf x.sorts.length x.consts.length k _ _ _ _ _ _ h0 h1 h2 h3 l0 l1 l2⟩
    | false =>
      have hlen:(nP x.preds k).args.length ≤ 6:=by have:=of_decide_eq_false hc2; omega
      have h3b : (nP x.preds k).args.all fewS = false := by
        unfold fewP at hbad
        have:fewS (nP x.preds k).name=true:=by unfold fewS; rw [hc]; rfl
        rw [this,hc2] at hbad
        simpa using hbad
      rcases all_cases emp (nP x.preds k).args fewS with ⟨e',_⟩ | ⟨e',j,hj,hjb,hjbef⟩
      · rw [e'] at h3b; cases h3b
      · have r3 := f13_r3_tt x X call lf x.sorts.length x.consts.length k (nP x.preds k).name (nP x.preds k).args (tP x.preds k) (nP x.preds k).name (nP x.preds k).args (tP x.preds k) j (nP x.preds k).name (nP x.preds k).args (tP x.preds k) (nP x.preds k).name (nP x.preds k).args (tP x.preds k) (nS (nP x.preds k).args j) (tS (nP x.preds k).args j) (at_prd hk) (dt hj) (at_prd hk) (at_strs hj) (by unfold fewS at hjb; simpa using hjb)
        have l3:=f13_L3 x x.sorts.length x.consts.length k (nP x.preds k).name (nP x.preds k).args (tP x.preds k) (nP x.preds k).name (nP x.preds k).args (tP x.preds k) X call lf j _ _ (by omega) (fun i hi=>(B3 k i hk hlen).1 ((o3 i _ _).1 (by omega) (hjbef i hi))) r3 (by simp)
        have r:=f13_r2_tffltt x X call lf x.sorts.length x.consts.length k _ _ _ _ _ _ _ _ _ _ _ _ _ _ _ (dt hk) (at_prd hk) hc (at_prd hk) hc2 l3
        have l2:=f13_L2 x x.sorts.length x.consts.length X call lf k _ _ (by omega) (fun j hj=>good j (by omega) (hbef j hj)) r (by simp)
        exact ⟨_,f13_pfffflflfltffltt x X call lf x.sorts.length x.consts.length k _ _ _ _ _ _ _ _ _ _ _ _ _ _ _ h0 h1 h2 h3 l0 l1 l2⟩
  rw [e]
  have l2:=f13_L2 x x.sorts.length x.consts.length X call lf x.preds.length _ _ (by omega) (fun j hj=>good j hj (hall j hj)) (f13_r2_f x X call lf x.sorts.length x.consts.length x.preds.length (df (Nat.le_refl _))) (by simp)
  exact ⟨_,f13_pfffflflflf x X call lf x.sorts.length x.consts.length x.preds.length h0 h1 h2 h3 l0 l1 l2⟩
end
end Go.Proofs.Sig
end
/- Signature: the reference's Names and Valid, walked. -/
section
open Go Go.Vm Go.Proofs
namespace Go.Proofs.Sig
def namesL (x:Sgn):List ByteArray:=x.sorts ++ (x.consts.map (·.name) ++ x.preds.map (·.name))
/-- ref21.Valid. -/
def nameOk (l:List ByteArray) (i:Nat):Bool:=nameB (nS l i) && !bltB (nS l i) && !inB (l.take i) (nS l i)
def argsOk (x:Sgn) (p:Prd):Bool := !decide ((↑p.args.length:Int) < 1) && !decide ((↑p.args.length:Int) > 3) && p.args.all (hasSortB x)
def validR (x:Sgn):Bool := !decide ((↑(namesL x).length:Int) > 256) && (List.range (namesL x).length).all (nameOk (namesL x)) && x.consts.all (fun c=>inB x.sorts c.sort) && x.preds.all (argsOk x)
theorem range_cases (n:Nat) (p:Nat→Bool):((List.range n).all p=true∧∀ i,i < n→p i=true) ∨ ((List.range n).all p=false∧∃ k,k < n∧p k=false∧∀ i,i < k→p i=true):=by
  rcases first_fail (p:=fun i=>p i=true) n with h | ⟨k,h1,h2,h3⟩
  · exact .inl ⟨List.all_eq_true.2 fun i hi=>h i (List.mem_range.1 hi),h⟩
  · have h2 : p k = false := by simpa using h2
    refine .inr ⟨?_,k,h1,h2,h3⟩
    rw [Bool.eq_false_iff]
    intro h
    have:=List.all_eq_true.1 h k (List.mem_range.2 h1)
    rw [h2] at this; cases this
theorem slc_take [Fixed] {σ:List Ob} {l:List ByteArray} {i:Nat} (h:i ≤ l.length):slc Tryd.prog 22 σ true 0 (strsV l) none (some (i6 (↑i:Int))) none=some (strsV (l.take i),σ):=by
  have hk:Tryd.prog.cellsOf 9=1:=by kernel_rfl
  have hi:(Tryd.prog.info? 9).isSome=true:=by kernel_rfl
  have ho:AV.owns (strsV l)=[]:=by simp [strsV,AV.owns,owns_strs]
  unfold slc byValue1
  rw [if_pos ho]
  simp only [if_true]
  unfold slicev strsV
  rw [Tryd.underlying22]
  simp only [hk,hi,Option.isSome_none,Bool.false_eq_true,false_implies,and_self,or_true,if_true,boundv]
  have h2:(0:Int) ≤ ↑i∧(↑i:Int) ≤ ↑l.length:=by omega
  rw [if_pos h2]
  simp only [keep,Int.toNat_natCast,Nat.mul_one,Nat.zero_mul,List.drop_zero,Nat.sub_zero,Option.some.injEq,Prod.mk.injEq,and_true,reduceCtorEq,if_false,false_or,false_and]
  rw [← List.map_take,List.length_take,Nat.min_eq_left h]
section
variable [Fixed] {X:Ext} {call:Caller} {lf:Nat} {x:Sgn}
set_option maxRecDepth 100000 in
theorem valid15 (hk:okG x=true) (hlf:3000001 < lf) (h33:∀ σ,callv X call false 33 [.agg (sgnC x)] σ 0=some (strsV (namesL x),σ)) (h34:∀ s σ,s.size ≤ 1000000→callv X call true 34 [st s] σ 0=some (bo (nameB s),σ))
    (h35:∀ l s σ dr,l.length ≤ 3000000→callv X call dr 35 [strsV l,st s] σ 0=some (bo (inB l s),σ)) (h24:∀ s σ,callv X call false 24 [.agg (sgnC x),st s] σ 0=some (bo (hasSortB x s),σ)) :
    ∃ σ',vbody Tryd.prog X call lf fg15 Tryd.f15 (codeOf Tryd.f15) [.agg (sgnC x)] [] 0=some (bo (validR x),σ'):=by
  obtain ⟨hns,hnc,hnp,hss,hcc,hpp⟩:=okG_iff.1 hk
  have hNl:(namesL x).length=x.sorts.length + (x.consts.length + x.preds.length):=by simp [namesL]
  have hsz : ∀ i, (nS (namesL x) i).size ≤ 1000000 := by
    intro i
    by_cases hi:i < (namesL x).length
    · rw [nS, getD_lt hi]
      have:=List.getElem_mem hi
      generalize (namesL x)[i]=s at this
      unfold namesL at this
      rcases List.mem_append.1 this with h | h
      · exact hss _ h
      · rcases List.mem_append.1 h with h | h
        · obtain ⟨c, hc, rfl⟩ := List.mem_map.1 h
          exact (hcc c hc).1
        · obtain ⟨p, hp, rfl⟩ := List.mem_map.1 h
          exact (hpp p hp).1
    · rw [nS, List.getD_eq_getElem?_getD, List.getElem?_eq_none (by omega)]
      show (0:Nat) ≤ _
      omega
  have h33' := h33 [Ob.cells (sgnC x)]
  generalize hN:namesL x=N at *
  unfold validR
  rw [hN]
  cases h1:decide ((↑N.length:Int) > 256) with
  | true=>exact ⟨_,f15_pt x X call lf N h33' h1⟩
  | false =>
  have hN256:N.length ≤ 256:=by have:=of_decide_eq_false h1; omega
  have hbig:big=140737488355328:=rfl
  have hbl:∀ s,bltB s=(s.toList == (ByteArray.mk #[116,105,109,101]).toList || s.toList == (ByteArray.mk #[110,117,109,98,101,114]).toList):=fun _=>rfl
  have o0 : ∀ i, (i < N.length → nameOk N i = true → f15_o0 N i (nS N i) (nS N i) (nameB (nS N i)) (inB (N.take i) (nS N i)) = 0) ∧ (N.length ≤ i → f15_o0 N i (nS N i) (nS N i) (nameB (nS N i)) (inB (N.take i) (nS N i)) = 5) := by
    intro i
    unfold f15_o0 nameOk
    rw [hbl]
    refine ⟨fun a b => ?_,fun a => ?_⟩
    · rw [dt a]; revert b
      cases nameB (nS N i) <;> cases (nS N i).toList == (ByteArray.mk #[116,105,109,101]).toList <;> cases (nS N i).toList == (ByteArray.mk #[110,117,109,98,101,114]).toList <;> cases inB (N.take i) (nS N i) <;> simp
    · rw [df a]
  have h35t:∀ i,callv X call true 35 [strsV (N.take i),st (nS N i)] [Ob.cells (sgnC x)] 0=some (bo (inB (N.take i) (nS N i)),[Ob.cells (sgnC x)]):=fun i=>h35 _ _ _ _ (by rw [List.length_take]; omega)
  have B0:=fun i=>f15_B0 x X call lf N i (nS N i) (tS N i) (nS N i) (tS N i) (nS N i) (tS N i) (N.take i) .ro (nS N i) (tS N i) (nameB (nS N i)) (inB (N.take i) (nS N i)) (fun h=>at_strs (dlt h)) (fun _=>h34 _ _ (hsz i)) (fun h _=>at_strs (dlt h)) (fun h _ _=>at_strs (dlt h)) (fun h _ _ _=>slc_take (by have:=dlt h; omega)) (fun h _ _ _=>at_strs (dlt h)) (fun _ _ _ _=>h35t i) (fun h=>up (dlt h) (by omega))
  rcases range_cases N.length (nameOk N) with ⟨e,hall⟩ | ⟨e,k,hk',hbad,hbef⟩
  rotate_left
  · rw [e]
    have L0:=fun x' S' r hx=>f15_L0 x N X call lf k x' S' (by omega) (fun j hj=>(B0 j).1 ((o0 j).1 (by omega) (hbef j hj))) r hx
    cases n1:nameB (nS N k) with
    | false =>
      have h34k:=h34 (nS N k) [Ob.cells (sgnC x)] (hsz k)
      rw [n1] at h34k
      exact ⟨_,f15_pfltf x X call lf N k _ _ h33' h1 (L0 _ _ (f15_r0_tf x X call lf N k (nS N k) (tS N k) (dt hk') (at_strs hk') h34k) (by simp))⟩
    | true =>
    have h34k:=h34 (nS N k) [Ob.cells (sgnC x)] (hsz k)
    rw [n1] at h34k
    cases n2:(nS N k).toList == (ByteArray.mk #[116,105,109,101]).toList with
    | true=>exact ⟨_,f15_pflttt x X call lf N k _ _ _ _ h33' h1 (L0 _ _ (f15_r0_ttt x X call lf N k (nS N k) (tS N k) (nS N k) (tS N k) (dt hk') (at_strs hk') h34k (at_strs hk') n2) (by simp))⟩
    | false =>
    cases n3:(nS N k).toList == (ByteArray.mk #[110,117,109,98,101,114]).toList with
    | true=>exact ⟨_,f15_pflttft x X call lf N k _ _ _ _ _ _ h33' h1 (L0 _ _ (f15_r0_ttft x X call lf N k (nS N k) (tS N k) (nS N k) (tS N k) (nS N k) (tS N k) (dt hk') (at_strs hk') h34k (at_strs hk') n2 (at_strs hk') n3) (by simp))⟩
    | false =>
      have n4 : inB (N.take k) (nS N k) = true := by
        unfold nameOk at hbad
        rw [hbl,n1,n2,n3] at hbad
        simpa using hbad
      have hin:=h35t k
      rw [n4] at hin
      exact ⟨_,f15_pflttfft x X call lf N k _ _ _ _ _ _ _ _ _ _ h33' h1 (L0 _ _ (f15_r0_ttfft x X call lf N k (nS N k) (tS N k) (nS N k) (tS N k) (nS N k) (tS N k) (N.take k) .ro (nS N k) (tS N k) (dt hk') (at_strs hk') h34k (at_strs hk') n2 (at_strs hk') n3 (slc_take (by omega)) (at_strs hk') hin) (by simp))⟩
  rw [e,Bool.not_false,Bool.true_and,Bool.true_and]
  have l0:=f15_L0 x N X call lf N.length _ _ (by omega) (fun j hj=>(B0 j).1 ((o0 j).1 hj (hall j hj))) ((B0 N.length).2.2.2.2.2 ((o0 _).2 (Nat.le_refl _))) (by simp)
  clear e hall
  have o1 : ∀ i b, (i < x.consts.length → b = true → f15_o1 x i b = 0) ∧ (x.consts.length ≤ i → f15_o1 x i b = 2) := by
    intro i b
    unfold f15_o1
    refine ⟨fun a c => ?_,fun a => ?_⟩
    · rw [dt a,c]
    · rw [df a]
  have B1:=fun i=>f15_B1 x X call lf N N.length i (nC x.consts i).name (nC x.consts i).sort (tC x.consts i) (inB x.sorts (nC x.consts i).sort) (fun h=>at_cst (dlt h)) (fun _=>h35 _ _ _ _ (by omega)) (fun h=>up (dlt h) (by omega))
  rcases all_cases d0C x.consts (fun c=>inB x.sorts c.sort) with ⟨e,hall⟩ | ⟨e,k,hk',hbad,hbef⟩
  rotate_left
  · rw [e]
    have hin:=h35 x.sorts (nC x.consts k).sort [Ob.cells (sgnC x)] false (by omega)
    rw [show inB x.sorts (nC x.consts k).sort=false from hbad] at hin
    have l1:=f15_L1 x N N.length X call lf k _ _ (by omega) (fun j hj=>(B1 j).1 ((o1 j _).1 (by omega) (hbef j hj))) (f15_r1_tf x X call lf N N.length k (nC x.consts k).name (nC x.consts k).sort (tC x.consts k) (dt hk') (at_cst hk') hin) (by simp)
    exact ⟨_,f15_pflfltf x X call lf N N.length k _ _ _ h33' h1 l0 l1⟩
  rw [e,Bool.true_and]
  have l1:=f15_L1 x N N.length X call lf x.consts.length _ _ (by omega) (fun j hj=>(B1 j).1 ((o1 j _).1 hj (hall j hj))) ((B1 x.consts.length).2.2 ((o1 _ _).2 (Nat.le_refl _))) (by simp)
  clear e hall
  have o3 : ∀ (l : List ByteArray) i b, (i < l.length → b = true → f15_o3 l i b = 0) ∧ (l.length ≤ i → f15_o3 l i b = 2) := by
    intro l i b
    unfold f15_o3
    refine ⟨fun a c => ?_,fun a => ?_⟩
    · rw [dt a,c]
    · rw [df a]
  have B3:=fun i j=>f15_B3 x X call lf N N.length x.consts.length i (nP x.preds i).name (nP x.preds i).args (tP x.preds i) j (nS (nP x.preds i).args j) (tS (nP x.preds i).args j) (hasSortB x (nS (nP x.preds i).args j)) (fun h=>at_strs (dlt h)) (fun _=>h24 _ _)
  have good : ∀ i, i < x.preds.length → argsOk x (nP x.preds i) = true → ∃ Sx, vexec Tryd.prog X call lf 0 fg15 (loopN Tryd.f15 2) (f15_F2 x N N.length x.consts.length i) = some (Ex.normal, Sx) ∧ forget f15_D2 Sx = f15_F2 x N N.length x.consts.length (i + 1) := by
    intro i hi hp
    unfold argsOk at hp
    simp only [Bool.and_eq_true,Bool.not_eq_true'] at hp
    obtain ⟨⟨p1,p2⟩,p3⟩:=hp
    have hlen:(nP x.preds i).args.length ≤ 3:=by have:=of_decide_eq_false p2; omega
    have hall:∀ j,j < (nP x.preds i).args.length→hasSortB x (nS (nP x.preds i).args j)=true:=fun j hj=>List.all_eq_true.1 p3 _ (by rw [nS,getD_lt hj]; exact List.getElem_mem hj)
    have l3:=f15_L3 x N N.length x.consts.length i (nP x.preds i).name (nP x.preds i).args (tP x.preds i) X call lf (nP x.preds i).args.length _ _ (by omega) (fun j hj=>(B3 i j (fun h=>up (dlt h) (by omega))).1 ((o3 _ j _).1 hj (hall j hj))) ((B3 i (nP x.preds i).args.length (fun h=>absurd (dlt h) (by omega))).2.2 ((o3 _ _ _).2 (Nat.le_refl _))) (by simp)
    exact f15_s2_tfflf x X call lf N N.length x.consts.length i _ _ _ _ (dt hi) (at_prd hi) p1 p2 l3 (up hi (by omega))
  rcases all_cases d0P x.preds (argsOk x) with ⟨e,hall⟩ | ⟨e,k,hk',hbad,hbef⟩
  rotate_left
  · rw [e]
    have hbad:argsOk x (nP x.preds k)=false:=hbad
    have L2:=fun x' S' r hx=>f15_L2 x N N.length x.consts.length X call lf k x' S' (by omega) (fun j hj=>good j (by omega) (hbef j hj)) r hx
    cases n1:decide ((↑(nP x.preds k).args.length:Int) < 1) with
    | true=>exact ⟨_,f15_pflflfltt x X call lf N N.length x.consts.length k _ _ _ h33' h1 l0 l1 (L2 _ _ (f15_r2_tt x X call lf N N.length x.consts.length k (nP x.preds k).name (nP x.preds k).args (tP x.preds k) (dt hk') (at_prd hk') n1) (by simp))⟩
    | false =>
    cases n2:decide ((↑(nP x.preds k).args.length:Int) > 3) with
    | true=>exact ⟨_,f15_pflflfltft x X call lf N N.length x.consts.length k _ _ _ h33' h1 l0 l1 (L2 _ _ (f15_r2_tft x X call lf N N.length x.consts.length k (nP x.preds k).name (nP x.preds k).args (tP x.preds k) (dt hk') (at_prd hk') n1 n2) (by simp))⟩
    | false =>
      have hlen:(nP x.preds k).args.length ≤ 3:=by have:=of_decide_eq_false n2; omega
      have h3b : (nP x.preds k).args.all (hasSortB x) = false := by
        unfold argsOk at hbad
        rw [n1,n2] at hbad
        simpa using hbad
      rcases all_cases emp (nP x.preds k).args (hasSortB x) with ⟨e',_⟩ | ⟨e',j,hj,hjb,hjbef⟩
      · rw [e'] at h3b; cases h3b
      · have hin := h24 (nS (nP x.preds k).args j) [Ob.cells (sgnC x)]
        rw [show hasSortB x (nS (nP x.preds k).args j)=false from hjb] at hin
        have l3:=f15_L3 x N N.length x.consts.length k (nP x.preds k).name (nP x.preds k).args (tP x.preds k) X call lf j _ _ (by omega) (fun i hi=>(B3 k i (fun h=>up (dlt h) (by omega))).1 ((o3 _ i _).1 (by omega) (hjbef i hi))) (f15_r3_tf x X call lf N N.length x.consts.length k (nP x.preds k).name (nP x.preds k).args (tP x.preds k) j (nS (nP x.preds k).args j) (tS (nP x.preds k).args j) (dt hj) (at_strs hj) hin) (by simp)
        exact ⟨_,f15_pflflfltffltf x X call lf N N.length x.consts.length k _ _ _ _ _ _ h33' h1 l0 l1 (L2 _ _ (f15_r2_tffltf x X call lf N N.length x.consts.length k _ _ _ _ _ _ (dt hk') (at_prd hk') n1 n2 l3) (by simp))⟩
  rw [e]
  have l2:=f15_L2 x N N.length x.consts.length X call lf x.preds.length _ _ (by omega) (fun j hj=>good j hj (hall j hj)) (f15_r2_f x X call lf N N.length x.consts.length x.preds.length (df (Nat.le_refl _))) (by simp)
  exact ⟨_,f15_pflflflf x X call lf N N.length x.consts.length x.preds.length h33' h1 l0 l1 l2⟩
end
end Go.Proofs.Sig
end
/- Signature: Names and Unary, told. -/
section
open Go Go.Vm Go.Proofs
namespace Go.Proofs.Sig
variable [Fixed] {X:Ext} {call:Caller} {lf:Nat}
theorem take_map_succ {α β:Type} (d:α) (f:α→β) (l:List α) (i:Nat) (h:i < l.length):(l.take (i + 1)).map f=(l.take i).map f ++ [f (l.getD i d)]:=by
  rw [List.take_succ_eq_append_getElem h,List.map_append,getD_lt h]; rfl
/-- One string more in a row. -/
theorem grow_str {σ0:List Ob} {lk:LK} (hk:lk = .nil ∨ lk = .clip) {sz0:Nat} {l:List ByteArray} {s:ByteArray} (hb:l.length ≤ 4000000):appendv Tryd.prog 22 (grS Cod.str σ0 l) 0 (grV (.list lk 0 sz0 []) σ0.length l.length) (.list .clip 1 1 [st s])=some (grV (.list lk 0 sz0 []) σ0.length (l ++ [s]).length,grS Cod.str σ0 (l ++ [s])) :=
  gr_step (m:=[s]) rowS hk (appended_row [s]) (by show _ ≤ 140737488355328; simp only [List.length_cons,List.length_nil]; omega)
theorem grS_ne {α:Type} (A:Cod α) (o:Ob) (l:List α):∃ τ,grS A [o] l=o::τ:=by
  unfold grS
  split
  · exact ⟨[],rfl⟩
  · exact ⟨_,rfl⟩
/-- ref21.Names. -/
theorem names33 {x:Sgn} (hk:okG x=true) (hlf:1000001 < lf):∃ r σ',vbody Tryd.prog X call lf fg33 Tryd.f33 (codeOf Tryd.f33) [.agg (sgnC x)] [] 0=some (r,σ')∧aSs.dec r=some (namesL x):=by
  obtain ⟨hns,hnc,hnp,hss,hcc,hpp⟩:=okG_iff.1 hk
  have hbig:big=140737488355328:=rfl
  let σ0:List Ob:=[Ob.cells (sgnC x)]
  let v0:AV := .list .clip 0 1 []
  have h0 : appendv Tryd.prog 22 σ0 0 v0 (strsV x.sorts) = some (grV v0 1 x.sorts.length, grS Cod.str σ0 x.sorts) := by
    have:=gr_step (σ0:=σ0) (l:=[]) (m:=x.sorts) (lk := .clip) (sz0:=1) rowS (.inr rfl) (x:=strsV x.sorts) (appended_strs x.sorts) (by show _ ≤ 140737488355328; simp only [List.length_nil]; omega)
    exact this
  let l0:Nat→List ByteArray:=fun i=>x.sorts ++ (x.consts.take i).map (·.name)
  let l1:Nat→List ByteArray:=fun i=>x.sorts ++ x.consts.map (·.name) ++ (x.preds.take i).map (·.name)
  have hl0 : ∀ i, i < x.consts.length → l0 (i + 1) = l0 i ++ [(nC x.consts i).name] := fun i h => by
    show x.sorts ++ _=(x.sorts ++ _) ++ _
    rw [take_map_succ d0C _ _ _ h,List.append_assoc]
  have hl1 : ∀ i, i < x.preds.length → l1 (i + 1) = l1 i ++ [(nP x.preds i).name] := fun i h => by
    show x.sorts ++ _ ++ _=(x.sorts ++ _ ++ _) ++ _
    rw [take_map_succ d0P _ _ _ h]
    simp only [List.append_assoc]
  have b0 : ∀ i, (l0 i).length ≤ 4000000 := fun i => by
    show (x.sorts ++ _).length ≤ _
    rw [List.length_append,List.length_map,List.length_take]; omega
  have b1 : ∀ i, (l1 i).length ≤ 4000000 := fun i => by
    show (x.sorts ++ _ ++ _).length ≤ _
    rw [List.length_append,List.length_append,List.length_map,List.length_map,List.length_take]; omega
  have B0 := fun i => f33_B0 x X call lf (grV v0 1 x.sorts.length) x.consts.length (x.consts.flatMap cstC) (fun i => grS Cod.str σ0 (l0 i)) (fun i => grV v0 1 (l0 i).length) i (nC x.consts i).name (nC x.consts i).sort (tC x.consts i) (grV v0 1 (l0 i ++ [(nC x.consts i).name]).length) (grS Cod.str σ0 (l0 i ++ [(nC x.consts i).name]))
    (fun h=>at_cst (dlt h)) (fun h=>grow_str (σ0:=σ0) (.inr rfl) (b0 i)) (fun h=>by show grV v0 1 (l0 (i + 1)).length=_; rw [hl0 i (dlt h)]) (fun h=>up (dlt h) (by omega)) (fun h=>by show grS Cod.str σ0 (l0 (i + 1))=_; rw [hl0 i (dlt h)])
  have B1 := fun i => f33_B1 x X call lf (grV v0 1 x.sorts.length) x.consts.length (x.consts.flatMap cstC) x.consts.length x.preds.length (x.preds.flatMap prdC) (fun i => grS Cod.str σ0 (l1 i)) (fun i => grV v0 1 (l1 i).length) i (nP x.preds i).name (nP x.preds i).args (tP x.preds i) (grV v0 1 (l1 i ++ [(nP x.preds i).name]).length) (grS Cod.str σ0 (l1 i ++ [(nP x.preds i).name]))
    (fun h=>at_prd (dlt h)) (fun h=>grow_str (σ0:=σ0) (.inr rfl) (b1 i)) (fun h=>by show grV v0 1 (l1 (i + 1)).length=_; rw [hl1 i (dlt h)]) (fun h=>up (dlt h) (by omega)) (fun h=>by show grS Cod.str σ0 (l1 (i + 1))=_; rw [hl1 i (dlt h)])
  have o0 : ∀ i, (i < x.consts.length → f33_o0 x.consts.length i = 0) ∧ (x.consts.length ≤ i → f33_o0 x.consts.length i = 1) := fun i => by
    unfold f33_o0
    exact ⟨fun a=>by rw [dt a],fun a=>by rw [df a]⟩
  have o1 : ∀ i, (i < x.preds.length → f33_o1 x.preds.length i = 0) ∧ (x.preds.length ≤ i → f33_o1 x.preds.length i = 1) := fun i => by
    unfold f33_o1
    exact ⟨fun a=>by rw [dt a],fun a=>by rw [df a]⟩
  have z0:l0 0=x.sorts:=by show x.sorts ++ []=_; rw [List.append_nil]
  have z1 : l1 0 = l0 x.consts.length := by
    show x.sorts ++ _ ++ []=x.sorts ++ (x.consts.take _).map _
    rw [List.append_nil,List.take_length]
  have L0:=f33_L0 x (grV v0 1 x.sorts.length) (grS Cod.str σ0 x.sorts) x.consts.length (x.consts.flatMap cstC) (fun i=>grS Cod.str σ0 (l0 i)) (fun i=>grV v0 1 (l0 i).length) X call lf x.consts.length _ _ (by show grV v0 1 (l0 0).length=_; rw [z0]) (by show grS Cod.str σ0 (l0 0)=_; rw [z0]) (by omega) (fun j hj=>(B0 j).1 ((o0 j).1 hj)) ((B0 x.consts.length).2 ((o0 _).2 (Nat.le_refl _))) (by simp)
  have L1:=f33_L1 x (grV v0 1 x.sorts.length) x.consts.length (x.consts.flatMap cstC) (fun i=>grS Cod.str σ0 (l0 i)) (fun i=>grV v0 1 (l0 i).length) x.consts.length x.preds.length (x.preds.flatMap prdC) (fun i=>grS Cod.str σ0 (l1 i)) (fun i=>grV v0 1 (l1 i).length) X call lf x.preds.length _ _ (by show grV v0 1 (l1 0).length=grV v0 1 (l0 _).length; rw [z1]) (by show grS Cod.str σ0 (l1 0)=grS Cod.str σ0 (l0 _); rw [z1]) (by omega) (fun j hj=>(B1 j).1 ((o1 j).1 hj)) ((B1 x.preds.length).2 ((o1 _).2 (Nat.le_refl _))) (by simp)
  obtain ⟨r,σ',e1,e2,-⟩:=gr_end (A:=Cod.str) (lk := .clip) (sz0:=1) (σ1:=[]) (σ0:=σ0) (l1 x.preds.length)
  have hld : ∀ (l : List ByteArray) (f : Nat) (t : TypeId) (v : AV), keep (σ0) (loadv Tryd.prog t σ0 (.ref 0 f)) = some (v, σ0) → keep (grS Cod.str σ0 l) (loadv Tryd.prog t (grS Cod.str σ0 l) (.ref 0 f)) = some (v, grS Cod.str σ0 l) := by
    intro l f t v h
    obtain ⟨τ,hτ⟩:=grS_ne Cod.str (Ob.cells (sgnC x)) l
    have e : loadv Tryd.prog t (grS Cod.str σ0 l) (.ref 0 f) = loadv Tryd.prog t σ0 (.ref 0 f) := by
      show loadv Tryd.prog t (grS Cod.str [Ob.cells (sgnC x)] l) _=_
      rw [hτ]; rfl
    rw [e]
    revert h
    cases loadv Tryd.prog t σ0 (.ref 0 f) with
    | none=>intro h; cases h
    | some u=>intro h; simp only [keep,Option.some.injEq,Prod.mk.injEq,and_true] at h ⊢; exact h
  refine ⟨_,_,f33_plflf x X call lf _ _ _ _ _ _ x.consts.length _ _ _ _ x.preds.length r (σ0 ++ σ') h0 (hld _ 1 23 _ (by kernel_rfl)) L0 (hld _ 2 24 _ (by kernel_rfl)) L1 e1,?_⟩
  have e3 : l1 x.preds.length = namesL x := by
    show x.sorts ++ _ ++ (x.preds.take _).map _=_
    rw [List.take_length,List.append_assoc]; rfl
  rw [e3] at e2
  exact e2
/-- The predicates of one argument, of this sort. -/
def unaryP (s:ByteArray) (p:Prd):Bool:=((↑p.args.length:Int) == 1) && ((nS p.args 0).toList == s.toList)
def unaryF (x:Sgn) (s:ByteArray):List ByteArray:=(x.preds.filter (unaryP s)).map (·.name)
theorem unary31 {x:Sgn} {s:ByteArray} (hk:okG x=true) (hlf:1000001 < lf):∃ r σ',vbody Tryd.prog X call lf fg31 Tryd.f31 (codeOf Tryd.f31) [.agg (sgnC x),st s] [] 0=some (r,σ')∧aSs.dec r=some (unaryF x s):=by
  obtain ⟨hns,hnc,hnp,hss,hcc,hpp⟩:=okG_iff.1 hk
  have hbig:big=140737488355328:=rfl
  let σ0:List Ob:=[Ob.cells (sgnC x)]
  let v0:AV := .list .nil 0 0 []
  let l:Nat→List ByteArray:=fun i=>((x.preds.take i).filter (unaryP s)).map (·.name)
  have hl : ∀ i, i < x.preds.length → l (i + 1) = if unaryP s (nP x.preds i) then l i ++ [(nP x.preds i).name] else l i := by
    intro i h
    show ((x.preds.take (i + 1)).filter _).map _=_
    rw [List.take_succ_eq_append_getElem h,List.filter_append,List.map_append,nP,getD_lt h]
    simp only [List.filter_cons,List.filter_nil]
    split <;> simp [l]
  have b : ∀ i, (l i).length ≤ 4000000 := fun i => by
    show (((x.preds.take i).filter _).map _).length ≤ _
    rw [List.length_map]
    have:=List.length_filter_le (unaryP s) (x.preds.take i)
    rw [List.length_take] at this
    omega
  obtain ⟨r,σ',e1,e2,-⟩:=gr_end (A:=Cod.str) (lk := .nil) (sz0:=0) (σ1:=[]) (σ0:=σ0) (l x.preds.length)
  have lt1:∀ {i:Nat},((↑(nP x.preds i).args.length:Int) == 1)=true→0 < (nP x.preds i).args.length:=fun h=>by have:=eq_of_beq h; omega
  have up1:∀ {i:Nat},i < x.preds.length→((↑(nP x.preds i).args.length:Int) == 1)=true→((nS (nP x.preds i).args 0).toList == s.toList)=true→l (i + 1)=l i ++ [(nP x.preds i).name]:=fun h a c=>by rw [hl _ h,if_pos (by unfold unaryP; rw [a,c]; rfl)]
  have up2:∀ {i:Nat},i < x.preds.length→((↑(nP x.preds i).args.length:Int) == 1)=true→((nS (nP x.preds i).args 0).toList == s.toList)=false→l (i + 1)=l i:=fun h a c=>by rw [hl _ h,if_neg (by unfold unaryP; rw [a,c]; simp)]
  have up3:∀ {i:Nat},i < x.preds.length→((↑(nP x.preds i).args.length:Int) == 1)=false→l (i + 1)=l i:=fun h a=>by rw [hl _ h,if_neg (by unfold unaryP; rw [a]; simp)]
  have M := f31_M x s (fun i => grS Cod.str σ0 (l i)) (fun i => grV v0 1 (l i).length) X call lf x.preds.length (fun i => (nP x.preds i).name) (fun i => (nP x.preds i).args) (fun i => tP x.preds i) (fun i => nS (nP x.preds i).args 0) (fun i => tS (nP x.preds i).args 0) (fun i => grV v0 1 (l i ++ [(nP x.preds i).name]).length) (fun i => grS Cod.str σ0 (l i ++ [(nP x.preds i).name]))
    rfl rfl (by omega) (fun i _ h=>at_prd (dlt h)) (fun i _ h a=>at_strs (lt1 a)) (fun i _ h a c=>grow_str (σ0:=σ0) (.inl rfl) (b i)) (fun i _ h a c=>by show grV v0 1 (l (i + 1)).length=_; rw [up1 (dlt h) a c]) (fun i _ h=>up (dlt h) (by omega)) (fun i _ h a c=>by show grS Cod.str σ0 (l (i + 1))=_; rw [up1 (dlt h) a c])
    (fun i _ h a c=>by show grV v0 1 (l (i + 1)).length=grV v0 1 (l i).length; rw [up2 (dlt h) a c]) (fun i _ h a c=>by show grS Cod.str σ0 (l (i + 1))=grS Cod.str σ0 (l i); rw [up2 (dlt h) a c]) (fun i _ h a=>by show grV v0 1 (l (i + 1)).length=grV v0 1 (l i).length; rw [up3 (dlt h) a]) (fun i _ h a=>by show grS Cod.str σ0 (l (i + 1))=grS Cod.str σ0 (l i); rw [up3 (dlt h) a])
    (fun j hj=>by unfold f31_o0; rw [dt hj]; cases ((↑(nP x.preds j).args.length:Int) == 1) <;> cases ((nS (nP x.preds j).args 0).toList == s.toList) <;> rfl)
  have e3 : l x.preds.length = unaryF x s := by
    show ((x.preds.take _).filter _).map _=_
    rw [List.take_length]; rfl
  rw [e3] at e2
  exact ⟨r,_,M (by unfold f31_o0; rw [df (Nat.le_refl _)]) r (σ0 ++ σ') e1,e2⟩
end Go.Proofs.Sig
end
/- Signature: what calls do, told one on the other. -/
section
open Go Go.Vm Go.Proofs
namespace Go.Proofs.Sig
section
variable [Fixed] {X:Ext}
/-- A call whose caller knows it, whatever the store. -/
theorem call_at {β:Type} {call:Caller} {f:FuncId} {vs:List AV} {y:β} {B:Arg β} {s:List Ob} {σ:List Ob} {ro:Nat} {dr:Bool} (h1:X.pureFn f=none) (h2:X.stFn f=none) (ha:X.adopt f=false) (hl:AV.ltAll 0 vs=true) (h:call f vs [] 0=some (B.enc y,s)):callv X call dr f vs σ ro=some (B.enc y,σ):=by
  unfold callv
  rw [h1]
  simp only
  rw [h2]
  simp only
  rw [if_pos hl,h]
  simp only
  have hp:(B.enc y).pure=true:=B.lt y
  rw [if_pos hp,ha,Bool.and_false,if_neg (by simp),B.ro]
theorem setOb_len:∀ (l:List Ob) (i:Nat) (o:Ob),(setOb l i o).length=l.length
  | [],_,_=>rfl
  | a::l,0,o=>rfl
  | a::l,i + 1,o=>by simp [setOb,setOb_len l i o]
theorem callv_map {call:Caller} {f:FuncId} {id:Nat} {rest:List AV} {b:Bool} {o:Ob} {σ:List Ob} {ro:Nat} (h1:X.pureFn f=none) (h2:X.stFn f=none) (ho:AV.ownsAll rest=[]) (h:call f (.map id::rest) σ ro=some (bo b,setOb σ id o)):callv X call false f (.map id::rest) σ ro=some (bo b,setOb σ id o):=by
  have hl:AV.ltAll 0 (.map id::rest)=false:=by simp [AV.ltAll,AV.lt]
  have hlen:(setOb σ id o).take σ.length=setOb σ id o:=List.take_of_length_le (Nat.le_of_eq (setOb_len _ _ _))
  unfold callv
  rw [h1]
  simp only
  rw [h2]
  simp only [hl,Bool.false_eq_true,if_false]
  rw [thawAll_id (.map id::rest) (by simp only [AV.ownsAll,AV.owns,ho,List.append_nil])]
  simp only [hl,Bool.false_eq_true,if_false,h,hlen]
  split <;> rfl
theorem spec_by {T:Vm.Spec} {R:FuncId→List AV→List Ob→Nat→AV × List Ob→Prop} {f:FuncId} {vs:List AV} {r:AV} (hn:∀ vs σ ro p,¬ R f vs σ ro p) (h:T f vs=some r):((callerOf T).by R) f vs [] 0=some (r,[]):=by
  rw [by_not (fun p=>hn _ _ _ p)]
  unfold callerOf
  simp only [h]
/-! ### names, lists -/
def lenOk (n:Nat):Bool:=Nat.ble n 10000000
theorem lenOk_le {n:Nat} (h:lenOk n=true):n ≤ 10000000:=Nat.le_of_ble_eq_true h
def gN (s:ByteArray):Option AV:=if lenOk s.size then some (bo (nameB s)) else none
def gB (s:ByteArray):Option AV:=some (bo (bltB s))
def gIn (l:List ByteArray) (s:ByteArray):Option AV:=if lenOk l.length then some (bo (inB l s)) else none
def gIx (l:List ByteArray) (s:ByteArray):Option AV:=if lenOk l.length then some (i6 (idxS l s)) else none
def gCl (l:List ByteArray):Option AV:=if lenOk l.length then some (aSs.enc l) else none
def gCc (l:List Cst):Option AV:=if lenOk l.length then some (aCs.enc l) else none
def gId (l:List ByteArray):Option AV:=some (aSs.enc l)
def S0:Vm.Spec:=Vm.Spec.on (Vm.Spec.on (Vm.Spec.on (Vm.Spec.on (Vm.Spec.on (Vm.Spec.on (Vm.Spec.on (Vm.Spec.on (fun _ _=>none) 66 (sp1 aS gN)) 34 (sp1 aS gN)) 44 (sp1 aS gB)) 35 (sp2 aSs aS gIn)) 60 (sp2 aSs aS gIx)) 48 (sp1 aSs gCl)) 49 (sp1 aCs gCc)) 55 (sp1 aSs gId)
theorem lt_big {n:Nat} (h:n ≤ 10000000):n ≤ big:=le_big h
theorem S0_ok (hX:ExtOk Tryd.prog X) (hM:XS X):SpecOk Tryd.prog S0:=by
  have hC:CallOk Tryd.prog (callerOf fun _ _=>none):=callerOf_ok SpecOk.none'
  refine SpecOk.on1 (SpecOk.on1 (SpecOk.on1 (SpecOk.on2 (SpecOk.on2 (SpecOk.on1 (SpecOk.on1 (SpecOk.on1 SpecOk.none' fun s r h => ?_) fun s r h => ?_) fun s r h => ?_) fun l s r h => ?_) fun l s r h => ?_) fun l r h => ?_) fun l r h => ?_) fun l r h => ?_
  · unfold gN at h
    split at h
    · rename_i hs
      simp only [Option.some.injEq] at h
      subst h
      exact run_res (B:=aB) (y:=nameB s) hX hC (hM.dom 66 rfl rfl) Tryd.func66 (by kernel_rfl) (name66 (lf:=s.size + 1) (lt_big (lenOk_le hs)) (by omega)) rfl
    · cases h
  · unfold gN at h
    split at h
    · rename_i hs
      simp only [Option.some.injEq] at h
      subst h
      exact run_res (B:=aB) (y:=nameB s) hX hC (hM.dom 34 rfl rfl) Tryd.func34 (by kernel_rfl) (name34 (lf:=s.size + 1) (lt_big (lenOk_le hs)) (by omega)) rfl
    · cases h
  · simp only [gB, Option.some.injEq] at h
    subst h
    exact run_res (B:=aB) (y:=bltB s) hX hC (hM.dom 44 rfl rfl) Tryd.func44 (by kernel_rfl) (builtin44 (lf:=0)) rfl
  · unfold gIn at h
    split at h
    · rename_i hs
      simp only [Option.some.injEq] at h
      subst h
      rw [aSs_enc]
      exact run_res (B:=aB) (y:=inB l s) hX hC (hM.dom 35 rfl rfl) Tryd.func35 (by kernel_rfl) (in35 (lf:=l.length + 1) (lt_big (lenOk_le hs)) (by omega)) rfl
    · cases h
  · unfold gIx at h
    split at h
    · rename_i hs
      simp only [Option.some.injEq] at h
      subst h
      rw [aSs_enc]
      exact run_res (B:=aI) (y:=idxS l s) hX hC (hM.dom 60 rfl rfl) Tryd.func60 (by kernel_rfl) (index60 (lf:=l.length + 1) (lt_big (lenOk_le hs)) (by omega)) rfl
    · cases h
  · unfold gCl at h
    split at h
    · rename_i hs
      simp only [Option.some.injEq] at h
      subst h
      have:=clone48 hX (F:=l) (by have:=lenOk_le hs; show _ ≤ 140737488355328; omega)
      rw [aSs_enc] at this ⊢
      exact this
    · cases h
  · unfold gCc at h
    split at h
    · rename_i hs
      simp only [Option.some.injEq] at h
      subst h
      exact clone49 hX (F:=l) (by have:=lenOk_le hs; show _ ≤ 140737488355328; omega)
    · cases h
  · simp only [gId, Option.some.injEq] at h
    subst h
    have ho:AV.ownsAll (l.map st)=[]:=owns_strs l
    have hs : slc Tryd.prog 22 [] false 0 (strsV l) none (some (i6 (↑l.length : Int))) (some (i6 (↑l.length : Int))) = some (.list .clip l.length 1 (l.map st), []) := by
      have hk:Tryd.prog.cellsOf 9=1:=by kernel_rfl
      have hi:(Tryd.prog.info? 9).isSome=true:=by kernel_rfl
      unfold slc cutOwn strsV
      simp only
      unfold byValue1
      simp only [AV.owns,ho,if_true,Bool.false_eq_true,if_false]
      unfold slicev
      rw [Tryd.underlying22]
      simp only [hk,hi]
      simp [boundv]
      rw [List.take_of_length_le (by simp)]
      rfl
    have hv:=f55_p l X (callerOf fun _ _=>none) 0 l .clip _ _ hs (vend1_plain (by simp only [AV.ownsAll,AV.owns,ho,List.append_nil]))
    have := run_res (B := aSs) (y := l) hX hC (hM.dom 55 rfl rfl) Tryd.func55 (by kernel_rfl) hv (by
      have:=aSs.de l
      rw [aSs_enc] at this
      exact this)
    rw [aSs_enc] at this ⊢
    exact this
end
end Go.Proofs.Sig
end
/- Signature: declare, symbols, Valid, Parse told on whatever store. -/
section
open Go Go.Vm Go.Proofs
namespace Go.Proofs.Sig
theorem strsV_inj {l m:List ByteArray} (h:strsV l=strsV m):l=m:=by
  unfold strsV at h
  simp only [AV.list.injEq] at h
  have:=h.2.2.2
  clear h
  induction l generalizing m with
  | nil => cases m with
    | nil=>rfl
    | cons _ _=>simp at this
  | cons a l ih => cases m with
    | nil=>simp at this
    | cons b m =>
      simp only [List.map_cons,List.cons.injEq,AV.str.injEq] at this
      rw [this.1,ih this.2]
theorem dclC_inj {a b:Dcl} (h:dclC a=dclC b):a=b:=by
  unfold dclC at h
  simp only [List.cons.injEq,AV.str.injEq,and_true] at h
  cases a; cases b
  simp only at h
  rw [h.1,strsV_inj h.2]
theorem mapE_inj:∀ {m m' : Syms},mapE m=mapE m' → m=m'
  | [],[],_=>rfl
  | [],_::_,h=>by simp [mapE] at h
  | _::_,[],h=>by simp [mapE] at h
  | p :: m, p' :: m', h => by
    simp only [mapE,List.map_cons,List.cons.injEq,ent,Prod.mk.injEq,AV.str.injEq,AV.agg.injEq] at h
    obtain ⟨⟨h1,h2⟩,h3⟩:=h
    obtain ⟨a,b⟩:=p
    obtain ⟨a',b'⟩:=p'
    simp only at h1 h2
    rw [h1,dclC_inj h2,mapE_inj h3]
variable [Fixed]
theorem pure_mapE (m:Syms):pureEs (mapE m):=by
  intro e he
  obtain ⟨p,_,rfl⟩:=List.mem_map.1 he
  refine ⟨rfl,?_⟩
  show AV.lt 0 (.agg [st p.2.kind,strsV p.2.sorts])=true
  simp only [AV.lt,AV.ltAll,lt_strsV,Bool.and_self]
/-- What declare does to a map of the store. -/
def R57 (f:FuncId) (vs:List AV) (σ:List Ob) (ro:Nat) (p:AV × List Ob):Prop:=f=57∧∃ id m s v d,vs=[.map id,st s,v]∧aD.dec v=some d∧σ[id]? = some (.mapo (mapE m))∧ro ≤ id∧m.length ≤ 10000000∧s.size ≤ 10000000∧d.sorts.length ≤ 10000000∧p=(bo (declB m s d),setOb σ id (.mapo (mapE (declM m s d))))
section
variable {X:Ext}
theorem spec_on {T:Vm.Spec} {f:FuncId} {s:List AV→Option AV} {vs:List AV}:(T.on f s) f vs=s vs:=by
  unfold Go.Vm.Spec.on
  rw [if_pos (Nat.beq_refl f)]
theorem spec_off {T:Vm.Spec} {f g:FuncId} {s:List AV→Option AV} {vs:List AV} (h:Nat.beq g f=false):(T.on f s) g vs=T g vs:=by
  unfold Go.Vm.Spec.on
  rw [if_neg (by rw [h]; simp)]
theorem S0_66 {s:ByteArray} (h:s.size ≤ 10000000):S0 66 [st s]=some (bo (nameB s)):=by
  unfold S0
  rw [spec_off rfl,spec_off rfl,spec_off rfl,spec_off rfl,spec_off rfl,spec_off rfl,spec_off rfl,spec_on,sp1_at (A:=aS) (x:=s) rfl]
  exact if_pos (Nat.ble_eq_true_of_le h)
theorem S0_34 {s:ByteArray} (h:s.size ≤ 10000000):S0 34 [st s]=some (bo (nameB s)):=by
  unfold S0
  rw [spec_off rfl,spec_off rfl,spec_off rfl,spec_off rfl,spec_off rfl,spec_off rfl,spec_on,sp1_at (A:=aS) (x:=s) rfl]
  exact if_pos (Nat.ble_eq_true_of_le h)
theorem S0_44 (s:ByteArray):S0 44 [st s]=some (bo (bltB s)):=by
  unfold S0
  rw [spec_off rfl,spec_off rfl,spec_off rfl,spec_off rfl,spec_off rfl,spec_on,sp1_at (A:=aS) (x:=s) rfl]
  rfl
theorem S0_35 {l:List ByteArray} (s:ByteArray) (h:l.length ≤ 10000000):S0 35 [strsV l,st s]=some (bo (inB l s)):=by
  unfold S0
  rw [spec_off rfl,spec_off rfl,spec_off rfl,spec_off rfl,spec_on,sp2_at (A:=aSs) (B:=aS) (x:=l) (y:=s) aSs_dec rfl]
  exact if_pos (Nat.ble_eq_true_of_le h)
theorem S0_60 {l:List ByteArray} (s:ByteArray) (h:l.length ≤ 10000000):S0 60 [strsV l,st s]=some (i6 (idxS l s)):=by
  unfold S0
  rw [spec_off rfl,spec_off rfl,spec_off rfl,spec_on,sp2_at (A:=aSs) (B:=aS) (x:=l) (y:=s) aSs_dec rfl]
  exact if_pos (Nat.ble_eq_true_of_le h)
theorem S0_48 {l:List ByteArray} (h:l.length ≤ 10000000):S0 48 [strsV l]=some (aSs.enc l):=by
  unfold S0
  rw [spec_off rfl,spec_off rfl,spec_on,sp1_at (A:=aSs) (x:=l) aSs_dec]
  exact if_pos (Nat.ble_eq_true_of_le h)
/-- declare's call. -/
theorem call57 (hX:ExtOk Tryd.prog X) (hM:XS X) (ha:∀ f,X.adopt f=false) {f:FuncId} {vs:List AV} {σ:List Ob} {ro:Nat} {p:AV × List Ob} (h:R57 f vs σ ro p):CallAt Tryd.prog f vs σ ro p.1 p.2:=by
  obtain ⟨rfl,id,m,s,v,d,rfl,hd,hid,hro,hm,hs,hds,rfl⟩:=h
  have hC:CallOk Tryd.prog (callerOf S0):=callerOf_ok (S0_ok hX hM)
  obtain ⟨σ',hv,hσ'⟩:=decl57 (X:=X) (call:=callerOf S0) (lf:=d.sorts.length + 1) (m:=m) (s:=s) (d:=d) (fun σ=>call_on (B:=aB) (y:=nameB s) (hM.ok 66 rfl).1 (hM.ok 66 rfl).2 (ha 66) rfl (S0_66 hs)) (fun x σ=>call_on (B:=aB) (y:=bltB x) (hM.ok 44 rfl).1 (hM.ok 44 rfl).2 (ha 44) rfl (S0_44 x)) (lt_big hm) (lt_big hds) (by omega)
  have hb:=body_at hX hC (hM.dom 57 rfl rfl) Tryd.func57 (by kernel_rfl) hv
  have hlt : AV.ltAll 0 [st s, .agg (dclC d)] = true := by
    show AV.ltAll 0 [st s,.agg [st d.kind,strsV d.sorts]]=true
    simp only [AV.ltAll,AV.lt,lt_strsV,Bool.and_self]
  have hf:=map_frame hb hσ' (pure_mapE _) (pure_mapE _) rfl rfl hlt hid hro
  refine hf.args fun C w us hr => ?_
  match us,hr with
  | [a, b, c], hr =>
    simp only [RepAll,and_true] at hr ⊢
    refine ⟨hr.1,hr.2.1,?_⟩
    have:=aD.rep C w v c d hd hr.2.2
    rw [aD_enc] at this
    exact this
theorem R57_not {f:FuncId} (h:f ≠ 57):∀ vs σ ro p,¬ R57 f vs σ ro p:=fun _ _ _ _ hr=>h hr.1
/-- The caller that knows declare. -/
noncomputable def callD:Caller:=(callerOf S0).by R57
theorem callD_ok (hX:ExtOk Tryd.prog X) (hM:XS X) (ha:∀ f,X.adopt f=false):CallOk Tryd.prog callD:=by_ok (callerOf_ok (S0_ok hX hM)) fun _ _ _ _ _ h=>call57 hX hM ha h
theorem H57_by {T:Vm.Spec} (h1:X.pureFn 57=none) (h2:X.stFn 57=none):H57 X ((callerOf T).by R57):=by
  intro σ id m s v d hd ho hid hm hs hds
  refine callv_map h1 h2 (by simp only [AV.ownsAll,AV.owns,ho,List.append_nil]) ?_
  refine by_at (p:=(bo (declB m s d),setOb σ id (.mapo (mapE (declM m s d))))) ?_ ⟨rfl,id,m,s,v,d,rfl,hd,hid,Nat.zero_le _,hm,hs,hds,rfl⟩
  rintro q ⟨_,id',m',s',v',d',e,hd',hid',_,_,_,_,rfl⟩
  simp only [List.cons.injEq,AV.map.injEq,AV.str.injEq,and_true] at e
  obtain ⟨rfl,rfl,rfl⟩:=e
  rw [hd] at hd'
  rw [hid] at hid'
  simp only [Option.some.injEq,Ob.mapo.injEq] at hd' hid'
  rw [← hd',← mapE_inj hid']
/-- What symbols answers. -/
def R32 (f:FuncId) (vs:List AV) (σ:List Ob) (ro:Nat) (p:AV × List Ob):Prop:=f=32∧σ=[]∧ro=0∧CallAt Tryd.prog 32 vs [] 0 p.1 p.2∧∃ x,vs=[.agg (sgnC x)]∧okG x=true∧((validB x=true∧p=(.tup [.map 1,bo true],stX x (declsOf x))) ∨ (validB x=false∧p.1 = .tup [.mnil,bo false]))
theorem call32 (hX:ExtOk Tryd.prog X) (hM:XS X) (ha:∀ f,X.adopt f=false) {x:Sgn} (hk:okG x=true):∃ p,R32 32 [.agg (sgnC x)] [] 0 p:=by
  have hs:=symbols32 (X:=X) (call:=callD) (lf:=1000001) hk (H57_by (hM.ok 57 rfl).1 (hM.ok 57 rfl).2) (by omega)
  have hb:=fun (r:AV) (σ' : List Ob) (h:vbody Tryd.prog X callD 1000001 fg32 Tryd.f32 (codeOf Tryd.f32) [AV.agg (sgnC x)] [] 0=some (r,σ'))=>body_at hX (callD_ok hX hM ha) (hM.dom 32 rfl rfl) Tryd.func32 (by kernel_rfl) h
  cases hv:validB x with
  | true=>exact ⟨(.tup [.map 1,bo true],stX x (declsOf x)),rfl,rfl,rfl,hb _ _ (hs.1 hv),x,rfl,hk,.inl ⟨hv,rfl⟩⟩
  | false =>
    obtain ⟨σ',h⟩:=hs.2 hv
    exact ⟨(.tup [.mnil,bo false],σ'),rfl,rfl,rfl,hb _ _ h,x,rfl,hk,.inr ⟨hv,rfl⟩⟩
theorem R32_ok:∀ f vs σ ro p,R32 f vs σ ro p→CallAt Tryd.prog f vs σ ro p.1 p.2:=by
  rintro f vs σ ro p ⟨rfl,rfl,rfl,h,_⟩
  exact h
theorem by_some {call:Caller} {R:FuncId→List AV→List Ob→Nat→AV × List Ob→Prop} {f:FuncId} {vs:List AV} {σ:List Ob} {ro:Nat} (h:∃ p,R f vs σ ro p):∃ p,call.by R f vs σ ro=some p∧R f vs σ ro p:=by
  unfold Caller.by
  rw [dif_pos h]
  exact ⟨_,rfl,h.choose_spec⟩
theorem sgnC_inj {x y:Sgn} (h:(.agg (sgnC x):AV) = .agg (sgnC y)):x=y:=by
  have h1:=aG.de x
  have h2:=aG.de y
  rw [aG_enc] at h1 h2
  rw [h] at h1
  rw [h1] at h2
  simpa using h2
mutual
theorem up_pure (n:Nat):∀ (v:AV),AV.lt 0 v=true→AV.up n v=v:=by
  intro v h
  match v with
  | .ref _ _ | .eref _ _ _ | .map _ | .own _ _=>simp [AV.lt] at h
  | .list k m sz cs =>
    simp only [AV.lt] at h
    simp only [AV.up,upAll_pure n cs h]
  | .eaddr cs =>
    simp only [AV.lt] at h
    simp only [AV.up,upAll_pure n cs h]
  | .clo f cs =>
    simp only [AV.lt] at h
    simp only [AV.up,upAll_pure n cs h]
  | .agg cs =>
    simp only [AV.lt] at h
    simp only [AV.up,upAll_pure n cs h]
  | .tup cs =>
    simp only [AV.lt] at h
    simp only [AV.up,upAll_pure n cs h]
  | .iface t v =>
    simp only [AV.lt] at h
    simp only [AV.up,up_pure n v h]
  | .int _ _ | .bool _ | .str _ | .pnil | .mnil | .fnil | .inil | .undef | .any | .raw _ | .ptag _=>rfl
theorem upAll_pure (n:Nat):∀ (vs:List AV),AV.ltAll 0 vs=true→AV.upAll n vs=vs:=by
  intro vs h
  match vs with
  | []=>rfl
  | v :: vs =>
    simp only [AV.ltAll,Bool.and_eq_true] at h
    simp only [AV.upAll,up_pure n v h.1,upAll_pure n vs h.2]
end
theorem upEs_pure (n:Nat):∀ (es:List (AV × AV)),pureEs es→upEs n es=es
  | [],_=>rfl
  | e :: es, h => by
    obtain ⟨h1,h2⟩:=h e (List.mem_cons_self ..)
    simp only [upEs,up_pure n _ h1,up_pure n _ h2,upEs_pure n es fun x hx=>h x (List.mem_cons_of_mem _ hx)]
/-- The call of symbols out of a store: Valid's. -/
theorem callv32 {call0:Caller} (h1:X.pureFn 32=none) (h2:X.stFn 32=none) (ha:X.adopt 32=false) {x:Sgn} (h:∃ p,R32 32 [.agg (sgnC x)] [] 0 p) (σ:List Ob):∃ v σ',callv X (call0.by R32) false 32 [.agg (sgnC x)] σ 0=some (.tup [v,bo (validB x)],σ') ∧
    (validB x=true→v = .map (σ.length + 1)∧σ' = σ ++ [Ob.cells (sgnC x),Ob.mapo (mapE (declsOf x))]):=by
  obtain ⟨p,hp,_,_,_,_,y,hy,_,hcase⟩:=by_some (call:=call0) h
  have e:x=y:=sgnC_inj (by simpa using hy)
  subst e
  have hl : AV.ltAll 0 [AV.agg (sgnC x)] = true := by
    have:=aG.lt x
    rw [aG_enc] at this
    simp only [AV.ltAll,this,Bool.and_self]
  unfold callv
  rw [h1]
  simp only
  rw [h2]
  simp only
  rw [if_pos hl,hp]
  rcases hcase with ⟨hv,rfl⟩ | ⟨hv,hp1⟩
  · simp only [hv]
    have hnp:(AV.tup [AV.map 1,bo true]).pure=false:=rfl
    simp only [hnp,Bool.false_eq_true,if_false]
    cases σ with
    | nil=>exact ⟨_,_,rfl,fun _=>⟨rfl,rfl⟩⟩
    | cons o σ =>
      refine ⟨_,_,rfl,fun _=>⟨?_,?_⟩⟩
      · show AV.map (1 + (o :: σ).length) = AV.map ((o :: σ).length + 1)
        rw [Nat.add_comm]
      · have e1 : Ob.up (o :: σ).length (Ob.cells (sgnC x)) = Ob.cells (sgnC x) := by
          have hlt : AV.ltAll 0 (sgnC x) = true := by
            have:=aG.lt x
            rw [aG_enc] at this
            simpa only [AV.lt] using this
          show Ob.cells (AV.upAll _ (sgnC x))=_
          rw [upAll_pure _ _ hlt]
        have e2 : Ob.up (o :: σ).length (Ob.mapo (mapE (declsOf x))) = Ob.mapo (mapE (declsOf x)) := by
          show Ob.mapo (upEs _ _)=_
          rw [upEs_pure _ _ (pure_mapE _)]
        show (o::σ) ++ [Ob.up _ _,Ob.up _ _]=_
        rw [e1,e2]
  · obtain ⟨r, s⟩ := p
    simp only at hp1
    subst hp1
    simp only [hv]
    have hnp:(AV.tup [AV.mnil,bo false]).pure=true:=rfl
    simp only [hnp,if_true,ha,Bool.and_false,Bool.false_eq_true,if_false]
    exact ⟨_,_,rfl,fun h=>by cases h⟩
end
end Go.Proofs.Sig
end
/- Signature: plain law: what symbols accepts is what the reference accepts. -/
section
open Go Go.Vm Go.Proofs
namespace Go.Proofs.Sig
theorem lookD_append:∀ (a b:Syms) (k:ByteArray),lookD (a ++ b) k=match lookD a k with | some d=>some d | none=>lookD b k
  | [],b,k=>rfl
  | p :: a, b, k => by
    simp only [List.cons_append,lookD]
    split
    · rfl
    · exact lookD_append a b k
theorem lookD_none:∀ {m:Syms} {k:ByteArray},lookD m k=none ↔ k ∉ m.map (·.1)
  | [],k=>by simp [lookD]
  | p :: m, k => by
    simp only [lookD,List.map_cons,List.mem_cons,not_or]
    split
    · rename_i h
      simp [h]
    · rename_i h
      rw [lookD_none]
      simp [h]
theorem lookD_mem:∀ {m:Syms} {k:ByteArray} {d:Dcl},lookD m k=some d→(k,d) ∈ m
  | p :: m, k, d, h => by
    simp only [lookD] at h
    split at h
    · rename_i e
      simp only [Option.some.injEq] at h
      rw [e,← h]
      exact List.mem_cons_self ..
    · exact List.mem_cons_of_mem _ (lookD_mem h)
theorem known_in (m:Syms) (k:ByteArray):knownB m k=inB (m.map (·.1)) k:=by
  unfold knownB
  cases h:lookD m k with
  | none=>rw [inB_false.2 (lookD_none.1 h)]; rfl
  | some d =>
    rw [inB_iff.2 (List.mem_map.2 ⟨_,lookD_mem h,rfl⟩)]; rfl
theorem names_of (x:Sgn):(declsOf x).map (·.1)=namesL x:=by
  simp [declsOf,sortsD,consD,predD,namesL,List.map_map,Function.comp_def]
theorem eqB_dec (a b:ByteArray):eqB a b=decide (a=b):=by
  rw [Bool.eq_iff_iff,decide_eq_true_eq]
  unfold eqB
  exact eqB_iff
theorem look_sorts (x:Sgn) (y:ByteArray) (h:y ∈ x.sorts):lookD (sortsD x) y=some ⟨kSort,[]⟩:=by
  unfold sortsD
  generalize x.sorts=l at h
  induction l with
  | nil=>simp at h
  | cons a l ih =>
    simp only [List.map_cons,lookD]
    by_cases e:y=a
    · rw [if_pos e]
    · rw [if_neg e]
      exact ih (by simpa [e] using h)
theorem look_sorts_none (x:Sgn) (y:ByteArray) (h:y ∉ x.sorts):lookD (sortsD x) y=none:=by
  rw [lookD_none]
  simpa [sortsD,List.map_map,Function.comp_def] using h
theorem kind_sort {x:Sgn} {j:Nat} (hj:x.sorts.length ≤ j) (y:ByteArray):eqB (kindD ((declsOf x).take j) y) kSort=inB x.sorts y:=by
  have e : (declsOf x).take j = sortsD x ++ (consD x ++ predD x).take (j - x.sorts.length) := by
    unfold declsOf
    rw [List.take_append,List.take_of_length_le (by simpa [sortsD] using hj)]
    simp [sortsD]
  rw [e,eqB_dec]
  unfold kindD
  rw [lookD_append]
  by_cases h:y ∈ x.sorts
  · rw [look_sorts x y h, inB_iff.2 h]
    exact decide_eq_true rfl
  · rw [look_sorts_none x y h, inB_false.2 h]
    simp only
    apply decide_eq_false
    cases hl:lookD ((consD x ++ predD x).take (j - x.sorts.length)) y with
    | none=>show ¬ emp=kSort; decide
    | some d =>
      have:=List.mem_of_mem_take (lookD_mem hl)
      rcases List.mem_append.1 this with h' | h'
      · obtain ⟨c, _, e⟩ := List.mem_map.1 h'
        simp only [Prod.mk.injEq] at e
        rw [← e.2]
        show ¬ kCon=kSort
        decide
      · obtain ⟨c, _, e⟩ := List.mem_map.1 h'
        simp only [Prod.mk.injEq] at e
        rw [← e.2]
        show ¬ kPre=kSort
        decide
theorem nD_fst {x:Sgn} {i:Nat} (h:i < (declsOf x).length):(nD (declsOf x) i).1=nS (namesL x) i:=by
  rw [← names_of,nD_lt h,nS,getD_lt (by simpa using h),List.getElem_map]
theorem okAt_eq {x:Sgn} {i:Nat} (h:i < (declsOf x).length):okAt (declsOf x) i=(nameOk (namesL x) i && !(decide (i=256)) && (nD (declsOf x) i).2.sorts.all (sortOkB ((declsOf x).take i) (nD (declsOf x) i).2) && arityB (nD (declsOf x) i).2):=by
  unfold okAt declB nameOk
  rw [known_in,nD_fst h,List.map_take,names_of,List.length_take,Nat.min_eq_left (Nat.le_of_lt h)]
  cases inB ((namesL x).take i) (nS (namesL x) i) <;> cases nameB (nS (namesL x) i) <;> cases bltB (nS (namesL x) i) <;> rfl
theorem ar_sort:arityB ⟨kSort,[]⟩=true:=by kernel_rfl
theorem ok_sort {x:Sgn} {i:Nat} (h:i < x.sorts.length):okAt (declsOf x) i=(nameOk (namesL x) i && !(decide (i=256))):=by
  rw [okAt_eq (by rw [decls_len]; omega),nD_sort h,ar_sort]
  simp
theorem ok_con {x:Sgn} {i:Nat} (h:i < x.consts.length):okAt (declsOf x) (x.sorts.length + i)=(nameOk (namesL x) (x.sorts.length + i) && !(decide (x.sorts.length + i=256)) && inB x.sorts (nC x.consts i).sort):=by
  rw [okAt_eq (by rw [decls_len]; omega),nD_con h]
  have ha:arityB ⟨kCon,[(nC x.consts i).sort]⟩=true:=by kernel_rfl
  have hs : ∀ y, sortOkB ((declsOf x).take (x.sorts.length + i)) ⟨kCon, [(nC x.consts i).sort]⟩ y = inB x.sorts y := by
    intro y
    unfold sortOkB
    rw [kind_sort (by omega)]
    have:eqB kCon kCon=true:=by kernel_rfl
    simp only [this]
    simp
  rw [ha]
  simp only [List.all_cons,List.all_nil,hs,Bool.and_true]
theorem ok_pre {x:Sgn} {i:Nat} (h:i < x.preds.length):okAt (declsOf x) (x.sorts.length + x.consts.length + i)=(nameOk (namesL x) (x.sorts.length + x.consts.length + i) && !(decide (x.sorts.length + x.consts.length + i=256)) && argsOk x (nP x.preds i)):=by
  rw [okAt_eq (by rw [decls_len]; omega),nD_pre h]
  have hs : ∀ y, sortOkB ((declsOf x).take (x.sorts.length + x.consts.length + i)) ⟨kPre, (nP x.preds i).args⟩ y = hasSortB x y := by
    intro y
    unfold sortOkB hasSortB
    rw [kind_sort (by omega)]
    have:eqB kPre kCon=false:=by kernel_rfl
    simp only [this,Bool.not_false,Bool.true_and,Bool.or_comm]
  have ha : arityB ⟨kPre, (nP x.preds i).args⟩ = (!decide ((↑(nP x.preds i).args.length : Int) < 1) && !decide ((↑(nP x.preds i).args.length : Int) > 3)) := by
    unfold arityB
    have:eqB kPre kPre=true:=by kernel_rfl
    simp only [this,Bool.not_true,Bool.false_or]
    rw [Bool.eq_iff_iff]
    simp only [Bool.and_eq_true,decide_eq_true_eq,Bool.not_eq_true',decide_eq_false_iff_not]
    omega
  rw [ha,funext hs]
  unfold argsOk
  simp only
  cases nameOk (namesL x) (x.sorts.length + x.consts.length + i) <;> cases decide (x.sorts.length + x.consts.length + i=256) <;> cases decide ((↑(nP x.preds i).args.length:Int) < 1) <;> cases decide ((↑(nP x.preds i).args.length:Int) > 3) <;> cases (nP x.preds i).args.all (hasSortB x) <;> rfl
/-- The program's and the reference's Valid are one. -/
theorem valid_eq (x:Sgn):validB x=validR x:=by
  have hn:(namesL x).length=(declsOf x).length:=by rw [← names_of,List.length_map]
  have hl:=decls_len x
  rw [Bool.eq_iff_iff]
  unfold validB validR
  simp only [Bool.and_eq_true,List.all_eq_true,List.mem_range,Bool.not_eq_true',decide_eq_false_iff_not]
  constructor
  · intro h
    have hs : ∀ i, i < (declsOf x).length → nameOk (namesL x) i = true ∧ i ≠ 256 := by
      intro i hi
      have:=h i hi
      rw [okAt_eq hi] at this
      simp only [Bool.and_eq_true,Bool.not_eq_true',decide_eq_false_iff_not] at this
      exact ⟨this.1.1.1,this.1.1.2⟩
    refine ⟨⟨⟨?_,fun i hi=>(hs i (by omega)).1⟩,fun c hc => ?_⟩,fun p hp => ?_⟩
    · intro hgt
      exact (hs 256 (by omega)).2 rfl
    · obtain ⟨i, hi, e⟩ := List.getElem_of_mem hc
      have:=h (x.sorts.length + i) (by omega)
      rw [ok_con hi] at this
      simp only [Bool.and_eq_true] at this
      rw [← e]
      have h2:=this.2
      rwa [nC,getD_lt hi] at h2
    · obtain ⟨i, hi, e⟩ := List.getElem_of_mem hp
      have:=h (x.sorts.length + x.consts.length + i) (by omega)
      rw [ok_pre hi] at this
      simp only [Bool.and_eq_true] at this
      rw [← e]
      have h2:=this.2
      rwa [nP,getD_lt hi] at h2
  · rintro ⟨⟨⟨h1, h2⟩, h3⟩, h4⟩ i hi
    have h256:∀ j,j < (declsOf x).length→(!(decide (j=256)))=true:=fun j hj=>by simp; omega
    rcases Nat.lt_or_ge i x.sorts.length with hlt | hge
    · rw [ok_sort hlt,h2 i (by omega),h256 i hi]; rfl
    · rcases Nat.lt_or_ge i (x.sorts.length + x.consts.length) with hlt | hge2
      · obtain ⟨j, rfl⟩ : ∃ j, i = x.sorts.length + j := ⟨i - x.sorts.length, by omega⟩
        have hj:j < x.consts.length:=by omega
        rw [ok_con hj,h2 _ (by omega),h256 _ hi,nC,getD_lt hj,h3 _ (List.getElem_mem hj)]; rfl
      · obtain ⟨j, rfl⟩ : ∃ j, i = x.sorts.length + x.consts.length + j := ⟨i - x.sorts.length - x.consts.length, by omega⟩
        have hj:j < x.preds.length:=by omega
        rw [ok_pre hj,h2 _ (by omega),h256 _ hi,nP,getD_lt hj,h4 _ (List.getElem_mem hj)]; rfl
end Go.Proofs.Sig
end
/- Signature: what the functions answer, up to Valid, Parse and the reference's Valid. -/
section
open Go Go.Vm Go.Proofs
namespace Go.Proofs.Sig
/-- The sort of a constant. -/
def sortOfF (x:Sgn) (s:ByteArray):ByteArray × Bool:=match x.consts.find? (fun c=>c.name.toList == s.toList) with
  | some c=>(c.sort,true)
  | none=>(ByteArray.mk #[],false)
theorem find_at {α:Type} (d:α) {l:List α} {p:α→Bool} {k:Nat} (hk:k < l.length) (h1:p (l.getD k d)=true) (h2:∀ i,i < k→p (l.getD i d)=false):l.find? p=some (l.getD k d):=by
  rw [List.find?_eq_some_iff_getElem]
  refine ⟨h1,k,hk,by rw [getD_lt hk],fun j hj => ?_⟩
  have:=h2 j hj
  rw [getD_lt (show j < l.length by omega)] at this
  simp [this]
theorem find_no {α:Type} (d:α) {l:List α} {p:α→Bool} (h2:∀ i,i < l.length→p (l.getD i d)=false):l.find? p=none:=by
  rw [List.find?_eq_none]
  intro x hx
  obtain ⟨i,hi,e⟩:=List.getElem_of_mem hx
  have:=h2 i hi
  rw [getD_lt hi,e] at this
  simp [this]
variable [Fixed] {X:Ext}
def aSB:Arg (ByteArray × Bool):=Arg.tup2 aS aB
theorem sortOf19 {call:Caller} {lf:Nat} {x:Sgn} {s:ByteArray} (hk:okG x=true) (hlf:1000001 < lf):∃ σ',vbody Tryd.prog X call lf fg19 Tryd.f19 (codeOf Tryd.f19) [.agg (sgnC x),st s] [] 0=some (aSB.enc (sortOfF x s),σ'):=by
  obtain ⟨hns,hnc,hnp,hss,hcc,hpp⟩:=okG_iff.1 hk
  have hbig:big=140737488355328:=rfl
  have ho : ∀ i, (i < x.consts.length → (nC x.consts i).name.toList == s.toList → f19_o0 x s i (nC x.consts i).name = 1) ∧ (i < x.consts.length → ((nC x.consts i).name.toList == s.toList) = false → f19_o0 x s i (nC x.consts i).name = 0) ∧ (x.consts.length ≤ i → f19_o0 x s i (nC x.consts i).name = 2) := by
    intro i
    unfold f19_o0
    refine ⟨fun a b => ?_,fun a b => ?_,fun a => ?_⟩
    · rw [dt a,b]
    · rw [dt a,b]
    · rw [df a]
  unfold sortOfF
  rcases first_fail (p:=fun i=>((nC x.consts i).name.toList == s.toList)=false) x.consts.length with hall | ⟨k,hk',hbad,hbef⟩
  · have M := f19_M x s X call lf x.consts.length (fun i => (nC x.consts i).name) (fun i => (nC x.consts i).sort) (fun i => tC x.consts i) (by omega) (fun i _ h => at_cst (dlt h)) (fun i h _ => up h (by omega)) (fun j hj => (ho j).2.1 hj (hall j hj))
    rw [find_no d0C hall]
    exact ⟨_,M.2 ((ho _).2.2 (Nat.le_refl _))⟩
  · have M := f19_M x s X call lf k (fun i => (nC x.consts i).name) (fun i => (nC x.consts i).sort) (fun i => tC x.consts i) (by omega) (fun i _ h => at_cst (dlt h)) (fun i h _ => up h (by omega)) (fun j hj => (ho j).2.1 (by omega) (hbef j hj))
    have hb:((nC x.consts k).name.toList == s.toList)=true:=by simpa using hbad
    rw [find_at d0C hk' hb hbef]
    exact ⟨_,M.1 ((ho k).1 hk' hb)⟩
theorem sortOf20 {call:Caller} {lf:Nat} {x:Sgn} {s:ByteArray} (hk:okG x=true) (hlf:1000001 < lf):∃ σ',vbody Tryd.prog X call lf fg20 Tryd.f20 (codeOf Tryd.f20) [.agg (sgnC x),st s] [] 0=some (aSB.enc (sortOfF x s),σ'):=by
  obtain ⟨hns,hnc,hnp,hss,hcc,hpp⟩:=okG_iff.1 hk
  have hbig:big=140737488355328:=rfl
  have ho : ∀ i, (i < x.consts.length → (nC x.consts i).name.toList == s.toList → f20_o0 x s i (nC x.consts i).name = 1) ∧ (i < x.consts.length → ((nC x.consts i).name.toList == s.toList) = false → f20_o0 x s i (nC x.consts i).name = 0) ∧ (x.consts.length ≤ i → f20_o0 x s i (nC x.consts i).name = 2) := by
    intro i
    unfold f20_o0
    refine ⟨fun a b => ?_,fun a b => ?_,fun a => ?_⟩
    · rw [dt a,b]
    · rw [dt a,b]
    · rw [df a]
  unfold sortOfF
  rcases first_fail (p:=fun i=>((nC x.consts i).name.toList == s.toList)=false) x.consts.length with hall | ⟨k,hk',hbad,hbef⟩
  · have M := f20_M x s X call lf x.consts.length (fun i => (nC x.consts i).name) (fun i => (nC x.consts i).sort) (fun i => tC x.consts i) (by omega) (fun i _ h => at_cst (dlt h)) (fun i h _ => up h (by omega)) (fun j hj => (ho j).2.1 hj (hall j hj))
    rw [find_no d0C hall]
    exact ⟨_,M.2 ((ho _).2.2 (Nat.le_refl _))⟩
  · have M := f20_M x s X call lf k (fun i => (nC x.consts i).name) (fun i => (nC x.consts i).sort) (fun i => tC x.consts i) (by omega) (fun i _ h => at_cst (dlt h)) (fun i h _ => up h (by omega)) (fun j hj => (ho j).2.1 (by omega) (hbef j hj))
    have hb:((nC x.consts k).name.toList == s.toList)=true:=by simpa using hbad
    rw [find_at d0C hk' hb hbef]
    exact ⟨_,M.1 ((ho k).1 hk' hb)⟩
def gHas (x:Sgn) (s:ByteArray):Option AV:=if okG x then some (bo (hasSortB x s)) else none
def gNs (x:Sgn):Option AV:=if okG x then some (aSs.enc (namesL x)) else none
def gUn (x:Sgn) (s:ByteArray):Option AV:=if okG x then some (aSs.enc (unaryF x s)) else none
def gFew (x:Sgn):Option AV:=some (bo (fewB x))
def gSo (x:Sgn) (s:ByteArray):Option AV:=if okG x then some (aSB.enc (sortOfF x s)) else none
def gVal (x:Sgn):Option AV:=if okG x then some (bo (validB x)) else none
def gPar (t:ByteArray):Option AV:=if Nat.ble t.size mega then some (aR.enc (parseF t)) else none
def S1:Vm.Spec:=Vm.Spec.on (Vm.Spec.on S0 45 (sp2 aSs aS gIn)) 24 (sp2 aG aS gHas)
def S2:Vm.Spec:=Vm.Spec.on (Vm.Spec.on (Vm.Spec.on (Vm.Spec.on (Vm.Spec.on (Vm.Spec.on S1 23 (sp2 aG aS gHas)) 33 (sp1 aG gNs)) 31 (sp2 aG aS gUn)) 13 (sp1 aG gFew)) 19 (sp2 aG aS gSo)) 20 (sp2 aG aS gSo)
def S3:Vm.Spec:=Vm.Spec.on (Vm.Spec.on (Vm.Spec.on S2 15 (sp1 aG gVal)) 14 (sp1 aG gVal)) 16 (sp1 aS gPar)
theorem ltG (x:Sgn):AV.ltAll 0 [AV.agg (sgnC x)]=true:=by
  have:=aG.lt x
  rw [aG_enc] at this
  simp only [AV.ltAll,this,Bool.and_self]
theorem ltGs (x:Sgn) (s:ByteArray):AV.ltAll 0 [AV.agg (sgnC x),st s]=true:=by
  have:=aG.lt x
  rw [aG_enc] at this
  show (AV.lt 0 (.agg (sgnC x)) && (AV.lt 0 (st s) && true))=true
  rw [this]; rfl
theorem ltSs (l:List ByteArray) (s:ByteArray):AV.ltAll 0 [strsV l,st s]=true:=by simp only [AV.ltAll,AV.lt,lt_strsV,Bool.and_self]
section
variable (hX:ExtOk Tryd.prog X) (hM:XS X) (ha:∀ f,X.adopt f=false)
include hM ha in
theorem cAt {call:Caller} {β:Type} {B:Arg β} {f:FuncId} {vs:List AV} {y:β} {s:List Ob} {dr:Bool} {σ:List Ob} (hf:sigW f=true) (hl:AV.ltAll 0 vs=true) (h:call f vs [] 0=some (B.enc y,s)):callv X call dr f vs σ 0=some (B.enc y,σ):=call_at (hM.ok f hf).1 (hM.ok f hf).2 (ha f) hl h
theorem caller_at {T:Vm.Spec} {f:FuncId} {vs:List AV} {r:AV} (h:T f vs=some r):callerOf T f vs [] 0=some (r,[]):=by
  unfold callerOf
  simp only [h]
include hX hM ha
theorem S1_ok:SpecOk Tryd.prog S1:=by
  have hC:CallOk Tryd.prog (callerOf S0):=callerOf_ok (S0_ok hX hM)
  refine SpecOk.on2 (SpecOk.on2 (S0_ok hX hM) fun l s r h => ?_) fun x s r h => ?_
  · unfold gIn at h
    split at h
    · rename_i hs
      simp only [Option.some.injEq] at h
      subst h
      rw [aSs_enc]
      exact run_res (B:=aB) (y:=inB l s) hX hC (hM.dom 45 rfl rfl) Tryd.func45 (by kernel_rfl) (contains45 (lf:=0) (cAt hM ha (B:=aI) rfl (ltSs l s) (caller_at (S0_60 s (lenOk_le hs))))) rfl
    · cases h
  · unfold gHas at h
    split at h
    · rename_i hk
      simp only [Option.some.injEq] at h
      subst h
      rw [aG_enc]
      obtain ⟨σ',hv⟩:=hasSort24 (X:=X) (call:=callerOf S0) (lf:=0) (x:=x) (s:=s) (fun σ=>cAt hM ha (B:=aB) rfl (ltSs x.sorts s) (caller_at (S0_35 s (by have:=(okG_iff.1 hk).ns; omega))))
      exact run_res (B:=aB) (y:=hasSortB x s) hX hC (hM.dom 24 rfl rfl) Tryd.func24 (by kernel_rfl) hv rfl
    · cases h
omit hX hM ha in
theorem S1_35 {l:List ByteArray} (s:ByteArray) (h:l.length ≤ 10000000):S1 35 [strsV l,st s]=some (bo (inB l s)):=by
  unfold S1
  rw [spec_off rfl,spec_off rfl]
  exact S0_35 s h
omit hX hM ha in
theorem S1_45 {l:List ByteArray} (s:ByteArray) (h:l.length ≤ 10000000):S1 45 [strsV l,st s]=some (bo (inB l s)):=by
  unfold S1
  rw [spec_off rfl,spec_on,sp2_at (A:=aSs) (B:=aS) (x:=l) (y:=s) aSs_dec rfl]
  exact if_pos (Nat.ble_eq_true_of_le h)
omit hX hM ha in
theorem aG_dec (x:Sgn):aG.dec (.agg (sgnC x))=some x:=by rw [← aG_enc,aG.de]
omit hX hM ha in
theorem S1_24 {x:Sgn} (s:ByteArray) (h:okG x=true):S1 24 [.agg (sgnC x),st s]=some (bo (hasSortB x s)):=by
  unfold S1
  rw [spec_on,sp2_at (A:=aG) (B:=aS) (x:=x) (y:=s) (aG_dec x) rfl]
  exact if_pos h
omit hX hM ha in
theorem S1_44 (s:ByteArray):S1 44 [st s]=some (bo (bltB s)):=by
  unfold S1
  rw [spec_off rfl,spec_off rfl]
  exact S0_44 s
theorem S2_ok:SpecOk Tryd.prog S2:=by
  have hC:CallOk Tryd.prog (callerOf S1):=callerOf_ok (S1_ok hX hM ha)
  refine SpecOk.on2 (SpecOk.on2 (SpecOk.on1 (SpecOk.on2 (SpecOk.on1 (SpecOk.on2 (S1_ok hX hM ha) fun x s r h => ?_) fun x r h => ?_) fun x s r h => ?_) fun x r h => ?_) fun x s r h => ?_) fun x s r h => ?_
  · unfold gHas at h
    split at h
    · rename_i hk
      simp only [Option.some.injEq] at h
      subst h
      rw [aG_enc]
      obtain ⟨σ',hv⟩:=hasSort23 (X:=X) (call:=callerOf S1) (lf:=0) (x:=x) (s:=s) (fun σ=>cAt hM ha (B:=aB) rfl rfl (caller_at (S1_44 s))) (fun σ=>cAt hM ha (B:=aB) rfl (ltSs x.sorts s) (caller_at (S1_45 s (by have:=(okG_iff.1 hk).ns; omega))))
      exact run_res (B:=aB) (y:=hasSortB x s) hX hC (hM.dom 23 rfl rfl) Tryd.func23 (by kernel_rfl) hv rfl
    · cases h
  · unfold gNs at h
    split at h
    · rename_i hk
      simp only [Option.some.injEq] at h
      subst h
      rw [aG_enc]
      obtain ⟨r,σ',hv,hd⟩:=names33 (X:=X) (call:=callerOf S1) (lf:=1000002) hk (by omega)
      exact run_res (B:=aSs) (y:=namesL x) hX hC (hM.dom 33 rfl rfl) Tryd.func33 (by kernel_rfl) hv hd
    · cases h
  · unfold gUn at h
    split at h
    · rename_i hk
      simp only [Option.some.injEq] at h
      subst h
      rw [aG_enc]
      obtain ⟨r,σ',hv,hd⟩:=unary31 (X:=X) (call:=callerOf S1) (lf:=1000002) (s:=s) hk (by omega)
      exact run_res (B:=aSs) (y:=unaryF x s) hX hC (hM.dom 31 rfl rfl) Tryd.func31 (by kernel_rfl) hv hd
    · cases h
  · simp only [gFew, Option.some.injEq] at h
    subst h
    rw [aG_enc]
    obtain ⟨σ',hv⟩:=few13 (X:=X) (call:=callerOf S1) (lf:=1001) (x:=x) (by omega)
    exact run_res (B:=aB) (y:=fewB x) hX hC (hM.dom 13 rfl rfl) Tryd.func13 (by kernel_rfl) hv rfl
  · unfold gSo at h
    split at h
    · rename_i hk
      simp only [Option.some.injEq] at h
      subst h
      rw [aG_enc]
      obtain ⟨σ',hv⟩:=sortOf19 (X:=X) (call:=callerOf S1) (lf:=1000002) (s:=s) hk (by omega)
      exact run_res (B:=aSB) (y:=sortOfF x s) hX hC (hM.dom 19 rfl rfl) Tryd.func19 (by kernel_rfl) hv (aSB.de _)
    · cases h
  · unfold gSo at h
    split at h
    · rename_i hk
      simp only [Option.some.injEq] at h
      subst h
      rw [aG_enc]
      obtain ⟨σ',hv⟩:=sortOf20 (X:=X) (call:=callerOf S1) (lf:=1000002) (s:=s) hk (by omega)
      exact run_res (B:=aSB) (y:=sortOfF x s) hX hC (hM.dom 20 rfl rfl) Tryd.func20 (by kernel_rfl) hv (aSB.de _)
    · cases h
omit hX hM ha in
theorem S2_S1 {f:FuncId} {vs:List AV} {r:AV} (h:S1 f vs=some r) (h1:Nat.beq f 23=false) (h2:Nat.beq f 33=false) (h3:Nat.beq f 31=false) (h4:Nat.beq f 13=false) (h5:Nat.beq f 19=false) (h6:Nat.beq f 20=false):S2 f vs=some r:=by
  unfold S2
  rw [spec_off h6,spec_off h5,spec_off h4,spec_off h3,spec_off h2,spec_off h1]
  exact h
omit hX hM ha in
theorem S2_33 {x:Sgn} (h:okG x=true):S2 33 [.agg (sgnC x)]=some (aSs.enc (namesL x)):=by
  unfold S2
  rw [spec_off rfl,spec_off rfl,spec_off rfl,spec_off rfl,spec_on,sp1_at (A:=aG) (x:=x) (aG_dec x)]
  exact if_pos h
omit hX hM ha in
theorem S1_S0 {f:FuncId} {vs:List AV} {r:AV} (h:S0 f vs=some r) (h1:Nat.beq f 45=false) (h2:Nat.beq f 24=false):S1 f vs=some r:=by
  unfold S1
  rw [spec_off h2,spec_off h1]
  exact h
/-- The caller that knows symbols and declare. -/
theorem callS_ok {T:Vm.Spec} (hT:SpecOk Tryd.prog T):CallOk Tryd.prog (((callerOf T).by R57).by R32):=by_ok (by_ok (callerOf_ok hT) fun _ _ _ _ _ h=>call57 hX hM ha h) R32_ok
theorem S3_ok:SpecOk Tryd.prog S3:=by
  have hS2:=S2_ok hX hM ha
  refine SpecOk.on1 (SpecOk.on1 (SpecOk.on1 hS2 fun x r h => ?_) fun x r h => ?_) fun t r h => ?_
  · unfold gVal at h
    split at h
    · rename_i hk
      simp only [Option.some.injEq] at h
      subst h
      rw [aG_enc]
      have hC:CallOk Tryd.prog (callerOf S2):=callerOf_ok hS2
      obtain ⟨hns,hnc,hnp,hss,hcc,hpp⟩:=okG_iff.1 hk
      obtain ⟨σ', hv⟩ := valid15 (X := X) (call := callerOf S2) (lf := 3000002) (x := x) hk (by omega)
        (fun σ=>by rw [← aSs_enc]; exact cAt hM ha (B:=aSs) rfl (ltG x) (caller_at (S2_33 hk)))
        (fun s σ hs=>cAt hM ha (B:=aB) rfl rfl (caller_at (S2_S1 (S1_S0 (S0_34 (by omega)) rfl rfl) rfl rfl rfl rfl rfl rfl)))
        (fun l s σ dr hl=>cAt hM ha (B:=aB) rfl (ltSs l s) (caller_at (S2_S1 (S1_35 s (by omega)) rfl rfl rfl rfl rfl rfl)))
        (fun s σ=>cAt hM ha (B:=aB) rfl (ltGs x s) (caller_at (S2_S1 (S1_24 s hk) rfl rfl rfl rfl rfl rfl)))
      rw [← valid_eq] at hv
      exact run_res (B:=aB) (y:=validB x) hX hC (hM.dom 15 rfl rfl) Tryd.func15 (by kernel_rfl) hv rfl
    · cases h
  · unfold gVal at h
    split at h
    · rename_i hk
      simp only [Option.some.injEq] at h
      subst h
      rw [aG_enc]
      obtain ⟨v,σ',h32,_⟩:=callv32 (X:=X) (call0:=(callerOf S2).by R57) (hM.ok 32 rfl).1 (hM.ok 32 rfl).2 (ha 32) (call32 hX hM ha hk) [Ob.cells (sgnC x)]
      have P0:=f14_P0 x v (validB x) σ' X (((callerOf S2).by R57).by R32) 0 h32
      have hv : vbody Tryd.prog X (((callerOf S2).by R57).by R32) 0 noFg Tryd.f14 (codeOf Tryd.f14) [.agg (sgnC x)] [] 0 = some (bo (validB x), σ') := by
        unfold f14_q0 at P0
        cases hb:validB x with
        | true=>rw [hb] at P0; exact P0.1 rfl
        | false=>rw [hb] at P0; exact P0.2 rfl
      exact run_res (B:=aB) (y:=validB x) hX (callS_ok hX hM ha hS2) (hM.dom 14 rfl rfl) Tryd.func14 (by kernel_rfl) hv rfl
    · cases h
  · unfold gPar at h
    split at h
    · rename_i ht
      simp only [Option.some.injEq] at h
      subst h
      have htm:t.size ≤ mega:=Nat.le_of_ble_eq_true ht
      have hlim:mega < lim:=by decide
      have hcs : CallsP X ((callerOf S2).by R57) := by
        refine ⟨fun s σ hs=>cut37 hM (by omega) σ,fun s σ hs=>split59 hM (by omega) σ,H57_by rfl rfl,fun l hl => ?_⟩
        have h48:((callerOf S2).by R57) 48 [strsV l] [] 0=some (aSs.enc l,[]):=spec_by (R57_not (by decide)) (S2_S1 (S1_S0 (S0_48 hl) rfl rfl) rfl rfl rfl rfl rfl rfl)
        have hl0:AV.ltAll 0 [strsV l]=true:=by simp only [AV.ltAll,lt_strsV,Bool.and_self]
        have h0 : call0 ((callerOf S2).by R57) 48 [strsV l] [] 0 = some (aSs.enc l, []) := by
          unfold call0
          rw [if_pos hl0]
          exact h48
        have:=cAt hM ha (call:=call0 ((callerOf S2).by R57)) (B:=aSs) (dr:=true) (σ:=[]) rfl hl0 h0
        rw [aSs_enc] at this
        exact this
      exact parse16 hX (by_ok (callerOf_ok hS2) fun _ _ _ _ _ h=>call57 hX hM ha h) hcs htm
    · cases h
end
end Go.Proofs.Sig
end
/- Signature: awake's example. -/
section
open Go Go.Vm Go.Proofs
namespace Go.Proofs.Sig
def tPerson:ByteArray:=⟨#[112,101,114,115,111,110]⟩
def tNumber:ByteArray:=⟨#[110,117,109,98,101,114]⟩
def tMarta:ByteArray:=⟨#[109,97,114,116,97]⟩
def tWait:ByteArray:=⟨#[119,97,105,116]⟩
def tCost:ByteArray:=⟨#[99,111,115,116]⟩
def exG:Sgn:=⟨[tPerson],[⟨tMarta,tPerson⟩],[⟨tWait,[tPerson]⟩,⟨tCost,[tPerson,tNumber]⟩]⟩
def text1:ByteArray:=ByteArray.mk (List.toArray (List.append [115,111,114,116,32,112,101,114,115,111,110,10,99,111,110,115,116,97,110,116,32,109,97,114,116,97,32,112,101,114,115,111,110,10,112,114,101,100,105,99,97,116] [101,32,119,97,105,116,32,112,101,114,115,111,110,10,112,114,101,100,105,99,97,116,101,32,99,111,115,116,32,112,101,114,115,111,110,32,110,117,109,98,101,114,10]))
theorem parse_text1:parseF text1=(exG,0,0):=by kernel_rfl
def text2:ByteArray:=ByteArray.mk #[112,114,101,100,105,99,97,116,101,32,119,97,105,116,32,112,101,114,115,111,110,10]
theorem parse_text2:parseF text2=(eG,1,3):=by kernel_rfl
theorem ex_valid:validB exG=true:=by kernel_rfl
theorem ex_sort:sortOfF exG tMarta=(tPerson,true):=by kernel_rfl
theorem ex_unary:unaryF exG tPerson=[tWait]:=by kernel_rfl
theorem ex_has:hasSortB exG tNumber=true:=by kernel_rfl
theorem ex_ok:okG exG=true:=by kernel_rfl
def sp0 (v:AV):List AV→Option AV
  | []=>some v
  | _=>none
variable [Fixed] {X:Ext}
def S4:Vm.Spec:=Vm.Spec.on S3 12 (sp0 (bo true))
section
variable (hX:ExtOk Tryd.prog X) (hM:XS X) (ha:∀ f,X.adopt f=false)
theorem S3_S2 {f:FuncId} {vs:List AV} {r:AV} (h:S2 f vs=some r) (h1:Nat.beq f 15=false) (h2:Nat.beq f 14=false) (h3:Nat.beq f 16=false):S3 f vs=some r:=by
  unfold S3
  rw [spec_off h3,spec_off h2,spec_off h1]
  exact h
theorem S3_16 {t:ByteArray} (h:t.size ≤ mega):S3 16 [st t]=some (aR.enc (parseF t)):=by
  unfold S3
  rw [spec_on,sp1_at (A:=aS) (x:=t) rfl]
  exact if_pos (Nat.ble_eq_true_of_le h)
theorem S3_14 {x:Sgn} (h:okG x=true):S3 14 [.agg (sgnC x)]=some (bo (validB x)):=by
  unfold S3
  rw [spec_off rfl,spec_on,sp1_at (A:=aG) (x:=x) (aG_dec x)]
  exact if_pos h
theorem S2_19 {x:Sgn} (s:ByteArray) (h:okG x=true):S2 19 [.agg (sgnC x),st s]=some (aSB.enc (sortOfF x s)):=by
  unfold S2
  rw [spec_off rfl,spec_on,sp2_at (A:=aG) (B:=aS) (x:=x) (y:=s) (aG_dec x) rfl]
  exact if_pos h
theorem S2_31 {x:Sgn} (s:ByteArray) (h:okG x=true):S2 31 [.agg (sgnC x),st s]=some (aSs.enc (unaryF x s)):=by
  unfold S2
  rw [spec_off rfl,spec_off rfl,spec_off rfl,spec_on,sp2_at (A:=aG) (B:=aS) (x:=x) (y:=s) (aG_dec x) rfl]
  exact if_pos h
theorem S2_23 {x:Sgn} (s:ByteArray) (h:okG x=true):S2 23 [.agg (sgnC x),st s]=some (bo (hasSortB x s)):=by
  unfold S2
  rw [spec_off rfl,spec_off rfl,spec_off rfl,spec_off rfl,spec_off rfl,spec_on,sp2_at (A:=aG) (B:=aS) (x:=x) (y:=s) (aG_dec x) rfl]
  exact if_pos h
include hX hM ha
theorem awake12:CallAt Tryd.prog 12 [] [] 0 (bo true) []:=by
  have hC:CallOk Tryd.prog (callerOf S3):=callerOf_ok (S3_ok hX hM ha)
  have c16a:=cAt hM ha (call:=callerOf S3) (B:=aR) (dr:=false) (σ:=[]) rfl rfl (caller_at (S3_16 (t:=text1) (by decide)))
  rw [parse_text1] at c16a
  have e1:aR.enc (exG,0,0) = .tup [.agg (sgnC exG),i6 0,i6 0]:=by show AV.tup [aG.enc exG,_,_]=_; rw [aG_enc]; rfl
  rw [e1] at c16a
  have c16b:=cAt hM ha (call:=callerOf S3) (B:=aR) (dr:=false) (σ:=[Ob.cells (sgnC exG)]) rfl rfl (caller_at (S3_16 (t:=text2) (by decide)))
  rw [parse_text2] at c16b
  have e2:aR.enc (eG,1,3) = .tup [.agg (sgnC eG),i6 1,i6 3]:=by show AV.tup [aG.enc eG,_,_]=_; rw [aG_enc]; rfl
  rw [e2] at c16b
  have c19:=cAt hM ha (call:=callerOf S3) (B:=aSB) (dr:=false) (σ:=[Ob.cells (sgnC exG)]) rfl (ltGs exG tMarta) (caller_at (S3_S2 (S2_19 tMarta ex_ok) rfl rfl rfl))
  rw [ex_sort] at c19
  have c31:=cAt hM ha (call:=callerOf S3) (B:=aSs) (dr:=false) (σ:=[Ob.cells (sgnC exG)]) rfl (ltGs exG tPerson) (caller_at (S3_S2 (S2_31 tPerson ex_ok) rfl rfl rfl))
  rw [ex_unary,aSs_enc] at c31
  have c14:=cAt hM ha (call:=callerOf S3) (B:=aB) (dr:=false) (σ:=[Ob.cells (sgnC exG),Ob.cells (sgnC eG)]) rfl (ltG exG) (caller_at (S3_14 ex_ok))
  rw [ex_valid] at c14
  have c23:=cAt hM ha (call:=callerOf S3) (B:=aB) (dr:=false) (σ:=[Ob.cells (sgnC exG),Ob.cells (sgnC eG)]) rfl (ltGs exG tNumber) (caller_at (S3_S2 (S2_23 tNumber ex_ok) rfl rfl rfl))
  rw [ex_has] at c23
  exact run_res (B:=aB) (y:=true) hX hC (hM.dom 12 rfl rfl) Tryd.func12 (by kernel_rfl) (f12_p exG X (callerOf S3) 0 c16a c19 c31 c16b c14 c23) rfl
theorem S4_ok:SpecOk Tryd.prog S4:=by
  refine (S3_ok hX hM ha).on fun vs r h => ?_
  cases vs with
  | nil =>
    simp only [sp0,Option.some.injEq] at h
    subst h
    exact awake12 hX hM ha
  | cons v vs=>simp [sp0] at h
omit hX hM ha in
theorem S4_12:S4 12 []=some (bo true):=by unfold S4; rw [spec_on]; rfl
omit hX hM ha in
theorem S4_S3 {f:FuncId} {vs:List AV} {r:AV} (h:S3 f vs=some r) (h1:Nat.beq f 12=false):S4 f vs=some r:=by
  unfold S4
  rw [spec_off h1]
  exact h
end
end Go.Proofs.Sig
end
/- Signature: from the readings of a row to signatures; what a law's row asks. -/
section
open Go Go.Vm Go.Proofs Go.Proofs.YtfjmemmjjihohaaDoor
open Go.RowKit Go.ChangeShapes Go.WideShapes Go.Lib Go.Shelf
namespace Go.Proofs.Sig
abbrev tys:List TypeId:=[3,4,5,9,22,23,24,26,37,48]
theorem tys_ok:tys.all (Go.Vm.okT Tryd.prog tys)=true:=by kernel_rfl
theorem str_shape {B:Nat} {x:List AV} (hx:Shape Tryd.prog B 9 x):∃ s:ByteArray,x=[.str s]∧s.size ≤ B:=by
  cases hx with
  | str hu s hs=>exact ⟨s,rfl,hs⟩
  | int hu=>rw [Tryd.underlying9] at hu; cases hu
  | bool hu=>rw [Tryd.underlying9] at hu; cases hu
  | slice hu=>rw [Tryd.underlying9] at hu; cases hu
  | struct hu=>rw [Tryd.underlying9] at hu; cases hu
theorem arg_str {B:Nat} {v:AV} (h:ArgIs Tryd.prog B 9 v):∃ s:ByteArray,v=st s∧s.size ≤ B:=by
  obtain ⟨s,hs,h1⟩:=str_shape (h.one Tryd.underlying9 rfl)
  simp only [List.cons.injEq,and_true] at hs
  exact ⟨s,hs,h1⟩
/-! ### the tables, and the variable of which only the kind is known -/
abbrev laidL : List (String × DataW Unit) := [("unicode/utf8.acceptRanges", Rows.laid_unicode_utf8_acceptRanges), ("unicode/utf8.first", Rows.laid_unicode_utf8_first)]
theorem laidOut:laidOutB Tryd.prog=true:=by kernel_rfl
theorem own:ownKnob Tryd.prog.godebug=none:=by kernel_rfl
theorem maxLen_of {W:World} (h:W.ShapedOpen Tryd.prog):∃ m,W.cell? ⟨0,0,none⟩=some (.int .i64 m) :=
  cell_of_shapedOpen_int (t:=3) (zero := #[.int .i64 0]) h (by decide +kernel) (by kernel_rfl) rfl (by kernel_rfl) (by kernel_rfl) Tryd.underlying3
noncomputable def wit (os:Os):World:=World.laidAll Tryd.prog os laidL
theorem wit_met (os:Os) (args:Array Value):laidMet Tryd.prog laidL ((wit os).forCall (fun _ _=>0) ⟨#[],args,[]⟩).memory :=
  laidMet_laidAll args (by kernel_rfl) (by kernel_rfl)
theorem laidH {W:World} (h:laidMet Tryd.prog laidL W):laidMetH Tryd.prog laidL W:=by
  have e:(laidL.filter fun x=>x.2.handleName?.isSome)=[]:=by kernel_rfl
  unfold laidMetH
  rw [e]
  exact h
section
variable {H:Type} {enc:TypeId × Value→H}
/-- A row's wrap that keeps both the conditions on what lies laid and the world's shape. -/
theorem returns_and_shaped {a:Assume} {C:Checked} {os:Os} {f:FuncId} {fn:Func} {s:ChangeSpec} {conds:List PathCond} {apart fresh handsOn again:Bool} {X:World→Array Value→Prop}
    (hX:∀ (w w' : World) (args:Array Value),w.heap=w'.heap→X w args→X w' args)
    (own:ownKnob C.prog.godebug=none) (started:os.Started) (noInit:C.prog.inits.idxOf? f=none) (hfn:C.prog.funcs[f]? = some fn)
    (witness : ∃ (w : World) (tape : Tape) (i : Input), w.os = os ∧ (w.forCall tape i).Shaped C.prog ∧ i.vars = [] ∧ Input.okWide C.prog (w.forCall tape i) .any w.heap.size f i ∧
      ((s.pre enc C.prog fn conds apart (w.forCall tape i).memory i.args∧X (w.forCall tape i).memory i.args)∧sizedMet enc C.prog fn (OpenSpec.ofChange s) apart (w.forCall tape i).memory i.args)∧a.holds C.prog (lone (Frame.enter C.prog f i.args .normal) [] (w.forCall tape i)))
    (contract : ∀ (W : World) (base : Nat) (args : Array Value) (ds gs : List (DataW H)) (before : List MemPlace),
      (∀ (j:Nat) t v,fn.params[j]? = some t→args[j]? = some v→Value.okWide C.prog W .any base t v) →
      DataW.Whole enc C.prog fn.params.toList s.vars apart W args.toList ds gs before →
      (DataW.weightsEach C.prog (fn.params.toList ++ s.plain.varTypes C.prog) (ds ++ gs)).all (· ≤ reachBytes)=true→X W args→W.ShapedOpen C.prog →
      Calls C.prog f args W fun e W' => ∃ v,e = .returned v∧s.post enc C.prog fn apart fresh handsOn again W args v W') :
    ReturnsInHanded a C os f .any (fun w args=>(s.pre enc C.prog fn conds apart w args∧X w args)∧sizedMet enc C.prog fn (OpenSpec.ofChange s) apart w args) (s.post enc C.prog fn apart fresh handsOn again):=by
  refine returnsInHanded_of_calls own started noInit witness ?_
  intro w tape i _ hsh _ hok hpre _
  obtain ⟨_,_,_,fn',hfn',_,_,_,_,hval⟩:=hok
  have e:fn' = fn:=Option.some.inj (hfn'.symm.trans hfn)
  subst e
  obtain ⟨⟨⟨ds,gs,before,hw,_⟩,hx⟩,hz⟩:=hpre
  have hw' := DataW.Whole.of_heap (w' := w.forCall tape i) (by rfl) hw
  refine (contract (w.forCall tape i) w.heap.size i.args ds gs before hval hw' (hz.weights hw) (hX _ _ _ (by rfl) hx) hsh).mono fun e W' ⟨v,he,hp⟩ => ?_
  subst he
  exact ChangeSpec.post_blind hp
end
end Go.Proofs.Sig
end
