/- Part 5 of the texts of this claim: the evaluator, and what it says of the program's functions. -/
import Derived.Test.YtfjmemmjjihohaaDoorParseD
import Derived.Test.YtfjmemmjjihohaaDoorParseC
import Derived.Tactics
import Derived.Tactics2
import Derived.Laws.Pointers
set_option linter.unusedSectionVars false
set_option linter.unusedVariables false
set_option linter.unusedSimpArgs false
set_option linter.constructorNameAsVariable false
/- Signature: symbols, walked (printed) -/
section
open Go Go.Vm Go.Proofs
namespace Go.Proofs.Sig
def fg32:Nat→List Nat
  | 5010=>[1]
  | 5016=>[1]
  | _=>[]
def f32_F0 (x0:Sgn)(z0:Nat→List (AV × AV))(i0:Nat):St :=
  stOf 59 [2,3,6,16,17,18,19,20,21,22,23,24] [(0,AV.agg (gQ x0)),(1,AV.ref 0 0),(4,AV.map 1),(11,AV.map 1),(12,AV.ref 0 0),(13,sQ x0.sorts),(14,i6 (↑x0.sorts.length:Int)),(15,i6 (↑i0:Int))] [Ob.cells (gQ x0),Ob.mapo (z0 i0)]
def f32_S0 (x0:Sgn):St :=
  stOf 59 [] [(0,AV.agg (gQ x0)),(1,AV.ref 0 0),(2,AV.mnil),(3,bo false),(4,AV.map 1),(11,AV.map 1),(12,AV.ref 0 0),(13,sQ x0.sorts),(14,i6 (↑x0.sorts.length:Int)),(15,i6 0)] [Ob.cells (gQ x0),Ob.mapo []]
abbrev f32_D0:List Nat:=[24,3,2,23,22,21,20,19,6,18,17,16]
theorem f32_L0 (x0:Sgn)(z0:Nat→List (AV × AV))(X:Ext)(call:Caller)(lf n:Nat)(x:Ex) (S' : St)
 (e0:[Ob.cells (gQ x0),Ob.mapo (z0 0)]=[Ob.cells (gQ x0),Ob.mapo []])
 (hn:n<lf)
 (hs:∀ j,j<n→∃ Sx,vexec Tryd.prog X call lf 0 fg32 (loopN Tryd.f32 0) (f32_F0 x0 z0 j)=some (Ex.normal,Sx)∧forget f32_D0 Sx=(f32_F0 x0 z0 (j + 1)))
 (he:vexec Tryd.prog X call lf 0 fg32 (loopN Tryd.f32 0) (f32_F0 x0 z0 n)=some (x,S'))
 (hx:x ≠ Ex.normal):vexec Tryd.prog X call lf 0 fg32 (Go.Code.loop (loopN Tryd.f32 0)) (f32_S0 x0)=some (x,S') :=
  loop_runK (by kernel_rfl) (fun j=>(f32_F0 x0 z0 j)) n hn (by show forget f32_D0 (f32_S0 x0)=(f32_F0 x0 z0 0); unfold f32_F0; rw [e0]; show _=_; kernel_rfl) hs he hx
def f32_S1 (x0:Sgn)(i0:Nat)(a:ByteArray)(r17:List AV)(s22:List Ob)(b22:Bool):St :=
  stOf 59 [24] [(0,AV.agg (gQ x0)),(1,AV.ref 0 0),(2,AV.mnil),(3,bo false),(4,AV.map 1),(6,st a),(11,AV.map 1),(12,AV.ref 0 0),(13,sQ x0.sorts),(14,i6 (↑x0.sorts.length:Int)),(15,i6 (↑i0:Int)),(16,bo true),(17,AV.eaddr (st a::r17)),(18,st a),(19,AV.map 1),(20,st a),(21,AV.agg [st (ByteArray.mk #[115,111,114,116]),AV.list LK.nil 0 0 []]),(22,bo b22),(23,bo true)] s22
theorem f32_r0_tt (x0:Sgn)(z0:Nat→List (AV × AV))(X:Ext)(call:Caller)(lf i0:Nat)(a:ByteArray)(r17:List AV)(s22:List Ob)(b22:Bool)
 (h0:decide ((↑i0:Int)<(↑x0.sorts.length:Int))=true)
 (h1:kiq 22 [Ob.cells (gQ x0),Ob.mapo (z0 i0)] (sQ x0.sorts) (i6 (↑i0:Int)) (st a::r17))
 (h2:callv X call false 57 [AV.map 1,st a,AV.agg [st (ByteArray.mk #[115,111,114,116]),AV.list LK.nil 0 0 []]] [Ob.cells (gQ x0),Ob.mapo (z0 i0)] 0=some (bo b22,s22))
 (h3:(!b22)=true):vexec Tryd.prog X call lf 0 fg32 (loopN Tryd.f32 0) (f32_F0 x0 z0 i0)=some (Ex.ret,(f32_S1 x0 i0 a r17 s22 b22)) :=
  around_sound (ans:=[(1,Ans.b true),(4,Ans.v (AV.eaddr (st a::r17))),(11,Ans.c (bo b22) s22),(12,Ans.b true)]) (by kernel_rfl) (ai h0 (ai h1 (ai h2 (ai h3 trivial))))
theorem f32_pltt (x0:Sgn)(X:Ext)(call:Caller)(lf i0:Nat)(a:ByteArray)(r17:List AV)(s22:List Ob)(b22:Bool)
 (h0:vexec Tryd.prog X call lf 0 fg32 (Code.loop (loopN Tryd.f32 0)) (f32_S0 x0)=some (Ex.ret,(f32_S1 x0 i0 a r17 s22 b22))):vbody Tryd.prog X call lf fg32 Tryd.f32 (codeOf Tryd.f32) [AV.agg (sgnC x0)] [] 0=some (AV.tup [AV.mnil,bo false],s22) :=
  along_sound (ans:=[(12,Ans.l Ex.ret (f32_S1 x0 i0 a r17 s22 b22))]) (by kernel_rfl) (ai h0 trivial)
theorem f32_s0_tf (x0:Sgn)(z0:Nat→List (AV × AV))(X:Ext)(call:Caller)(lf i0:Nat)(a:ByteArray)(r17:List AV)(s22:List Ob)(b22:Bool)
 (h0:decide ((↑i0:Int)<(↑x0.sorts.length:Int))=true)
 (h1:kiq 22 [Ob.cells (gQ x0),Ob.mapo (z0 i0)] (sQ x0.sorts) (i6 (↑i0:Int)) (st a::r17))
 (h2:callv X call false 57 [AV.map 1,st a,AV.agg [st (ByteArray.mk #[115,111,114,116]),AV.list LK.nil 0 0 []]] [Ob.cells (gQ x0),Ob.mapo (z0 i0)] 0=some (bo b22,s22))
 (h3:(!b22)=false)
 (e0:(↑(i0 + 1):Int)=w6 ((↑i0:Int) + 1))
 (e1:[Ob.cells (gQ x0),Ob.mapo (z0 (i0 + 1))]=s22):∃ Sx,vexec Tryd.prog X call lf 0 fg32 (loopN Tryd.f32 0) (f32_F0 x0 z0 i0)=some (Ex.normal,Sx)∧forget f32_D0 Sx=(f32_F0 x0 z0 (i0 + 1)) :=
  ⟨stOf 59 [2,3] [(0,AV.agg (gQ x0)),(1,AV.ref 0 0),(4,AV.map 1),(6,st a),(11,AV.map 1),(12,AV.ref 0 0),(13,sQ x0.sorts),(14,i6 (↑x0.sorts.length:Int)),(15,i6 (w6 ((↑i0:Int) + 1))),(16,bo true),(17,AV.eaddr (st a::r17)),(18,st a),(19,AV.map 1),(20,st a),(21,AV.agg [st (ByteArray.mk #[115,111,114,116]),AV.list LK.nil 0 0 []]),(22,bo b22),(23,bo false),(24,i6 (w6 ((↑i0:Int) + 1)))] s22,around_sound (ans:=[(1,Ans.b true),(4,Ans.v (AV.eaddr (st a::r17))),(11,Ans.c (bo b22) s22),(12,Ans.b false)]) (by kernel_rfl) (ai h0 (ai h1 (ai h2 (ai h3 trivial)))),by unfold f32_F0; rw [e0,e1]; show _=_; kernel_rfl⟩
def f32_S2 (x0:Sgn)(z0:Nat→List (AV × AV))(i0:Nat):St :=
  stOf 59 [2,3,6,17,18,19,20,21,22,23,24] [(0,AV.agg (gQ x0)),(1,AV.ref 0 0),(4,AV.map 1),(11,AV.map 1),(12,AV.ref 0 0),(13,sQ x0.sorts),(14,i6 (↑x0.sorts.length:Int)),(15,i6 (↑i0:Int)),(16,bo false)] [Ob.cells (gQ x0),Ob.mapo (z0 i0)]
theorem f32_r0_f (x0:Sgn)(z0:Nat→List (AV × AV))(X:Ext)(call:Caller)(lf i0:Nat)
 (h0:decide ((↑i0:Int)<(↑x0.sorts.length:Int))=false):vexec Tryd.prog X call lf 0 fg32 (loopN Tryd.f32 0) (f32_F0 x0 z0 i0)=some (Ex.exit 0,(f32_S2 x0 z0 i0)) :=
  around_sound (ans:=[(1,Ans.b false)]) (by kernel_rfl) (ai h0 trivial)
def f32_F1 (x0:Sgn)(z1:Nat→List (AV × AV))(i0 i1:Nat):St :=
  stOf 59 [2,3,6,8,17,18,19,20,21,22,23,24,29,30,31,32,33,34,35,36,37,38,39,40,41] [(0,AV.agg (gQ x0)),(1,AV.ref 0 0),(4,AV.map 1),(11,AV.map 1),(12,AV.ref 0 0),(13,sQ x0.sorts),(14,i6 (↑x0.sorts.length:Int)),(15,i6 (↑i0:Int)),(16,bo false),(25,AV.ref 0 1),(26,cQ x0.consts),(27,i6 (↑x0.consts.length:Int)),(28,i6 (↑i1:Int))] [Ob.cells (gQ x0),Ob.mapo (z1 i1)]
def f32_S3 (x0:Sgn)(z0:Nat→List (AV × AV))(i0:Nat):St :=
  stOf 59 [2,3,6,17,18,19,20,21,22,23,24] [(0,AV.agg (gQ x0)),(1,AV.ref 0 0),(4,AV.map 1),(11,AV.map 1),(12,AV.ref 0 0),(13,sQ x0.sorts),(14,i6 (↑x0.sorts.length:Int)),(15,i6 (↑i0:Int)),(16,bo false),(25,AV.ref 0 1),(26,cQ x0.consts),(27,i6 (↑x0.consts.length:Int)),(28,i6 0)] [Ob.cells (gQ x0),Ob.mapo (z0 i0)]
abbrev f32_D1:List Nat:=[41,3,2,40,39,38,37,36,35,34,33,32,8,31,30,29]
theorem f32_L1 (x0:Sgn)(z0 z1:Nat→List (AV × AV))(i0:Nat)(X:Ext)(call:Caller)(lf n:Nat)(x:Ex) (S' : St)
 (e0:[Ob.cells (gQ x0),Ob.mapo (z1 0)]=[Ob.cells (gQ x0),Ob.mapo (z0 i0)])
 (hn:n<lf)
 (hs:∀ j,j<n→∃ Sx,vexec Tryd.prog X call lf 0 fg32 (loopN Tryd.f32 1) (f32_F1 x0 z1 i0 j)=some (Ex.normal,Sx)∧forget f32_D1 Sx=(f32_F1 x0 z1 i0 (j + 1)))
 (he:vexec Tryd.prog X call lf 0 fg32 (loopN Tryd.f32 1) (f32_F1 x0 z1 i0 n)=some (x,S'))
 (hx:x ≠ Ex.normal):vexec Tryd.prog X call lf 0 fg32 (Go.Code.loop (loopN Tryd.f32 1)) (f32_S3 x0 z0 i0)=some (x,S') :=
  loop_runK (by kernel_rfl) (fun j=>(f32_F1 x0 z1 i0 j)) n hn (by show forget f32_D1 (f32_S3 x0 z0 i0)=(f32_F1 x0 z1 i0 0); unfold f32_F1; rw [e0]; show _=_; kernel_rfl) hs he hx
def f32_S4 (x0:Sgn)(i0 i1:Nat)(a b:ByteArray)(r30:List AV)(s39:List Ob)(b39:Bool):St :=
  stOf 59 [6,17,18,19,20,21,22,23,24,41] [(0,AV.agg (gQ x0)),(1,AV.ref 0 0),(2,AV.mnil),(3,bo false),(4,AV.map 1),(8,AV.eaddr [st a,st b]),(11,AV.map 1),(12,AV.ref 0 0),(13,sQ x0.sorts),(14,i6 (↑x0.sorts.length:Int)),(15,i6 (↑i0:Int)),(16,bo false),(25,AV.ref 0 1),(26,cQ x0.consts),(27,i6 (↑x0.consts.length:Int)),(28,i6 (↑i1:Int)),(29,bo true),(30,AV.eaddr (st a::st b::r30)),(31,AV.agg [st a,st b]),(32,AV.map 1),(33,AV.eaddr [st a,st b]),(34,st a),(35,AV.eaddr [st b]),(36,st b),(37,AV.list LK.clip 1 1 [st b]),(38,AV.agg [st (ByteArray.mk #[99,111,110,115,116,97,110,116]),AV.list LK.clip 1 1 [st b]]),(39,bo b39),(40,bo true)] s39
theorem f32_r1_tt (x0:Sgn)(z1:Nat→List (AV × AV))(X:Ext)(call:Caller)(lf i0 i1:Nat)(a d:ByteArray)(r30:List AV)(s39:List Ob)(b39:Bool)
 (h0:decide ((↑i1:Int)<(↑x0.consts.length:Int))=true)
 (h1:kiq 23 [Ob.cells (gQ x0),Ob.mapo (z1 i1)] (cQ x0.consts) (i6 (↑i1:Int)) (st a::st d::r30))
 (h2:callv X call false 57 [AV.map 1,st a,AV.agg [st (ByteArray.mk #[99,111,110,115,116,97,110,116]),AV.list LK.clip 1 1 [st d]]] [Ob.cells (gQ x0),Ob.mapo (z1 i1)] 0=some (bo b39,s39))
 (h3:(!b39)=true):vexec Tryd.prog X call lf 0 fg32 (loopN Tryd.f32 1) (f32_F1 x0 z1 i0 i1)=some (Ex.ret,(f32_S4 x0 i0 i1 a d r30 s39 b39)) :=
  around_sound (ans:=[(1,Ans.b true),(4,Ans.v (AV.eaddr (st a::st d::r30))),(14,Ans.c (bo b39) s39),(15,Ans.b true)]) (by kernel_rfl) (ai h0 (ai h1 (ai h2 (ai h3 trivial))))
theorem f32_plfltt (x0:Sgn)(z0:Nat→List (AV × AV))(X:Ext)(call:Caller)(lf i0 i1:Nat)(a b:ByteArray)(r30:List AV)(s39:List Ob)(b39:Bool)
 (h0:vexec Tryd.prog X call lf 0 fg32 (Code.loop (loopN Tryd.f32 0)) (f32_S0 x0)=some (Ex.exit 0,(f32_S2 x0 z0 i0)))
 (h1:vexec Tryd.prog X call lf 0 fg32 (Code.loop (loopN Tryd.f32 1)) (f32_S3 x0 z0 i0)=some (Ex.ret,(f32_S4 x0 i0 i1 a b r30 s39 b39))):vbody Tryd.prog X call lf fg32 Tryd.f32 (codeOf Tryd.f32) [AV.agg (sgnC x0)] [] 0=some (AV.tup [AV.mnil,bo false],s39) :=
  along_sound (ans:=[(12,Ans.l (Ex.exit 0) (f32_S2 x0 z0 i0)),(18,Ans.l Ex.ret (f32_S4 x0 i0 i1 a b r30 s39 b39))]) (by kernel_rfl) (ai h0 (ai h1 trivial))
theorem f32_s1_tf (x0:Sgn)(z1:Nat→List (AV × AV))(X:Ext)(call:Caller)(lf i0 i1:Nat)(a d:ByteArray)(r30:List AV)(s39:List Ob)(b39:Bool)
 (h0:decide ((↑i1:Int)<(↑x0.consts.length:Int))=true)
 (h1:kiq 23 [Ob.cells (gQ x0),Ob.mapo (z1 i1)] (cQ x0.consts) (i6 (↑i1:Int)) (st a::st d::r30))
 (h2:callv X call false 57 [AV.map 1,st a,AV.agg [st (ByteArray.mk #[99,111,110,115,116,97,110,116]),AV.list LK.clip 1 1 [st d]]] [Ob.cells (gQ x0),Ob.mapo (z1 i1)] 0=some (bo b39,s39))
 (h3:(!b39)=false)
 (e0:(↑(i1 + 1):Int)=w6 ((↑i1:Int) + 1))
 (e1:[Ob.cells (gQ x0),Ob.mapo (z1 (i1 + 1))]=s39):∃ Sx,vexec Tryd.prog X call lf 0 fg32 (loopN Tryd.f32 1) (f32_F1 x0 z1 i0 i1)=some (Ex.normal,Sx)∧forget f32_D1 Sx=(f32_F1 x0 z1 i0 (i1 + 1)) :=
  ⟨stOf 59 [2,3,6,17,18,19,20,21,22,23,24] [(0,AV.agg (gQ x0)),(1,AV.ref 0 0),(4,AV.map 1),(8,AV.eaddr [st a,st d]),(11,AV.map 1),(12,AV.ref 0 0),(13,sQ x0.sorts),(14,i6 (↑x0.sorts.length:Int)),(15,i6 (↑i0:Int)),(16,bo false),(25,AV.ref 0 1),(26,cQ x0.consts),(27,i6 (↑x0.consts.length:Int)),(28,i6 (w6 ((↑i1:Int) + 1))),(29,bo true),(30,AV.eaddr (st a::st d::r30)),(31,AV.agg [st a,st d]),(32,AV.map 1),(33,AV.eaddr [st a,st d]),(34,st a),(35,AV.eaddr [st d]),(36,st d),(37,AV.list LK.clip 1 1 [st d]),(38,AV.agg [st (ByteArray.mk #[99,111,110,115,116,97,110,116]),AV.list LK.clip 1 1 [st d]]),(39,bo b39),(40,bo false),(41,i6 (w6 ((↑i1:Int) + 1)))] s39,around_sound (ans:=[(1,Ans.b true),(4,Ans.v (AV.eaddr (st a::st d::r30))),(14,Ans.c (bo b39) s39),(15,Ans.b false)]) (by kernel_rfl) (ai h0 (ai h1 (ai h2 (ai h3 trivial)))),by unfold f32_F1; rw [e0,e1]; show _=_; kernel_rfl⟩
def f32_S5 (x0:Sgn)(z1:Nat→List (AV × AV))(i0 i1:Nat):St :=
  stOf 59 [2,3,6,8,17,18,19,20,21,22,23,24,30,31,32,33,34,35,36,37,38,39,40,41] [(0,AV.agg (gQ x0)),(1,AV.ref 0 0),(4,AV.map 1),(11,AV.map 1),(12,AV.ref 0 0),(13,sQ x0.sorts),(14,i6 (↑x0.sorts.length:Int)),(15,i6 (↑i0:Int)),(16,bo false),(25,AV.ref 0 1),(26,cQ x0.consts),(27,i6 (↑x0.consts.length:Int)),(28,i6 (↑i1:Int)),(29,bo false)] [Ob.cells (gQ x0),Ob.mapo (z1 i1)]
theorem f32_r1_f (x0:Sgn)(z1:Nat→List (AV × AV))(X:Ext)(call:Caller)(lf i0 i1:Nat)
 (h0:decide ((↑i1:Int)<(↑x0.consts.length:Int))=false):vexec Tryd.prog X call lf 0 fg32 (loopN Tryd.f32 1) (f32_F1 x0 z1 i0 i1)=some (Ex.exit 2,(f32_S5 x0 z1 i0 i1)) :=
  around_sound (ans:=[(1,Ans.b false)]) (by kernel_rfl) (ai h0 trivial)
def f32_F2 (x0:Sgn)(z2:Nat→List (AV × AV))(i0 i1 i2:Nat):St :=
  stOf 59 [2,3,6,8,10,17,18,19,20,21,22,23,24,30,31,32,33,34,35,36,37,38,39,40,41,46,47,48,49,50,51,52,53,54,55,56,57] [(0,AV.agg (gQ x0)),(1,AV.ref 0 0),(4,AV.map 1),(11,AV.map 1),(12,AV.ref 0 0),(13,sQ x0.sorts),(14,i6 (↑x0.sorts.length:Int)),(15,i6 (↑i0:Int)),(16,bo false),(25,AV.ref 0 1),(26,cQ x0.consts),(27,i6 (↑x0.consts.length:Int)),(28,i6 (↑i1:Int)),(29,bo false),(42,AV.ref 0 2),(43,pQ x0.preds),(44,i6 (↑x0.preds.length:Int)),(45,i6 (↑i2:Int))] [Ob.cells (gQ x0),Ob.mapo (z2 i2)]
def f32_S6 (x0:Sgn)(z1:Nat→List (AV × AV))(i0 i1:Nat):St :=
  stOf 59 [2,3,6,8,17,18,19,20,21,22,23,24,30,31,32,33,34,35,36,37,38,39,40,41] [(0,AV.agg (gQ x0)),(1,AV.ref 0 0),(4,AV.map 1),(11,AV.map 1),(12,AV.ref 0 0),(13,sQ x0.sorts),(14,i6 (↑x0.sorts.length:Int)),(15,i6 (↑i0:Int)),(16,bo false),(25,AV.ref 0 1),(26,cQ x0.consts),(27,i6 (↑x0.consts.length:Int)),(28,i6 (↑i1:Int)),(29,bo false),(42,AV.ref 0 2),(43,pQ x0.preds),(44,i6 (↑x0.preds.length:Int)),(45,i6 0)] [Ob.cells (gQ x0),Ob.mapo (z1 i1)]
abbrev f32_D2:List Nat:=[57,3,2,56,55,54,53,52,51,50,49,10,48,47,46]
theorem f32_L2 (x0:Sgn)(z1 z2:Nat→List (AV × AV))(i0 i1:Nat)(X:Ext)(call:Caller)(lf n:Nat)(x:Ex) (S' : St)
 (e0:[Ob.cells (gQ x0),Ob.mapo (z2 0)]=[Ob.cells (gQ x0),Ob.mapo (z1 i1)])
 (hn:n<lf)
 (hs:∀ j,j<n→∃ Sx,vexec Tryd.prog X call lf 0 fg32 (loopN Tryd.f32 2) (f32_F2 x0 z2 i0 i1 j)=some (Ex.normal,Sx)∧forget f32_D2 Sx=(f32_F2 x0 z2 i0 i1 (j + 1)))
 (he:vexec Tryd.prog X call lf 0 fg32 (loopN Tryd.f32 2) (f32_F2 x0 z2 i0 i1 n)=some (x,S'))
 (hx:x ≠ Ex.normal):vexec Tryd.prog X call lf 0 fg32 (Go.Code.loop (loopN Tryd.f32 2)) (f32_S6 x0 z1 i0 i1)=some (x,S') :=
  loop_runK (by kernel_rfl) (fun j=>(f32_F2 x0 z2 i0 i1 j)) n hn (by show forget f32_D2 (f32_S6 x0 z1 i0 i1)=(f32_F2 x0 z2 i0 i1 0); unfold f32_F2; rw [e0]; show _=_; kernel_rfl) hs he hx
def f32_S7 (x0:Sgn)(i0 i1 i2:Nat)(a:ByteArray)(b:List ByteArray)(r47:List AV)(s55:List Ob)(b55:Bool):St :=
  stOf 59 [6,8,17,18,19,20,21,22,23,24,30,31,32,33,34,35,36,37,38,39,40,41,57] [(0,AV.agg (gQ x0)),(1,AV.ref 0 0),(2,AV.mnil),(3,bo false),(4,AV.map 1),(10,AV.eaddr [st a,sQ b]),(11,AV.map 1),(12,AV.ref 0 0),(13,sQ x0.sorts),(14,i6 (↑x0.sorts.length:Int)),(15,i6 (↑i0:Int)),(16,bo false),(25,AV.ref 0 1),(26,cQ x0.consts),(27,i6 (↑x0.consts.length:Int)),(28,i6 (↑i1:Int)),(29,bo false),(42,AV.ref 0 2),(43,pQ x0.preds),(44,i6 (↑x0.preds.length:Int)),(45,i6 (↑i2:Int)),(46,bo true),(47,AV.eaddr (st a::sQ b::r47)),(48,AV.agg [st a,sQ b]),(49,AV.map 1),(50,AV.eaddr [st a,sQ b]),(51,st a),(52,AV.eaddr [sQ b]),(53,sQ b),(54,AV.agg [st (ByteArray.mk #[112,114,101,100,105,99,97,116,101]),sQ b]),(55,bo b55),(56,bo true)] s55
theorem f32_r2_tt (x0:Sgn)(z2:Nat→List (AV × AV))(X:Ext)(call:Caller)(lf i0 i1 i2:Nat)(a:ByteArray)(d:List ByteArray)(r47:List AV)(s55:List Ob)(b55:Bool)
 (h0:decide ((↑i2:Int)<(↑x0.preds.length:Int))=true)
 (h1:kiq 24 [Ob.cells (gQ x0),Ob.mapo (z2 i2)] (pQ x0.preds) (i6 (↑i2:Int)) (st a::sQ d::r47))
 (h2:callv X call false 57 [AV.map 1,st a,AV.agg [st (ByteArray.mk #[112,114,101,100,105,99,97,116,101]),sQ d]] [Ob.cells (gQ x0),Ob.mapo (z2 i2)] 0=some (bo b55,s55))
 (h3:(!b55)=true):vexec Tryd.prog X call lf 0 fg32 (loopN Tryd.f32 2) (f32_F2 x0 z2 i0 i1 i2)=some (Ex.ret,(f32_S7 x0 i0 i1 i2 a d r47 s55 b55)) :=
  around_sound (ans:=[(1,Ans.b true),(4,Ans.v (AV.eaddr (st a::sQ d::r47))),(13,Ans.c (bo b55) s55),(14,Ans.b true)]) (by kernel_rfl) (ai h0 (ai h1 (ai h2 (ai h3 trivial))))
theorem f32_plflfltt (x0:Sgn)(z0 z1:Nat→List (AV × AV))(X:Ext)(call:Caller)(lf i0 i1 i2:Nat)(a:ByteArray)(b:List ByteArray)(r47:List AV)(s55:List Ob)(b55:Bool)
 (h0:vexec Tryd.prog X call lf 0 fg32 (Code.loop (loopN Tryd.f32 0)) (f32_S0 x0)=some (Ex.exit 0,(f32_S2 x0 z0 i0)))
 (h1:vexec Tryd.prog X call lf 0 fg32 (Code.loop (loopN Tryd.f32 1)) (f32_S3 x0 z0 i0)=some (Ex.exit 2,(f32_S5 x0 z1 i0 i1)))
 (h2:vexec Tryd.prog X call lf 0 fg32 (Code.loop (loopN Tryd.f32 2)) (f32_S6 x0 z1 i0 i1)=some (Ex.ret,(f32_S7 x0 i0 i1 i2 a b r47 s55 b55))):vbody Tryd.prog X call lf fg32 Tryd.f32 (codeOf Tryd.f32) [AV.agg (sgnC x0)] [] 0=some (AV.tup [AV.mnil,bo false],s55) :=
  along_sound (ans:=[(12,Ans.l (Ex.exit 0) (f32_S2 x0 z0 i0)),(18,Ans.l (Ex.exit 2) (f32_S5 x0 z1 i0 i1)),(24,Ans.l Ex.ret (f32_S7 x0 i0 i1 i2 a b r47 s55 b55))]) (by kernel_rfl) (ai h0 (ai h1 (ai h2 trivial)))
theorem f32_s2_tf (x0:Sgn)(z2:Nat→List (AV × AV))(X:Ext)(call:Caller)(lf i0 i1 i2:Nat)(a:ByteArray)(d:List ByteArray)(r47:List AV)(s55:List Ob)(b55:Bool)
 (h0:decide ((↑i2:Int)<(↑x0.preds.length:Int))=true)
 (h1:kiq 24 [Ob.cells (gQ x0),Ob.mapo (z2 i2)] (pQ x0.preds) (i6 (↑i2:Int)) (st a::sQ d::r47))
 (h2:callv X call false 57 [AV.map 1,st a,AV.agg [st (ByteArray.mk #[112,114,101,100,105,99,97,116,101]),sQ d]] [Ob.cells (gQ x0),Ob.mapo (z2 i2)] 0=some (bo b55,s55))
 (h3:(!b55)=false)
 (e0:(↑(i2 + 1):Int)=w6 ((↑i2:Int) + 1))
 (e1:[Ob.cells (gQ x0),Ob.mapo (z2 (i2 + 1))]=s55):∃ Sx,vexec Tryd.prog X call lf 0 fg32 (loopN Tryd.f32 2) (f32_F2 x0 z2 i0 i1 i2)=some (Ex.normal,Sx)∧forget f32_D2 Sx=(f32_F2 x0 z2 i0 i1 (i2 + 1)) :=
  ⟨stOf 59 [2,3,6,8,17,18,19,20,21,22,23,24,30,31,32,33,34,35,36,37,38,39,40,41] [(0,AV.agg (gQ x0)),(1,AV.ref 0 0),(4,AV.map 1),(10,AV.eaddr [st a,sQ d]),(11,AV.map 1),(12,AV.ref 0 0),(13,sQ x0.sorts),(14,i6 (↑x0.sorts.length:Int)),(15,i6 (↑i0:Int)),(16,bo false),(25,AV.ref 0 1),(26,cQ x0.consts),(27,i6 (↑x0.consts.length:Int)),(28,i6 (↑i1:Int)),(29,bo false),(42,AV.ref 0 2),(43,pQ x0.preds),(44,i6 (↑x0.preds.length:Int)),(45,i6 (w6 ((↑i2:Int) + 1))),(46,bo true),(47,AV.eaddr (st a::sQ d::r47)),(48,AV.agg [st a,sQ d]),(49,AV.map 1),(50,AV.eaddr [st a,sQ d]),(51,st a),(52,AV.eaddr [sQ d]),(53,sQ d),(54,AV.agg [st (ByteArray.mk #[112,114,101,100,105,99,97,116,101]),sQ d]),(55,bo b55),(56,bo false),(57,i6 (w6 ((↑i2:Int) + 1)))] s55,around_sound (ans:=[(1,Ans.b true),(4,Ans.v (AV.eaddr (st a::sQ d::r47))),(13,Ans.c (bo b55) s55),(14,Ans.b false)]) (by kernel_rfl) (ai h0 (ai h1 (ai h2 (ai h3 trivial)))),by unfold f32_F2; rw [e0,e1]; show _=_; kernel_rfl⟩
def f32_S8 (x0:Sgn)(z2:Nat→List (AV × AV))(i0 i1 i2:Nat):St :=
  stOf 59 [2,3,6,8,10,17,18,19,20,21,22,23,24,30,31,32,33,34,35,36,37,38,39,40,41,47,48,49,50,51,52,53,54,55,56,57] [(0,AV.agg (gQ x0)),(1,AV.ref 0 0),(4,AV.map 1),(11,AV.map 1),(12,AV.ref 0 0),(13,sQ x0.sorts),(14,i6 (↑x0.sorts.length:Int)),(15,i6 (↑i0:Int)),(16,bo false),(25,AV.ref 0 1),(26,cQ x0.consts),(27,i6 (↑x0.consts.length:Int)),(28,i6 (↑i1:Int)),(29,bo false),(42,AV.ref 0 2),(43,pQ x0.preds),(44,i6 (↑x0.preds.length:Int)),(45,i6 (↑i2:Int)),(46,bo false)] [Ob.cells (gQ x0),Ob.mapo (z2 i2)]
theorem f32_r2_f (x0:Sgn)(z2:Nat→List (AV × AV))(X:Ext)(call:Caller)(lf i0 i1 i2:Nat)
 (h0:decide ((↑i2:Int)<(↑x0.preds.length:Int))=false):vexec Tryd.prog X call lf 0 fg32 (loopN Tryd.f32 2) (f32_F2 x0 z2 i0 i1 i2)=some (Ex.exit 4,(f32_S8 x0 z2 i0 i1 i2)) :=
  around_sound (ans:=[(1,Ans.b false)]) (by kernel_rfl) (ai h0 trivial)
theorem f32_plflflf (x0:Sgn)(z0 z1 z2:Nat→List (AV × AV))(X:Ext)(call:Caller)(lf i0 i1 i2:Nat)
 (h0:vexec Tryd.prog X call lf 0 fg32 (Code.loop (loopN Tryd.f32 0)) (f32_S0 x0)=some (Ex.exit 0,(f32_S2 x0 z0 i0)))
 (h1:vexec Tryd.prog X call lf 0 fg32 (Code.loop (loopN Tryd.f32 1)) (f32_S3 x0 z0 i0)=some (Ex.exit 2,(f32_S5 x0 z1 i0 i1)))
 (h2:vexec Tryd.prog X call lf 0 fg32 (Code.loop (loopN Tryd.f32 2)) (f32_S6 x0 z1 i0 i1)=some (Ex.exit 4,(f32_S8 x0 z2 i0 i1 i2))):vbody Tryd.prog X call lf fg32 Tryd.f32 (codeOf Tryd.f32) [AV.agg (sgnC x0)] [] 0=some (AV.tup [AV.map 1,bo true],[Ob.cells (gQ x0),Ob.mapo (z2 i2)]) :=
  along_sound (ans:=[(12,Ans.l (Ex.exit 0) (f32_S2 x0 z0 i0)),(18,Ans.l (Ex.exit 2) (f32_S5 x0 z1 i0 i1)),(24,Ans.l (Ex.exit 4) (f32_S8 x0 z2 i0 i1 i2))]) (by kernel_rfl) (ai h0 (ai h1 (ai h2 trivial)))
def f32_o0 (x0:Sgn)(i0:Nat)(b22:Bool):Nat :=
  (match decide ((↑i0:Int)<(↑x0.sorts.length:Int)) with
  | true=>(match (!b22) with
    | true=>1
    | false=>0)
  | false=>2)
theorem f32_B0 (x0:Sgn)(z0:Nat→List (AV × AV))(X:Ext)(call:Caller)(lf i0:Nat)(a:ByteArray)(r17:List AV)(s22:List Ob)(b22:Bool)
 (g0:decide ((↑i0:Int)<(↑x0.sorts.length:Int))=true→kiq 22 [Ob.cells (gQ x0),Ob.mapo (z0 i0)] (sQ x0.sorts) (i6 (↑i0:Int)) (st a::r17))
 (g1:decide ((↑i0:Int)<(↑x0.sorts.length:Int))=true→callv X call false 57 [AV.map 1,st a,AV.agg [st (ByteArray.mk #[115,111,114,116]),AV.list LK.nil 0 0 []]] [Ob.cells (gQ x0),Ob.mapo (z0 i0)] 0=some (bo b22,s22))
 (e0:decide ((↑i0:Int)<(↑x0.sorts.length:Int))=true→(↑(i0 + 1):Int)=w6 ((↑i0:Int) + 1))
 (e1:decide ((↑i0:Int)<(↑x0.sorts.length:Int))=true→[Ob.cells (gQ x0),Ob.mapo (z0 (i0 + 1))]=s22) :
    (f32_o0 x0 i0 b22=0→∃ Sx,vexec Tryd.prog X call lf 0 fg32 (loopN Tryd.f32 0) (f32_F0 x0 z0 i0)=some (Ex.normal,Sx)∧forget f32_D0 Sx=(f32_F0 x0 z0 (i0 + 1)))∧(f32_o0 x0 i0 b22=1→vexec Tryd.prog X call lf 0 fg32 (loopN Tryd.f32 0) (f32_F0 x0 z0 i0)=some (Ex.ret,(f32_S1 x0 i0 a r17 s22 b22)))∧(f32_o0 x0 i0 b22=2→vexec Tryd.prog X call lf 0 fg32 (loopN Tryd.f32 0) (f32_F0 x0 z0 i0)=some (Ex.exit 0,(f32_S2 x0 z0 i0))):=by
  unfold f32_o0
  cases c0:decide ((↑i0:Int)<(↑x0.sorts.length:Int)) with
  | true =>
    cases c1:(!b22) with
    | true =>
      exact ⟨fun h=>nq h,fun _=>f32_r0_tt x0 z0 X call lf i0 a r17 s22 b22 c0 (g0 c0) (g1 c0) c1,fun h=>nq h⟩
    | false =>
      exact ⟨fun _=>f32_s0_tf x0 z0 X call lf i0 a r17 s22 b22 c0 (g0 c0) (g1 c0) c1 (e0 c0) (e1 c0),fun h=>nq h,fun h=>nq h⟩
  | false =>
    exact ⟨fun h=>nq h,fun h=>nq h,fun _=>f32_r0_f x0 z0 X call lf i0 c0⟩
def f32_o1 (x0:Sgn)(i1:Nat)(b39:Bool):Nat :=
  (match decide ((↑i1:Int)<(↑x0.consts.length:Int)) with
  | true=>(match (!b39) with
    | true=>1
    | false=>0)
  | false=>2)
theorem f32_B1 (x0:Sgn)(z1:Nat→List (AV × AV))(X:Ext)(call:Caller)(lf i0 i1:Nat)(a b:ByteArray)(r30:List AV)(s39:List Ob)(b39:Bool)
 (g0:decide ((↑i1:Int)<(↑x0.consts.length:Int))=true→kiq 23 [Ob.cells (gQ x0),Ob.mapo (z1 i1)] (cQ x0.consts) (i6 (↑i1:Int)) (st a::st b::r30))
 (g1:decide ((↑i1:Int)<(↑x0.consts.length:Int))=true→callv X call false 57 [AV.map 1,st a,AV.agg [st (ByteArray.mk #[99,111,110,115,116,97,110,116]),AV.list LK.clip 1 1 [st b]]] [Ob.cells (gQ x0),Ob.mapo (z1 i1)] 0=some (bo b39,s39))
 (e0:decide ((↑i1:Int)<(↑x0.consts.length:Int))=true→(↑(i1 + 1):Int)=w6 ((↑i1:Int) + 1))
 (e1:decide ((↑i1:Int)<(↑x0.consts.length:Int))=true→[Ob.cells (gQ x0),Ob.mapo (z1 (i1 + 1))]=s39) :
    (f32_o1 x0 i1 b39=0→∃ Sx,vexec Tryd.prog X call lf 0 fg32 (loopN Tryd.f32 1) (f32_F1 x0 z1 i0 i1)=some (Ex.normal,Sx)∧forget f32_D1 Sx=(f32_F1 x0 z1 i0 (i1 + 1)))∧(f32_o1 x0 i1 b39=1→vexec Tryd.prog X call lf 0 fg32 (loopN Tryd.f32 1) (f32_F1 x0 z1 i0 i1)=some (Ex.ret,(f32_S4 x0 i0 i1 a b r30 s39 b39)))∧(f32_o1 x0 i1 b39=2→vexec Tryd.prog X call lf 0 fg32 (loopN Tryd.f32 1) (f32_F1 x0 z1 i0 i1)=some (Ex.exit 2,(f32_S5 x0 z1 i0 i1))):=by
  unfold f32_o1
  cases c0:decide ((↑i1:Int)<(↑x0.consts.length:Int)) with
  | true =>
    cases c1:(!b39) with
    | true =>
      exact ⟨fun h=>nq h,fun _=>f32_r1_tt x0 z1 X call lf i0 i1 a b r30 s39 b39 c0 (g0 c0) (g1 c0) c1,fun h=>nq h⟩
    | false =>
      exact ⟨fun _=>f32_s1_tf x0 z1 X call lf i0 i1 a b r30 s39 b39 c0 (g0 c0) (g1 c0) c1 (e0 c0) (e1 c0),fun h=>nq h,fun h=>nq h⟩
  | false =>
    exact ⟨fun h=>nq h,fun h=>nq h,fun _=>f32_r1_f x0 z1 X call lf i0 i1 c0⟩
def f32_o2 (x0:Sgn)(i2:Nat)(b55:Bool):Nat :=
  (match decide ((↑i2:Int)<(↑x0.preds.length:Int)) with
  | true=>(match (!b55) with
    | true=>1
    | false=>0)
  | false=>2)
theorem f32_B2 (x0:Sgn)(z2:Nat→List (AV × AV))(X:Ext)(call:Caller)(lf i0 i1 i2:Nat)(a:ByteArray)(b:List ByteArray)(r47:List AV)(s55:List Ob)(b55:Bool)
 (g0:decide ((↑i2:Int)<(↑x0.preds.length:Int))=true→kiq 24 [Ob.cells (gQ x0),Ob.mapo (z2 i2)] (pQ x0.preds) (i6 (↑i2:Int)) (st a::sQ b::r47))
 (g1:decide ((↑i2:Int)<(↑x0.preds.length:Int))=true→callv X call false 57 [AV.map 1,st a,AV.agg [st (ByteArray.mk #[112,114,101,100,105,99,97,116,101]),sQ b]] [Ob.cells (gQ x0),Ob.mapo (z2 i2)] 0=some (bo b55,s55))
 (e0:decide ((↑i2:Int)<(↑x0.preds.length:Int))=true→(↑(i2 + 1):Int)=w6 ((↑i2:Int) + 1))
 (e1:decide ((↑i2:Int)<(↑x0.preds.length:Int))=true→[Ob.cells (gQ x0),Ob.mapo (z2 (i2 + 1))]=s55) :
    (f32_o2 x0 i2 b55=0→∃ Sx,vexec Tryd.prog X call lf 0 fg32 (loopN Tryd.f32 2) (f32_F2 x0 z2 i0 i1 i2)=some (Ex.normal,Sx)∧forget f32_D2 Sx=(f32_F2 x0 z2 i0 i1 (i2 + 1)))∧(f32_o2 x0 i2 b55=1→vexec Tryd.prog X call lf 0 fg32 (loopN Tryd.f32 2) (f32_F2 x0 z2 i0 i1 i2)=some (Ex.ret,(f32_S7 x0 i0 i1 i2 a b r47 s55 b55)))∧(f32_o2 x0 i2 b55=2→vexec Tryd.prog X call lf 0 fg32 (loopN Tryd.f32 2) (f32_F2 x0 z2 i0 i1 i2)=some (Ex.exit 4,(f32_S8 x0 z2 i0 i1 i2))):=by
  unfold f32_o2
  cases c0:decide ((↑i2:Int)<(↑x0.preds.length:Int)) with
  | true =>
    cases c1:(!b55) with
    | true =>
      exact ⟨fun h=>nq h,fun _=>f32_r2_tt x0 z2 X call lf i0 i1 i2 a b r47 s55 b55 c0 (g0 c0) (g1 c0) c1,fun h=>nq h⟩
    | false =>
      exact ⟨fun _=>f32_s2_tf x0 z2 X call lf i0 i1 i2 a b r47 s55 b55 c0 (g0 c0) (g1 c0) c1 (e0 c0) (e1 c0),fun h=>nq h,fun h=>nq h⟩
  | false =>
    exact ⟨fun h=>nq h,fun h=>nq h,fun _=>f32_r2_f x0 z2 X call lf i0 i1 i2 c0⟩
theorem f14_pt (x0:Sgn)(v7:AV)(b7:Bool)(s7:List Ob)(X:Ext)(call:Caller)(lf:Nat)
 (h0:callv X call false 32 [AV.agg (gQ x0)] [Ob.cells (gQ x0)] 0=some (AV.tup [v7,bo b7],s7))
 (h1:b7=true):vbody Tryd.prog X call lf noFg Tryd.f14 (codeOf Tryd.f14) [AV.agg (sgnC x0)] [] 0=some (bo true,s7) :=
  along_sound (ans:=[(5,Ans.c (AV.tup [v7,bo b7]) s7),(8,Ans.b true)]) (by kernel_rfl) (ai h0 (ai h1 trivial))
theorem f14_pf (x0:Sgn)(v7:AV)(b7:Bool)(s7:List Ob)(X:Ext)(call:Caller)(lf:Nat)
 (h0:callv X call false 32 [AV.agg (gQ x0)] [Ob.cells (gQ x0)] 0=some (AV.tup [v7,bo b7],s7))
 (h1:b7=false):vbody Tryd.prog X call lf noFg Tryd.f14 (codeOf Tryd.f14) [AV.agg (sgnC x0)] [] 0=some (bo false,s7) :=
  along_sound (ans:=[(5,Ans.c (AV.tup [v7,bo b7]) s7),(8,Ans.b false)]) (by kernel_rfl) (ai h0 (ai h1 trivial))
def f14_q0 (b7:Bool):Nat :=
  (match b7 with
  | true=>0
  | false=>1)
theorem f14_P0 (x0:Sgn)(v7:AV)(b7:Bool)(s7:List Ob)(X:Ext)(call:Caller)(lf:Nat)
 (g0:callv X call false 32 [AV.agg (gQ x0)] [Ob.cells (gQ x0)] 0=some (AV.tup [v7,bo b7],s7)) :
    (f14_q0 b7=0→vbody Tryd.prog X call lf noFg Tryd.f14 (codeOf Tryd.f14) [AV.agg (sgnC x0)] [] 0=some (bo true,s7))∧(f14_q0 b7=1→vbody Tryd.prog X call lf noFg Tryd.f14 (codeOf Tryd.f14) [AV.agg (sgnC x0)] [] 0=some (bo false,s7)):=by
  refine (Bool.eq_false_or_eq_true (b7)).elim (fun c0 => ?_) (fun c0 => ?_)
  ·
    have ho:f14_q0 b7=0:=by
      unfold f14_q0
      simp only [c0]
    exact ⟨fun _=>f14_pt x0 v7 b7 s7 X call lf g0 c0,fun h=>absurd (ho.symm.trans h) (by decide)⟩
  ·
    have ho:f14_q0 b7=1:=by
      unfold f14_q0
      simp only [c0]
    exact ⟨fun h=>absurd (ho.symm.trans h) (by decide),fun _=>f14_pf x0 v7 b7 s7 X call lf g0 c0⟩
end Go.Proofs.Sig
end
/- Signature: the symbols of a signature; Valid. -/
section
open Go Go.Vm Go.Proofs
namespace Go.Proofs.Sig
def sortsD (x:Sgn):Syms:=x.sorts.map fun s=>(s,⟨kSort,[]⟩)
def consD (x:Sgn):Syms:=x.consts.map fun c=>(c.name,⟨kCon,[c.sort]⟩)
def predD (x:Sgn):Syms:=x.preds.map fun p=>(p.name,⟨kPre,p.args⟩)
def declsOf (x:Sgn):Syms:=sortsD x ++ (consD x ++ predD x)
def d0D:ByteArray × Dcl:=(emp,⟨emp,[]⟩)
abbrev nD (l:Syms) (i:Nat):ByteArray × Dcl:=l.getD i d0D
def okAt (l:Syms) (i:Nat):Bool:=declB (l.take i) (nD l i).1 (nD l i).2
/-- All symbols can be declared, one behind the other. -/
def validB (x:Sgn):Bool:=(List.range (declsOf x).length).all (okAt (declsOf x))
/-- Lengths that a machine bears by far. -/
def okG (x:Sgn):Bool:=decide (x.sorts.length ≤ 1000000) && decide (x.consts.length ≤ 1000000) && decide (x.preds.length ≤ 1000000) && (x.sorts.all fun s=>decide (s.size ≤ 1000000)) && (x.consts.all fun c=>decide (c.name.size ≤ 1000000) && decide (c.sort.size ≤ 1000000)) &&
  (x.preds.all fun p=>decide (p.name.size ≤ 1000000) && decide (p.args.length ≤ 1000000) && p.args.all fun a=>decide (a.size ≤ 1000000))
theorem le_big {n:Nat} (h:n ≤ 10000000):n ≤ big:=Nat.le_trans h (by decide)
structure OkG (x:Sgn):Prop where
  ns:x.sorts.length ≤ 1000000
  nc:x.consts.length ≤ 1000000
  np:x.preds.length ≤ 1000000
  s:∀ s ∈ x.sorts,s.size ≤ 1000000
  c:∀ c ∈ x.consts,c.name.size ≤ 1000000∧c.sort.size ≤ 1000000
  p:∀ p ∈ x.preds,p.name.size ≤ 1000000∧p.args.length ≤ 1000000∧∀ a ∈ p.args,a.size ≤ 1000000
theorem okG_iff {x:Sgn}:okG x=true ↔ OkG x:=by
  unfold okG
  simp only [Bool.and_eq_true,decide_eq_true_eq,List.all_eq_true]
  constructor
  · rintro ⟨⟨⟨⟨⟨h1, h2⟩, h3⟩, h4⟩, h5⟩, h6⟩
    exact ⟨h1,h2,h3,h4,h5,fun p hp=>⟨(h6 p hp).1.1,(h6 p hp).1.2,(h6 p hp).2⟩⟩
  · rintro ⟨h1, h2, h3, h4, h5, h6⟩
    exact ⟨⟨⟨⟨⟨h1,h2⟩,h3⟩,h4⟩,h5⟩,fun p hp=>⟨⟨(h6 p hp).1,(h6 p hp).2.1⟩,(h6 p hp).2.2⟩⟩
theorem nD_lt {l:Syms} {i:Nat} (h:i < l.length):nD l i=l[i]:=getD_lt h
theorem decls_len (x:Sgn):(declsOf x).length=x.sorts.length + (x.consts.length + x.preds.length):=by simp [declsOf,sortsD,consD,predD]
theorem nD_sort {x:Sgn} {i:Nat} (h:i < x.sorts.length):nD (declsOf x) i=(nS x.sorts i,⟨kSort,[]⟩):=by
  rw [nD_lt (by rw [decls_len]; omega),nS,getD_lt h]
  simp only [declsOf]
  rw [List.getElem_append_left (by simpa [sortsD] using h)]
  simp [sortsD]
theorem nD_con {x:Sgn} {i:Nat} (h:i < x.consts.length):nD (declsOf x) (x.sorts.length + i)=((nC x.consts i).name,⟨kCon,[(nC x.consts i).sort]⟩):=by
  rw [nD_lt (by rw [decls_len]; omega),nC,getD_lt h]
  simp only [declsOf]
  rw [List.getElem_append_right (by simp [sortsD])]
  have e:x.sorts.length + i - (sortsD x).length=i:=by simp [sortsD]
  simp only [e]
  rw [List.getElem_append_left (by simpa [consD] using h)]
  simp [consD]
theorem nD_pre {x:Sgn} {i:Nat} (h:i < x.preds.length):nD (declsOf x) (x.sorts.length + x.consts.length + i)=((nP x.preds i).name,⟨kPre,(nP x.preds i).args⟩):=by
  rw [nD_lt (by rw [decls_len]; omega),nP,getD_lt h]
  simp only [declsOf]
  rw [List.getElem_append_right (by simp [sortsD]; omega)]
  have e:x.sorts.length + x.consts.length + i - (sortsD x).length=x.consts.length + i:=by simp [sortsD]; omega
  simp only [e]
  rw [List.getElem_append_right (by simp [consD])]
  have e:x.consts.length + i - (consD x).length=i:=by simp [consD]
  simp only [e]
  simp [predD]
theorem take_ok1 {l:Syms} {i:Nat} (h:i < l.length) (hk:okAt l i=true):declM (l.take i) (nD l i).1 (nD l i).2=l.take (i + 1):=by
  unfold declM
  unfold okAt at hk
  rw [if_pos hk,List.take_succ_eq_append_getElem h,nD_lt h]
abbrev stX (x:Sgn) (m:Syms):List Ob:=[Ob.cells (sgnC x),Ob.mapo (mapE m)]
variable [Fixed]
theorem dec_sort:aD.dec (.agg [st kSort,.list .nil 0 0 []])=some ⟨kSort,[]⟩:=by kernel_rfl
theorem dec_con (s:ByteArray):aD.dec (.agg [st kCon,.list .clip 1 1 [st s]])=some ⟨kCon,[s]⟩:=by kernel_rfl
theorem dec_pre (l:List ByteArray):aD.dec (.agg [st kPre,strsV l])=some ⟨kPre,l⟩:=by
  have:=aD.de ⟨kPre,l⟩
  rwa [aD_enc] at this
section
variable {X:Ext} {call:Caller} {lf:Nat} {x:Sgn}
/-- What is asked of the call of declare. -/
def H57 (X:Ext) (call:Caller):Prop:=∀ (σ:List Ob) (id:Nat) (m:Syms) (s:ByteArray) (v:AV) (d:Dcl),aD.dec v=some d→AV.owns v=[]→σ[id]? = some (.mapo (mapE m))→m.length ≤ 10000000→s.size ≤ 10000000→d.sorts.length ≤ 10000000 →
  callv X call false 57 [.map id,st s,v] σ 0=some (bo (declB m s d),setOb σ id (.mapo (mapE (declM m s d))))
theorem symbols32 (hk:okG x=true) (h57:H57 X call) (hlf:1000000 < lf) :
    (validB x=true→vbody Tryd.prog X call lf fg32 Tryd.f32 (codeOf Tryd.f32) [.agg (sgnC x)] [] 0=some (.tup [.map 1,bo true],stX x (declsOf x))) ∧
    (validB x=false→∃ σ',vbody Tryd.prog X call lf fg32 Tryd.f32 (codeOf Tryd.f32) [.agg (sgnC x)] [] 0=some (.tup [.mnil,bo false],σ')):=by
  obtain ⟨hns,hnc,hnp,hss,hcc,hpp⟩:=okG_iff.1 hk
  have hDl:=decls_len x
  generalize hD:declsOf x=D at hDl
  have hb57 : ∀ i s v d, aD.dec v = some d → AV.owns v = [] → s.size ≤ 10000000 → d.sorts.length ≤ 10000000 → callv X call false 57 [.map 1, st s, v] (stX x (D.take i)) 0 = some (bo (declB (D.take i) s d), stX x (declM (D.take i) s d)) := by
    intro i s v d h1 h2 h3 h4
    exact h57 (stX x (D.take i)) 1 (D.take i) s v d h1 h2 rfl (by rw [List.length_take]; omega) h3 h4
  -- a round of each loop
  have hs1 : ∀ i, i < x.sorts.length → (nS x.sorts i).size ≤ 10000000 := fun i h => by
    rw [nS,getD_lt h]
    have:=hss _ (List.getElem_mem h); omega
  have hs2 : ∀ i, i < x.consts.length → (nC x.consts i).name.size ≤ 10000000 := fun i h => by
    rw [nC,getD_lt h]
    have:=(hcc _ (List.getElem_mem h)).1; omega
  have hs3 : ∀ i, i < x.preds.length → (nP x.preds i).name.size ≤ 10000000 ∧ (nP x.preds i).args.length ≤ 10000000 := fun i h => by
    rw [nP,getD_lt h]
    have:=hpp _ (List.getElem_mem h)
    omega
  have c1 : ∀ i, i < x.sorts.length → callv X call false 57 [.map 1, st (nS x.sorts i), .agg [st kSort, .list .nil 0 0 []]] (stX x (D.take i)) 0 = some (bo (okAt D i), stX x (declM (D.take i) (nD D i).1 (nD D i).2)) := by
    intro i h
    have e:=nD_sort h
    rw [hD] at e
    rw [hb57 i (nS x.sorts i) _ _ dec_sort rfl (hs1 i h) (Nat.zero_le _)]
    unfold okAt
    rw [e]
  have c2 : ∀ i, i < x.consts.length → callv X call false 57 [.map 1, st (nC x.consts i).name, .agg [st kCon, .list .clip 1 1 [st (nC x.consts i).sort]]] (stX x (D.take (x.sorts.length + i))) 0 = some (bo (okAt D (x.sorts.length + i)), stX x (declM (D.take (x.sorts.length + i)) (nD D (x.sorts.length + i)).1 (nD D (x.sorts.length + i)).2)) := by
    intro i h
    have e:=nD_con h
    rw [hD] at e
    rw [hb57 (x.sorts.length + i) _ _ _ (dec_con _) rfl (hs2 i h) (by simp)]
    unfold okAt
    rw [e]
  have c3 : ∀ i, i < x.preds.length → callv X call false 57 [.map 1, st (nP x.preds i).name, .agg [st kPre, strsV (nP x.preds i).args]] (stX x (D.take (x.sorts.length + x.consts.length + i))) 0 = some (bo (okAt D (x.sorts.length + x.consts.length + i)), stX x (declM (D.take (x.sorts.length + x.consts.length + i)) (nD D (x.sorts.length + x.consts.length + i)).1 (nD D (x.sorts.length + x.consts.length + i)).2)) := by
    intro i h
    have e:=nD_pre h
    rw [hD] at e
    rw [hb57 (x.sorts.length + x.consts.length + i) _ _ _ (dec_pre _) (by simp [AV.owns,AV.ownsAll,strsV,owns_strs]) (hs3 i h).1 (hs3 i h).2]
    unfold okAt
    rw [e]
  let z0:Nat→List (AV × AV):=fun i=>mapE (D.take i)
  let z1:Nat→List (AV × AV):=fun i=>mapE (D.take (x.sorts.length + i))
  let z2:Nat→List (AV × AV):=fun i=>mapE (D.take (x.sorts.length + x.consts.length + i))
  have o0 : ∀ i b, (i < x.sorts.length → b = true → f32_o0 x i b = 0) ∧ (i = x.sorts.length → f32_o0 x i b = 2) := by
    intro i b
    unfold f32_o0
    refine ⟨fun h1 h2 => ?_,fun h1 => ?_⟩
    · rw [decide_eq_true (by omega),h2]; rfl
    · rw [decide_eq_false (by omega)]
  have o1 : ∀ i b, (i < x.consts.length → b = true → f32_o1 x i b = 0) ∧ (i = x.consts.length → f32_o1 x i b = 2) := by
    intro i b
    unfold f32_o1
    refine ⟨fun h1 h2 => ?_,fun h1 => ?_⟩
    · rw [decide_eq_true (by omega),h2]; rfl
    · rw [decide_eq_false (by omega)]
  have o2 : ∀ i b, (i < x.preds.length → b = true → f32_o2 x i b = 0) ∧ (i = x.preds.length → f32_o2 x i b = 2) := by
    intro i b
    unfold f32_o2
    refine ⟨fun h1 h2 => ?_,fun h1 => ?_⟩
    · rw [decide_eq_true (by omega),h2]; rfl
    · rw [decide_eq_false (by omega)]
  have B0 : ∀ i, i ≤ x.sorts.length → (i < x.sorts.length → okAt D i = true) → _ := fun i hi hok => f32_B0 x z0 X call lf i (nS x.sorts i) (tS x.sorts i) (stX x (declM (D.take i) (nD D i).1 (nD D i).2)) (okAt D i)
    (fun h=>at_strs (by simpa using h)) (fun h=>c1 i (by simpa using h)) (fun h=>up (n:=x.sorts.length) (by simpa using h) (le_big (by omega)))
    (fun h => by
      have h' : i < x.sorts.length:=by simpa using h
      rw [take_ok1 (by omega) (hok h')]; rfl)
  have B1 : ∀ i j, j ≤ x.consts.length → (j < x.consts.length → okAt D (x.sorts.length + j) = true) → _ := fun i j hj hok => f32_B1 x z1 X call lf i j (nC x.consts j).name (nC x.consts j).sort (tC x.consts j) (stX x (declM (D.take (x.sorts.length + j)) (nD D (x.sorts.length + j)).1 (nD D (x.sorts.length + j)).2)) (okAt D (x.sorts.length + j))
    (fun h=>at_cst (by simpa using h)) (fun h=>c2 j (by simpa using h)) (fun h=>up (n:=x.consts.length) (by simpa using h) (le_big (by omega)))
    (fun h => by
      have h' : j < x.consts.length:=by simpa using h
      rw [take_ok1 (by omega) (hok h')]; rfl)
  have B2 : ∀ i j k, k ≤ x.preds.length → (k < x.preds.length → okAt D (x.sorts.length + x.consts.length + k) = true) → _ := fun i j k hk hok => f32_B2 x z2 X call lf i j k (nP x.preds k).name (nP x.preds k).args (tP x.preds k) (stX x (declM (D.take (x.sorts.length + x.consts.length + k)) (nD D (x.sorts.length + x.consts.length + k)).1 (nD D (x.sorts.length + x.consts.length + k)).2)) (okAt D (x.sorts.length + x.consts.length + k))
    (fun h=>at_prd (by simpa using h)) (fun h=>c3 k (by simpa using h)) (fun h=>up (n:=x.preds.length) (by simpa using h) (le_big (by omega)))
    (fun h => by
      have h' : k < x.preds.length:=by simpa using h
      rw [take_ok1 (by omega) (hok h')]; rfl)
  have L0:(∀ i,i < x.sorts.length→okAt D i=true)→_:=fun hall=>f32_L0 x z0 X call lf x.sorts.length _ _ (by show _=_; rfl) (by omega) (fun j hj=>(B0 j (by omega) (hall j)).1 ((o0 j _).1 hj (hall j hj))) ((B0 x.sorts.length (Nat.le_refl _) (fun h=>absurd h (by omega))).2.2 ((o0 _ _).2 rfl)) (by simp)
  have L1:∀ i0,z0 i0=z1 0→(∀ i,i < x.consts.length→okAt D (x.sorts.length + i)=true)→_:=fun i0 he hall=>f32_L1 x z0 z1 i0 X call lf x.consts.length _ _ (by rw [he]) (by omega) (fun j hj=>(B1 i0 j (by omega) (hall j)).1 ((o1 j _).1 hj (hall j hj))) ((B1 i0 x.consts.length (Nat.le_refl _) (fun h=>absurd h (by omega))).2.2 ((o1 _ _).2 rfl)) (by simp)
  have L2:∀ i0 i1,z1 i1=z2 0→(∀ i,i < x.preds.length→okAt D (x.sorts.length + x.consts.length + i)=true)→_:=fun i0 i1 he hall=>f32_L2 x z1 z2 i0 i1 X call lf x.preds.length _ _ (by rw [he]) (by omega) (fun j hj=>(B2 i0 i1 j (by omega) (hall j)).1 ((o2 j _).1 hj (hall j hj))) ((B2 i0 i1 x.preds.length (Nat.le_refl _) (fun h=>absurd h (by omega))).2.2 ((o2 _ _).2 rfl)) (by simp)
  have e01:z0 x.sorts.length=z1 0:=by simp [z0,z1]
  have e12:z1 x.consts.length=z2 0:=by simp [z1,z2]
  have hall_of : ∀ _ : Nat, validB x = true → ∀ i, i < D.length → okAt D i = true := by
    intro _ h i hi
    unfold validB at h
    rw [hD,List.all_eq_true] at h
    exact h i (List.mem_range.2 hi)
  constructor
  · intro hv
    have hall:=hall_of 0 hv
    have l0:=L0 fun i hi=>hall i (by omega)
    have l1:=L1 x.sorts.length e01 fun i hi=>hall _ (by omega)
    have l2:=L2 x.sorts.length x.consts.length e12 fun i hi=>hall _ (by omega)
    have:=f32_plflflf x z0 z1 z2 X call lf x.sorts.length x.consts.length x.preds.length l0 l1 l2
    have e : z2 x.preds.length = mapE D := by
      show mapE (D.take _)=_
      rw [List.take_of_length_le (by omega)]
    rw [e] at this
    exact this
  · intro hv
    have : ∃ k, k < D.length ∧ ¬ okAt D k = true ∧ ∀ i, i < k → okAt D i = true := by
      rcases first_fail (p:=fun i=>okAt D i=true) D.length with h | h
      · exfalso
        unfold validB at hv
        rw [hD] at hv
        rw [List.all_eq_true.2 fun i hi=>h i (List.mem_range.1 hi)] at hv
        cases hv
      · exact h
    obtain ⟨k,hk,hbad,hbef⟩:=this
    have hbad:okAt D k=false:=by simpa using hbad
    rcases Nat.lt_or_ge k x.sorts.length with h1 | h1
    · have r := f32_r0_tt x z0 X call lf k (nS x.sorts k) (tS x.sorts k) _ (okAt D k) (decide_eq_true (by omega)) (at_strs h1) (c1 k h1) (by rw [hbad]; rfl)
      have l0:=f32_L0 x z0 X call lf k _ _ (by show _=_; rfl) (by omega) (fun j hj=>(B0 j (by omega) (fun _=>hbef j hj)).1 ((o0 j _).1 (by omega) (hbef j hj))) r (by simp)
      exact ⟨_,f32_pltt x X call lf k _ _ _ _ l0⟩
    · have l0 := L0 fun i hi => hbef i (by omega)
      rcases Nat.lt_or_ge k (x.sorts.length + x.consts.length) with h2 | h2
      · obtain ⟨j, rfl⟩ : ∃ j, k = x.sorts.length + j := ⟨k - x.sorts.length, by omega⟩
        have hj:j < x.consts.length:=by omega
        have r:=f32_r1_tt x z1 X call lf x.sorts.length j (nC x.consts j).name (nC x.consts j).sort (tC x.consts j) _ (okAt D (x.sorts.length + j)) (decide_eq_true (by omega)) (at_cst hj) (c2 j hj) (by rw [hbad]; rfl)
        have l1:=f32_L1 x z0 z1 x.sorts.length X call lf j _ _ (by rw [e01]) (by omega) (fun i hi=>(B1 _ i (by omega) (fun _=>hbef _ (by omega))).1 ((o1 i _).1 (by omega) (hbef _ (by omega)))) r (by simp)
        exact ⟨_,f32_plfltt x z0 X call lf x.sorts.length j _ _ _ _ _ l0 l1⟩
      · have l1 := L1 x.sorts.length e01 fun i hi => hbef _ (by omega)
        obtain ⟨j,rfl⟩:∃ j,k=x.sorts.length + x.consts.length + j:=⟨k - x.sorts.length - x.consts.length,by omega⟩
        have hj:j < x.preds.length:=by omega
        have r:=f32_r2_tt x z2 X call lf x.sorts.length x.consts.length j (nP x.preds j).name (nP x.preds j).args (tP x.preds j) _ (okAt D (x.sorts.length + x.consts.length + j)) (decide_eq_true (by omega)) (at_prd hj) (c3 j hj) (by rw [hbad]; rfl)
        have l2:=f32_L2 x z1 z2 x.sorts.length x.consts.length X call lf j _ _ (by rw [e12]) (by omega) (fun i hi=>(B2 _ _ i (by omega) (fun _=>hbef _ (by omega))).1 ((o2 i _).1 (by omega) (hbef _ (by omega)))) r (by simp)
        exact ⟨_,f32_plflfltt x z0 z1 X call lf x.sorts.length x.consts.length j _ _ _ _ _ l0 l1 l2⟩
end
end Go.Proofs.Sig
end
/- Signature: the parser's fail, and the closure that recovers. -/
section
open Go Go.Vm Go.Proofs
namespace Go.Proofs.Sig
variable [Fixed]
variable {X:Ext} {call:Caller}
theorem shape38:codeOf Tryd.f38 = .seq (regN Tryd.f38 0) (.cond (.tmp 5) (regN Tryd.f38 1) .skip):=by kernel_rfl
theorem mixed21:Tryd.prog.follows .mixedOrders=true:=by kernel_rfl
/-- A wrong line's number, raised. -/
def wrongV (n:Int):Value := .iface 54 (.int .i64 n)
theorem fail38 (hX:ExtOk Tryd.prog X) (hc:CallOk Tryd.prog call) {b:Bool} {o0 o1 o2 o3:Ob} {τ:List Ob} {a0 a1 a2 m:AV} {n:Int} {ro:Nat} :
    CallP Tryd.prog 38 [.ref 4 0, bo b] (o0 :: o1 :: o2 :: o3 :: .cells [a0, a1, a2, m, .int .i64 n] :: τ) ro (fun r σ' => b = true ∧ σ' = o0 :: o1 :: o2 :: o3 :: .cells [a0, a1, a2, m, .int .i64 n] :: τ ∧ r = .tup [])
      (fun v σ' => b=false∧σ' = o0::o1::o2::o3 :: .cells [a0,a1,a2,m,.int .i64 n]::τ∧v=wrongV n):=by
  refine body_P (fn:=Tryd.f38) (c:=codeOf Tryd.f38) Tryd.func38 (by kernel_rfl) (of_decide_eq_true (by kernel_rfl)) ?_
  rw [shape38]
  have e0 : vexec Tryd.prog X call 0 ro noFg (regN Tryd.f38 0) { tmps := [.ref 4 0, bo b] ++ List.replicate (Tryd.f38.ntmps - [AV.ref 4 0, bo b].length) .undef, st := o0 :: o1 :: o2 :: o3 :: .cells [a0, a1, a2, m, .int .i64 n] :: τ } =
      some (.normal,stOf 11 [] [(0,.ref 4 0),(1,bo b),(4,bo b),(5,bo (!b))] (o0::o1::o2::o3 :: .cells [a0,a1,a2,m,.int .i64 n]::τ)):=by kernel_rfl
  refine SP.seq (R1:=fun x T=>x = .normal∧T=stOf 11 [] [(0,.ref 4 0),(1,bo b),(4,bo b),(5,bo (!b))] (o0::o1::o2::o3 :: .cells [a0,a1,a2,m,.int .i64 n]::τ)) (SP.exec hX hc (by kernel_rfl) e0 ⟨rfl,rfl⟩) ?_ ?_
  · rintro T ⟨_, rfl⟩
    refine SP.cond (b := !b) rfl ?_
    cases b with
    | true =>
      refine SP.skip ⟨.inl rfl,.tup [],_,rfl,rfl,rfl,rfl⟩
    | false =>
      have hreg:regN Tryd.f38 1 = .region 1 (opsR (regN Tryd.f38 1)) false:=by kernel_rfl
      show SP Tryd.prog ro [] (regN Tryd.f38 1) _ _ _
      rw [hreg]
      refine SP.panicLast hX hc (pre := (opsR (regN Tryd.f38 1)).toList.take 4) (mi := (opsR (regN Tryd.f38 1)).toList.getD 4 default) (pn := (opsR (regN Tryd.f38 1)).toList.getD 5 default) (t := 54) (x := .tmp 9) (d := 10) (k := .i64) (n := n) (S1 := stOf 11 [] [(0, .ref 4 0), (1, bo false), (4, bo false), (5, bo true), (6, .ref 4 0), (7, .ref 4 0), (8, .ref 4 4), (9, .int .i64 n)] (o0 :: o1 :: o2 :: o3 :: .cells [a0, a1, a2, m, .int .i64 n] :: τ))
        (by kernel_rfl) (by kernel_rfl) (by kernel_rfl) (by kernel_rfl) (by kernel_rfl) rfl (by kernel_rfl) (by kernel_rfl) (by kernel_rfl) (by show 10 < 11; decide) ?_
      exact ⟨rfl,rfl,rfl⟩
  · rintro x T h ⟨e, _⟩
    exact absurd e h
theorem ta_nil (w:World):(Instr.typeAssert .nilIface 20 54 true).run Tryd.prog w = .ok (.tuple #[.int .i64 0,.bool false]) w:=by
  have hz:(Tryd.prog.info? 54).map (·.zero)=some (some (.int .i64 0)):=by kernel_rfl
  obtain ⟨i,h1,h2⟩:=Option.map_eq_some_iff.1 hz
  simp [Instr.typeAssert,run_underlying Tryd.underlying54,zeroValue,typeInfo,h1,h2,go_sem,Result.andThen]
theorem ta_wrong (n:Int) (w:World):(Instr.typeAssert (.iface 54 (.int .i64 n)) 20 54 true).run Tryd.prog w = .ok (.tuple #[.int .i64 n,.bool true]) w:=by
  simp [Instr.typeAssert,run_underlying Tryd.underlying54,go_sem,Result.andThen]
set_option maxRecDepth 100000 in
set_option maxHeartbeats 4000000 in
theorem idle36:Idle Tryd.prog 36 3:=by
  intro w us hl
  match us,hl with
  | [a,b,c],_ =>
  refine callsD_of_wpS Tryd.func36 rfl fun c₀ cs hu => ?_
  apply wpS_seq
  apply wpS_region
  simp [wpOpsS,go_sem,recoverD,hu,Tryd.ntmps36,Exit.thenS,ta_nil]
  apply wpS_seq
  apply wpS_region
  simp [wpOpsS,go_sem,Exit.thenS]
  refine wpS_cond (t:=false) (by simp [Act.eval,Array.replicate]) ?_
  simp only [Bool.false_eq_true,if_false]
  refine wpS_of_wp (wp_skip ?_)
  cases c₀
  simp_all [bodyPostS,results,Tryd.results36]
abbrev emptyG:AV := .agg [.list .nil 0 0 [],.list .nil 0 0 [],.list .nil 0 0 []]
set_option maxRecDepth 100000 in
set_option maxHeartbeats 4000000 in
/-- The closure of Parse: what it lays into the results. -/
theorem catch36 (hX:ExtOk Tryd.prog X) (hc:CallOk Tryd.prog call) {n:Int} {b0 b1 b2 e0 e1:AV} {τ:List Ob}:Catch Tryd.prog 36 [.ref 0 0,.ref 1 0,.ref 2 0] (wrongV n) (.cells [b0,b1,b2] :: .cells [e0] :: .cells [e1]::τ)
    (.cells [.list .nil 0 0 [],.list .nil 0 0 [],.list .nil 0 0 []] :: .cells [.int .i64 n] :: .cells [.int .i64 3]::τ):=by
  intro C w us hs hσ hr
  match us,hr with
  | [a,b,c],hr =>
  refine callsD_of_wpS Tryd.func36 rfl fun c₀ cs hu => ?_
  apply wpS_seq
  apply wpS_region
  simp [wpOpsS,go_sem,recoverD,hu,Tryd.ntmps36,Exit.thenS,one,wrongV,ta_wrong]
  have hex : vexec Tryd.prog X call 0 0 noFg (.seq (regN Tryd.f36 1) (.cond (.tmp 10) (regN Tryd.f36 2) .skip)) ⟨[.ref 0 0, .ref 1 0, .ref 2 0, .int .i64 n, .bool true, .any, .any, .any, .any, .any, .any, .any, .any], .cells [b0, b1, b2] :: .cells [e0] :: .cells [e1] :: τ⟩ =
      some (.normal,⟨[.ref 0 0,.ref 1 0,.ref 2 0,.int .i64 n,.bool true,.any,.any,.any,.any,.any,.bool true,emptyG,.int .i64 n],.cells [.list .nil 0 0 [],.list .nil 0 0 [],.list .nil 0 0 []] :: .cells [.int .i64 n] :: .cells [.int .i64 3]::τ⟩):=by kernel_rfl
  refine wpS_of_wp (c := .seq (regN Tryd.f36 1) (.cond (.tmp 10) (regN Tryd.f36 2) .skip)) ?_
  refine vexec_sound hX hc _ (by kernel_rfl) C w _ _ _ .normal _ hex (ds:=[]) ⟨hσ.symm,hs,?_,rfl⟩ (Nat.zero_le _) ?_
  · simp only [RepAll] at hr
    simp [RepAll,Rep] at hr ⊢
    exact hr
  · intro C1 w1 a1 hat1 hg1
    refine ⟨hat1.defers,_,rfl,.tuple #[],?_,⟨_,rfl⟩,rfl,C1,hat1.ok,hg1,hat1.st.symm⟩
    simp [results,Tryd.results36]
end Go.Proofs.Sig
end
