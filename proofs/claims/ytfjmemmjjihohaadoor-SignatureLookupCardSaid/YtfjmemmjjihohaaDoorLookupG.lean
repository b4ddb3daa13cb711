/- Part 7 of the texts of this claim: the evaluator, and what it says of the program's functions. -/
import Derived.Test.YtfjmemmjjihohaaDoorLookupD
import Derived.Test.YtfjmemmjjihohaaDoorLookupC
import Derived.Test.YtfjmemmjjihohaaDoorLookupF
set_option linter.unusedSectionVars false
set_option linter.unusedVariables false
set_option linter.unusedSimpArgs false
set_option linter.constructorNameAsVariable false
/- Signature: symbols, the reference, walked (printed) -/
section
open Go Go.Vm Go.Proofs
namespace Go.Proofs.Sig
def fg43:Nat→List Nat
  | 2001=>[1000000,1000001,1000002]
  | _=>[]
theorem f43_p (x0:Prd)(X:Ext)(call:Caller)(lf:Nat)(l7 l8:List ByteArray)(rE:AV)(sE:List Ob)
 (h0:cvq X (call0 call) true 48 [lro x0.args.length 1 (List.map st x0.args)] [] (lro l7.length 1 (List.map st l7)))
 (h1:cvq X (call0 call) true 55 [lro l7.length 1 (List.map st l7)] [] (lro l8.length 1 (List.map st l8)))
 (h2:vend1 [] 0 [Ob.cells [st x0.name,lro x0.args.length 1 (List.map st x0.args)],Ob.cells [st x0.name,lro l8.length 1 (List.map st l8)]] [AV.agg [st x0.name,lro l8.length 1 (List.map st l8)]]=some (rE,sE)):vbody Tryd.prog X call lf fg43 Tryd.f43 (codeOf Tryd.f43) [AV.agg (prdC x0)] [] 0=some (rE,sE) :=
  along_sound (ans:=[(8,Ans.v (lro l7.length 1 (List.map st l7))),(9,Ans.v (lro l8.length 1 (List.map st l8))),(12,Ans.c rE sE)]) (by kernel_rfl) (ai h0 (ai h1 (ai h2 trivial)))
def fg31:Nat→List Nat
  | 5004=>[1]
  | _=>[]
def f31_F0 (x0:Sgn)(s1:ByteArray)(S0:Nat→List Ob)(o5:Nat→AV)(i0:Nat):St :=
  stOf 34 [7,12,13,14,15,16,17,18,19,20,21,22,23,24,25,26,27,28,29,30,31,32] [(0,AV.agg [lro x0.sorts.length 1 (List.map st x0.sorts),lro x0.consts.length 2 (List.flatMap cstC x0.consts),lro x0.preds.length 2 (List.flatMap prdC x0.preds)]),(1,st s1),(2,AV.ref 0 0),(4,AV.list LK.nil 0 0 []),(5,o5 i0),(8,AV.ref 0 2),(9,lro x0.preds.length 2 (List.flatMap prdC x0.preds)),(10,i6 (↑x0.preds.length:Int)),(11,i6 (↑i0:Int))] (S0 i0)
def f31_S0 (x0:Sgn)(s1:ByteArray):St :=
  stOf 34 [] [(0,AV.agg [lro x0.sorts.length 1 (List.map st x0.sorts),lro x0.consts.length 2 (List.flatMap cstC x0.consts),lro x0.preds.length 2 (List.flatMap prdC x0.preds)]),(1,st s1),(2,AV.ref 0 0),(4,AV.list LK.nil 0 0 []),(5,AV.list LK.nil 0 0 []),(8,AV.ref 0 2),(9,lro x0.preds.length 2 (List.flatMap prdC x0.preds)),(10,i6 (↑x0.preds.length:Int)),(11,i6 0)] [Ob.cells [lro x0.sorts.length 1 (List.map st x0.sorts),lro x0.consts.length 2 (List.flatMap cstC x0.consts),lro x0.preds.length 2 (List.flatMap prdC x0.preds)]]
abbrev f31_D0:List Nat:=[32,31,30,29,28,27,26,25,24,23,22,21,20,19,18,17,16,15,7,14,13,12]
theorem f31_L0 (x0:Sgn)(s1:ByteArray)(S0:Nat→List Ob)(o5:Nat→AV)(X:Ext)(call:Caller)(lf n:Nat)(x:Ex) (S' : St)
 (e0:o5 0=AV.list LK.nil 0 0 [])
 (e1:S0 0=[Ob.cells [lro x0.sorts.length 1 (List.map st x0.sorts),lro x0.consts.length 2 (List.flatMap cstC x0.consts),lro x0.preds.length 2 (List.flatMap prdC x0.preds)]])
 (hn:n<lf)
 (hs:∀ j,j<n→∃ Sx,vexec Tryd.prog X call lf 0 fg31 (loopN Tryd.f31 0) (f31_F0 x0 s1 S0 o5 j)=some (Ex.normal,Sx)∧forget f31_D0 Sx=(f31_F0 x0 s1 S0 o5 (j + 1)))
 (he:vexec Tryd.prog X call lf 0 fg31 (loopN Tryd.f31 0) (f31_F0 x0 s1 S0 o5 n)=some (x,S'))
 (hx:x ≠ Ex.normal):vexec Tryd.prog X call lf 0 fg31 (Go.Code.loop (loopN Tryd.f31 0)) (f31_S0 x0 s1)=some (x,S') :=
  loop_runK (by kernel_rfl) (fun j=>(f31_F0 x0 s1 S0 o5 j)) n hn (by show forget f31_D0 (f31_S0 x0 s1)=(f31_F0 x0 s1 S0 o5 0); unfold f31_F0; rw [e0,e1]; show _=_; kernel_rfl) hs he hx
theorem f31_s0_ttt (x0:Sgn)(s1:ByteArray)(X:Ext)(call:Caller)(lf:Nat)(S0:Nat→List Ob)(o5:Nat→AV)(i0:Nat)(a:ByteArray)(d:List ByteArray)(r13:List AV)(e:ByteArray)(r22:List AV)(v31:AV)(s31:List Ob)
 (h0:decide ((↑i0:Int)<(↑x0.preds.length:Int))=true)
 (h1:keep (S0 i0) (indexAddrv Tryd.prog 24 (S0 i0) (lro x0.preds.length 2 (List.flatMap prdC x0.preds)) (i6 (↑i0:Int)))=some (AV.eaddr (st a::lro d.length 1 (List.map st d)::r13),S0 i0))
 (h2:((↑d.length:Int) == 1)=true)
 (h3:keep (S0 i0) (indexAddrv Tryd.prog 22 (S0 i0) (lro d.length 1 (List.map st d)) (i6 0))=some (AV.eaddr (st e::r22),S0 i0))
 (h4:(ByteArray.toList e == ByteArray.toList s1)=true)
 (h5:appendv Tryd.prog 22 (S0 i0) 0 (o5 i0) (AV.list LK.clip 1 1 [st a])=some (v31,s31))
 (e0:o5 (i0 + 1)=v31)
 (e1:(↑(i0 + 1):Int)=w6 ((↑i0:Int) + 1))
 (e2:S0 (i0 + 1)=s31):∃ Sx,vexec Tryd.prog X call lf 0 fg31 (loopN Tryd.f31 0) (f31_F0 x0 s1 S0 o5 i0)=some (Ex.normal,Sx)∧forget f31_D0 Sx=(f31_F0 x0 s1 S0 o5 (i0 + 1)) :=
  ⟨stOf 34 [] [(0,AV.agg [lro x0.sorts.length 1 (List.map st x0.sorts),lro x0.consts.length 2 (List.flatMap cstC x0.consts),lro x0.preds.length 2 (List.flatMap prdC x0.preds)]),(1,st s1),(2,AV.ref 0 0),(4,AV.list LK.nil 0 0 []),(5,v31),(7,AV.eaddr [st a,lro d.length 1 (List.map st d)]),(8,AV.ref 0 2),(9,lro x0.preds.length 2 (List.flatMap prdC x0.preds)),(10,i6 (↑x0.preds.length:Int)),(11,i6 (w6 ((↑i0:Int) + 1))),(12,bo true),(13,AV.eaddr (st a::lro d.length 1 (List.map st d)::r13)),(14,AV.agg [st a,lro d.length 1 (List.map st d)]),(15,AV.eaddr [lro d.length 1 (List.map st d)]),(16,lro d.length 1 (List.map st d)),(17,i6 (↑d.length:Int)),(18,bo true),(19,bo true),(20,AV.eaddr [lro d.length 1 (List.map st d)]),(21,lro d.length 1 (List.map st d)),(22,AV.eaddr (st e::r22)),(23,st e),(24,st s1),(25,bo true),(26,bo true),(27,o5 i0),(28,AV.eaddr [st a,lro d.length 1 (List.map st d)]),(29,st a),(30,AV.list LK.clip 1 1 [st a]),(31,v31),(32,i6 (w6 ((↑i0:Int) + 1)))] s31,around_sound (ans:=[(1,Ans.b true),(4,Ans.v (AV.eaddr (st a::lro d.length 1 (List.map st d)::r13))),(10,Ans.b true),(17,Ans.v (AV.eaddr (st e::r22))),(23,Ans.b true),(31,Ans.c v31 s31)]) (by kernel_rfl) (ai h0 (ai h1 (ai h2 (ai h3 (ai h4 (ai h5 trivial)))))),by unfold f31_F0; rw [e0,e1,e2]; show _=_; kernel_rfl⟩
theorem f31_s0_ttf (x0:Sgn)(s1:ByteArray)(X:Ext)(call:Caller)(lf:Nat)(S0:Nat→List Ob)(o5:Nat→AV)(i0:Nat)(a:ByteArray)(c:List ByteArray)(r13:List AV)(d:ByteArray)(r22:List AV)
 (h0:decide ((↑i0:Int)<(↑x0.preds.length:Int))=true)
 (h1:keep (S0 i0) (indexAddrv Tryd.prog 24 (S0 i0) (lro x0.preds.length 2 (List.flatMap prdC x0.preds)) (i6 (↑i0:Int)))=some (AV.eaddr (st a::lro c.length 1 (List.map st c)::r13),S0 i0))
 (h2:((↑c.length:Int) == 1)=true)
 (h3:keep (S0 i0) (indexAddrv Tryd.prog 22 (S0 i0) (lro c.length 1 (List.map st c)) (i6 0))=some (AV.eaddr (st d::r22),S0 i0))
 (h4:(ByteArray.toList d == ByteArray.toList s1)=false)
 (e0:o5 (i0 + 1)=o5 i0)
 (e1:(↑(i0 + 1):Int)=w6 ((↑i0:Int) + 1))
 (e2:S0 (i0 + 1)=S0 i0):∃ Sx,vexec Tryd.prog X call lf 0 fg31 (loopN Tryd.f31 0) (f31_F0 x0 s1 S0 o5 i0)=some (Ex.normal,Sx)∧forget f31_D0 Sx=(f31_F0 x0 s1 S0 o5 (i0 + 1)) :=
  ⟨stOf 34 [27,28,29,30,31] [(0,AV.agg [lro x0.sorts.length 1 (List.map st x0.sorts),lro x0.consts.length 2 (List.flatMap cstC x0.consts),lro x0.preds.length 2 (List.flatMap prdC x0.preds)]),(1,st s1),(2,AV.ref 0 0),(4,AV.list LK.nil 0 0 []),(5,o5 i0),(7,AV.eaddr [st a,lro c.length 1 (List.map st c)]),(8,AV.ref 0 2),(9,lro x0.preds.length 2 (List.flatMap prdC x0.preds)),(10,i6 (↑x0.preds.length:Int)),(11,i6 (w6 ((↑i0:Int) + 1))),(12,bo true),(13,AV.eaddr (st a::lro c.length 1 (List.map st c)::r13)),(14,AV.agg [st a,lro c.length 1 (List.map st c)]),(15,AV.eaddr [lro c.length 1 (List.map st c)]),(16,lro c.length 1 (List.map st c)),(17,i6 (↑c.length:Int)),(18,bo true),(19,bo true),(20,AV.eaddr [lro c.length 1 (List.map st c)]),(21,lro c.length 1 (List.map st c)),(22,AV.eaddr (st d::r22)),(23,st d),(24,st s1),(25,bo false),(26,bo false),(32,i6 (w6 ((↑i0:Int) + 1)))] (S0 i0),around_sound (ans:=[(1,Ans.b true),(4,Ans.v (AV.eaddr (st a::lro c.length 1 (List.map st c)::r13))),(10,Ans.b true),(17,Ans.v (AV.eaddr (st d::r22))),(23,Ans.b false)]) (by kernel_rfl) (ai h0 (ai h1 (ai h2 (ai h3 (ai h4 trivial))))),by unfold f31_F0; rw [e0,e1,e2]; show _=_; kernel_rfl⟩
theorem f31_s0_tf (x0:Sgn)(s1:ByteArray)(X:Ext)(call:Caller)(lf:Nat)(S0:Nat→List Ob)(o5:Nat→AV)(i0:Nat)(a:ByteArray)(c:List ByteArray)(r13:List AV)
 (h0:decide ((↑i0:Int)<(↑x0.preds.length:Int))=true)
 (h1:keep (S0 i0) (indexAddrv Tryd.prog 24 (S0 i0) (lro x0.preds.length 2 (List.flatMap prdC x0.preds)) (i6 (↑i0:Int)))=some (AV.eaddr (st a::lro c.length 1 (List.map st c)::r13),S0 i0))
 (h2:((↑c.length:Int) == 1)=false)
 (e0:o5 (i0 + 1)=o5 i0)
 (e1:(↑(i0 + 1):Int)=w6 ((↑i0:Int) + 1))
 (e2:S0 (i0 + 1)=S0 i0):∃ Sx,vexec Tryd.prog X call lf 0 fg31 (loopN Tryd.f31 0) (f31_F0 x0 s1 S0 o5 i0)=some (Ex.normal,Sx)∧forget f31_D0 Sx=(f31_F0 x0 s1 S0 o5 (i0 + 1)) :=
  ⟨stOf 34 [27,28,29,30,31] [(0,AV.agg [lro x0.sorts.length 1 (List.map st x0.sorts),lro x0.consts.length 2 (List.flatMap cstC x0.consts),lro x0.preds.length 2 (List.flatMap prdC x0.preds)]),(1,st s1),(2,AV.ref 0 0),(4,AV.list LK.nil 0 0 []),(5,o5 i0),(7,AV.eaddr [st a,lro c.length 1 (List.map st c)]),(8,AV.ref 0 2),(9,lro x0.preds.length 2 (List.flatMap prdC x0.preds)),(10,i6 (↑x0.preds.length:Int)),(11,i6 (w6 ((↑i0:Int) + 1))),(12,bo true),(13,AV.eaddr (st a::lro c.length 1 (List.map st c)::r13)),(14,AV.agg [st a,lro c.length 1 (List.map st c)]),(15,AV.eaddr [lro c.length 1 (List.map st c)]),(16,lro c.length 1 (List.map st c)),(17,i6 (↑c.length:Int)),(18,bo false),(19,bo false),(26,bo false),(32,i6 (w6 ((↑i0:Int) + 1)))] (S0 i0),around_sound (ans:=[(1,Ans.b true),(4,Ans.v (AV.eaddr (st a::lro c.length 1 (List.map st c)::r13))),(10,Ans.b false)]) (by kernel_rfl) (ai h0 (ai h1 (ai h2 trivial))),by unfold f31_F0; rw [e0,e1,e2]; show _=_; kernel_rfl⟩
def f31_S1 (x0:Sgn)(s1:ByteArray)(S0:Nat→List Ob)(o5:Nat→AV)(i0:Nat):St :=
  stOf 34 [7,13,14,15,16,17,18,19,20,21,22,23,24,25,26,27,28,29,30,31,32] [(0,AV.agg [lro x0.sorts.length 1 (List.map st x0.sorts),lro x0.consts.length 2 (List.flatMap cstC x0.consts),lro x0.preds.length 2 (List.flatMap prdC x0.preds)]),(1,st s1),(2,AV.ref 0 0),(4,AV.list LK.nil 0 0 []),(5,o5 i0),(8,AV.ref 0 2),(9,lro x0.preds.length 2 (List.flatMap prdC x0.preds)),(10,i6 (↑x0.preds.length:Int)),(11,i6 (↑i0:Int)),(12,bo false)] (S0 i0)
theorem f31_r0_f (x0:Sgn)(s1:ByteArray)(X:Ext)(call:Caller)(lf:Nat)(S0:Nat→List Ob)(o5:Nat→AV)(i0:Nat)
 (h0:decide ((↑i0:Int)<(↑x0.preds.length:Int))=false):vexec Tryd.prog X call lf 0 fg31 (loopN Tryd.f31 0) (f31_F0 x0 s1 S0 o5 i0)=some (Ex.exit 0,(f31_S1 x0 s1 S0 o5 i0)) :=
  around_sound (ans:=[(1,Ans.b false)]) (by kernel_rfl) (ai h0 trivial)
theorem f31_plf (x0:Sgn)(s1:ByteArray)(X:Ext)(call:Caller)(lf:Nat)(S0:Nat→List Ob)(o5:Nat→AV)(i0:Nat)(rE:AV)(sE:List Ob)
 (h0:vexec Tryd.prog X call lf 0 fg31 (Code.loop (loopN Tryd.f31 0)) (f31_S0 x0 s1)=some (Ex.exit 0,(f31_S1 x0 s1 S0 o5 i0)))
 (h1:vend1 [] 0 (S0 i0) [o5 i0]=some (rE,sE)):vbody Tryd.prog X call lf fg31 Tryd.f31 (codeOf Tryd.f31) [AV.agg (sgnC x0),st s1] [] 0=some (rE,sE) :=
  along_sound (ans:=[(10,Ans.l (Ex.exit 0) (f31_S1 x0 s1 S0 o5 i0)),(14,Ans.c rE sE)]) (by kernel_rfl) (ai h0 (ai h1 trivial))
def f31_o0 (x0:Sgn)(s1:ByteArray)(i0:Nat)(a:List ByteArray)(b:ByteArray):Nat :=
  (match decide ((↑i0:Int)<(↑x0.preds.length:Int)) with
  | true=>(match ((↑a.length:Int) == 1) with
    | true=>(match (ByteArray.toList b == ByteArray.toList s1) with
      | true=>0
      | false=>0)
    | false=>0)
  | false=>1)
theorem f31_B0 (x0:Sgn)(s1:ByteArray)(X:Ext)(call:Caller)(lf:Nat)(S0:Nat→List Ob)(o5:Nat→AV)(i0:Nat)(a:ByteArray)(b:List ByteArray)(r13:List AV)(c:ByteArray)(r22:List AV)(v31:AV)(s31:List Ob)
 (g0:decide ((↑i0:Int)<(↑x0.preds.length:Int))=true→keep (S0 i0) (indexAddrv Tryd.prog 24 (S0 i0) (lro x0.preds.length 2 (List.flatMap prdC x0.preds)) (i6 (↑i0:Int)))=some (AV.eaddr (st a::lro b.length 1 (List.map st b)::r13),S0 i0))
 (g1:decide ((↑i0:Int)<(↑x0.preds.length:Int))=true→((↑b.length:Int) == 1)=true→keep (S0 i0) (indexAddrv Tryd.prog 22 (S0 i0) (lro b.length 1 (List.map st b)) (i6 0))=some (AV.eaddr (st c::r22),S0 i0))
 (g2:decide ((↑i0:Int)<(↑x0.preds.length:Int))=true→((↑b.length:Int) == 1)=true→(ByteArray.toList c == ByteArray.toList s1)=true→appendv Tryd.prog 22 (S0 i0) 0 (o5 i0) (AV.list LK.clip 1 1 [st a])=some (v31,s31))
 (e0:decide ((↑i0:Int)<(↑x0.preds.length:Int))=true→((↑b.length:Int) == 1)=true→(ByteArray.toList c == ByteArray.toList s1)=true→o5 (i0 + 1)=v31)
 (e1:decide ((↑i0:Int)<(↑x0.preds.length:Int))=true→(↑(i0 + 1):Int)=w6 ((↑i0:Int) + 1))
 (e2:decide ((↑i0:Int)<(↑x0.preds.length:Int))=true→((↑b.length:Int) == 1)=true→(ByteArray.toList c == ByteArray.toList s1)=true→S0 (i0 + 1)=s31)
 (e3:decide ((↑i0:Int)<(↑x0.preds.length:Int))=true→((↑b.length:Int) == 1)=true→(ByteArray.toList c == ByteArray.toList s1)=false→o5 (i0 + 1)=o5 i0)
 (e4:decide ((↑i0:Int)<(↑x0.preds.length:Int))=true→((↑b.length:Int) == 1)=true→(ByteArray.toList c == ByteArray.toList s1)=false→S0 (i0 + 1)=S0 i0)
 (e5:decide ((↑i0:Int)<(↑x0.preds.length:Int))=true→((↑b.length:Int) == 1)=false→o5 (i0 + 1)=o5 i0)
 (e6:decide ((↑i0:Int)<(↑x0.preds.length:Int))=true→((↑b.length:Int) == 1)=false→S0 (i0 + 1)=S0 i0) :
    (f31_o0 x0 s1 i0 b c=0→∃ Sx,vexec Tryd.prog X call lf 0 fg31 (loopN Tryd.f31 0) (f31_F0 x0 s1 S0 o5 i0)=some (Ex.normal,Sx)∧forget f31_D0 Sx=(f31_F0 x0 s1 S0 o5 (i0 + 1)))∧(f31_o0 x0 s1 i0 b c=1→vexec Tryd.prog X call lf 0 fg31 (loopN Tryd.f31 0) (f31_F0 x0 s1 S0 o5 i0)=some (Ex.exit 0,(f31_S1 x0 s1 S0 o5 i0))):=by
  unfold f31_o0
  cases c0:decide ((↑i0:Int)<(↑x0.preds.length:Int)) with
  | true =>
    cases c1:((↑b.length:Int) == 1) with
    | true =>
      cases c2:(ByteArray.toList c == ByteArray.toList s1) with
      | true =>
        exact ⟨fun _=>f31_s0_ttt x0 s1 X call lf S0 o5 i0 a b r13 c r22 v31 s31 c0 (g0 c0) c1 (g1 c0 c1) c2 (g2 c0 c1 c2) (e0 c0 c1 c2) (e1 c0) (e2 c0 c1 c2),fun h=>nq h⟩
      | false =>
        exact ⟨fun _=>f31_s0_ttf x0 s1 X call lf S0 o5 i0 a b r13 c r22 c0 (g0 c0) c1 (g1 c0 c1) c2 (e3 c0 c1 c2) (e1 c0) (e4 c0 c1 c2),fun h=>nq h⟩
    | false =>
      exact ⟨fun _=>f31_s0_tf x0 s1 X call lf S0 o5 i0 a b r13 c0 (g0 c0) c1 (e5 c0 c1) (e1 c0) (e6 c0 c1),fun h=>nq h⟩
  | false =>
    exact ⟨fun h=>nq h,fun _=>f31_r0_f x0 s1 X call lf S0 o5 i0 c0⟩
theorem f31_X0 (x0:Sgn)(s1:ByteArray)(X:Ext)(call:Caller)(lf:Nat)(S0:Nat→List Ob)(o5:Nat→AV)(i0:Nat)(a:ByteArray)(b:List ByteArray)(r13:List AV)(c:ByteArray)(r22:List AV)(v31:AV)(s31:List Ob)
 (g0:decide ((↑i0:Int)<(↑x0.preds.length:Int))=true→keep (S0 i0) (indexAddrv Tryd.prog 24 (S0 i0) (lro x0.preds.length 2 (List.flatMap prdC x0.preds)) (i6 (↑i0:Int)))=some (AV.eaddr (st a::lro b.length 1 (List.map st b)::r13),S0 i0))
 (g1:decide ((↑i0:Int)<(↑x0.preds.length:Int))=true→((↑b.length:Int) == 1)=true→keep (S0 i0) (indexAddrv Tryd.prog 22 (S0 i0) (lro b.length 1 (List.map st b)) (i6 0))=some (AV.eaddr (st c::r22),S0 i0))
 (g2:decide ((↑i0:Int)<(↑x0.preds.length:Int))=true→((↑b.length:Int) == 1)=true→(ByteArray.toList c == ByteArray.toList s1)=true→appendv Tryd.prog 22 (S0 i0) 0 (o5 i0) (AV.list LK.clip 1 1 [st a])=some (v31,s31)) :
    (f31_o0 x0 s1 i0 b c=1→vexec Tryd.prog X call lf 0 fg31 (loopN Tryd.f31 0) (f31_F0 x0 s1 S0 o5 i0)=some (Ex.exit 0,(f31_S1 x0 s1 S0 o5 i0))):=by
  unfold f31_o0
  cases c0:decide ((↑i0:Int)<(↑x0.preds.length:Int)) with
  | true =>
    cases c1:((↑b.length:Int) == 1) with
    | true =>
      cases c2:(ByteArray.toList c == ByteArray.toList s1) with
      | true =>
        exact fun h=>nq h
      | false =>
        exact fun h=>nq h
    | false =>
      exact fun h=>nq h
  | false =>
    exact fun _=>f31_r0_f x0 s1 X call lf S0 o5 i0 c0
theorem f31_M (x0:Sgn)(s1:ByteArray)(S0:Nat→List Ob)(o5:Nat→AV)(X:Ext)(call:Caller)(lf n:Nat)(a:Nat→ByteArray)(b:Nat→List ByteArray)(r13:Nat→List AV)(c:Nat→ByteArray)(r22:Nat→List AV)(v31:Nat→AV)(s31:Nat→List Ob)
 (z0:o5 0=AV.list LK.nil 0 0 [])
 (z1:S0 0=[Ob.cells [lro x0.sorts.length 1 (List.map st x0.sorts),lro x0.consts.length 2 (List.flatMap cstC x0.consts),lro x0.preds.length 2 (List.flatMap prdC x0.preds)]])
 (hn:n<lf)
 (g0:∀ i0,i0 ≤ n→decide ((↑i0:Int)<(↑x0.preds.length:Int))=true→keep (S0 i0) (indexAddrv Tryd.prog 24 (S0 i0) (lro x0.preds.length 2 (List.flatMap prdC x0.preds)) (i6 (↑i0:Int)))=some (AV.eaddr (st (a i0)::lro (List.length (b i0)) 1 (List.map st (b i0))::(r13 i0)),S0 i0))
 (g1:∀ i0,i0 ≤ n→decide ((↑i0:Int)<(↑x0.preds.length:Int))=true→((↑(List.length (b i0)):Int) == 1)=true→keep (S0 i0) (indexAddrv Tryd.prog 22 (S0 i0) (lro (List.length (b i0)) 1 (List.map st (b i0))) (i6 0))=some (AV.eaddr (st (c i0)::(r22 i0)),S0 i0))
 (g2:∀ i0,i0 ≤ n→decide ((↑i0:Int)<(↑x0.preds.length:Int))=true→((↑(List.length (b i0)):Int) == 1)=true→(ByteArray.toList (c i0) == ByteArray.toList s1)=true→appendv Tryd.prog 22 (S0 i0) 0 (o5 i0) (AV.list LK.clip 1 1 [st (a i0)])=some ((v31 i0),(s31 i0)))
 (e0:∀ i0,i0<n→decide ((↑i0:Int)<(↑x0.preds.length:Int))=true→((↑(List.length (b i0)):Int) == 1)=true→(ByteArray.toList (c i0) == ByteArray.toList s1)=true→o5 (i0 + 1)=(v31 i0))
 (e1:∀ i0,i0<n→decide ((↑i0:Int)<(↑x0.preds.length:Int))=true→(↑(i0 + 1):Int)=w6 ((↑i0:Int) + 1))
 (e2:∀ i0,i0<n→decide ((↑i0:Int)<(↑x0.preds.length:Int))=true→((↑(List.length (b i0)):Int) == 1)=true→(ByteArray.toList (c i0) == ByteArray.toList s1)=true→S0 (i0 + 1)=(s31 i0))
 (e3:∀ i0,i0<n→decide ((↑i0:Int)<(↑x0.preds.length:Int))=true→((↑(List.length (b i0)):Int) == 1)=true→(ByteArray.toList (c i0) == ByteArray.toList s1)=false→o5 (i0 + 1)=o5 i0)
 (e4:∀ i0,i0<n→decide ((↑i0:Int)<(↑x0.preds.length:Int))=true→((↑(List.length (b i0)):Int) == 1)=true→(ByteArray.toList (c i0) == ByteArray.toList s1)=false→S0 (i0 + 1)=S0 i0)
 (e5:∀ i0,i0<n→decide ((↑i0:Int)<(↑x0.preds.length:Int))=true→((↑(List.length (b i0)):Int) == 1)=false→o5 (i0 + 1)=o5 i0)
 (e6:∀ i0,i0<n→decide ((↑i0:Int)<(↑x0.preds.length:Int))=true→((↑(List.length (b i0)):Int) == 1)=false→S0 (i0 + 1)=S0 i0)
 (hz:∀ j,j<n→f31_o0 x0 s1 j (b j) (c j)=0) :
    (f31_o0 x0 s1 n (b n) (c n)=1→∀ (rE:AV),∀ (sE:List Ob),vend1 [] 0 (S0 n) [o5 n]=some (rE,sE)→vbody Tryd.prog X call lf fg31 Tryd.f31 (codeOf Tryd.f31) [AV.agg (sgnC x0),st s1] [] 0=some (rE,sE)):=by
  have key:∀ j,j<n→_:=fun j hj=>(f31_B0 x0 s1 X call lf S0 o5 j (a j) (b j) (r13 j) (c j) (r22 j) (v31 j) (s31 j) (g0 j (Nat.le_of_lt hj)) (g1 j (Nat.le_of_lt hj)) (g2 j (Nat.le_of_lt hj)) (e0 j hj) (e1 j hj) (e2 j hj) (e3 j hj) (e4 j hj) (e5 j hj) (e6 j hj)).1 (hz j hj)
  have kn:=f31_X0 x0 s1 X call lf S0 o5 n (a n) (b n) (r13 n) (c n) (r22 n) (v31 n) (s31 n) (g0 n (Nat.le_refl n)) (g1 n (Nat.le_refl n)) (g2 n (Nat.le_refl n))
  exact fun hk rE sE q0=>f31_plf x0 s1 X call lf S0 o5 n rE sE (f31_L0 x0 s1 S0 o5 X call lf n _ _ z0 z1 hn key (kn hk) (by simp)) q0
def fg33:Nat→List Nat
  | 5004=>[1]
  | 5009=>[1]
  | _=>[]
def f33_F0 (x0:Sgn)(v11:AV)(m13:Nat)(c13:List AV)(S0:Nat→List Ob)(o3:Nat→AV)(i0:Nat):St :=
  stOf 39 [5,16,17,18,19,20,21,22,23,24] [(0,AV.agg [lro x0.sorts.length 1 (List.map st x0.sorts),lro x0.consts.length 2 (List.flatMap cstC x0.consts),lro x0.preds.length 2 (List.flatMap prdC x0.preds)]),(1,AV.ref 0 0),(2,AV.list LK.nil 0 0 []),(3,o3 i0),(8,AV.list LK.clip 0 1 []),(9,AV.ref 0 0),(10,lro x0.sorts.length 1 (List.map st x0.sorts)),(11,v11),(12,AV.ref 0 1),(13,lro m13 2 c13),(14,i6 (↑m13:Int)),(15,i6 (↑i0:Int))] (S0 i0)
def f33_S0 (x0:Sgn)(v11:AV)(s11:List Ob)(m13:Nat)(c13:List AV):St :=
  stOf 39 [] [(0,AV.agg [lro x0.sorts.length 1 (List.map st x0.sorts),lro x0.consts.length 2 (List.flatMap cstC x0.consts),lro x0.preds.length 2 (List.flatMap prdC x0.preds)]),(1,AV.ref 0 0),(2,AV.list LK.nil 0 0 []),(3,v11),(8,AV.list LK.clip 0 1 []),(9,AV.ref 0 0),(10,lro x0.sorts.length 1 (List.map st x0.sorts)),(11,v11),(12,AV.ref 0 1),(13,lro m13 2 c13),(14,i6 (↑m13:Int)),(15,i6 0)] s11
abbrev f33_D0:List Nat:=[24,23,22,21,20,19,5,18,17,16]
theorem f33_L0 (x0:Sgn)(v11:AV)(s11:List Ob)(m13:Nat)(c13:List AV)(S0:Nat→List Ob)(o3:Nat→AV)(X:Ext)(call:Caller)(lf n:Nat)(x:Ex) (S' : St)
 (e0:o3 0=v11)
 (e1:S0 0=s11)
 (hn:n<lf)
 (hs:∀ j,j<n→∃ Sx,vexec Tryd.prog X call lf 0 fg33 (loopN Tryd.f33 0) (f33_F0 x0 v11 m13 c13 S0 o3 j)=some (Ex.normal,Sx)∧forget f33_D0 Sx=(f33_F0 x0 v11 m13 c13 S0 o3 (j + 1)))
 (he:vexec Tryd.prog X call lf 0 fg33 (loopN Tryd.f33 0) (f33_F0 x0 v11 m13 c13 S0 o3 n)=some (x,S'))
 (hx:x ≠ Ex.normal):vexec Tryd.prog X call lf 0 fg33 (Go.Code.loop (loopN Tryd.f33 0)) (f33_S0 x0 v11 s11 m13 c13)=some (x,S') :=
  loop_runK (by kernel_rfl) (fun j=>(f33_F0 x0 v11 m13 c13 S0 o3 j)) n hn (by show forget f33_D0 (f33_S0 x0 v11 s11 m13 c13)=(f33_F0 x0 v11 m13 c13 S0 o3 0); unfold f33_F0; rw [e0,e1]; show _=_; kernel_rfl) hs he hx
theorem f33_s0_t (x0:Sgn)(X:Ext)(call:Caller)(lf:Nat)(v11:AV)(m13:Nat)(c13:List AV)(S0:Nat→List Ob)(o3:Nat→AV)(i0:Nat)(a d:ByteArray)(r17:List AV)(v23:AV)(s23:List Ob)
 (h0:decide ((↑i0:Int)<(↑m13:Int))=true)
 (h1:keep (S0 i0) (indexAddrv Tryd.prog 23 (S0 i0) (lro m13 2 c13) (i6 (↑i0:Int)))=some (AV.eaddr (st a::st d::r17),S0 i0))
 (h2:appendv Tryd.prog 22 (S0 i0) 0 (o3 i0) (AV.list LK.clip 1 1 [st a])=some (v23,s23))
 (e0:o3 (i0 + 1)=v23)
 (e1:(↑(i0 + 1):Int)=w6 ((↑i0:Int) + 1))
 (e2:S0 (i0 + 1)=s23):∃ Sx,vexec Tryd.prog X call lf 0 fg33 (loopN Tryd.f33 0) (f33_F0 x0 v11 m13 c13 S0 o3 i0)=some (Ex.normal,Sx)∧forget f33_D0 Sx=(f33_F0 x0 v11 m13 c13 S0 o3 (i0 + 1)) :=
  ⟨stOf 39 [] [(0,AV.agg [lro x0.sorts.length 1 (List.map st x0.sorts),lro x0.consts.length 2 (List.flatMap cstC x0.consts),lro x0.preds.length 2 (List.flatMap prdC x0.preds)]),(1,AV.ref 0 0),(2,AV.list LK.nil 0 0 []),(3,v23),(5,AV.eaddr [st a,st d]),(8,AV.list LK.clip 0 1 []),(9,AV.ref 0 0),(10,lro x0.sorts.length 1 (List.map st x0.sorts)),(11,v11),(12,AV.ref 0 1),(13,lro m13 2 c13),(14,i6 (↑m13:Int)),(15,i6 (w6 ((↑i0:Int) + 1))),(16,bo true),(17,AV.eaddr (st a::st d::r17)),(18,AV.agg [st a,st d]),(19,o3 i0),(20,AV.eaddr [st a,st d]),(21,st a),(22,AV.list LK.clip 1 1 [st a]),(23,v23),(24,i6 (w6 ((↑i0:Int) + 1)))] s23,around_sound (ans:=[(1,Ans.b true),(4,Ans.v (AV.eaddr (st a::st d::r17))),(11,Ans.c v23 s23)]) (by kernel_rfl) (ai h0 (ai h1 (ai h2 trivial))),by unfold f33_F0; rw [e0,e1,e2]; show _=_; kernel_rfl⟩
def f33_S1 (x0:Sgn)(v11:AV)(m13:Nat)(c13:List AV)(S0:Nat→List Ob)(o3:Nat→AV)(i0:Nat):St :=
  stOf 39 [5,17,18,19,20,21,22,23,24] [(0,AV.agg [lro x0.sorts.length 1 (List.map st x0.sorts),lro x0.consts.length 2 (List.flatMap cstC x0.consts),lro x0.preds.length 2 (List.flatMap prdC x0.preds)]),(1,AV.ref 0 0),(2,AV.list LK.nil 0 0 []),(3,o3 i0),(8,AV.list LK.clip 0 1 []),(9,AV.ref 0 0),(10,lro x0.sorts.length 1 (List.map st x0.sorts)),(11,v11),(12,AV.ref 0 1),(13,lro m13 2 c13),(14,i6 (↑m13:Int)),(15,i6 (↑i0:Int)),(16,bo false)] (S0 i0)
theorem f33_r0_f (x0:Sgn)(X:Ext)(call:Caller)(lf:Nat)(v11:AV)(m13:Nat)(c13:List AV)(S0:Nat→List Ob)(o3:Nat→AV)(i0:Nat)
 (h0:decide ((↑i0:Int)<(↑m13:Int))=false):vexec Tryd.prog X call lf 0 fg33 (loopN Tryd.f33 0) (f33_F0 x0 v11 m13 c13 S0 o3 i0)=some (Ex.exit 0,(f33_S1 x0 v11 m13 c13 S0 o3 i0)) :=
  around_sound (ans:=[(1,Ans.b false)]) (by kernel_rfl) (ai h0 trivial)
def f33_F1 (x0:Sgn)(v11:AV)(m13:Nat)(c13:List AV)(i0 m26:Nat)(c26:List AV)(S1:Nat→List Ob)(o3q1:Nat→AV)(i1:Nat):St :=
  stOf 39 [5,7,17,18,19,20,21,22,23,24,29,30,31,32,33,34,35,36,37] [(0,AV.agg [lro x0.sorts.length 1 (List.map st x0.sorts),lro x0.consts.length 2 (List.flatMap cstC x0.consts),lro x0.preds.length 2 (List.flatMap prdC x0.preds)]),(1,AV.ref 0 0),(2,AV.list LK.nil 0 0 []),(3,o3q1 i1),(8,AV.list LK.clip 0 1 []),(9,AV.ref 0 0),(10,lro x0.sorts.length 1 (List.map st x0.sorts)),(11,v11),(12,AV.ref 0 1),(13,lro m13 2 c13),(14,i6 (↑m13:Int)),(15,i6 (↑i0:Int)),(16,bo false),(25,AV.ref 0 2),(26,lro m26 2 c26),(27,i6 (↑m26:Int)),(28,i6 (↑i1:Int))] (S1 i1)
def f33_S2 (x0:Sgn)(v11:AV)(m13:Nat)(c13:List AV)(S0:Nat→List Ob)(o3:Nat→AV)(i0 m26:Nat)(c26:List AV):St :=
  stOf 39 [5,17,18,19,20,21,22,23,24] [(0,AV.agg [lro x0.sorts.length 1 (List.map st x0.sorts),lro x0.consts.length 2 (List.flatMap cstC x0.consts),lro x0.preds.length 2 (List.flatMap prdC x0.preds)]),(1,AV.ref 0 0),(2,AV.list LK.nil 0 0 []),(3,o3 i0),(8,AV.list LK.clip 0 1 []),(9,AV.ref 0 0),(10,lro x0.sorts.length 1 (List.map st x0.sorts)),(11,v11),(12,AV.ref 0 1),(13,lro m13 2 c13),(14,i6 (↑m13:Int)),(15,i6 (↑i0:Int)),(16,bo false),(25,AV.ref 0 2),(26,lro m26 2 c26),(27,i6 (↑m26:Int)),(28,i6 0)] (S0 i0)
abbrev f33_D1:List Nat:=[37,36,35,34,33,32,7,31,30,29]
theorem f33_L1 (x0:Sgn)(v11:AV)(m13:Nat)(c13:List AV)(S0:Nat→List Ob)(o3:Nat→AV)(i0 m26:Nat)(c26:List AV)(S1:Nat→List Ob)(o3q1:Nat→AV)(X:Ext)(call:Caller)(lf n:Nat)(x:Ex) (S' : St)
 (e0:o3q1 0=o3 i0)
 (e1:S1 0=S0 i0)
 (hn:n<lf)
 (hs:∀ j,j<n→∃ Sx,vexec Tryd.prog X call lf 0 fg33 (loopN Tryd.f33 1) (f33_F1 x0 v11 m13 c13 i0 m26 c26 S1 o3q1 j)=some (Ex.normal,Sx)∧forget f33_D1 Sx=(f33_F1 x0 v11 m13 c13 i0 m26 c26 S1 o3q1 (j + 1)))
 (he:vexec Tryd.prog X call lf 0 fg33 (loopN Tryd.f33 1) (f33_F1 x0 v11 m13 c13 i0 m26 c26 S1 o3q1 n)=some (x,S'))
 (hx:x ≠ Ex.normal):vexec Tryd.prog X call lf 0 fg33 (Go.Code.loop (loopN Tryd.f33 1)) (f33_S2 x0 v11 m13 c13 S0 o3 i0 m26 c26)=some (x,S') :=
  loop_runK (by kernel_rfl) (fun j=>(f33_F1 x0 v11 m13 c13 i0 m26 c26 S1 o3q1 j)) n hn (by show forget f33_D1 (f33_S2 x0 v11 m13 c13 S0 o3 i0 m26 c26)=(f33_F1 x0 v11 m13 c13 i0 m26 c26 S1 o3q1 0); unfold f33_F1; rw [e0,e1]; show _=_; kernel_rfl) hs he hx
theorem f33_s1_t (x0:Sgn)(X:Ext)(call:Caller)(lf:Nat)(v11:AV)(m13:Nat)(c13:List AV)(i0 m26:Nat)(c26:List AV)(S1:Nat→List Ob)(o3q1:Nat→AV)(i1:Nat)(a:ByteArray)(d:List ByteArray)(r30:List AV)(v36:AV)(s36:List Ob)
 (h0:decide ((↑i1:Int)<(↑m26:Int))=true)
 (h1:keep (S1 i1) (indexAddrv Tryd.prog 24 (S1 i1) (lro m26 2 c26) (i6 (↑i1:Int)))=some (AV.eaddr (st a::lro d.length 1 (List.map st d)::r30),S1 i1))
 (h2:appendv Tryd.prog 22 (S1 i1) 0 (o3q1 i1) (AV.list LK.clip 1 1 [st a])=some (v36,s36))
 (e0:o3q1 (i1 + 1)=v36)
 (e1:(↑(i1 + 1):Int)=w6 ((↑i1:Int) + 1))
 (e2:S1 (i1 + 1)=s36):∃ Sx,vexec Tryd.prog X call lf 0 fg33 (loopN Tryd.f33 1) (f33_F1 x0 v11 m13 c13 i0 m26 c26 S1 o3q1 i1)=some (Ex.normal,Sx)∧forget f33_D1 Sx=(f33_F1 x0 v11 m13 c13 i0 m26 c26 S1 o3q1 (i1 + 1)) :=
  ⟨stOf 39 [5,17,18,19,20,21,22,23,24] [(0,AV.agg [lro x0.sorts.length 1 (List.map st x0.sorts),lro x0.consts.length 2 (List.flatMap cstC x0.consts),lro x0.preds.length 2 (List.flatMap prdC x0.preds)]),(1,AV.ref 0 0),(2,AV.list LK.nil 0 0 []),(3,v36),(7,AV.eaddr [st a,lro d.length 1 (List.map st d)]),(8,AV.list LK.clip 0 1 []),(9,AV.ref 0 0),(10,lro x0.sorts.length 1 (List.map st x0.sorts)),(11,v11),(12,AV.ref 0 1),(13,lro m13 2 c13),(14,i6 (↑m13:Int)),(15,i6 (↑i0:Int)),(16,bo false),(25,AV.ref 0 2),(26,lro m26 2 c26),(27,i6 (↑m26:Int)),(28,i6 (w6 ((↑i1:Int) + 1))),(29,bo true),(30,AV.eaddr (st a::lro d.length 1 (List.map st d)::r30)),(31,AV.agg [st a,lro d.length 1 (List.map st d)]),(32,o3q1 i1),(33,AV.eaddr [st a,lro d.length 1 (List.map st d)]),(34,st a),(35,AV.list LK.clip 1 1 [st a]),(36,v36),(37,i6 (w6 ((↑i1:Int) + 1)))] s36,around_sound (ans:=[(1,Ans.b true),(4,Ans.v (AV.eaddr (st a::lro d.length 1 (List.map st d)::r30))),(11,Ans.c v36 s36)]) (by kernel_rfl) (ai h0 (ai h1 (ai h2 trivial))),by unfold f33_F1; rw [e0,e1,e2]; show _=_; kernel_rfl⟩
def f33_S3 (x0:Sgn)(v11:AV)(m13:Nat)(c13:List AV)(i0 m26:Nat)(c26:List AV)(S1:Nat→List Ob)(o3q1:Nat→AV)(i1:Nat):St :=
  stOf 39 [5,7,17,18,19,20,21,22,23,24,30,31,32,33,34,35,36,37] [(0,AV.agg [lro x0.sorts.length 1 (List.map st x0.sorts),lro x0.consts.length 2 (List.flatMap cstC x0.consts),lro x0.preds.length 2 (List.flatMap prdC x0.preds)]),(1,AV.ref 0 0),(2,AV.list LK.nil 0 0 []),(3,o3q1 i1),(8,AV.list LK.clip 0 1 []),(9,AV.ref 0 0),(10,lro x0.sorts.length 1 (List.map st x0.sorts)),(11,v11),(12,AV.ref 0 1),(13,lro m13 2 c13),(14,i6 (↑m13:Int)),(15,i6 (↑i0:Int)),(16,bo false),(25,AV.ref 0 2),(26,lro m26 2 c26),(27,i6 (↑m26:Int)),(28,i6 (↑i1:Int)),(29,bo false)] (S1 i1)
theorem f33_r1_f (x0:Sgn)(X:Ext)(call:Caller)(lf:Nat)(v11:AV)(m13:Nat)(c13:List AV)(i0 m26:Nat)(c26:List AV)(S1:Nat→List Ob)(o3q1:Nat→AV)(i1:Nat)
 (h0:decide ((↑i1:Int)<(↑m26:Int))=false):vexec Tryd.prog X call lf 0 fg33 (loopN Tryd.f33 1) (f33_F1 x0 v11 m13 c13 i0 m26 c26 S1 o3q1 i1)=some (Ex.exit 2,(f33_S3 x0 v11 m13 c13 i0 m26 c26 S1 o3q1 i1)) :=
  around_sound (ans:=[(1,Ans.b false)]) (by kernel_rfl) (ai h0 trivial)
theorem f33_plflf (x0:Sgn)(X:Ext)(call:Caller)(lf:Nat)(v11:AV)(s11:List Ob)(m13:Nat)(c13:List AV)(S0:Nat→List Ob)(o3:Nat→AV)(i0 m26:Nat)(c26:List AV)(S1:Nat→List Ob)(o3q1:Nat→AV)(i1:Nat)(rE:AV)(sE:List Ob)
 (h0:appendv Tryd.prog 22 [Ob.cells [lro x0.sorts.length 1 (List.map st x0.sorts),lro x0.consts.length 2 (List.flatMap cstC x0.consts),lro x0.preds.length 2 (List.flatMap prdC x0.preds)]] 0 (AV.list LK.clip 0 1 []) (lro x0.sorts.length 1 (List.map st x0.sorts))=some (v11,s11))
 (h1:keep s11 (loadv Tryd.prog 23 s11 (AV.ref 0 1))=some (lro m13 2 c13,s11))
 (h2:vexec Tryd.prog X call lf 0 fg33 (Code.loop (loopN Tryd.f33 0)) (f33_S0 x0 v11 s11 m13 c13)=some (Ex.exit 0,(f33_S1 x0 v11 m13 c13 S0 o3 i0)))
 (h3:keep (S0 i0) (loadv Tryd.prog 24 (S0 i0) (AV.ref 0 2))=some (lro m26 2 c26,S0 i0))
 (h4:vexec Tryd.prog X call lf 0 fg33 (Code.loop (loopN Tryd.f33 1)) (f33_S2 x0 v11 m13 c13 S0 o3 i0 m26 c26)=some (Ex.exit 2,(f33_S3 x0 v11 m13 c13 i0 m26 c26 S1 o3q1 i1)))
 (h5:vend1 [] 0 (S1 i1) [o3q1 i1]=some (rE,sE)):vbody Tryd.prog X call lf fg33 Tryd.f33 (codeOf Tryd.f33) [AV.agg (sgnC x0)] [] 0=some (rE,sE) :=
  along_sound (ans:=[(7,Ans.c v11 s11),(11,Ans.v (lro m13 2 c13)),(14,Ans.l (Ex.exit 0) (f33_S1 x0 v11 m13 c13 S0 o3 i0)),(17,Ans.v (lro m26 2 c26)),(20,Ans.l (Ex.exit 2) (f33_S3 x0 v11 m13 c13 i0 m26 c26 S1 o3q1 i1)),(24,Ans.c rE sE)]) (by kernel_rfl) (ai h0 (ai h1 (ai h2 (ai h3 (ai h4 (ai h5 trivial))))))
def f33_o0 (m13 i0:Nat):Nat :=
  (match decide ((↑i0:Int)<(↑m13:Int)) with
  | true=>0
  | false=>1)
theorem f33_B0 (x0:Sgn)(X:Ext)(call:Caller)(lf:Nat)(v11:AV)(m13:Nat)(c13:List AV)(S0:Nat→List Ob)(o3:Nat→AV)(i0:Nat)(a b:ByteArray)(r17:List AV)(v23:AV)(s23:List Ob)
 (g0:decide ((↑i0:Int)<(↑m13:Int))=true→keep (S0 i0) (indexAddrv Tryd.prog 23 (S0 i0) (lro m13 2 c13) (i6 (↑i0:Int)))=some (AV.eaddr (st a::st b::r17),S0 i0))
 (g1:decide ((↑i0:Int)<(↑m13:Int))=true→appendv Tryd.prog 22 (S0 i0) 0 (o3 i0) (AV.list LK.clip 1 1 [st a])=some (v23,s23))
 (e0:decide ((↑i0:Int)<(↑m13:Int))=true→o3 (i0 + 1)=v23)
 (e1:decide ((↑i0:Int)<(↑m13:Int))=true→(↑(i0 + 1):Int)=w6 ((↑i0:Int) + 1))
 (e2:decide ((↑i0:Int)<(↑m13:Int))=true→S0 (i0 + 1)=s23) :
    (f33_o0 m13 i0=0→∃ Sx,vexec Tryd.prog X call lf 0 fg33 (loopN Tryd.f33 0) (f33_F0 x0 v11 m13 c13 S0 o3 i0)=some (Ex.normal,Sx)∧forget f33_D0 Sx=(f33_F0 x0 v11 m13 c13 S0 o3 (i0 + 1)))∧(f33_o0 m13 i0=1→vexec Tryd.prog X call lf 0 fg33 (loopN Tryd.f33 0) (f33_F0 x0 v11 m13 c13 S0 o3 i0)=some (Ex.exit 0,(f33_S1 x0 v11 m13 c13 S0 o3 i0))):=by
  unfold f33_o0
  cases c0:decide ((↑i0:Int)<(↑m13:Int)) with
  | true =>
    exact ⟨fun _=>f33_s0_t x0 X call lf v11 m13 c13 S0 o3 i0 a b r17 v23 s23 c0 (g0 c0) (g1 c0) (e0 c0) (e1 c0) (e2 c0),fun h=>nq h⟩
  | false =>
    exact ⟨fun h=>nq h,fun _=>f33_r0_f x0 X call lf v11 m13 c13 S0 o3 i0 c0⟩
def f33_o1 (m26 i1:Nat):Nat :=
  (match decide ((↑i1:Int)<(↑m26:Int)) with
  | true=>0
  | false=>1)
theorem f33_B1 (x0:Sgn)(X:Ext)(call:Caller)(lf:Nat)(v11:AV)(m13:Nat)(c13:List AV)(i0 m26:Nat)(c26:List AV)(S1:Nat→List Ob)(o3q1:Nat→AV)(i1:Nat)(a:ByteArray)(b:List ByteArray)(r30:List AV)(v36:AV)(s36:List Ob)
 (g0:decide ((↑i1:Int)<(↑m26:Int))=true→keep (S1 i1) (indexAddrv Tryd.prog 24 (S1 i1) (lro m26 2 c26) (i6 (↑i1:Int)))=some (AV.eaddr (st a::lro b.length 1 (List.map st b)::r30),S1 i1))
 (g1:decide ((↑i1:Int)<(↑m26:Int))=true→appendv Tryd.prog 22 (S1 i1) 0 (o3q1 i1) (AV.list LK.clip 1 1 [st a])=some (v36,s36))
 (e0:decide ((↑i1:Int)<(↑m26:Int))=true→o3q1 (i1 + 1)=v36)
 (e1:decide ((↑i1:Int)<(↑m26:Int))=true→(↑(i1 + 1):Int)=w6 ((↑i1:Int) + 1))
 (e2:decide ((↑i1:Int)<(↑m26:Int))=true→S1 (i1 + 1)=s36) :
    (f33_o1 m26 i1=0→∃ Sx,vexec Tryd.prog X call lf 0 fg33 (loopN Tryd.f33 1) (f33_F1 x0 v11 m13 c13 i0 m26 c26 S1 o3q1 i1)=some (Ex.normal,Sx)∧forget f33_D1 Sx=(f33_F1 x0 v11 m13 c13 i0 m26 c26 S1 o3q1 (i1 + 1)))∧(f33_o1 m26 i1=1→vexec Tryd.prog X call lf 0 fg33 (loopN Tryd.f33 1) (f33_F1 x0 v11 m13 c13 i0 m26 c26 S1 o3q1 i1)=some (Ex.exit 2,(f33_S3 x0 v11 m13 c13 i0 m26 c26 S1 o3q1 i1))):=by
  unfold f33_o1
  cases c0:decide ((↑i1:Int)<(↑m26:Int)) with
  | true =>
    exact ⟨fun _=>f33_s1_t x0 X call lf v11 m13 c13 i0 m26 c26 S1 o3q1 i1 a b r30 v36 s36 c0 (g0 c0) (g1 c0) (e0 c0) (e1 c0) (e2 c0),fun h=>nq h⟩
  | false =>
    exact ⟨fun h=>nq h,fun _=>f33_r1_f x0 X call lf v11 m13 c13 i0 m26 c26 S1 o3q1 i1 c0⟩
def fg21:Nat→List Nat
  | 5003=>[1]
  | _=>[]
def f21_F0 (x0:Sgn)(s1:ByteArray)(i0:Nat):St :=
  stOf 23 [5,7,12,13,14,15,16,17,18,19,20,21] [(0,AV.agg [lro x0.sorts.length 1 (List.map st x0.sorts),lro x0.consts.length 2 (List.flatMap cstC x0.consts),lro x0.preds.length 2 (List.flatMap prdC x0.preds)]),(1,st s1),(2,AV.ref 0 0),(4,AV.ref 1 0),(8,AV.ref 0 2),(9,lro x0.preds.length 2 (List.flatMap prdC x0.preds)),(10,i6 (↑x0.preds.length:Int)),(11,i6 (↑i0:Int))] [Ob.cells [lro x0.sorts.length 1 (List.map st x0.sorts),lro x0.consts.length 2 (List.flatMap cstC x0.consts),lro x0.preds.length 2 (List.flatMap prdC x0.preds)],Ob.cells [st (ByteArray.mk #[]),AV.list LK.nil 0 0 []]]
def f21_S0 (x0:Sgn)(s1:ByteArray):St :=
  stOf 23 [] [(0,AV.agg [lro x0.sorts.length 1 (List.map st x0.sorts),lro x0.consts.length 2 (List.flatMap cstC x0.consts),lro x0.preds.length 2 (List.flatMap prdC x0.preds)]),(1,st s1),(2,AV.ref 0 0),(4,AV.ref 1 0),(5,bo false),(8,AV.ref 0 2),(9,lro x0.preds.length 2 (List.flatMap prdC x0.preds)),(10,i6 (↑x0.preds.length:Int)),(11,i6 0)] [Ob.cells [lro x0.sorts.length 1 (List.map st x0.sorts),lro x0.consts.length 2 (List.flatMap cstC x0.consts),lro x0.preds.length 2 (List.flatMap prdC x0.preds)],Ob.cells [st (ByteArray.mk #[]),AV.list LK.nil 0 0 []]]
abbrev f21_D0:List Nat:=[21,5,20,19,18,17,16,15,7,14,13,12]
theorem f21_L0 (x0:Sgn)(s1:ByteArray)(X:Ext)(call:Caller)(lf n:Nat)(x:Ex) (S' : St)
 (hn:n<lf)
 (hs:∀ j,j<n→∃ Sx,vexec Tryd.prog X call lf 0 fg21 (loopN Tryd.f21 0) (f21_F0 x0 s1 j)=some (Ex.normal,Sx)∧forget f21_D0 Sx=(f21_F0 x0 s1 (j + 1)))
 (he:vexec Tryd.prog X call lf 0 fg21 (loopN Tryd.f21 0) (f21_F0 x0 s1 n)=some (x,S'))
 (hx:x ≠ Ex.normal):vexec Tryd.prog X call lf 0 fg21 (Go.Code.loop (loopN Tryd.f21 0)) (f21_S0 x0 s1)=some (x,S') :=
  loop_runK (by kernel_rfl) (fun j=>(f21_F0 x0 s1 j)) n hn (by show forget f21_D0 (f21_S0 x0 s1)=(f21_F0 x0 s1 0); unfold f21_F0; show _=_; kernel_rfl) hs he hx
def f21_S1 (x0:Sgn)(s1:ByteArray)(i0:Nat)(a:ByteArray)(b:List ByteArray)(r13:List AV)(c:ByteArray)(d:List ByteArray):St :=
  stOf 23 [21] [(0,AV.agg [lro x0.sorts.length 1 (List.map st x0.sorts),lro x0.consts.length 2 (List.flatMap cstC x0.consts),lro x0.preds.length 2 (List.flatMap prdC x0.preds)]),(1,st s1),(2,AV.ref 0 0),(4,AV.ref 1 0),(5,bo true),(7,AV.eaddr [st a,lro b.length 1 (List.map st b)]),(8,AV.ref 0 2),(9,lro x0.preds.length 2 (List.flatMap prdC x0.preds)),(10,i6 (↑x0.preds.length:Int)),(11,i6 (↑i0:Int)),(12,bo true),(13,AV.eaddr (st a::lro b.length 1 (List.map st b)::r13)),(14,AV.agg [st a,lro b.length 1 (List.map st b)]),(15,AV.eaddr [st a,lro b.length 1 (List.map st b)]),(16,st a),(17,st s1),(18,bo true),(19,AV.agg [st a,lro b.length 1 (List.map st b)]),(20,AV.agg [st c,lro d.length 1 (List.map st d)])] [Ob.cells [lro x0.sorts.length 1 (List.map st x0.sorts),lro x0.consts.length 2 (List.flatMap cstC x0.consts),lro x0.preds.length 2 (List.flatMap prdC x0.preds)],Ob.cells [st c,lro d.length 1 (List.map st d)]]
theorem f21_r0_tt (x0:Sgn)(s1:ByteArray)(X:Ext)(call:Caller)(lf i0:Nat)(a:ByteArray)(c:List ByteArray)(r13:List AV)(d:ByteArray)(e:List ByteArray)
 (h0:decide ((↑i0:Int)<(↑x0.preds.length:Int))=true)
 (h1:kiq 24 [Ob.cells [lro x0.sorts.length 1 (List.map st x0.sorts),lro x0.consts.length 2 (List.flatMap cstC x0.consts),lro x0.preds.length 2 (List.flatMap prdC x0.preds)],Ob.cells [st (ByteArray.mk #[]),AV.list LK.nil 0 0 []]] (lro x0.preds.length 2 (List.flatMap prdC x0.preds)) (i6 (↑i0:Int)) (st a::lro c.length 1 (List.map st c)::r13))
 (h2:(ByteArray.toList a == ByteArray.toList s1)=true)
 (h3:cvq X call false 43 [AV.agg [st a,lro c.length 1 (List.map st c)]] [Ob.cells [lro x0.sorts.length 1 (List.map st x0.sorts),lro x0.consts.length 2 (List.flatMap cstC x0.consts),lro x0.preds.length 2 (List.flatMap prdC x0.preds)],Ob.cells [st (ByteArray.mk #[]),AV.list LK.nil 0 0 []]] (AV.agg [st d,lro e.length 1 (List.map st e)])):vexec Tryd.prog X call lf 0 fg21 (loopN Tryd.f21 0) (f21_F0 x0 s1 i0)=some (Ex.ret,(f21_S1 x0 s1 i0 a c r13 d e)) :=
  around_sound (ans:=[(1,Ans.b true),(4,Ans.v (AV.eaddr (st a::lro c.length 1 (List.map st c)::r13))),(10,Ans.b true),(14,Ans.v (AV.agg [st d,lro e.length 1 (List.map st e)]))]) (by kernel_rfl) (ai h0 (ai h1 (ai h2 (ai h3 trivial))))
theorem f21_pltt (x0:Sgn)(s1:ByteArray)(X:Ext)(call:Caller)(lf i0:Nat)(a:ByteArray)(b:List ByteArray)(r13:List AV)(d:ByteArray)(e:List ByteArray)(rE:AV)(sE:List Ob)
 (h0:vexec Tryd.prog X call lf 0 fg21 (Code.loop (loopN Tryd.f21 0)) (f21_S0 x0 s1)=some (Ex.ret,(f21_S1 x0 s1 i0 a b r13 d e)))
 (h1:vend1 [] 0 [Ob.cells [lro x0.sorts.length 1 (List.map st x0.sorts),lro x0.consts.length 2 (List.flatMap cstC x0.consts),lro x0.preds.length 2 (List.flatMap prdC x0.preds)],Ob.cells [st d,lro e.length 1 (List.map st e)]] [AV.agg [st d,lro e.length 1 (List.map st e)],bo true]=some (rE,sE)):vbody Tryd.prog X call lf fg21 Tryd.f21 (codeOf Tryd.f21) [AV.agg (sgnC x0),st s1] [] 0=some (rE,sE) :=
  along_sound (ans:=[(9,Ans.l Ex.ret (f21_S1 x0 s1 i0 a b r13 d e)),(10,Ans.c rE sE)]) (by kernel_rfl) (ai h0 (ai h1 trivial))
theorem f21_s0_tf (x0:Sgn)(s1:ByteArray)(X:Ext)(call:Caller)(lf i0:Nat)(a:ByteArray)(c:List ByteArray)(r13:List AV)
 (h0:decide ((↑i0:Int)<(↑x0.preds.length:Int))=true)
 (h1:kiq 24 [Ob.cells [lro x0.sorts.length 1 (List.map st x0.sorts),lro x0.consts.length 2 (List.flatMap cstC x0.consts),lro x0.preds.length 2 (List.flatMap prdC x0.preds)],Ob.cells [st (ByteArray.mk #[]),AV.list LK.nil 0 0 []]] (lro x0.preds.length 2 (List.flatMap prdC x0.preds)) (i6 (↑i0:Int)) (st a::lro c.length 1 (List.map st c)::r13))
 (h2:(ByteArray.toList a == ByteArray.toList s1)=false)
 (e0:(↑(i0 + 1):Int)=w6 ((↑i0:Int) + 1)):∃ Sx,vexec Tryd.prog X call lf 0 fg21 (loopN Tryd.f21 0) (f21_F0 x0 s1 i0)=some (Ex.normal,Sx)∧forget f21_D0 Sx=(f21_F0 x0 s1 (i0 + 1)) :=
  ⟨stOf 23 [5,19,20] [(0,AV.agg [lro x0.sorts.length 1 (List.map st x0.sorts),lro x0.consts.length 2 (List.flatMap cstC x0.consts),lro x0.preds.length 2 (List.flatMap prdC x0.preds)]),(1,st s1),(2,AV.ref 0 0),(4,AV.ref 1 0),(7,AV.eaddr [st a,lro c.length 1 (List.map st c)]),(8,AV.ref 0 2),(9,lro x0.preds.length 2 (List.flatMap prdC x0.preds)),(10,i6 (↑x0.preds.length:Int)),(11,i6 (w6 ((↑i0:Int) + 1))),(12,bo true),(13,AV.eaddr (st a::lro c.length 1 (List.map st c)::r13)),(14,AV.agg [st a,lro c.length 1 (List.map st c)]),(15,AV.eaddr [st a,lro c.length 1 (List.map st c)]),(16,st a),(17,st s1),(18,bo false),(21,i6 (w6 ((↑i0:Int) + 1)))] [Ob.cells [lro x0.sorts.length 1 (List.map st x0.sorts),lro x0.consts.length 2 (List.flatMap cstC x0.consts),lro x0.preds.length 2 (List.flatMap prdC x0.preds)],Ob.cells [st (ByteArray.mk #[]),AV.list LK.nil 0 0 []]],around_sound (ans:=[(1,Ans.b true),(4,Ans.v (AV.eaddr (st a::lro c.length 1 (List.map st c)::r13))),(10,Ans.b false)]) (by kernel_rfl) (ai h0 (ai h1 (ai h2 trivial))),by unfold f21_F0; rw [e0]; show _=_; kernel_rfl⟩
def f21_S2 (x0:Sgn)(s1:ByteArray)(i0:Nat):St :=
  stOf 23 [5,7,13,14,15,16,17,18,19,20,21] [(0,AV.agg [lro x0.sorts.length 1 (List.map st x0.sorts),lro x0.consts.length 2 (List.flatMap cstC x0.consts),lro x0.preds.length 2 (List.flatMap prdC x0.preds)]),(1,st s1),(2,AV.ref 0 0),(4,AV.ref 1 0),(8,AV.ref 0 2),(9,lro x0.preds.length 2 (List.flatMap prdC x0.preds)),(10,i6 (↑x0.preds.length:Int)),(11,i6 (↑i0:Int)),(12,bo false)] [Ob.cells [lro x0.sorts.length 1 (List.map st x0.sorts),lro x0.consts.length 2 (List.flatMap cstC x0.consts),lro x0.preds.length 2 (List.flatMap prdC x0.preds)],Ob.cells [st (ByteArray.mk #[]),AV.list LK.nil 0 0 []]]
theorem f21_r0_f (x0:Sgn)(s1:ByteArray)(X:Ext)(call:Caller)(lf i0:Nat)
 (h0:decide ((↑i0:Int)<(↑x0.preds.length:Int))=false):vexec Tryd.prog X call lf 0 fg21 (loopN Tryd.f21 0) (f21_F0 x0 s1 i0)=some (Ex.exit 0,(f21_S2 x0 s1 i0)) :=
  around_sound (ans:=[(1,Ans.b false)]) (by kernel_rfl) (ai h0 trivial)
theorem f21_plf (x0:Sgn)(s1:ByteArray)(X:Ext)(call:Caller)(lf i0:Nat)
 (h0:vexec Tryd.prog X call lf 0 fg21 (Code.loop (loopN Tryd.f21 0)) (f21_S0 x0 s1)=some (Ex.exit 0,(f21_S2 x0 s1 i0))):vbody Tryd.prog X call lf fg21 Tryd.f21 (codeOf Tryd.f21) [AV.agg (sgnC x0),st s1] [] 0=some (AV.tup [AV.agg [st (ByteArray.mk #[]),AV.list LK.nil 0 0 []],bo false],[Ob.cells [lro x0.sorts.length 1 (List.map st x0.sorts),lro x0.consts.length 2 (List.flatMap cstC x0.consts),lro x0.preds.length 2 (List.flatMap prdC x0.preds)],Ob.cells [st (ByteArray.mk #[]),AV.list LK.nil 0 0 []]]) :=
  along_sound (ans:=[(9,Ans.l (Ex.exit 0) (f21_S2 x0 s1 i0))]) (by kernel_rfl) (ai h0 trivial)
def f21_o0 (x0:Sgn)(s1:ByteArray)(i0:Nat)(a:ByteArray):Nat :=
  (match decide ((↑i0:Int)<(↑x0.preds.length:Int)) with
  | true=>(match (ByteArray.toList a == ByteArray.toList s1) with
    | true=>1
    | false=>0)
  | false=>2)
theorem f21_B0 (x0:Sgn)(s1:ByteArray)(X:Ext)(call:Caller)(lf i0:Nat)(a:ByteArray)(b:List ByteArray)(r13:List AV)(c:ByteArray)(d:List ByteArray)
 (g0:decide ((↑i0:Int)<(↑x0.preds.length:Int))=true→kiq 24 [Ob.cells [lro x0.sorts.length 1 (List.map st x0.sorts),lro x0.consts.length 2 (List.flatMap cstC x0.consts),lro x0.preds.length 2 (List.flatMap prdC x0.preds)],Ob.cells [st (ByteArray.mk #[]),AV.list LK.nil 0 0 []]] (lro x0.preds.length 2 (List.flatMap prdC x0.preds)) (i6 (↑i0:Int)) (st a::lro b.length 1 (List.map st b)::r13))
 (g1:decide ((↑i0:Int)<(↑x0.preds.length:Int))=true→(ByteArray.toList a == ByteArray.toList s1)=true→cvq X call false 43 [AV.agg [st a,lro b.length 1 (List.map st b)]] [Ob.cells [lro x0.sorts.length 1 (List.map st x0.sorts),lro x0.consts.length 2 (List.flatMap cstC x0.consts),lro x0.preds.length 2 (List.flatMap prdC x0.preds)],Ob.cells [st (ByteArray.mk #[]),AV.list LK.nil 0 0 []]] (AV.agg [st c,lro d.length 1 (List.map st d)]))
 (e0:decide ((↑i0:Int)<(↑x0.preds.length:Int))=true→(↑(i0 + 1):Int)=w6 ((↑i0:Int) + 1)) :
    (f21_o0 x0 s1 i0 a=0→∃ Sx,vexec Tryd.prog X call lf 0 fg21 (loopN Tryd.f21 0) (f21_F0 x0 s1 i0)=some (Ex.normal,Sx)∧forget f21_D0 Sx=(f21_F0 x0 s1 (i0 + 1)))∧(f21_o0 x0 s1 i0 a=1→vexec Tryd.prog X call lf 0 fg21 (loopN Tryd.f21 0) (f21_F0 x0 s1 i0)=some (Ex.ret,(f21_S1 x0 s1 i0 a b r13 c d)))∧(f21_o0 x0 s1 i0 a=2→vexec Tryd.prog X call lf 0 fg21 (loopN Tryd.f21 0) (f21_F0 x0 s1 i0)=some (Ex.exit 0,(f21_S2 x0 s1 i0))):=by
  unfold f21_o0
  cases c0:decide ((↑i0:Int)<(↑x0.preds.length:Int)) with
  | true =>
    cases c1:(ByteArray.toList a == ByteArray.toList s1) with
    | true =>
      exact ⟨fun h=>nq h,fun _=>f21_r0_tt x0 s1 X call lf i0 a b r13 c d c0 (g0 c0) c1 (g1 c0 c1),fun h=>nq h⟩
    | false =>
      exact ⟨fun _=>f21_s0_tf x0 s1 X call lf i0 a b r13 c0 (g0 c0) c1 (e0 c0),fun h=>nq h,fun h=>nq h⟩
  | false =>
    exact ⟨fun h=>nq h,fun h=>nq h,fun _=>f21_r0_f x0 s1 X call lf i0 c0⟩
theorem f21_X0 (x0:Sgn)(s1:ByteArray)(X:Ext)(call:Caller)(lf i0:Nat)(a:ByteArray)(b:List ByteArray)(r13:List AV)(c:ByteArray)(d:List ByteArray)
 (g0:decide ((↑i0:Int)<(↑x0.preds.length:Int))=true→kiq 24 [Ob.cells [lro x0.sorts.length 1 (List.map st x0.sorts),lro x0.consts.length 2 (List.flatMap cstC x0.consts),lro x0.preds.length 2 (List.flatMap prdC x0.preds)],Ob.cells [st (ByteArray.mk #[]),AV.list LK.nil 0 0 []]] (lro x0.preds.length 2 (List.flatMap prdC x0.preds)) (i6 (↑i0:Int)) (st a::lro b.length 1 (List.map st b)::r13))
 (g1:decide ((↑i0:Int)<(↑x0.preds.length:Int))=true→(ByteArray.toList a == ByteArray.toList s1)=true→cvq X call false 43 [AV.agg [st a,lro b.length 1 (List.map st b)]] [Ob.cells [lro x0.sorts.length 1 (List.map st x0.sorts),lro x0.consts.length 2 (List.flatMap cstC x0.consts),lro x0.preds.length 2 (List.flatMap prdC x0.preds)],Ob.cells [st (ByteArray.mk #[]),AV.list LK.nil 0 0 []]] (AV.agg [st c,lro d.length 1 (List.map st d)])) :
    (f21_o0 x0 s1 i0 a=1→vexec Tryd.prog X call lf 0 fg21 (loopN Tryd.f21 0) (f21_F0 x0 s1 i0)=some (Ex.ret,(f21_S1 x0 s1 i0 a b r13 c d)))∧(f21_o0 x0 s1 i0 a=2→vexec Tryd.prog X call lf 0 fg21 (loopN Tryd.f21 0) (f21_F0 x0 s1 i0)=some (Ex.exit 0,(f21_S2 x0 s1 i0))):=by
  unfold f21_o0
  cases c0:decide ((↑i0:Int)<(↑x0.preds.length:Int)) with
  | true =>
    cases c1:(ByteArray.toList a == ByteArray.toList s1) with
    | true =>
      exact ⟨fun _=>f21_r0_tt x0 s1 X call lf i0 a b r13 c d c0 (g0 c0) c1 (g1 c0 c1),fun h=>nq h⟩
    | false =>
      exact ⟨fun h=>nq h,fun h=>nq h⟩
  | false =>
    exact ⟨fun h=>nq h,fun _=>f21_r0_f x0 s1 X call lf i0 c0⟩
theorem f21_M (x0:Sgn)(s1:ByteArray)(X:Ext)(call:Caller)(lf n:Nat)(a:Nat→ByteArray)(b:Nat→List ByteArray)(r13:Nat→List AV)(c:Nat→ByteArray)(d:Nat→List ByteArray)
 (hn:n<lf)
 (g0:∀ i0,i0 ≤ n→decide ((↑i0:Int)<(↑x0.preds.length:Int))=true→kiq 24 [Ob.cells [lro x0.sorts.length 1 (List.map st x0.sorts),lro x0.consts.length 2 (List.flatMap cstC x0.consts),lro x0.preds.length 2 (List.flatMap prdC x0.preds)],Ob.cells [st (ByteArray.mk #[]),AV.list LK.nil 0 0 []]] (lro x0.preds.length 2 (List.flatMap prdC x0.preds)) (i6 (↑i0:Int)) (st (a i0)::lro (List.length (b i0)) 1 (List.map st (b i0))::(r13 i0)))
 (g1:∀ i0,i0 ≤ n→decide ((↑i0:Int)<(↑x0.preds.length:Int))=true→(ByteArray.toList (a i0) == ByteArray.toList s1)=true→cvq X call false 43 [AV.agg [st (a i0),lro (List.length (b i0)) 1 (List.map st (b i0))]] [Ob.cells [lro x0.sorts.length 1 (List.map st x0.sorts),lro x0.consts.length 2 (List.flatMap cstC x0.consts),lro x0.preds.length 2 (List.flatMap prdC x0.preds)],Ob.cells [st (ByteArray.mk #[]),AV.list LK.nil 0 0 []]] (AV.agg [st (c i0),lro (List.length (d i0)) 1 (List.map st (d i0))]))
 (e0:∀ i0,i0<n→decide ((↑i0:Int)<(↑x0.preds.length:Int))=true→(↑(i0 + 1):Int)=w6 ((↑i0:Int) + 1))
 (hz:∀ j,j<n→f21_o0 x0 s1 j (a j)=0) :
    (f21_o0 x0 s1 n (a n)=1→∀ (rE:AV),∀ (sE:List Ob),vend1 [] 0 [Ob.cells [lro x0.sorts.length 1 (List.map st x0.sorts),lro x0.consts.length 2 (List.flatMap cstC x0.consts),lro x0.preds.length 2 (List.flatMap prdC x0.preds)],Ob.cells [st (c n),lro (List.length (d n)) 1 (List.map st (d n))]] [AV.agg [st (c n),lro (List.length (d n)) 1 (List.map st (d n))],bo true]=some (rE,sE)→vbody Tryd.prog X call lf fg21 Tryd.f21 (codeOf Tryd.f21) [AV.agg (sgnC x0),st s1] [] 0=some (rE,sE))∧(f21_o0 x0 s1 n (a n)=2→vbody Tryd.prog X call lf fg21 Tryd.f21 (codeOf Tryd.f21) [AV.agg (sgnC x0),st s1] [] 0=some (AV.tup [AV.agg [st (ByteArray.mk #[]),AV.list LK.nil 0 0 []],bo false],[Ob.cells [lro x0.sorts.length 1 (List.map st x0.sorts),lro x0.consts.length 2 (List.flatMap cstC x0.consts),lro x0.preds.length 2 (List.flatMap prdC x0.preds)],Ob.cells [st (ByteArray.mk #[]),AV.list LK.nil 0 0 []]])):=by
  have key:∀ j,j<n→_:=fun j hj=>(f21_B0 x0 s1 X call lf j (a j) (b j) (r13 j) (c j) (d j) (g0 j (Nat.le_of_lt hj)) (g1 j (Nat.le_of_lt hj)) (e0 j hj)).1 (hz j hj)
  have kn:=f21_X0 x0 s1 X call lf n (a n) (b n) (r13 n) (c n) (d n) (g0 n (Nat.le_refl n)) (g1 n (Nat.le_refl n))
  exact ⟨fun hk rE sE q0=>f21_pltt x0 s1 X call lf n (a n) (b n) (r13 n) (c n) (d n) rE sE (f21_L0 x0 s1 X call lf n _ _ hn key (kn.1 hk) (by simp)) q0,
    fun hk=>f21_plf x0 s1 X call lf n (f21_L0 x0 s1 X call lf n _ _ hn key (kn.2 hk) (by simp))⟩
def fg22:Nat→List Nat
  | 5003=>[1]
  | _=>[]
def f22_F0 (x0:Sgn)(s1:ByteArray)(i0:Nat):St :=
  stOf 22 [5,7,12,13,14,15,16,17,18,19,20] [(0,AV.agg [lro x0.sorts.length 1 (List.map st x0.sorts),lro x0.consts.length 2 (List.flatMap cstC x0.consts),lro x0.preds.length 2 (List.flatMap prdC x0.preds)]),(1,st s1),(2,AV.ref 0 0),(4,AV.ref 1 0),(8,AV.ref 0 2),(9,lro x0.preds.length 2 (List.flatMap prdC x0.preds)),(10,i6 (↑x0.preds.length:Int)),(11,i6 (↑i0:Int))] [Ob.cells [lro x0.sorts.length 1 (List.map st x0.sorts),lro x0.consts.length 2 (List.flatMap cstC x0.consts),lro x0.preds.length 2 (List.flatMap prdC x0.preds)],Ob.cells [st (ByteArray.mk #[]),AV.list LK.nil 0 0 []]]
def f22_S0 (x0:Sgn)(s1:ByteArray):St :=
  stOf 22 [] [(0,AV.agg [lro x0.sorts.length 1 (List.map st x0.sorts),lro x0.consts.length 2 (List.flatMap cstC x0.consts),lro x0.preds.length 2 (List.flatMap prdC x0.preds)]),(1,st s1),(2,AV.ref 0 0),(4,AV.ref 1 0),(5,bo false),(8,AV.ref 0 2),(9,lro x0.preds.length 2 (List.flatMap prdC x0.preds)),(10,i6 (↑x0.preds.length:Int)),(11,i6 0)] [Ob.cells [lro x0.sorts.length 1 (List.map st x0.sorts),lro x0.consts.length 2 (List.flatMap cstC x0.consts),lro x0.preds.length 2 (List.flatMap prdC x0.preds)],Ob.cells [st (ByteArray.mk #[]),AV.list LK.nil 0 0 []]]
abbrev f22_D0:List Nat:=[20,5,19,18,17,16,15,7,14,13,12]
theorem f22_L0 (x0:Sgn)(s1:ByteArray)(X:Ext)(call:Caller)(lf n:Nat)(x:Ex) (S' : St)
 (hn:n<lf)
 (hs:∀ j,j<n→∃ Sx,vexec Tryd.prog X call lf 0 fg22 (loopN Tryd.f22 0) (f22_F0 x0 s1 j)=some (Ex.normal,Sx)∧forget f22_D0 Sx=(f22_F0 x0 s1 (j + 1)))
 (he:vexec Tryd.prog X call lf 0 fg22 (loopN Tryd.f22 0) (f22_F0 x0 s1 n)=some (x,S'))
 (hx:x ≠ Ex.normal):vexec Tryd.prog X call lf 0 fg22 (Go.Code.loop (loopN Tryd.f22 0)) (f22_S0 x0 s1)=some (x,S') :=
  loop_runK (by kernel_rfl) (fun j=>(f22_F0 x0 s1 j)) n hn (by show forget f22_D0 (f22_S0 x0 s1)=(f22_F0 x0 s1 0); unfold f22_F0; show _=_; kernel_rfl) hs he hx
def f22_S1 (x0:Sgn)(s1:ByteArray)(i0:Nat)(a:ByteArray)(b:List ByteArray)(r13:List AV):St :=
  stOf 22 [20] [(0,AV.agg [lro x0.sorts.length 1 (List.map st x0.sorts),lro x0.consts.length 2 (List.flatMap cstC x0.consts),lro x0.preds.length 2 (List.flatMap prdC x0.preds)]),(1,st s1),(2,AV.ref 0 0),(4,AV.ref 1 0),(5,bo true),(7,AV.eaddr [st a,lro b.length 1 (List.map st b)]),(8,AV.ref 0 2),(9,lro x0.preds.length 2 (List.flatMap prdC x0.preds)),(10,i6 (↑x0.preds.length:Int)),(11,i6 (↑i0:Int)),(12,bo true),(13,AV.eaddr (st a::lro b.length 1 (List.map st b)::r13)),(14,AV.agg [st a,lro b.length 1 (List.map st b)]),(15,AV.eaddr [st a,lro b.length 1 (List.map st b)]),(16,st a),(17,st s1),(18,bo true),(19,AV.agg [st a,lro b.length 1 (List.map st b)])] [Ob.cells [lro x0.sorts.length 1 (List.map st x0.sorts),lro x0.consts.length 2 (List.flatMap cstC x0.consts),lro x0.preds.length 2 (List.flatMap prdC x0.preds)],Ob.cells [st a,lro b.length 1 (List.map st b)]]
theorem f22_r0_tt (x0:Sgn)(s1:ByteArray)(X:Ext)(call:Caller)(lf i0:Nat)(a:ByteArray)(c:List ByteArray)(r13:List AV)
 (h0:decide ((↑i0:Int)<(↑x0.preds.length:Int))=true)
 (h1:kiq 24 [Ob.cells [lro x0.sorts.length 1 (List.map st x0.sorts),lro x0.consts.length 2 (List.flatMap cstC x0.consts),lro x0.preds.length 2 (List.flatMap prdC x0.preds)],Ob.cells [st (ByteArray.mk #[]),AV.list LK.nil 0 0 []]] (lro x0.preds.length 2 (List.flatMap prdC x0.preds)) (i6 (↑i0:Int)) (st a::lro c.length 1 (List.map st c)::r13))
 (h2:(ByteArray.toList a == ByteArray.toList s1)=true):vexec Tryd.prog X call lf 0 fg22 (loopN Tryd.f22 0) (f22_F0 x0 s1 i0)=some (Ex.ret,(f22_S1 x0 s1 i0 a c r13)) :=
  around_sound (ans:=[(1,Ans.b true),(4,Ans.v (AV.eaddr (st a::lro c.length 1 (List.map st c)::r13))),(10,Ans.b true)]) (by kernel_rfl) (ai h0 (ai h1 (ai h2 trivial)))
theorem f22_pltt (x0:Sgn)(s1:ByteArray)(X:Ext)(call:Caller)(lf i0:Nat)(a:ByteArray)(b:List ByteArray)(r13:List AV)(rE:AV)(sE:List Ob)
 (h0:vexec Tryd.prog X call lf 0 fg22 (Code.loop (loopN Tryd.f22 0)) (f22_S0 x0 s1)=some (Ex.ret,(f22_S1 x0 s1 i0 a b r13)))
 (h1:vend1 [] 0 [Ob.cells [lro x0.sorts.length 1 (List.map st x0.sorts),lro x0.consts.length 2 (List.flatMap cstC x0.consts),lro x0.preds.length 2 (List.flatMap prdC x0.preds)],Ob.cells [st a,lro b.length 1 (List.map st b)]] [AV.agg [st a,lro b.length 1 (List.map st b)],bo true]=some (rE,sE)):vbody Tryd.prog X call lf fg22 Tryd.f22 (codeOf Tryd.f22) [AV.agg (sgnC x0),st s1] [] 0=some (rE,sE) :=
  along_sound (ans:=[(9,Ans.l Ex.ret (f22_S1 x0 s1 i0 a b r13)),(10,Ans.c rE sE)]) (by kernel_rfl) (ai h0 (ai h1 trivial))
theorem f22_s0_tf (x0:Sgn)(s1:ByteArray)(X:Ext)(call:Caller)(lf i0:Nat)(a:ByteArray)(c:List ByteArray)(r13:List AV)
 (h0:decide ((↑i0:Int)<(↑x0.preds.length:Int))=true)
 (h1:kiq 24 [Ob.cells [lro x0.sorts.length 1 (List.map st x0.sorts),lro x0.consts.length 2 (List.flatMap cstC x0.consts),lro x0.preds.length 2 (List.flatMap prdC x0.preds)],Ob.cells [st (ByteArray.mk #[]),AV.list LK.nil 0 0 []]] (lro x0.preds.length 2 (List.flatMap prdC x0.preds)) (i6 (↑i0:Int)) (st a::lro c.length 1 (List.map st c)::r13))
 (h2:(ByteArray.toList a == ByteArray.toList s1)=false)
 (e0:(↑(i0 + 1):Int)=w6 ((↑i0:Int) + 1)):∃ Sx,vexec Tryd.prog X call lf 0 fg22 (loopN Tryd.f22 0) (f22_F0 x0 s1 i0)=some (Ex.normal,Sx)∧forget f22_D0 Sx=(f22_F0 x0 s1 (i0 + 1)) :=
  ⟨stOf 22 [5,19] [(0,AV.agg [lro x0.sorts.length 1 (List.map st x0.sorts),lro x0.consts.length 2 (List.flatMap cstC x0.consts),lro x0.preds.length 2 (List.flatMap prdC x0.preds)]),(1,st s1),(2,AV.ref 0 0),(4,AV.ref 1 0),(7,AV.eaddr [st a,lro c.length 1 (List.map st c)]),(8,AV.ref 0 2),(9,lro x0.preds.length 2 (List.flatMap prdC x0.preds)),(10,i6 (↑x0.preds.length:Int)),(11,i6 (w6 ((↑i0:Int) + 1))),(12,bo true),(13,AV.eaddr (st a::lro c.length 1 (List.map st c)::r13)),(14,AV.agg [st a,lro c.length 1 (List.map st c)]),(15,AV.eaddr [st a,lro c.length 1 (List.map st c)]),(16,st a),(17,st s1),(18,bo false),(20,i6 (w6 ((↑i0:Int) + 1)))] [Ob.cells [lro x0.sorts.length 1 (List.map st x0.sorts),lro x0.consts.length 2 (List.flatMap cstC x0.consts),lro x0.preds.length 2 (List.flatMap prdC x0.preds)],Ob.cells [st (ByteArray.mk #[]),AV.list LK.nil 0 0 []]],around_sound (ans:=[(1,Ans.b true),(4,Ans.v (AV.eaddr (st a::lro c.length 1 (List.map st c)::r13))),(10,Ans.b false)]) (by kernel_rfl) (ai h0 (ai h1 (ai h2 trivial))),by unfold f22_F0; rw [e0]; show _=_; kernel_rfl⟩
def f22_S2 (x0:Sgn)(s1:ByteArray)(i0:Nat):St :=
  stOf 22 [5,7,13,14,15,16,17,18,19,20] [(0,AV.agg [lro x0.sorts.length 1 (List.map st x0.sorts),lro x0.consts.length 2 (List.flatMap cstC x0.consts),lro x0.preds.length 2 (List.flatMap prdC x0.preds)]),(1,st s1),(2,AV.ref 0 0),(4,AV.ref 1 0),(8,AV.ref 0 2),(9,lro x0.preds.length 2 (List.flatMap prdC x0.preds)),(10,i6 (↑x0.preds.length:Int)),(11,i6 (↑i0:Int)),(12,bo false)] [Ob.cells [lro x0.sorts.length 1 (List.map st x0.sorts),lro x0.consts.length 2 (List.flatMap cstC x0.consts),lro x0.preds.length 2 (List.flatMap prdC x0.preds)],Ob.cells [st (ByteArray.mk #[]),AV.list LK.nil 0 0 []]]
theorem f22_r0_f (x0:Sgn)(s1:ByteArray)(X:Ext)(call:Caller)(lf i0:Nat)
 (h0:decide ((↑i0:Int)<(↑x0.preds.length:Int))=false):vexec Tryd.prog X call lf 0 fg22 (loopN Tryd.f22 0) (f22_F0 x0 s1 i0)=some (Ex.exit 0,(f22_S2 x0 s1 i0)) :=
  around_sound (ans:=[(1,Ans.b false)]) (by kernel_rfl) (ai h0 trivial)
theorem f22_plf (x0:Sgn)(s1:ByteArray)(X:Ext)(call:Caller)(lf i0:Nat)
 (h0:vexec Tryd.prog X call lf 0 fg22 (Code.loop (loopN Tryd.f22 0)) (f22_S0 x0 s1)=some (Ex.exit 0,(f22_S2 x0 s1 i0))):vbody Tryd.prog X call lf fg22 Tryd.f22 (codeOf Tryd.f22) [AV.agg (sgnC x0),st s1] [] 0=some (AV.tup [AV.agg [st (ByteArray.mk #[]),AV.list LK.nil 0 0 []],bo false],[Ob.cells [lro x0.sorts.length 1 (List.map st x0.sorts),lro x0.consts.length 2 (List.flatMap cstC x0.consts),lro x0.preds.length 2 (List.flatMap prdC x0.preds)],Ob.cells [st (ByteArray.mk #[]),AV.list LK.nil 0 0 []]]) :=
  along_sound (ans:=[(9,Ans.l (Ex.exit 0) (f22_S2 x0 s1 i0))]) (by kernel_rfl) (ai h0 trivial)
def f22_o0 (x0:Sgn)(s1:ByteArray)(i0:Nat)(a:ByteArray):Nat :=
  (match decide ((↑i0:Int)<(↑x0.preds.length:Int)) with
  | true=>(match (ByteArray.toList a == ByteArray.toList s1) with
    | true=>1
    | false=>0)
  | false=>2)
theorem f22_B0 (x0:Sgn)(s1:ByteArray)(X:Ext)(call:Caller)(lf i0:Nat)(a:ByteArray)(b:List ByteArray)(r13:List AV)
 (g0:decide ((↑i0:Int)<(↑x0.preds.length:Int))=true→kiq 24 [Ob.cells [lro x0.sorts.length 1 (List.map st x0.sorts),lro x0.consts.length 2 (List.flatMap cstC x0.consts),lro x0.preds.length 2 (List.flatMap prdC x0.preds)],Ob.cells [st (ByteArray.mk #[]),AV.list LK.nil 0 0 []]] (lro x0.preds.length 2 (List.flatMap prdC x0.preds)) (i6 (↑i0:Int)) (st a::lro b.length 1 (List.map st b)::r13))
 (e0:decide ((↑i0:Int)<(↑x0.preds.length:Int))=true→(↑(i0 + 1):Int)=w6 ((↑i0:Int) + 1)) :
    (f22_o0 x0 s1 i0 a=0→∃ Sx,vexec Tryd.prog X call lf 0 fg22 (loopN Tryd.f22 0) (f22_F0 x0 s1 i0)=some (Ex.normal,Sx)∧forget f22_D0 Sx=(f22_F0 x0 s1 (i0 + 1)))∧(f22_o0 x0 s1 i0 a=1→vexec Tryd.prog X call lf 0 fg22 (loopN Tryd.f22 0) (f22_F0 x0 s1 i0)=some (Ex.ret,(f22_S1 x0 s1 i0 a b r13)))∧(f22_o0 x0 s1 i0 a=2→vexec Tryd.prog X call lf 0 fg22 (loopN Tryd.f22 0) (f22_F0 x0 s1 i0)=some (Ex.exit 0,(f22_S2 x0 s1 i0))):=by
  unfold f22_o0
  cases c0:decide ((↑i0:Int)<(↑x0.preds.length:Int)) with
  | true =>
    cases c1:(ByteArray.toList a == ByteArray.toList s1) with
    | true =>
      exact ⟨fun h=>nq h,fun _=>f22_r0_tt x0 s1 X call lf i0 a b r13 c0 (g0 c0) c1,fun h=>nq h⟩
    | false =>
      exact ⟨fun _=>f22_s0_tf x0 s1 X call lf i0 a b r13 c0 (g0 c0) c1 (e0 c0),fun h=>nq h,fun h=>nq h⟩
  | false =>
    exact ⟨fun h=>nq h,fun h=>nq h,fun _=>f22_r0_f x0 s1 X call lf i0 c0⟩
theorem f22_X0 (x0:Sgn)(s1:ByteArray)(X:Ext)(call:Caller)(lf i0:Nat)(a:ByteArray)(b:List ByteArray)(r13:List AV)
 (g0:decide ((↑i0:Int)<(↑x0.preds.length:Int))=true→kiq 24 [Ob.cells [lro x0.sorts.length 1 (List.map st x0.sorts),lro x0.consts.length 2 (List.flatMap cstC x0.consts),lro x0.preds.length 2 (List.flatMap prdC x0.preds)],Ob.cells [st (ByteArray.mk #[]),AV.list LK.nil 0 0 []]] (lro x0.preds.length 2 (List.flatMap prdC x0.preds)) (i6 (↑i0:Int)) (st a::lro b.length 1 (List.map st b)::r13)) :
    (f22_o0 x0 s1 i0 a=1→vexec Tryd.prog X call lf 0 fg22 (loopN Tryd.f22 0) (f22_F0 x0 s1 i0)=some (Ex.ret,(f22_S1 x0 s1 i0 a b r13)))∧(f22_o0 x0 s1 i0 a=2→vexec Tryd.prog X call lf 0 fg22 (loopN Tryd.f22 0) (f22_F0 x0 s1 i0)=some (Ex.exit 0,(f22_S2 x0 s1 i0))):=by
  unfold f22_o0
  cases c0:decide ((↑i0:Int)<(↑x0.preds.length:Int)) with
  | true =>
    cases c1:(ByteArray.toList a == ByteArray.toList s1) with
    | true =>
      exact ⟨fun _=>f22_r0_tt x0 s1 X call lf i0 a b r13 c0 (g0 c0) c1,fun h=>nq h⟩
    | false =>
      exact ⟨fun h=>nq h,fun h=>nq h⟩
  | false =>
    exact ⟨fun h=>nq h,fun _=>f22_r0_f x0 s1 X call lf i0 c0⟩
theorem f22_M (x0:Sgn)(s1:ByteArray)(X:Ext)(call:Caller)(lf n:Nat)(a:Nat→ByteArray)(b:Nat→List ByteArray)(r13:Nat→List AV)
 (hn:n<lf)
 (g0:∀ i0,i0 ≤ n→decide ((↑i0:Int)<(↑x0.preds.length:Int))=true→kiq 24 [Ob.cells [lro x0.sorts.length 1 (List.map st x0.sorts),lro x0.consts.length 2 (List.flatMap cstC x0.consts),lro x0.preds.length 2 (List.flatMap prdC x0.preds)],Ob.cells [st (ByteArray.mk #[]),AV.list LK.nil 0 0 []]] (lro x0.preds.length 2 (List.flatMap prdC x0.preds)) (i6 (↑i0:Int)) (st (a i0)::lro (List.length (b i0)) 1 (List.map st (b i0))::(r13 i0)))
 (e0:∀ i0,i0<n→decide ((↑i0:Int)<(↑x0.preds.length:Int))=true→(↑(i0 + 1):Int)=w6 ((↑i0:Int) + 1))
 (hz:∀ j,j<n→f22_o0 x0 s1 j (a j)=0) :
    (f22_o0 x0 s1 n (a n)=1→∀ (rE:AV),∀ (sE:List Ob),vend1 [] 0 [Ob.cells [lro x0.sorts.length 1 (List.map st x0.sorts),lro x0.consts.length 2 (List.flatMap cstC x0.consts),lro x0.preds.length 2 (List.flatMap prdC x0.preds)],Ob.cells [st (a n),lro (List.length (b n)) 1 (List.map st (b n))]] [AV.agg [st (a n),lro (List.length (b n)) 1 (List.map st (b n))],bo true]=some (rE,sE)→vbody Tryd.prog X call lf fg22 Tryd.f22 (codeOf Tryd.f22) [AV.agg (sgnC x0),st s1] [] 0=some (rE,sE))∧(f22_o0 x0 s1 n (a n)=2→vbody Tryd.prog X call lf fg22 Tryd.f22 (codeOf Tryd.f22) [AV.agg (sgnC x0),st s1] [] 0=some (AV.tup [AV.agg [st (ByteArray.mk #[]),AV.list LK.nil 0 0 []],bo false],[Ob.cells [lro x0.sorts.length 1 (List.map st x0.sorts),lro x0.consts.length 2 (List.flatMap cstC x0.consts),lro x0.preds.length 2 (List.flatMap prdC x0.preds)],Ob.cells [st (ByteArray.mk #[]),AV.list LK.nil 0 0 []]])):=by
  have key:∀ j,j<n→_:=fun j hj=>(f22_B0 x0 s1 X call lf j (a j) (b j) (r13 j) (g0 j (Nat.le_of_lt hj)) (e0 j hj)).1 (hz j hj)
  have kn:=f22_X0 x0 s1 X call lf n (a n) (b n) (r13 n) (g0 n (Nat.le_refl n))
  exact ⟨fun hk rE sE q0=>f22_pltt x0 s1 X call lf n (a n) (b n) (r13 n) rE sE (f22_L0 x0 s1 X call lf n _ _ hn key (kn.1 hk) (by simp)) q0,
    fun hk=>f22_plf x0 s1 X call lf n (f22_L0 x0 s1 X call lf n _ _ hn key (kn.2 hk) (by simp))⟩
def fg15:Nat→List Nat
  | 5011=>[1]
  | 5017=>[1]
  | _=>[]
theorem f15_pt (x0:Sgn)(X:Ext)(call:Caller)(lf:Nat)(l12:List ByteArray)
 (h0:cvq X call false 33 [AV.agg [lro x0.sorts.length 1 (List.map st x0.sorts),lro x0.consts.length 2 (List.flatMap cstC x0.consts),lro x0.preds.length 2 (List.flatMap prdC x0.preds)]] [Ob.cells [lro x0.sorts.length 1 (List.map st x0.sorts),lro x0.consts.length 2 (List.flatMap cstC x0.consts),lro x0.preds.length 2 (List.flatMap prdC x0.preds)]] (lro l12.length 1 (List.map st l12)))
 (h1:decide ((↑l12.length:Int)>256)=true):vbody Tryd.prog X call lf fg15 Tryd.f15 (codeOf Tryd.f15) [AV.agg (sgnC x0)] [] 0=some (bo false,[Ob.cells [lro x0.sorts.length 1 (List.map st x0.sorts),lro x0.consts.length 2 (List.flatMap cstC x0.consts),lro x0.preds.length 2 (List.flatMap prdC x0.preds)]]) :=
  along_sound (ans:=[(5,Ans.v (lro l12.length 1 (List.map st l12))),(10,Ans.b true)]) (by kernel_rfl) (ai h0 (ai h1 trivial))
def f15_F0 (x0:Sgn)(l12:List ByteArray)(i0:Nat):St :=
  stOf 96 [2,16,17,18,19,20,21,22,23,24,25,26,27,28,29,30,31,32,33,34,35,36,37,38,39,40,41,42,43,44,45,46,47,48,49,50,51] [(0,AV.agg [lro x0.sorts.length 1 (List.map st x0.sorts),lro x0.consts.length 2 (List.flatMap cstC x0.consts),lro x0.preds.length 2 (List.flatMap prdC x0.preds)]),(1,AV.ref 0 0),(3,lro l12.length 1 (List.map st l12)),(4,i6 (↑i0:Int)),(11,AV.agg [lro x0.sorts.length 1 (List.map st x0.sorts),lro x0.consts.length 2 (List.flatMap cstC x0.consts),lro x0.preds.length 2 (List.flatMap prdC x0.preds)]),(12,lro l12.length 1 (List.map st l12)),(13,lro l12.length 1 (List.map st l12)),(14,i6 (↑l12.length:Int)),(15,bo false)] [Ob.cells [lro x0.sorts.length 1 (List.map st x0.sorts),lro x0.consts.length 2 (List.flatMap cstC x0.consts),lro x0.preds.length 2 (List.flatMap prdC x0.preds)]]
def f15_S0 (x0:Sgn)(l12:List ByteArray):St :=
  stOf 96 [] [(0,AV.agg [lro x0.sorts.length 1 (List.map st x0.sorts),lro x0.consts.length 2 (List.flatMap cstC x0.consts),lro x0.preds.length 2 (List.flatMap prdC x0.preds)]),(1,AV.ref 0 0),(2,bo false),(3,lro l12.length 1 (List.map st l12)),(4,i6 0),(11,AV.agg [lro x0.sorts.length 1 (List.map st x0.sorts),lro x0.consts.length 2 (List.flatMap cstC x0.consts),lro x0.preds.length 2 (List.flatMap prdC x0.preds)]),(12,lro l12.length 1 (List.map st l12)),(13,lro l12.length 1 (List.map st l12)),(14,i6 (↑l12.length:Int)),(15,bo false)] [Ob.cells [lro x0.sorts.length 1 (List.map st x0.sorts),lro x0.consts.length 2 (List.flatMap cstC x0.consts),lro x0.preds.length 2 (List.flatMap prdC x0.preds)]]
abbrev f15_D0:List Nat:=[21,20,2,51,50,49,48,47,46,45,44,43,42,41,40,39,38,37,36,35,34,33,32,31,30,29,28,27,26,25,24,23,22,19,18,17,16]
theorem f15_L0 (x0:Sgn)(l12:List ByteArray)(X:Ext)(call:Caller)(lf n:Nat)(x:Ex) (S' : St)
 (hn:n<lf)
 (hs:∀ j,j<n→∃ Sx,vexec Tryd.prog X call lf 0 fg15 (loopN Tryd.f15 0) (f15_F0 x0 l12 j)=some (Ex.normal,Sx)∧forget f15_D0 Sx=(f15_F0 x0 l12 (j + 1)))
 (he:vexec Tryd.prog X call lf 0 fg15 (loopN Tryd.f15 0) (f15_F0 x0 l12 n)=some (x,S'))
 (hx:x ≠ Ex.normal):vexec Tryd.prog X call lf 0 fg15 (Go.Code.loop (loopN Tryd.f15 0)) (f15_S0 x0 l12)=some (x,S') :=
  loop_runK (by kernel_rfl) (fun j=>(f15_F0 x0 l12 j)) n hn (by show forget f15_D0 (f15_S0 x0 l12)=(f15_F0 x0 l12 0); unfold f15_F0; show _=_; kernel_rfl) hs he hx
def f15_S1 (x0:Sgn)(l12:List ByteArray)(i0:Nat)(a:ByteArray)(r24:List AV)(b:ByteArray)(r31:List AV):St :=
  stOf 96 [20,21] [(0,AV.agg [lro x0.sorts.length 1 (List.map st x0.sorts),lro x0.consts.length 2 (List.flatMap cstC x0.consts),lro x0.preds.length 2 (List.flatMap prdC x0.preds)]),(1,AV.ref 0 0),(2,bo false),(3,lro l12.length 1 (List.map st l12)),(4,i6 (↑i0:Int)),(11,AV.agg [lro x0.sorts.length 1 (List.map st x0.sorts),lro x0.consts.length 2 (List.flatMap cstC x0.consts),lro x0.preds.length 2 (List.flatMap prdC x0.preds)]),(12,lro l12.length 1 (List.map st l12)),(13,lro l12.length 1 (List.map st l12)),(14,i6 (↑l12.length:Int)),(15,bo false),(16,i6 (↑i0:Int)),(17,lro l12.length 1 (List.map st l12)),(18,i6 (↑l12.length:Int)),(19,bo true),(22,lro l12.length 1 (List.map st l12)),(23,i6 (↑i0:Int)),(24,AV.eaddr (st a::r24)),(25,st a),(26,bo true),(27,bo false),(28,bo false),(29,lro l12.length 1 (List.map st l12)),(30,i6 (↑i0:Int)),(31,AV.eaddr (st b::r31)),(32,st b),(33,bo true),(34,bo true),(35,bo true),(41,bo true),(42,bo true),(51,bo true)] [Ob.cells [lro x0.sorts.length 1 (List.map st x0.sorts),lro x0.consts.length 2 (List.flatMap cstC x0.consts),lro x0.preds.length 2 (List.flatMap prdC x0.preds)]]
theorem f15_r0_ttt (x0:Sgn)(X:Ext)(call:Caller)(lf:Nat)(l12:List ByteArray)(i0:Nat)(a:ByteArray)(r24:List AV)(c:ByteArray)(r31:List AV)
 (h0:decide ((↑i0:Int)<(↑l12.length:Int))=true)
 (h1:kiq 22 [Ob.cells [lro x0.sorts.length 1 (List.map st x0.sorts),lro x0.consts.length 2 (List.flatMap cstC x0.consts),lro x0.preds.length 2 (List.flatMap prdC x0.preds)]] (lro l12.length 1 (List.map st l12)) (i6 (↑i0:Int)) (st a::r24))
 (h2:cvq X call true 34 [st a] [Ob.cells [lro x0.sorts.length 1 (List.map st x0.sorts),lro x0.consts.length 2 (List.flatMap cstC x0.consts),lro x0.preds.length 2 (List.flatMap prdC x0.preds)]] (bo true))
 (h3:kiq 22 [Ob.cells [lro x0.sorts.length 1 (List.map st x0.sorts),lro x0.consts.length 2 (List.flatMap cstC x0.consts),lro x0.preds.length 2 (List.flatMap prdC x0.preds)]] (lro l12.length 1 (List.map st l12)) (i6 (↑i0:Int)) (st c::r31))
 (h4:(ByteArray.toList c == ByteArray.toList (ByteArray.mk #[116,105,109,101]))=true):vexec Tryd.prog X call lf 0 fg15 (loopN Tryd.f15 0) (f15_F0 x0 l12 i0)=some (Ex.ret,(f15_S1 x0 l12 i0 a r24 c r31)) :=
  around_sound (ans:=[(4,Ans.b true),(9,Ans.v (AV.eaddr (st a::r24))),(11,Ans.v (bo true)),(19,Ans.v (AV.eaddr (st c::r31))),(23,Ans.b true)]) (by kernel_rfl) (ai h0 (ai h1 (ai h2 (ai h3 (ai h4 trivial)))))
theorem f15_pflttt (x0:Sgn)(X:Ext)(call:Caller)(lf:Nat)(l12:List ByteArray)(i0:Nat)(a:ByteArray)(r24:List AV)(c:ByteArray)(r31:List AV)
 (h0:cvq X call false 33 [AV.agg [lro x0.sorts.length 1 (List.map st x0.sorts),lro x0.consts.length 2 (List.flatMap cstC x0.consts),lro x0.preds.length 2 (List.flatMap prdC x0.preds)]] [Ob.cells [lro x0.sorts.length 1 (List.map st x0.sorts),lro x0.consts.length 2 (List.flatMap cstC x0.consts),lro x0.preds.length 2 (List.flatMap prdC x0.preds)]] (lro l12.length 1 (List.map st l12)))
 (h1:decide ((↑l12.length:Int)>256)=false)
 (h2:vexec Tryd.prog X call lf 0 fg15 (Code.loop (loopN Tryd.f15 0)) (f15_S0 x0 l12)=some (Ex.ret,(f15_S1 x0 l12 i0 a r24 c r31))):vbody Tryd.prog X call lf fg15 Tryd.f15 (codeOf Tryd.f15) [AV.agg (sgnC x0)] [] 0=some (bo false,[Ob.cells [lro x0.sorts.length 1 (List.map st x0.sorts),lro x0.consts.length 2 (List.flatMap cstC x0.consts),lro x0.preds.length 2 (List.flatMap prdC x0.preds)]]) :=
  along_sound (ans:=[(5,Ans.v (lro l12.length 1 (List.map st l12))),(10,Ans.b false),(14,Ans.l Ex.ret (f15_S1 x0 l12 i0 a r24 c r31))]) (by kernel_rfl) (ai h0 (ai h1 (ai h2 trivial)))
def f15_S2 (x0:Sgn)(l12:List ByteArray)(i0:Nat)(a:ByteArray)(r24:List AV)(b:ByteArray)(r31:List AV)(c:ByteArray)(r38:List AV):St :=
  stOf 96 [20,21] [(0,AV.agg [lro x0.sorts.length 1 (List.map st x0.sorts),lro x0.consts.length 2 (List.flatMap cstC x0.consts),lro x0.preds.length 2 (List.flatMap prdC x0.preds)]),(1,AV.ref 0 0),(2,bo false),(3,lro l12.length 1 (List.map st l12)),(4,i6 (↑i0:Int)),(11,AV.agg [lro x0.sorts.length 1 (List.map st x0.sorts),lro x0.consts.length 2 (List.flatMap cstC x0.consts),lro x0.preds.length 2 (List.flatMap prdC x0.preds)]),(12,lro l12.length 1 (List.map st l12)),(13,lro l12.length 1 (List.map st l12)),(14,i6 (↑l12.length:Int)),(15,bo false),(16,i6 (↑i0:Int)),(17,lro l12.length 1 (List.map st l12)),(18,i6 (↑l12.length:Int)),(19,bo true),(22,lro l12.length 1 (List.map st l12)),(23,i6 (↑i0:Int)),(24,AV.eaddr (st a::r24)),(25,st a),(26,bo true),(27,bo false),(28,bo false),(29,lro l12.length 1 (List.map st l12)),(30,i6 (↑i0:Int)),(31,AV.eaddr (st b::r31)),(32,st b),(33,bo false),(34,bo false),(35,bo false),(36,lro l12.length 1 (List.map st l12)),(37,i6 (↑i0:Int)),(38,AV.eaddr (st c::r38)),(39,st c),(40,bo true),(41,bo true),(42,bo true),(51,bo true)] [Ob.cells [lro x0.sorts.length 1 (List.map st x0.sorts),lro x0.consts.length 2 (List.flatMap cstC x0.consts),lro x0.preds.length 2 (List.flatMap prdC x0.preds)]]
theorem f15_r0_ttft (x0:Sgn)(X:Ext)(call:Caller)(lf:Nat)(l12:List ByteArray)(i0:Nat)(a:ByteArray)(r24:List AV)(c:ByteArray)(r31:List AV)(d:ByteArray)(r38:List AV)
 (h0:decide ((↑i0:Int)<(↑l12.length:Int))=true)
 (h1:kiq 22 [Ob.cells [lro x0.sorts.length 1 (List.map st x0.sorts),lro x0.consts.length 2 (List.flatMap cstC x0.consts),lro x0.preds.length 2 (List.flatMap prdC x0.preds)]] (lro l12.length 1 (List.map st l12)) (i6 (↑i0:Int)) (st a::r24))
 (h2:cvq X call true 34 [st a] [Ob.cells [lro x0.sorts.length 1 (List.map st x0.sorts),lro x0.consts.length 2 (List.flatMap cstC x0.consts),lro x0.preds.length 2 (List.flatMap prdC x0.preds)]] (bo true))
 (h3:kiq 22 [Ob.cells [lro x0.sorts.length 1 (List.map st x0.sorts),lro x0.consts.length 2 (List.flatMap cstC x0.consts),lro x0.preds.length 2 (List.flatMap prdC x0.preds)]] (lro l12.length 1 (List.map st l12)) (i6 (↑i0:Int)) (st c::r31))
 (h4:(ByteArray.toList c == ByteArray.toList (ByteArray.mk #[116,105,109,101]))=false)
 (h5:kiq 22 [Ob.cells [lro x0.sorts.length 1 (List.map st x0.sorts),lro x0.consts.length 2 (List.flatMap cstC x0.consts),lro x0.preds.length 2 (List.flatMap prdC x0.preds)]] (lro l12.length 1 (List.map st l12)) (i6 (↑i0:Int)) (st d::r38))
 (h6:(ByteArray.toList d == ByteArray.toList (ByteArray.mk #[110,117,109,98,101,114]))=true):vexec Tryd.prog X call lf 0 fg15 (loopN Tryd.f15 0) (f15_F0 x0 l12 i0)=some (Ex.ret,(f15_S2 x0 l12 i0 a r24 c r31 d r38)) :=
  around_sound (ans:=[(4,Ans.b true),(9,Ans.v (AV.eaddr (st a::r24))),(11,Ans.v (bo true)),(19,Ans.v (AV.eaddr (st c::r31))),(23,Ans.b false),(31,Ans.v (AV.eaddr (st d::r38))),(35,Ans.b true)]) (by kernel_rfl) (ai h0 (ai h1 (ai h2 (ai h3 (ai h4 (ai h5 (ai h6 trivial)))))))
theorem f15_pflttft (x0:Sgn)(X:Ext)(call:Caller)(lf:Nat)(l12:List ByteArray)(i0:Nat)(a:ByteArray)(r24:List AV)(c:ByteArray)(r31:List AV)(d:ByteArray)(r38:List AV)
 (h0:cvq X call false 33 [AV.agg [lro x0.sorts.length 1 (List.map st x0.sorts),lro x0.consts.length 2 (List.flatMap cstC x0.consts),lro x0.preds.length 2 (List.flatMap prdC x0.preds)]] [Ob.cells [lro x0.sorts.length 1 (List.map st x0.sorts),lro x0.consts.length 2 (List.flatMap cstC x0.consts),lro x0.preds.length 2 (List.flatMap prdC x0.preds)]] (lro l12.length 1 (List.map st l12)))
 (h1:decide ((↑l12.length:Int)>256)=false)
 (h2:vexec Tryd.prog X call lf 0 fg15 (Code.loop (loopN Tryd.f15 0)) (f15_S0 x0 l12)=some (Ex.ret,(f15_S2 x0 l12 i0 a r24 c r31 d r38))):vbody Tryd.prog X call lf fg15 Tryd.f15 (codeOf Tryd.f15) [AV.agg (sgnC x0)] [] 0=some (bo false,[Ob.cells [lro x0.sorts.length 1 (List.map st x0.sorts),lro x0.consts.length 2 (List.flatMap cstC x0.consts),lro x0.preds.length 2 (List.flatMap prdC x0.preds)]]) :=
  along_sound (ans:=[(5,Ans.v (lro l12.length 1 (List.map st l12))),(10,Ans.b false),(14,Ans.l Ex.ret (f15_S2 x0 l12 i0 a r24 c r31 d r38))]) (by kernel_rfl) (ai h0 (ai h1 (ai h2 trivial)))
def f15_S3 (x0:Sgn)(l12:List ByteArray)(i0:Nat)(a:ByteArray)(r24:List AV)(b:ByteArray)(r31:List AV)(c:ByteArray)(r38:List AV)(l45:List ByteArray)(k45:LK)(d:ByteArray)(r48:List AV):St :=
  stOf 96 [20,21] [(0,AV.agg [lro x0.sorts.length 1 (List.map st x0.sorts),lro x0.consts.length 2 (List.flatMap cstC x0.consts),lro x0.preds.length 2 (List.flatMap prdC x0.preds)]),(1,AV.ref 0 0),(2,bo false),(3,lro l12.length 1 (List.map st l12)),(4,i6 (↑i0:Int)),(11,AV.agg [lro x0.sorts.length 1 (List.map st x0.sorts),lro x0.consts.length 2 (List.flatMap cstC x0.consts),lro x0.preds.length 2 (List.flatMap prdC x0.preds)]),(12,lro l12.length 1 (List.map st l12)),(13,lro l12.length 1 (List.map st l12)),(14,i6 (↑l12.length:Int)),(15,bo false),(16,i6 (↑i0:Int)),(17,lro l12.length 1 (List.map st l12)),(18,i6 (↑l12.length:Int)),(19,bo true),(22,lro l12.length 1 (List.map st l12)),(23,i6 (↑i0:Int)),(24,AV.eaddr (st a::r24)),(25,st a),(26,bo true),(27,bo false),(28,bo false),(29,lro l12.length 1 (List.map st l12)),(30,i6 (↑i0:Int)),(31,AV.eaddr (st b::r31)),(32,st b),(33,bo false),(34,bo false),(35,bo false),(36,lro l12.length 1 (List.map st l12)),(37,i6 (↑i0:Int)),(38,AV.eaddr (st c::r38)),(39,st c),(40,bo false),(41,bo false),(42,bo false),(43,lro l12.length 1 (List.map st l12)),(44,i6 (↑i0:Int)),(45,AV.list k45 l45.length 1 (List.map st l45)),(46,lro l12.length 1 (List.map st l12)),(47,i6 (↑i0:Int)),(48,AV.eaddr (st d::r48)),(49,st d),(50,bo true),(51,bo true)] [Ob.cells [lro x0.sorts.length 1 (List.map st x0.sorts),lro x0.consts.length 2 (List.flatMap cstC x0.consts),lro x0.preds.length 2 (List.flatMap prdC x0.preds)]]
theorem f15_r0_ttfft (x0:Sgn)(X:Ext)(call:Caller)(lf:Nat)(l12:List ByteArray)(i0:Nat)(a:ByteArray)(r24:List AV)(c:ByteArray)(r31:List AV)(d:ByteArray)(r38:List AV)(l45:List ByteArray)(k45:LK)(e:ByteArray)(r48:List AV)
 (h0:decide ((↑i0:Int)<(↑l12.length:Int))=true)
 (h1:kiq 22 [Ob.cells [lro x0.sorts.length 1 (List.map st x0.sorts),lro x0.consts.length 2 (List.flatMap cstC x0.consts),lro x0.preds.length 2 (List.flatMap prdC x0.preds)]] (lro l12.length 1 (List.map st l12)) (i6 (↑i0:Int)) (st a::r24))
 (h2:cvq X call true 34 [st a] [Ob.cells [lro x0.sorts.length 1 (List.map st x0.sorts),lro x0.consts.length 2 (List.flatMap cstC x0.consts),lro x0.preds.length 2 (List.flatMap prdC x0.preds)]] (bo true))
 (h3:kiq 22 [Ob.cells [lro x0.sorts.length 1 (List.map st x0.sorts),lro x0.consts.length 2 (List.flatMap cstC x0.consts),lro x0.preds.length 2 (List.flatMap prdC x0.preds)]] (lro l12.length 1 (List.map st l12)) (i6 (↑i0:Int)) (st c::r31))
 (h4:(ByteArray.toList c == ByteArray.toList (ByteArray.mk #[116,105,109,101]))=false)
 (h5:kiq 22 [Ob.cells [lro x0.sorts.length 1 (List.map st x0.sorts),lro x0.consts.length 2 (List.flatMap cstC x0.consts),lro x0.preds.length 2 (List.flatMap prdC x0.preds)]] (lro l12.length 1 (List.map st l12)) (i6 (↑i0:Int)) (st d::r38))
 (h6:(ByteArray.toList d == ByteArray.toList (ByteArray.mk #[110,117,109,98,101,114]))=false)
 (h7:slc Tryd.prog 22 [Ob.cells [lro x0.sorts.length 1 (List.map st x0.sorts),lro x0.consts.length 2 (List.flatMap cstC x0.consts),lro x0.preds.length 2 (List.flatMap prdC x0.preds)]] true 0 (lro l12.length 1 (List.map st l12)) none (some (i6 (↑i0:Int))) none=some (AV.list k45 l45.length 1 (List.map st l45),[Ob.cells [lro x0.sorts.length 1 (List.map st x0.sorts),lro x0.consts.length 2 (List.flatMap cstC x0.consts),lro x0.preds.length 2 (List.flatMap prdC x0.preds)]]))
 (h8:kiq 22 [Ob.cells [lro x0.sorts.length 1 (List.map st x0.sorts),lro x0.consts.length 2 (List.flatMap cstC x0.consts),lro x0.preds.length 2 (List.flatMap prdC x0.preds)]] (lro l12.length 1 (List.map st l12)) (i6 (↑i0:Int)) (st e::r48))
 (h9:cvq X call true 35 [AV.list k45 l45.length 1 (List.map st l45),st e] [Ob.cells [lro x0.sorts.length 1 (List.map st x0.sorts),lro x0.consts.length 2 (List.flatMap cstC x0.consts),lro x0.preds.length 2 (List.flatMap prdC x0.preds)]] (bo true)):vexec Tryd.prog X call lf 0 fg15 (loopN Tryd.f15 0) (f15_F0 x0 l12 i0)=some (Ex.ret,(f15_S3 x0 l12 i0 a r24 c r31 d r38 l45 k45 e r48)) :=
  around_sound (ans:=[(4,Ans.b true),(9,Ans.v (AV.eaddr (st a::r24))),(11,Ans.v (bo true)),(19,Ans.v (AV.eaddr (st c::r31))),(23,Ans.b false),(31,Ans.v (AV.eaddr (st d::r38))),(35,Ans.b false),(43,Ans.v (AV.list k45 l45.length 1 (List.map st l45))),(49,Ans.v (AV.eaddr (st e::r48))),(53,Ans.v (bo true))]) (by kernel_rfl) (ai h0 (ai h1 (ai h2 (ai h3 (ai h4 (ai h5 (ai h6 (ai h7 (ai h8 (ai h9 trivial))))))))))
theorem f15_pflttfft (x0:Sgn)(X:Ext)(call:Caller)(lf:Nat)(l12:List ByteArray)(i0:Nat)(a:ByteArray)(r24:List AV)(c:ByteArray)(r31:List AV)(d:ByteArray)(r38:List AV)(l45:List ByteArray)(k45:LK)(e:ByteArray)(r48:List AV)
 (h0:cvq X call false 33 [AV.agg [lro x0.sorts.length 1 (List.map st x0.sorts),lro x0.consts.length 2 (List.flatMap cstC x0.consts),lro x0.preds.length 2 (List.flatMap prdC x0.preds)]] [Ob.cells [lro x0.sorts.length 1 (List.map st x0.sorts),lro x0.consts.length 2 (List.flatMap cstC x0.consts),lro x0.preds.length 2 (List.flatMap prdC x0.preds)]] (lro l12.length 1 (List.map st l12)))
 (h1:decide ((↑l12.length:Int)>256)=false)
 (h2:vexec Tryd.prog X call lf 0 fg15 (Code.loop (loopN Tryd.f15 0)) (f15_S0 x0 l12)=some (Ex.ret,(f15_S3 x0 l12 i0 a r24 c r31 d r38 l45 k45 e r48))):vbody Tryd.prog X call lf fg15 Tryd.f15 (codeOf Tryd.f15) [AV.agg (sgnC x0)] [] 0=some (bo false,[Ob.cells [lro x0.sorts.length 1 (List.map st x0.sorts),lro x0.consts.length 2 (List.flatMap cstC x0.consts),lro x0.preds.length 2 (List.flatMap prdC x0.preds)]]) :=
  along_sound (ans:=[(5,Ans.v (lro l12.length 1 (List.map st l12))),(10,Ans.b false),(14,Ans.l Ex.ret (f15_S3 x0 l12 i0 a r24 c r31 d r38 l45 k45 e r48))]) (by kernel_rfl) (ai h0 (ai h1 (ai h2 trivial)))
theorem f15_s0_ttfff (x0:Sgn)(X:Ext)(call:Caller)(lf:Nat)(l12:List ByteArray)(i0:Nat)(a:ByteArray)(r24:List AV)(c:ByteArray)(r31:List AV)(d:ByteArray)(r38:List AV)(l45:List ByteArray)(k45:LK)(e:ByteArray)(r48:List AV)
 (h0:decide ((↑i0:Int)<(↑l12.length:Int))=true)
 (h1:kiq 22 [Ob.cells [lro x0.sorts.length 1 (List.map st x0.sorts),lro x0.consts.length 2 (List.flatMap cstC x0.consts),lro x0.preds.length 2 (List.flatMap prdC x0.preds)]] (lro l12.length 1 (List.map st l12)) (i6 (↑i0:Int)) (st a::r24))
 (h2:cvq X call true 34 [st a] [Ob.cells [lro x0.sorts.length 1 (List.map st x0.sorts),lro x0.consts.length 2 (List.flatMap cstC x0.consts),lro x0.preds.length 2 (List.flatMap prdC x0.preds)]] (bo true))
 (h3:kiq 22 [Ob.cells [lro x0.sorts.length 1 (List.map st x0.sorts),lro x0.consts.length 2 (List.flatMap cstC x0.consts),lro x0.preds.length 2 (List.flatMap prdC x0.preds)]] (lro l12.length 1 (List.map st l12)) (i6 (↑i0:Int)) (st c::r31))
 (h4:(ByteArray.toList c == ByteArray.toList (ByteArray.mk #[116,105,109,101]))=false)
 (h5:kiq 22 [Ob.cells [lro x0.sorts.length 1 (List.map st x0.sorts),lro x0.consts.length 2 (List.flatMap cstC x0.consts),lro x0.preds.length 2 (List.flatMap prdC x0.preds)]] (lro l12.length 1 (List.map st l12)) (i6 (↑i0:Int)) (st d::r38))
 (h6:(ByteArray.toList d == ByteArray.toList (ByteArray.mk #[110,117,109,98,101,114]))=false)
 (h7:slc Tryd.prog 22 [Ob.cells [lro x0.sorts.length 1 (List.map st x0.sorts),lro x0.consts.length 2 (List.flatMap cstC x0.consts),lro x0.preds.length 2 (List.flatMap prdC x0.preds)]] true 0 (lro l12.length 1 (List.map st l12)) none (some (i6 (↑i0:Int))) none=some (AV.list k45 l45.length 1 (List.map st l45),[Ob.cells [lro x0.sorts.length 1 (List.map st x0.sorts),lro x0.consts.length 2 (List.flatMap cstC x0.consts),lro x0.preds.length 2 (List.flatMap prdC x0.preds)]]))
 (h8:kiq 22 [Ob.cells [lro x0.sorts.length 1 (List.map st x0.sorts),lro x0.consts.length 2 (List.flatMap cstC x0.consts),lro x0.preds.length 2 (List.flatMap prdC x0.preds)]] (lro l12.length 1 (List.map st l12)) (i6 (↑i0:Int)) (st e::r48))
 (h9:cvq X call true 35 [AV.list k45 l45.length 1 (List.map st l45),st e] [Ob.cells [lro x0.sorts.length 1 (List.map st x0.sorts),lro x0.consts.length 2 (List.flatMap cstC x0.consts),lro x0.preds.length 2 (List.flatMap prdC x0.preds)]] (bo false))
 (e0:(↑(i0 + 1):Int)=w6 ((↑i0:Int) + 1)):∃ Sx,vexec Tryd.prog X call lf 0 fg15 (loopN Tryd.f15 0) (f15_F0 x0 l12 i0)=some (Ex.normal,Sx)∧forget f15_D0 Sx=(f15_F0 x0 l12 (i0 + 1)) :=
  ⟨stOf 96 [2] [(0,AV.agg [lro x0.sorts.length 1 (List.map st x0.sorts),lro x0.consts.length 2 (List.flatMap cstC x0.consts),lro x0.preds.length 2 (List.flatMap prdC x0.preds)]),(1,AV.ref 0 0),(3,lro l12.length 1 (List.map st l12)),(4,i6 (w6 ((↑i0:Int) + 1))),(11,AV.agg [lro x0.sorts.length 1 (List.map st x0.sorts),lro x0.consts.length 2 (List.flatMap cstC x0.consts),lro x0.preds.length 2 (List.flatMap prdC x0.preds)]),(12,lro l12.length 1 (List.map st l12)),(13,lro l12.length 1 (List.map st l12)),(14,i6 (↑l12.length:Int)),(15,bo false),(16,i6 (↑i0:Int)),(17,lro l12.length 1 (List.map st l12)),(18,i6 (↑l12.length:Int)),(19,bo true),(20,i6 (↑i0:Int)),(21,i6 (w6 ((↑i0:Int) + 1))),(22,lro l12.length 1 (List.map st l12)),(23,i6 (↑i0:Int)),(24,AV.eaddr (st a::r24)),(25,st a),(26,bo true),(27,bo false),(28,bo false),(29,lro l12.length 1 (List.map st l12)),(30,i6 (↑i0:Int)),(31,AV.eaddr (st c::r31)),(32,st c),(33,bo false),(34,bo false),(35,bo false),(36,lro l12.length 1 (List.map st l12)),(37,i6 (↑i0:Int)),(38,AV.eaddr (st d::r38)),(39,st d),(40,bo false),(41,bo false),(42,bo false),(43,lro l12.length 1 (List.map st l12)),(44,i6 (↑i0:Int)),(45,AV.list k45 l45.length 1 (List.map st l45)),(46,lro l12.length 1 (List.map st l12)),(47,i6 (↑i0:Int)),(48,AV.eaddr (st e::r48)),(49,st e),(50,bo false),(51,bo false)] [Ob.cells [lro x0.sorts.length 1 (List.map st x0.sorts),lro x0.consts.length 2 (List.flatMap cstC x0.consts),lro x0.preds.length 2 (List.flatMap prdC x0.preds)]],around_sound (ans:=[(4,Ans.b true),(9,Ans.v (AV.eaddr (st a::r24))),(11,Ans.v (bo true)),(19,Ans.v (AV.eaddr (st c::r31))),(23,Ans.b false),(31,Ans.v (AV.eaddr (st d::r38))),(35,Ans.b false),(43,Ans.v (AV.list k45 l45.length 1 (List.map st l45))),(49,Ans.v (AV.eaddr (st e::r48))),(53,Ans.v (bo false))]) (by kernel_rfl) (ai h0 (ai h1 (ai h2 (ai h3 (ai h4 (ai h5 (ai h6 (ai h7 (ai h8 (ai h9 trivial)))))))))),by unfold f15_F0; rw [e0]; show _=_; kernel_rfl⟩
def f15_S4 (x0:Sgn)(l12:List ByteArray)(i0:Nat)(a:ByteArray)(r24:List AV):St :=
  stOf 96 [20,21] [(0,AV.agg [lro x0.sorts.length 1 (List.map st x0.sorts),lro x0.consts.length 2 (List.flatMap cstC x0.consts),lro x0.preds.length 2 (List.flatMap prdC x0.preds)]),(1,AV.ref 0 0),(2,bo false),(3,lro l12.length 1 (List.map st l12)),(4,i6 (↑i0:Int)),(11,AV.agg [lro x0.sorts.length 1 (List.map st x0.sorts),lro x0.consts.length 2 (List.flatMap cstC x0.consts),lro x0.preds.length 2 (List.flatMap prdC x0.preds)]),(12,lro l12.length 1 (List.map st l12)),(13,lro l12.length 1 (List.map st l12)),(14,i6 (↑l12.length:Int)),(15,bo false),(16,i6 (↑i0:Int)),(17,lro l12.length 1 (List.map st l12)),(18,i6 (↑l12.length:Int)),(19,bo true),(22,lro l12.length 1 (List.map st l12)),(23,i6 (↑i0:Int)),(24,AV.eaddr (st a::r24)),(25,st a),(26,bo false),(27,bo true),(28,bo true),(34,bo true),(35,bo true),(41,bo true),(42,bo true),(51,bo true)] [Ob.cells [lro x0.sorts.length 1 (List.map st x0.sorts),lro x0.consts.length 2 (List.flatMap cstC x0.consts),lro x0.preds.length 2 (List.flatMap prdC x0.preds)]]
theorem f15_r0_tf (x0:Sgn)(X:Ext)(call:Caller)(lf:Nat)(l12:List ByteArray)(i0:Nat)(a:ByteArray)(r24:List AV)
 (h0:decide ((↑i0:Int)<(↑l12.length:Int))=true)
 (h1:kiq 22 [Ob.cells [lro x0.sorts.length 1 (List.map st x0.sorts),lro x0.consts.length 2 (List.flatMap cstC x0.consts),lro x0.preds.length 2 (List.flatMap prdC x0.preds)]] (lro l12.length 1 (List.map st l12)) (i6 (↑i0:Int)) (st a::r24))
 (h2:cvq X call true 34 [st a] [Ob.cells [lro x0.sorts.length 1 (List.map st x0.sorts),lro x0.consts.length 2 (List.flatMap cstC x0.consts),lro x0.preds.length 2 (List.flatMap prdC x0.preds)]] (bo false)):vexec Tryd.prog X call lf 0 fg15 (loopN Tryd.f15 0) (f15_F0 x0 l12 i0)=some (Ex.ret,(f15_S4 x0 l12 i0 a r24)) :=
  around_sound (ans:=[(4,Ans.b true),(9,Ans.v (AV.eaddr (st a::r24))),(11,Ans.v (bo false))]) (by kernel_rfl) (ai h0 (ai h1 (ai h2 trivial)))
theorem f15_pfltf (x0:Sgn)(X:Ext)(call:Caller)(lf:Nat)(l12:List ByteArray)(i0:Nat)(a:ByteArray)(r24:List AV)
 (h0:cvq X call false 33 [AV.agg [lro x0.sorts.length 1 (List.map st x0.sorts),lro x0.consts.length 2 (List.flatMap cstC x0.consts),lro x0.preds.length 2 (List.flatMap prdC x0.preds)]] [Ob.cells [lro x0.sorts.length 1 (List.map st x0.sorts),lro x0.consts.length 2 (List.flatMap cstC x0.consts),lro x0.preds.length 2 (List.flatMap prdC x0.preds)]] (lro l12.length 1 (List.map st l12)))
 (h1:decide ((↑l12.length:Int)>256)=false)
 (h2:vexec Tryd.prog X call lf 0 fg15 (Code.loop (loopN Tryd.f15 0)) (f15_S0 x0 l12)=some (Ex.ret,(f15_S4 x0 l12 i0 a r24))):vbody Tryd.prog X call lf fg15 Tryd.f15 (codeOf Tryd.f15) [AV.agg (sgnC x0)] [] 0=some (bo false,[Ob.cells [lro x0.sorts.length 1 (List.map st x0.sorts),lro x0.consts.length 2 (List.flatMap cstC x0.consts),lro x0.preds.length 2 (List.flatMap prdC x0.preds)]]) :=
  along_sound (ans:=[(5,Ans.v (lro l12.length 1 (List.map st l12))),(10,Ans.b false),(14,Ans.l Ex.ret (f15_S4 x0 l12 i0 a r24))]) (by kernel_rfl) (ai h0 (ai h1 (ai h2 trivial)))
def f15_S5 (x0:Sgn)(l12:List ByteArray)(i0:Nat):St :=
  stOf 96 [2,20,21,22,23,24,25,26,27,28,29,30,31,32,33,34,35,36,37,38,39,40,41,42,43,44,45,46,47,48,49,50,51] [(0,AV.agg [lro x0.sorts.length 1 (List.map st x0.sorts),lro x0.consts.length 2 (List.flatMap cstC x0.consts),lro x0.preds.length 2 (List.flatMap prdC x0.preds)]),(1,AV.ref 0 0),(3,lro l12.length 1 (List.map st l12)),(4,i6 (↑i0:Int)),(11,AV.agg [lro x0.sorts.length 1 (List.map st x0.sorts),lro x0.consts.length 2 (List.flatMap cstC x0.consts),lro x0.preds.length 2 (List.flatMap prdC x0.preds)]),(12,lro l12.length 1 (List.map st l12)),(13,lro l12.length 1 (List.map st l12)),(14,i6 (↑l12.length:Int)),(15,bo false),(16,i6 (↑i0:Int)),(17,lro l12.length 1 (List.map st l12)),(18,i6 (↑l12.length:Int)),(19,bo false)] [Ob.cells [lro x0.sorts.length 1 (List.map st x0.sorts),lro x0.consts.length 2 (List.flatMap cstC x0.consts),lro x0.preds.length 2 (List.flatMap prdC x0.preds)]]
theorem f15_r0_f (x0:Sgn)(X:Ext)(call:Caller)(lf:Nat)(l12:List ByteArray)(i0:Nat)
 (h0:decide ((↑i0:Int)<(↑l12.length:Int))=false):vexec Tryd.prog X call lf 0 fg15 (loopN Tryd.f15 0) (f15_F0 x0 l12 i0)=some (Ex.exit 0,(f15_S5 x0 l12 i0)) :=
  around_sound (ans:=[(4,Ans.b false)]) (by kernel_rfl) (ai h0 trivial)
def f15_F1 (x0:Sgn)(l12:List ByteArray)(i0 i1:Nat):St :=
  stOf 96 [2,6,20,21,22,23,24,25,26,27,28,29,30,31,32,33,34,35,36,37,38,39,40,41,42,43,44,45,46,47,48,49,50,51,56,57,58,59,60,61,62,63,64,65] [(0,AV.agg [lro x0.sorts.length 1 (List.map st x0.sorts),lro x0.consts.length 2 (List.flatMap cstC x0.consts),lro x0.preds.length 2 (List.flatMap prdC x0.preds)]),(1,AV.ref 0 0),(3,lro l12.length 1 (List.map st l12)),(4,i6 (↑i0:Int)),(11,AV.agg [lro x0.sorts.length 1 (List.map st x0.sorts),lro x0.consts.length 2 (List.flatMap cstC x0.consts),lro x0.preds.length 2 (List.flatMap prdC x0.preds)]),(12,lro l12.length 1 (List.map st l12)),(13,lro l12.length 1 (List.map st l12)),(14,i6 (↑l12.length:Int)),(15,bo false),(16,i6 (↑i0:Int)),(17,lro l12.length 1 (List.map st l12)),(18,i6 (↑l12.length:Int)),(19,bo false),(52,AV.ref 0 1),(53,lro x0.consts.length 2 (List.flatMap cstC x0.consts)),(54,i6 (↑x0.consts.length:Int)),(55,i6 (↑i1:Int))] [Ob.cells [lro x0.sorts.length 1 (List.map st x0.sorts),lro x0.consts.length 2 (List.flatMap cstC x0.consts),lro x0.preds.length 2 (List.flatMap prdC x0.preds)]]
def f15_S6 (x0:Sgn)(l12:List ByteArray)(i0:Nat):St :=
  stOf 96 [2,20,21,22,23,24,25,26,27,28,29,30,31,32,33,34,35,36,37,38,39,40,41,42,43,44,45,46,47,48,49,50,51] [(0,AV.agg [lro x0.sorts.length 1 (List.map st x0.sorts),lro x0.consts.length 2 (List.flatMap cstC x0.consts),lro x0.preds.length 2 (List.flatMap prdC x0.preds)]),(1,AV.ref 0 0),(3,lro l12.length 1 (List.map st l12)),(4,i6 (↑i0:Int)),(11,AV.agg [lro x0.sorts.length 1 (List.map st x0.sorts),lro x0.consts.length 2 (List.flatMap cstC x0.consts),lro x0.preds.length 2 (List.flatMap prdC x0.preds)]),(12,lro l12.length 1 (List.map st l12)),(13,lro l12.length 1 (List.map st l12)),(14,i6 (↑l12.length:Int)),(15,bo false),(16,i6 (↑i0:Int)),(17,lro l12.length 1 (List.map st l12)),(18,i6 (↑l12.length:Int)),(19,bo false),(52,AV.ref 0 1),(53,lro x0.consts.length 2 (List.flatMap cstC x0.consts)),(54,i6 (↑x0.consts.length:Int)),(55,i6 0)] [Ob.cells [lro x0.sorts.length 1 (List.map st x0.sorts),lro x0.consts.length 2 (List.flatMap cstC x0.consts),lro x0.preds.length 2 (List.flatMap prdC x0.preds)]]
abbrev f15_D1:List Nat:=[65,2,64,63,62,61,60,59,6,58,57,56]
theorem f15_L1 (x0:Sgn)(l12:List ByteArray)(i0:Nat)(X:Ext)(call:Caller)(lf n:Nat)(x:Ex) (S' : St)
 (hn:n<lf)
 (hs:∀ j,j<n→∃ Sx,vexec Tryd.prog X call lf 0 fg15 (loopN Tryd.f15 1) (f15_F1 x0 l12 i0 j)=some (Ex.normal,Sx)∧forget f15_D1 Sx=(f15_F1 x0 l12 i0 (j + 1)))
 (he:vexec Tryd.prog X call lf 0 fg15 (loopN Tryd.f15 1) (f15_F1 x0 l12 i0 n)=some (x,S'))
 (hx:x ≠ Ex.normal):vexec Tryd.prog X call lf 0 fg15 (Go.Code.loop (loopN Tryd.f15 1)) (f15_S6 x0 l12 i0)=some (x,S') :=
  loop_runK (by kernel_rfl) (fun j=>(f15_F1 x0 l12 i0 j)) n hn (by show forget f15_D1 (f15_S6 x0 l12 i0)=(f15_F1 x0 l12 i0 0); unfold f15_F1; show _=_; kernel_rfl) hs he hx
theorem f15_s1_tt (x0:Sgn)(X:Ext)(call:Caller)(lf:Nat)(l12:List ByteArray)(i0 i1:Nat)(a c:ByteArray)(r57:List AV)
 (h0:decide ((↑i1:Int)<(↑x0.consts.length:Int))=true)
 (h1:kiq 23 [Ob.cells [lro x0.sorts.length 1 (List.map st x0.sorts),lro x0.consts.length 2 (List.flatMap cstC x0.consts),lro x0.preds.length 2 (List.flatMap prdC x0.preds)]] (lro x0.consts.length 2 (List.flatMap cstC x0.consts)) (i6 (↑i1:Int)) (st a::st c::r57))
 (h2:cvq X call false 35 [lro x0.sorts.length 1 (List.map st x0.sorts),st c] [Ob.cells [lro x0.sorts.length 1 (List.map st x0.sorts),lro x0.consts.length 2 (List.flatMap cstC x0.consts),lro x0.preds.length 2 (List.flatMap prdC x0.preds)]] (bo true))
 (e0:(↑(i1 + 1):Int)=w6 ((↑i1:Int) + 1)):∃ Sx,vexec Tryd.prog X call lf 0 fg15 (loopN Tryd.f15 1) (f15_F1 x0 l12 i0 i1)=some (Ex.normal,Sx)∧forget f15_D1 Sx=(f15_F1 x0 l12 i0 (i1 + 1)) :=
  ⟨stOf 96 [2,20,21,22,23,24,25,26,27,28,29,30,31,32,33,34,35,36,37,38,39,40,41,42,43,44,45,46,47,48,49,50,51] [(0,AV.agg [lro x0.sorts.length 1 (List.map st x0.sorts),lro x0.consts.length 2 (List.flatMap cstC x0.consts),lro x0.preds.length 2 (List.flatMap prdC x0.preds)]),(1,AV.ref 0 0),(3,lro l12.length 1 (List.map st l12)),(4,i6 (↑i0:Int)),(6,AV.eaddr [st a,st c]),(11,AV.agg [lro x0.sorts.length 1 (List.map st x0.sorts),lro x0.consts.length 2 (List.flatMap cstC x0.consts),lro x0.preds.length 2 (List.flatMap prdC x0.preds)]),(12,lro l12.length 1 (List.map st l12)),(13,lro l12.length 1 (List.map st l12)),(14,i6 (↑l12.length:Int)),(15,bo false),(16,i6 (↑i0:Int)),(17,lro l12.length 1 (List.map st l12)),(18,i6 (↑l12.length:Int)),(19,bo false),(52,AV.ref 0 1),(53,lro x0.consts.length 2 (List.flatMap cstC x0.consts)),(54,i6 (↑x0.consts.length:Int)),(55,i6 (w6 ((↑i1:Int) + 1))),(56,bo true),(57,AV.eaddr (st a::st c::r57)),(58,AV.agg [st a,st c]),(59,AV.ref 0 0),(60,lro x0.sorts.length 1 (List.map st x0.sorts)),(61,AV.eaddr [st c]),(62,st c),(63,bo true),(64,bo false),(65,i6 (w6 ((↑i1:Int) + 1)))] [Ob.cells [lro x0.sorts.length 1 (List.map st x0.sorts),lro x0.consts.length 2 (List.flatMap cstC x0.consts),lro x0.preds.length 2 (List.flatMap prdC x0.preds)]],around_sound (ans:=[(1,Ans.b true),(4,Ans.v (AV.eaddr (st a::st c::r57))),(11,Ans.v (bo true))]) (by kernel_rfl) (ai h0 (ai h1 (ai h2 trivial))),by unfold f15_F1; rw [e0]; show _=_; kernel_rfl⟩
def f15_S7 (x0:Sgn)(l12:List ByteArray)(i0 i1:Nat)(a b:ByteArray)(r57:List AV):St :=
  stOf 96 [20,21,22,23,24,25,26,27,28,29,30,31,32,33,34,35,36,37,38,39,40,41,42,43,44,45,46,47,48,49,50,51,65] [(0,AV.agg [lro x0.sorts.length 1 (List.map st x0.sorts),lro x0.consts.length 2 (List.flatMap cstC x0.consts),lro x0.preds.length 2 (List.flatMap prdC x0.preds)]),(1,AV.ref 0 0),(2,bo false),(3,lro l12.length 1 (List.map st l12)),(4,i6 (↑i0:Int)),(6,AV.eaddr [st a,st b]),(11,AV.agg [lro x0.sorts.length 1 (List.map st x0.sorts),lro x0.consts.length 2 (List.flatMap cstC x0.consts),lro x0.preds.length 2 (List.flatMap prdC x0.preds)]),(12,lro l12.length 1 (List.map st l12)),(13,lro l12.length 1 (List.map st l12)),(14,i6 (↑l12.length:Int)),(15,bo false),(16,i6 (↑i0:Int)),(17,lro l12.length 1 (List.map st l12)),(18,i6 (↑l12.length:Int)),(19,bo false),(52,AV.ref 0 1),(53,lro x0.consts.length 2 (List.flatMap cstC x0.consts)),(54,i6 (↑x0.consts.length:Int)),(55,i6 (↑i1:Int)),(56,bo true),(57,AV.eaddr (st a::st b::r57)),(58,AV.agg [st a,st b]),(59,AV.ref 0 0),(60,lro x0.sorts.length 1 (List.map st x0.sorts)),(61,AV.eaddr [st b]),(62,st b),(63,bo false),(64,bo true)] [Ob.cells [lro x0.sorts.length 1 (List.map st x0.sorts),lro x0.consts.length 2 (List.flatMap cstC x0.consts),lro x0.preds.length 2 (List.flatMap prdC x0.preds)]]
theorem f15_r1_tf (x0:Sgn)(X:Ext)(call:Caller)(lf:Nat)(l12:List ByteArray)(i0 i1:Nat)(a c:ByteArray)(r57:List AV)
 (h0:decide ((↑i1:Int)<(↑x0.consts.length:Int))=true)
 (h1:kiq 23 [Ob.cells [lro x0.sorts.length 1 (List.map st x0.sorts),lro x0.consts.length 2 (List.flatMap cstC x0.consts),lro x0.preds.length 2 (List.flatMap prdC x0.preds)]] (lro x0.consts.length 2 (List.flatMap cstC x0.consts)) (i6 (↑i1:Int)) (st a::st c::r57))
 (h2:cvq X call false 35 [lro x0.sorts.length 1 (List.map st x0.sorts),st c] [Ob.cells [lro x0.sorts.length 1 (List.map st x0.sorts),lro x0.consts.length 2 (List.flatMap cstC x0.consts),lro x0.preds.length 2 (List.flatMap prdC x0.preds)]] (bo false)):vexec Tryd.prog X call lf 0 fg15 (loopN Tryd.f15 1) (f15_F1 x0 l12 i0 i1)=some (Ex.ret,(f15_S7 x0 l12 i0 i1 a c r57)) :=
  around_sound (ans:=[(1,Ans.b true),(4,Ans.v (AV.eaddr (st a::st c::r57))),(11,Ans.v (bo false))]) (by kernel_rfl) (ai h0 (ai h1 (ai h2 trivial)))
theorem f15_pflfltf (x0:Sgn)(X:Ext)(call:Caller)(lf:Nat)(l12:List ByteArray)(i0 i1:Nat)(a c:ByteArray)(r57:List AV)
 (h0:cvq X call false 33 [AV.agg [lro x0.sorts.length 1 (List.map st x0.sorts),lro x0.consts.length 2 (List.flatMap cstC x0.consts),lro x0.preds.length 2 (List.flatMap prdC x0.preds)]] [Ob.cells [lro x0.sorts.length 1 (List.map st x0.sorts),lro x0.consts.length 2 (List.flatMap cstC x0.consts),lro x0.preds.length 2 (List.flatMap prdC x0.preds)]] (lro l12.length 1 (List.map st l12)))
 (h1:decide ((↑l12.length:Int)>256)=false)
 (h2:vexec Tryd.prog X call lf 0 fg15 (Code.loop (loopN Tryd.f15 0)) (f15_S0 x0 l12)=some (Ex.exit 0,(f15_S5 x0 l12 i0)))
 (h3:vexec Tryd.prog X call lf 0 fg15 (Code.loop (loopN Tryd.f15 1)) (f15_S6 x0 l12 i0)=some (Ex.ret,(f15_S7 x0 l12 i0 i1 a c r57))):vbody Tryd.prog X call lf fg15 Tryd.f15 (codeOf Tryd.f15) [AV.agg (sgnC x0)] [] 0=some (bo false,[Ob.cells [lro x0.sorts.length 1 (List.map st x0.sorts),lro x0.consts.length 2 (List.flatMap cstC x0.consts),lro x0.preds.length 2 (List.flatMap prdC x0.preds)]]) :=
  along_sound (ans:=[(5,Ans.v (lro l12.length 1 (List.map st l12))),(10,Ans.b false),(14,Ans.l (Ex.exit 0) (f15_S5 x0 l12 i0)),(20,Ans.l Ex.ret (f15_S7 x0 l12 i0 i1 a c r57))]) (by kernel_rfl) (ai h0 (ai h1 (ai h2 (ai h3 trivial))))
def f15_S8 (x0:Sgn)(l12:List ByteArray)(i0 i1:Nat):St :=
  stOf 96 [2,6,20,21,22,23,24,25,26,27,28,29,30,31,32,33,34,35,36,37,38,39,40,41,42,43,44,45,46,47,48,49,50,51,57,58,59,60,61,62,63,64,65] [(0,AV.agg [lro x0.sorts.length 1 (List.map st x0.sorts),lro x0.consts.length 2 (List.flatMap cstC x0.consts),lro x0.preds.length 2 (List.flatMap prdC x0.preds)]),(1,AV.ref 0 0),(3,lro l12.length 1 (List.map st l12)),(4,i6 (↑i0:Int)),(11,AV.agg [lro x0.sorts.length 1 (List.map st x0.sorts),lro x0.consts.length 2 (List.flatMap cstC x0.consts),lro x0.preds.length 2 (List.flatMap prdC x0.preds)]),(12,lro l12.length 1 (List.map st l12)),(13,lro l12.length 1 (List.map st l12)),(14,i6 (↑l12.length:Int)),(15,bo false),(16,i6 (↑i0:Int)),(17,lro l12.length 1 (List.map st l12)),(18,i6 (↑l12.length:Int)),(19,bo false),(52,AV.ref 0 1),(53,lro x0.consts.length 2 (List.flatMap cstC x0.consts)),(54,i6 (↑x0.consts.length:Int)),(55,i6 (↑i1:Int)),(56,bo false)] [Ob.cells [lro x0.sorts.length 1 (List.map st x0.sorts),lro x0.consts.length 2 (List.flatMap cstC x0.consts),lro x0.preds.length 2 (List.flatMap prdC x0.preds)]]
theorem f15_r1_f (x0:Sgn)(X:Ext)(call:Caller)(lf:Nat)(l12:List ByteArray)(i0 i1:Nat)
 (h0:decide ((↑i1:Int)<(↑x0.consts.length:Int))=false):vexec Tryd.prog X call lf 0 fg15 (loopN Tryd.f15 1) (f15_F1 x0 l12 i0 i1)=some (Ex.exit 2,(f15_S8 x0 l12 i0 i1)) :=
  around_sound (ans:=[(1,Ans.b false)]) (by kernel_rfl) (ai h0 trivial)
def f15_F2 (x0:Sgn)(l12:List ByteArray)(i0 i1 i2:Nat):St :=
  stOf 96 [2,6,8,10,20,21,22,23,24,25,26,27,28,29,30,31,32,33,34,35,36,37,38,39,40,41,42,43,44,45,46,47,48,49,50,51,57,58,59,60,61,62,63,64,65,70,71,72,73,74,75,76,77,78,79,80,81,82,83,84,85,86,87,88,89,90,91,92,93,94,95] [(0,AV.agg [lro x0.sorts.length 1 (List.map st x0.sorts),lro x0.consts.length 2 (List.flatMap cstC x0.consts),lro x0.preds.length 2 (List.flatMap prdC x0.preds)]),(1,AV.ref 0 0),(3,lro l12.length 1 (List.map st l12)),(4,i6 (↑i0:Int)),(11,AV.agg [lro x0.sorts.length 1 (List.map st x0.sorts),lro x0.consts.length 2 (List.flatMap cstC x0.consts),lro x0.preds.length 2 (List.flatMap prdC x0.preds)]),(12,lro l12.length 1 (List.map st l12)),(13,lro l12.length 1 (List.map st l12)),(14,i6 (↑l12.length:Int)),(15,bo false),(16,i6 (↑i0:Int)),(17,lro l12.length 1 (List.map st l12)),(18,i6 (↑l12.length:Int)),(19,bo false),(52,AV.ref 0 1),(53,lro x0.consts.length 2 (List.flatMap cstC x0.consts)),(54,i6 (↑x0.consts.length:Int)),(55,i6 (↑i1:Int)),(56,bo false),(66,AV.ref 0 2),(67,lro x0.preds.length 2 (List.flatMap prdC x0.preds)),(68,i6 (↑x0.preds.length:Int)),(69,i6 (↑i2:Int))] [Ob.cells [lro x0.sorts.length 1 (List.map st x0.sorts),lro x0.consts.length 2 (List.flatMap cstC x0.consts),lro x0.preds.length 2 (List.flatMap prdC x0.preds)]]
def f15_S9 (x0:Sgn)(l12:List ByteArray)(i0 i1:Nat):St :=
  stOf 96 [2,6,20,21,22,23,24,25,26,27,28,29,30,31,32,33,34,35,36,37,38,39,40,41,42,43,44,45,46,47,48,49,50,51,57,58,59,60,61,62,63,64,65] [(0,AV.agg [lro x0.sorts.length 1 (List.map st x0.sorts),lro x0.consts.length 2 (List.flatMap cstC x0.consts),lro x0.preds.length 2 (List.flatMap prdC x0.preds)]),(1,AV.ref 0 0),(3,lro l12.length 1 (List.map st l12)),(4,i6 (↑i0:Int)),(11,AV.agg [lro x0.sorts.length 1 (List.map st x0.sorts),lro x0.consts.length 2 (List.flatMap cstC x0.consts),lro x0.preds.length 2 (List.flatMap prdC x0.preds)]),(12,lro l12.length 1 (List.map st l12)),(13,lro l12.length 1 (List.map st l12)),(14,i6 (↑l12.length:Int)),(15,bo false),(16,i6 (↑i0:Int)),(17,lro l12.length 1 (List.map st l12)),(18,i6 (↑l12.length:Int)),(19,bo false),(52,AV.ref 0 1),(53,lro x0.consts.length 2 (List.flatMap cstC x0.consts)),(54,i6 (↑x0.consts.length:Int)),(55,i6 (↑i1:Int)),(56,bo false),(66,AV.ref 0 2),(67,lro x0.preds.length 2 (List.flatMap prdC x0.preds)),(68,i6 (↑x0.preds.length:Int)),(69,i6 0)] [Ob.cells [lro x0.sorts.length 1 (List.map st x0.sorts),lro x0.consts.length 2 (List.flatMap cstC x0.consts),lro x0.preds.length 2 (List.flatMap prdC x0.preds)]]
abbrev f15_D2:List Nat:=[95,94,2,93,92,91,90,10,89,88,87,86,85,84,83,2,82,81,80,79,78,77,76,75,74,73,8,72,71,70]
theorem f15_L2 (x0:Sgn)(l12:List ByteArray)(i0 i1:Nat)(X:Ext)(call:Caller)(lf n:Nat)(x:Ex) (S' : St)
 (hn:n<lf)
 (hs:∀ j,j<n→∃ Sx,vexec Tryd.prog X call lf 0 fg15 (loopN Tryd.f15 2) (f15_F2 x0 l12 i0 i1 j)=some (Ex.normal,Sx)∧forget f15_D2 Sx=(f15_F2 x0 l12 i0 i1 (j + 1)))
 (he:vexec Tryd.prog X call lf 0 fg15 (loopN Tryd.f15 2) (f15_F2 x0 l12 i0 i1 n)=some (x,S'))
 (hx:x ≠ Ex.normal):vexec Tryd.prog X call lf 0 fg15 (Go.Code.loop (loopN Tryd.f15 2)) (f15_S9 x0 l12 i0 i1)=some (x,S') :=
  loop_runK (by kernel_rfl) (fun j=>(f15_F2 x0 l12 i0 i1 j)) n hn (by show forget f15_D2 (f15_S9 x0 l12 i0 i1)=(f15_F2 x0 l12 i0 i1 0); unfold f15_F2; show _=_; kernel_rfl) hs he hx
def f15_S10 (x0:Sgn)(l12:List ByteArray)(i0 i1 i2:Nat)(a:ByteArray)(b:List ByteArray)(r71:List AV):St :=
  stOf 96 [6,10,20,21,22,23,24,25,26,27,28,29,30,31,32,33,34,35,36,37,38,39,40,41,42,43,44,45,46,47,48,49,50,51,57,58,59,60,61,62,63,64,65,83,84,85,86,87,88,89,90,91,92,93,94,95] [(0,AV.agg [lro x0.sorts.length 1 (List.map st x0.sorts),lro x0.consts.length 2 (List.flatMap cstC x0.consts),lro x0.preds.length 2 (List.flatMap prdC x0.preds)]),(1,AV.ref 0 0),(2,bo false),(3,lro l12.length 1 (List.map st l12)),(4,i6 (↑i0:Int)),(8,AV.eaddr [st a,lro b.length 1 (List.map st b)]),(11,AV.agg [lro x0.sorts.length 1 (List.map st x0.sorts),lro x0.consts.length 2 (List.flatMap cstC x0.consts),lro x0.preds.length 2 (List.flatMap prdC x0.preds)]),(12,lro l12.length 1 (List.map st l12)),(13,lro l12.length 1 (List.map st l12)),(14,i6 (↑l12.length:Int)),(15,bo false),(16,i6 (↑i0:Int)),(17,lro l12.length 1 (List.map st l12)),(18,i6 (↑l12.length:Int)),(19,bo false),(52,AV.ref 0 1),(53,lro x0.consts.length 2 (List.flatMap cstC x0.consts)),(54,i6 (↑x0.consts.length:Int)),(55,i6 (↑i1:Int)),(56,bo false),(66,AV.ref 0 2),(67,lro x0.preds.length 2 (List.flatMap prdC x0.preds)),(68,i6 (↑x0.preds.length:Int)),(69,i6 (↑i2:Int)),(70,bo true),(71,AV.eaddr (st a::lro b.length 1 (List.map st b)::r71)),(72,AV.agg [st a,lro b.length 1 (List.map st b)]),(73,AV.eaddr [lro b.length 1 (List.map st b)]),(74,lro b.length 1 (List.map st b)),(75,i6 (↑b.length:Int)),(76,bo true),(77,bo true),(82,bo true)] [Ob.cells [lro x0.sorts.length 1 (List.map st x0.sorts),lro x0.consts.length 2 (List.flatMap cstC x0.consts),lro x0.preds.length 2 (List.flatMap prdC x0.preds)]]
theorem f15_r2_tt (x0:Sgn)(X:Ext)(call:Caller)(lf:Nat)(l12:List ByteArray)(i0 i1 i2:Nat)(a:ByteArray)(c:List ByteArray)(r71:List AV)
 (h0:decide ((↑i2:Int)<(↑x0.preds.length:Int))=true)
 (h1:kiq 24 [Ob.cells [lro x0.sorts.length 1 (List.map st x0.sorts),lro x0.consts.length 2 (List.flatMap cstC x0.consts),lro x0.preds.length 2 (List.flatMap prdC x0.preds)]] (lro x0.preds.length 2 (List.flatMap prdC x0.preds)) (i6 (↑i2:Int)) (st a::lro c.length 1 (List.map st c)::r71))
 (h2:decide ((↑c.length:Int)<1)=true):vexec Tryd.prog X call lf 0 fg15 (loopN Tryd.f15 2) (f15_F2 x0 l12 i0 i1 i2)=some (Ex.ret,(f15_S10 x0 l12 i0 i1 i2 a c r71)) :=
  around_sound (ans:=[(1,Ans.b true),(4,Ans.v (AV.eaddr (st a::lro c.length 1 (List.map st c)::r71))),(10,Ans.b true)]) (by kernel_rfl) (ai h0 (ai h1 (ai h2 trivial)))
theorem f15_pflflfltt (x0:Sgn)(X:Ext)(call:Caller)(lf:Nat)(l12:List ByteArray)(i0 i1 i2:Nat)(a:ByteArray)(c:List ByteArray)(r71:List AV)
 (h0:cvq X call false 33 [AV.agg [lro x0.sorts.length 1 (List.map st x0.sorts),lro x0.consts.length 2 (List.flatMap cstC x0.consts),lro x0.preds.length 2 (List.flatMap prdC x0.preds)]] [Ob.cells [lro x0.sorts.length 1 (List.map st x0.sorts),lro x0.consts.length 2 (List.flatMap cstC x0.consts),lro x0.preds.length 2 (List.flatMap prdC x0.preds)]] (lro l12.length 1 (List.map st l12)))
 (h1:decide ((↑l12.length:Int)>256)=false)
 (h2:vexec Tryd.prog X call lf 0 fg15 (Code.loop (loopN Tryd.f15 0)) (f15_S0 x0 l12)=some (Ex.exit 0,(f15_S5 x0 l12 i0)))
 (h3:vexec Tryd.prog X call lf 0 fg15 (Code.loop (loopN Tryd.f15 1)) (f15_S6 x0 l12 i0)=some (Ex.exit 2,(f15_S8 x0 l12 i0 i1)))
 (h4:vexec Tryd.prog X call lf 0 fg15 (Code.loop (loopN Tryd.f15 2)) (f15_S9 x0 l12 i0 i1)=some (Ex.ret,(f15_S10 x0 l12 i0 i1 i2 a c r71))):vbody Tryd.prog X call lf fg15 Tryd.f15 (codeOf Tryd.f15) [AV.agg (sgnC x0)] [] 0=some (bo false,[Ob.cells [lro x0.sorts.length 1 (List.map st x0.sorts),lro x0.consts.length 2 (List.flatMap cstC x0.consts),lro x0.preds.length 2 (List.flatMap prdC x0.preds)]]) :=
  along_sound (ans:=[(5,Ans.v (lro l12.length 1 (List.map st l12))),(10,Ans.b false),(14,Ans.l (Ex.exit 0) (f15_S5 x0 l12 i0)),(20,Ans.l (Ex.exit 2) (f15_S8 x0 l12 i0 i1)),(26,Ans.l Ex.ret (f15_S10 x0 l12 i0 i1 i2 a c r71))]) (by kernel_rfl) (ai h0 (ai h1 (ai h2 (ai h3 (ai h4 trivial)))))
def f15_S11 (x0:Sgn)(l12:List ByteArray)(i0 i1 i2:Nat)(a:ByteArray)(b:List ByteArray)(r71:List AV):St :=
  stOf 96 [6,10,20,21,22,23,24,25,26,27,28,29,30,31,32,33,34,35,36,37,38,39,40,41,42,43,44,45,46,47,48,49,50,51,57,58,59,60,61,62,63,64,65,83,84,85,86,87,88,89,90,91,92,93,94,95] [(0,AV.agg [lro x0.sorts.length 1 (List.map st x0.sorts),lro x0.consts.length 2 (List.flatMap cstC x0.consts),lro x0.preds.length 2 (List.flatMap prdC x0.preds)]),(1,AV.ref 0 0),(2,bo false),(3,lro l12.length 1 (List.map st l12)),(4,i6 (↑i0:Int)),(8,AV.eaddr [st a,lro b.length 1 (List.map st b)]),(11,AV.agg [lro x0.sorts.length 1 (List.map st x0.sorts),lro x0.consts.length 2 (List.flatMap cstC x0.consts),lro x0.preds.length 2 (List.flatMap prdC x0.preds)]),(12,lro l12.length 1 (List.map st l12)),(13,lro l12.length 1 (List.map st l12)),(14,i6 (↑l12.length:Int)),(15,bo false),(16,i6 (↑i0:Int)),(17,lro l12.length 1 (List.map st l12)),(18,i6 (↑l12.length:Int)),(19,bo false),(52,AV.ref 0 1),(53,lro x0.consts.length 2 (List.flatMap cstC x0.consts)),(54,i6 (↑x0.consts.length:Int)),(55,i6 (↑i1:Int)),(56,bo false),(66,AV.ref 0 2),(67,lro x0.preds.length 2 (List.flatMap prdC x0.preds)),(68,i6 (↑x0.preds.length:Int)),(69,i6 (↑i2:Int)),(70,bo true),(71,AV.eaddr (st a::lro b.length 1 (List.map st b)::r71)),(72,AV.agg [st a,lro b.length 1 (List.map st b)]),(73,AV.eaddr [lro b.length 1 (List.map st b)]),(74,lro b.length 1 (List.map st b)),(75,i6 (↑b.length:Int)),(76,bo false),(77,bo false),(78,AV.eaddr [lro b.length 1 (List.map st b)]),(79,lro b.length 1 (List.map st b)),(80,i6 (↑b.length:Int)),(81,bo true),(82,bo true)] [Ob.cells [lro x0.sorts.length 1 (List.map st x0.sorts),lro x0.consts.length 2 (List.flatMap cstC x0.consts),lro x0.preds.length 2 (List.flatMap prdC x0.preds)]]
theorem f15_r2_tft (x0:Sgn)(X:Ext)(call:Caller)(lf:Nat)(l12:List ByteArray)(i0 i1 i2:Nat)(a:ByteArray)(c:List ByteArray)(r71:List AV)
 (h0:decide ((↑i2:Int)<(↑x0.preds.length:Int))=true)
 (h1:kiq 24 [Ob.cells [lro x0.sorts.length 1 (List.map st x0.sorts),lro x0.consts.length 2 (List.flatMap cstC x0.consts),lro x0.preds.length 2 (List.flatMap prdC x0.preds)]] (lro x0.preds.length 2 (List.flatMap prdC x0.preds)) (i6 (↑i2:Int)) (st a::lro c.length 1 (List.map st c)::r71))
 (h2:decide ((↑c.length:Int)<1)=false)
 (h3:decide ((↑c.length:Int)>3)=true):vexec Tryd.prog X call lf 0 fg15 (loopN Tryd.f15 2) (f15_F2 x0 l12 i0 i1 i2)=some (Ex.ret,(f15_S11 x0 l12 i0 i1 i2 a c r71)) :=
  around_sound (ans:=[(1,Ans.b true),(4,Ans.v (AV.eaddr (st a::lro c.length 1 (List.map st c)::r71))),(10,Ans.b false),(19,Ans.b true)]) (by kernel_rfl) (ai h0 (ai h1 (ai h2 (ai h3 trivial))))
theorem f15_pflflfltft (x0:Sgn)(X:Ext)(call:Caller)(lf:Nat)(l12:List ByteArray)(i0 i1 i2:Nat)(a:ByteArray)(c:List ByteArray)(r71:List AV)
 (h0:cvq X call false 33 [AV.agg [lro x0.sorts.length 1 (List.map st x0.sorts),lro x0.consts.length 2 (List.flatMap cstC x0.consts),lro x0.preds.length 2 (List.flatMap prdC x0.preds)]] [Ob.cells [lro x0.sorts.length 1 (List.map st x0.sorts),lro x0.consts.length 2 (List.flatMap cstC x0.consts),lro x0.preds.length 2 (List.flatMap prdC x0.preds)]] (lro l12.length 1 (List.map st l12)))
 (h1:decide ((↑l12.length:Int)>256)=false)
 (h2:vexec Tryd.prog X call lf 0 fg15 (Code.loop (loopN Tryd.f15 0)) (f15_S0 x0 l12)=some (Ex.exit 0,(f15_S5 x0 l12 i0)))
 (h3:vexec Tryd.prog X call lf 0 fg15 (Code.loop (loopN Tryd.f15 1)) (f15_S6 x0 l12 i0)=some (Ex.exit 2,(f15_S8 x0 l12 i0 i1)))
 (h4:vexec Tryd.prog X call lf 0 fg15 (Code.loop (loopN Tryd.f15 2)) (f15_S9 x0 l12 i0 i1)=some (Ex.ret,(f15_S11 x0 l12 i0 i1 i2 a c r71))):vbody Tryd.prog X call lf fg15 Tryd.f15 (codeOf Tryd.f15) [AV.agg (sgnC x0)] [] 0=some (bo false,[Ob.cells [lro x0.sorts.length 1 (List.map st x0.sorts),lro x0.consts.length 2 (List.flatMap cstC x0.consts),lro x0.preds.length 2 (List.flatMap prdC x0.preds)]]) :=
  along_sound (ans:=[(5,Ans.v (lro l12.length 1 (List.map st l12))),(10,Ans.b false),(14,Ans.l (Ex.exit 0) (f15_S5 x0 l12 i0)),(20,Ans.l (Ex.exit 2) (f15_S8 x0 l12 i0 i1)),(26,Ans.l Ex.ret (f15_S11 x0 l12 i0 i1 i2 a c r71))]) (by kernel_rfl) (ai h0 (ai h1 (ai h2 (ai h3 (ai h4 trivial)))))
def f15_F3 (x0:Sgn)(l12:List ByteArray)(i0 i1 i2:Nat)(a:ByteArray)(b:List ByteArray)(r71:List AV)(i3:Nat):St :=
  stOf 96 [2,6,10,20,21,22,23,24,25,26,27,28,29,30,31,32,33,34,35,36,37,38,39,40,41,42,43,44,45,46,47,48,49,50,51,57,58,59,60,61,62,63,64,65,87,88,89,90,91,92,93,94,95] [(0,AV.agg [lro x0.sorts.length 1 (List.map st x0.sorts),lro x0.consts.length 2 (List.flatMap cstC x0.consts),lro x0.preds.length 2 (List.flatMap prdC x0.preds)]),(1,AV.ref 0 0),(3,lro l12.length 1 (List.map st l12)),(4,i6 (↑i0:Int)),(8,AV.eaddr [st a,lro b.length 1 (List.map st b)]),(11,AV.agg [lro x0.sorts.length 1 (List.map st x0.sorts),lro x0.consts.length 2 (List.flatMap cstC x0.consts),lro x0.preds.length 2 (List.flatMap prdC x0.preds)]),(12,lro l12.length 1 (List.map st l12)),(13,lro l12.length 1 (List.map st l12)),(14,i6 (↑l12.length:Int)),(15,bo false),(16,i6 (↑i0:Int)),(17,lro l12.length 1 (List.map st l12)),(18,i6 (↑l12.length:Int)),(19,bo false),(52,AV.ref 0 1),(53,lro x0.consts.length 2 (List.flatMap cstC x0.consts)),(54,i6 (↑x0.consts.length:Int)),(55,i6 (↑i1:Int)),(56,bo false),(66,AV.ref 0 2),(67,lro x0.preds.length 2 (List.flatMap prdC x0.preds)),(68,i6 (↑x0.preds.length:Int)),(69,i6 (↑i2:Int)),(70,bo true),(71,AV.eaddr (st a::lro b.length 1 (List.map st b)::r71)),(72,AV.agg [st a,lro b.length 1 (List.map st b)]),(73,AV.eaddr [lro b.length 1 (List.map st b)]),(74,lro b.length 1 (List.map st b)),(75,i6 (↑b.length:Int)),(76,bo false),(77,bo false),(78,AV.eaddr [lro b.length 1 (List.map st b)]),(79,lro b.length 1 (List.map st b)),(80,i6 (↑b.length:Int)),(81,bo false),(82,bo false),(83,AV.eaddr [lro b.length 1 (List.map st b)]),(84,lro b.length 1 (List.map st b)),(85,i6 (↑b.length:Int)),(86,i6 (↑i3:Int))] [Ob.cells [lro x0.sorts.length 1 (List.map st x0.sorts),lro x0.consts.length 2 (List.flatMap cstC x0.consts),lro x0.preds.length 2 (List.flatMap prdC x0.preds)]]
def f15_S12 (x0:Sgn)(l12:List ByteArray)(i0 i1 i2:Nat)(a:ByteArray)(b:List ByteArray)(r71:List AV):St :=
  stOf 96 [2,6,10,20,21,22,23,24,25,26,27,28,29,30,31,32,33,34,35,36,37,38,39,40,41,42,43,44,45,46,47,48,49,50,51,57,58,59,60,61,62,63,64,65,87,88,89,90,91,92,93,94,95] [(0,AV.agg [lro x0.sorts.length 1 (List.map st x0.sorts),lro x0.consts.length 2 (List.flatMap cstC x0.consts),lro x0.preds.length 2 (List.flatMap prdC x0.preds)]),(1,AV.ref 0 0),(3,lro l12.length 1 (List.map st l12)),(4,i6 (↑i0:Int)),(8,AV.eaddr [st a,lro b.length 1 (List.map st b)]),(11,AV.agg [lro x0.sorts.length 1 (List.map st x0.sorts),lro x0.consts.length 2 (List.flatMap cstC x0.consts),lro x0.preds.length 2 (List.flatMap prdC x0.preds)]),(12,lro l12.length 1 (List.map st l12)),(13,lro l12.length 1 (List.map st l12)),(14,i6 (↑l12.length:Int)),(15,bo false),(16,i6 (↑i0:Int)),(17,lro l12.length 1 (List.map st l12)),(18,i6 (↑l12.length:Int)),(19,bo false),(52,AV.ref 0 1),(53,lro x0.consts.length 2 (List.flatMap cstC x0.consts)),(54,i6 (↑x0.consts.length:Int)),(55,i6 (↑i1:Int)),(56,bo false),(66,AV.ref 0 2),(67,lro x0.preds.length 2 (List.flatMap prdC x0.preds)),(68,i6 (↑x0.preds.length:Int)),(69,i6 (↑i2:Int)),(70,bo true),(71,AV.eaddr (st a::lro b.length 1 (List.map st b)::r71)),(72,AV.agg [st a,lro b.length 1 (List.map st b)]),(73,AV.eaddr [lro b.length 1 (List.map st b)]),(74,lro b.length 1 (List.map st b)),(75,i6 (↑b.length:Int)),(76,bo false),(77,bo false),(78,AV.eaddr [lro b.length 1 (List.map st b)]),(79,lro b.length 1 (List.map st b)),(80,i6 (↑b.length:Int)),(81,bo false),(82,bo false),(83,AV.eaddr [lro b.length 1 (List.map st b)]),(84,lro b.length 1 (List.map st b)),(85,i6 (↑b.length:Int)),(86,i6 0)] [Ob.cells [lro x0.sorts.length 1 (List.map st x0.sorts),lro x0.consts.length 2 (List.flatMap cstC x0.consts),lro x0.preds.length 2 (List.flatMap prdC x0.preds)]]
abbrev f15_D3:List Nat:=[94,2,93,92,91,90,10,89,88,87]
theorem f15_L3 (x0:Sgn)(l12:List ByteArray)(i0 i1 i2:Nat)(a:ByteArray)(b:List ByteArray)(r71:List AV)(X:Ext)(call:Caller)(lf n:Nat)(x:Ex) (S' : St)
 (hn:n<lf)
 (hs:∀ j,j<n→∃ Sx,vexec Tryd.prog X call lf 0 fg15 (loopN Tryd.f15 3) (f15_F3 x0 l12 i0 i1 i2 a b r71 j)=some (Ex.normal,Sx)∧forget f15_D3 Sx=(f15_F3 x0 l12 i0 i1 i2 a b r71 (j + 1)))
 (he:vexec Tryd.prog X call lf 0 fg15 (loopN Tryd.f15 3) (f15_F3 x0 l12 i0 i1 i2 a b r71 n)=some (x,S'))
 (hx:x ≠ Ex.normal):vexec Tryd.prog X call lf 0 fg15 (Go.Code.loop (loopN Tryd.f15 3)) (f15_S12 x0 l12 i0 i1 i2 a b r71)=some (x,S') :=
  loop_runK (by kernel_rfl) (fun j=>(f15_F3 x0 l12 i0 i1 i2 a b r71 j)) n hn (by show forget f15_D3 (f15_S12 x0 l12 i0 i1 i2 a b r71)=(f15_F3 x0 l12 i0 i1 i2 a b r71 0); unfold f15_F3; show _=_; kernel_rfl) hs he hx
theorem f15_s3_tt (x0:Sgn)(X:Ext)(call:Caller)(lf:Nat)(l12:List ByteArray)(i0 i1 i2:Nat)(a:ByteArray)(c:List ByteArray)(r71:List AV)(i3:Nat)(d:ByteArray)(r88:List AV)
 (h0:decide ((↑i3:Int)<(↑c.length:Int))=true)
 (h1:kiq 22 [Ob.cells [lro x0.sorts.length 1 (List.map st x0.sorts),lro x0.consts.length 2 (List.flatMap cstC x0.consts),lro x0.preds.length 2 (List.flatMap prdC x0.preds)]] (lro c.length 1 (List.map st c)) (i6 (↑i3:Int)) (st d::r88))
 (h2:cvq X call false 24 [AV.agg [lro x0.sorts.length 1 (List.map st x0.sorts),lro x0.consts.length 2 (List.flatMap cstC x0.consts),lro x0.preds.length 2 (List.flatMap prdC x0.preds)],st d] [Ob.cells [lro x0.sorts.length 1 (List.map st x0.sorts),lro x0.consts.length 2 (List.flatMap cstC x0.consts),lro x0.preds.length 2 (List.flatMap prdC x0.preds)]] (bo true))
 (e0:(↑(i3 + 1):Int)=w6 ((↑i3:Int) + 1)):∃ Sx,vexec Tryd.prog X call lf 0 fg15 (loopN Tryd.f15 3) (f15_F3 x0 l12 i0 i1 i2 a c r71 i3)=some (Ex.normal,Sx)∧forget f15_D3 Sx=(f15_F3 x0 l12 i0 i1 i2 a c r71 (i3 + 1)) :=
  ⟨stOf 96 [2,6,20,21,22,23,24,25,26,27,28,29,30,31,32,33,34,35,36,37,38,39,40,41,42,43,44,45,46,47,48,49,50,51,57,58,59,60,61,62,63,64,65,95] [(0,AV.agg [lro x0.sorts.length 1 (List.map st x0.sorts),lro x0.consts.length 2 (List.flatMap cstC x0.consts),lro x0.preds.length 2 (List.flatMap prdC x0.preds)]),(1,AV.ref 0 0),(3,lro l12.length 1 (List.map st l12)),(4,i6 (↑i0:Int)),(8,AV.eaddr [st a,lro c.length 1 (List.map st c)]),(10,st d),(11,AV.agg [lro x0.sorts.length 1 (List.map st x0.sorts),lro x0.consts.length 2 (List.flatMap cstC x0.consts),lro x0.preds.length 2 (List.flatMap prdC x0.preds)]),(12,lro l12.length 1 (List.map st l12)),(13,lro l12.length 1 (List.map st l12)),(14,i6 (↑l12.length:Int)),(15,bo false),(16,i6 (↑i0:Int)),(17,lro l12.length 1 (List.map st l12)),(18,i6 (↑l12.length:Int)),(19,bo false),(52,AV.ref 0 1),(53,lro x0.consts.length 2 (List.flatMap cstC x0.consts)),(54,i6 (↑x0.consts.length:Int)),(55,i6 (↑i1:Int)),(56,bo false),(66,AV.ref 0 2),(67,lro x0.preds.length 2 (List.flatMap prdC x0.preds)),(68,i6 (↑x0.preds.length:Int)),(69,i6 (↑i2:Int)),(70,bo true),(71,AV.eaddr (st a::lro c.length 1 (List.map st c)::r71)),(72,AV.agg [st a,lro c.length 1 (List.map st c)]),(73,AV.eaddr [lro c.length 1 (List.map st c)]),(74,lro c.length 1 (List.map st c)),(75,i6 (↑c.length:Int)),(76,bo false),(77,bo false),(78,AV.eaddr [lro c.length 1 (List.map st c)]),(79,lro c.length 1 (List.map st c)),(80,i6 (↑c.length:Int)),(81,bo false),(82,bo false),(83,AV.eaddr [lro c.length 1 (List.map st c)]),(84,lro c.length 1 (List.map st c)),(85,i6 (↑c.length:Int)),(86,i6 (w6 ((↑i3:Int) + 1))),(87,bo true),(88,AV.eaddr (st d::r88)),(89,st d),(90,AV.agg [lro x0.sorts.length 1 (List.map st x0.sorts),lro x0.consts.length 2 (List.flatMap cstC x0.consts),lro x0.preds.length 2 (List.flatMap prdC x0.preds)]),(91,st d),(92,bo true),(93,bo false),(94,i6 (w6 ((↑i3:Int) + 1)))] [Ob.cells [lro x0.sorts.length 1 (List.map st x0.sorts),lro x0.consts.length 2 (List.flatMap cstC x0.consts),lro x0.preds.length 2 (List.flatMap prdC x0.preds)]],around_sound (ans:=[(1,Ans.b true),(4,Ans.v (AV.eaddr (st d::r88))),(10,Ans.v (bo true))]) (by kernel_rfl) (ai h0 (ai h1 (ai h2 trivial))),by unfold f15_F3; rw [e0]; show _=_; kernel_rfl⟩
def f15_S13 (x0:Sgn)(l12:List ByteArray)(i0 i1 i2:Nat)(a:ByteArray)(b:List ByteArray)(r71:List AV)(i3:Nat)(c:ByteArray)(r88:List AV):St :=
  stOf 96 [6,20,21,22,23,24,25,26,27,28,29,30,31,32,33,34,35,36,37,38,39,40,41,42,43,44,45,46,47,48,49,50,51,57,58,59,60,61,62,63,64,65,94,95] [(0,AV.agg [lro x0.sorts.length 1 (List.map st x0.sorts),lro x0.consts.length 2 (List.flatMap cstC x0.consts),lro x0.preds.length 2 (List.flatMap prdC x0.preds)]),(1,AV.ref 0 0),(2,bo false),(3,lro l12.length 1 (List.map st l12)),(4,i6 (↑i0:Int)),(8,AV.eaddr [st a,lro b.length 1 (List.map st b)]),(10,st c),(11,AV.agg [lro x0.sorts.length 1 (List.map st x0.sorts),lro x0.consts.length 2 (List.flatMap cstC x0.consts),lro x0.preds.length 2 (List.flatMap prdC x0.preds)]),(12,lro l12.length 1 (List.map st l12)),(13,lro l12.length 1 (List.map st l12)),(14,i6 (↑l12.length:Int)),(15,bo false),(16,i6 (↑i0:Int)),(17,lro l12.length 1 (List.map st l12)),(18,i6 (↑l12.length:Int)),(19,bo false),(52,AV.ref 0 1),(53,lro x0.consts.length 2 (List.flatMap cstC x0.consts)),(54,i6 (↑x0.consts.length:Int)),(55,i6 (↑i1:Int)),(56,bo false),(66,AV.ref 0 2),(67,lro x0.preds.length 2 (List.flatMap prdC x0.preds)),(68,i6 (↑x0.preds.length:Int)),(69,i6 (↑i2:Int)),(70,bo true),(71,AV.eaddr (st a::lro b.length 1 (List.map st b)::r71)),(72,AV.agg [st a,lro b.length 1 (List.map st b)]),(73,AV.eaddr [lro b.length 1 (List.map st b)]),(74,lro b.length 1 (List.map st b)),(75,i6 (↑b.length:Int)),(76,bo false),(77,bo false),(78,AV.eaddr [lro b.length 1 (List.map st b)]),(79,lro b.length 1 (List.map st b)),(80,i6 (↑b.length:Int)),(81,bo false),(82,bo false),(83,AV.eaddr [lro b.length 1 (List.map st b)]),(84,lro b.length 1 (List.map st b)),(85,i6 (↑b.length:Int)),(86,i6 (↑i3:Int)),(87,bo true),(88,AV.eaddr (st c::r88)),(89,st c),(90,AV.agg [lro x0.sorts.length 1 (List.map st x0.sorts),lro x0.consts.length 2 (List.flatMap cstC x0.consts),lro x0.preds.length 2 (List.flatMap prdC x0.preds)]),(91,st c),(92,bo false),(93,bo true)] [Ob.cells [lro x0.sorts.length 1 (List.map st x0.sorts),lro x0.consts.length 2 (List.flatMap cstC x0.consts),lro x0.preds.length 2 (List.flatMap prdC x0.preds)]]
theorem f15_r3_tf (x0:Sgn)(X:Ext)(call:Caller)(lf:Nat)(l12:List ByteArray)(i0 i1 i2:Nat)(a:ByteArray)(c:List ByteArray)(r71:List AV)(i3:Nat)(d:ByteArray)(r88:List AV)
 (h0:decide ((↑i3:Int)<(↑c.length:Int))=true)
 (h1:kiq 22 [Ob.cells [lro x0.sorts.length 1 (List.map st x0.sorts),lro x0.consts.length 2 (List.flatMap cstC x0.consts),lro x0.preds.length 2 (List.flatMap prdC x0.preds)]] (lro c.length 1 (List.map st c)) (i6 (↑i3:Int)) (st d::r88))
 (h2:cvq X call false 24 [AV.agg [lro x0.sorts.length 1 (List.map st x0.sorts),lro x0.consts.length 2 (List.flatMap cstC x0.consts),lro x0.preds.length 2 (List.flatMap prdC x0.preds)],st d] [Ob.cells [lro x0.sorts.length 1 (List.map st x0.sorts),lro x0.consts.length 2 (List.flatMap cstC x0.consts),lro x0.preds.length 2 (List.flatMap prdC x0.preds)]] (bo false)):vexec Tryd.prog X call lf 0 fg15 (loopN Tryd.f15 3) (f15_F3 x0 l12 i0 i1 i2 a c r71 i3)=some (Ex.ret,(f15_S13 x0 l12 i0 i1 i2 a c r71 i3 d r88)) :=
  around_sound (ans:=[(1,Ans.b true),(4,Ans.v (AV.eaddr (st d::r88))),(10,Ans.v (bo false))]) (by kernel_rfl) (ai h0 (ai h1 (ai h2 trivial)))
theorem f15_r2_tffltf (x0:Sgn)(X:Ext)(call:Caller)(lf:Nat)(l12:List ByteArray)(i0 i1 i2:Nat)(a:ByteArray)(c:List ByteArray)(r71:List AV)(i3:Nat)(d:ByteArray)(r88:List AV)
 (h0:decide ((↑i2:Int)<(↑x0.preds.length:Int))=true)
 (h1:kiq 24 [Ob.cells [lro x0.sorts.length 1 (List.map st x0.sorts),lro x0.consts.length 2 (List.flatMap cstC x0.consts),lro x0.preds.length 2 (List.flatMap prdC x0.preds)]] (lro x0.preds.length 2 (List.flatMap prdC x0.preds)) (i6 (↑i2:Int)) (st a::lro c.length 1 (List.map st c)::r71))
 (h2:decide ((↑c.length:Int)<1)=false)
 (h3:decide ((↑c.length:Int)>3)=false)
 (h4:vexec Tryd.prog X call lf 0 fg15 (Code.loop (loopN Tryd.f15 3)) (f15_S12 x0 l12 i0 i1 i2 a c r71)=some (Ex.ret,(f15_S13 x0 l12 i0 i1 i2 a c r71 i3 d r88))):vexec Tryd.prog X call lf 0 fg15 (loopN Tryd.f15 2) (f15_F2 x0 l12 i0 i1 i2)=some (Ex.ret,(f15_S13 x0 l12 i0 i1 i2 a c r71 i3 d r88)) :=
  around_sound (ans:=[(1,Ans.b true),(4,Ans.v (AV.eaddr (st a::lro c.length 1 (List.map st c)::r71))),(10,Ans.b false),(19,Ans.b false),(27,Ans.l Ex.ret (f15_S13 x0 l12 i0 i1 i2 a c r71 i3 d r88))]) (by kernel_rfl) (ai h0 (ai h1 (ai h2 (ai h3 (ai h4 trivial)))))
theorem f15_pflflfltffltf (x0:Sgn)(X:Ext)(call:Caller)(lf:Nat)(l12:List ByteArray)(i0 i1 i2:Nat)(a:ByteArray)(c:List ByteArray)(r71:List AV)(i3:Nat)(d:ByteArray)(r88:List AV)
 (h0:cvq X call false 33 [AV.agg [lro x0.sorts.length 1 (List.map st x0.sorts),lro x0.consts.length 2 (List.flatMap cstC x0.consts),lro x0.preds.length 2 (List.flatMap prdC x0.preds)]] [Ob.cells [lro x0.sorts.length 1 (List.map st x0.sorts),lro x0.consts.length 2 (List.flatMap cstC x0.consts),lro x0.preds.length 2 (List.flatMap prdC x0.preds)]] (lro l12.length 1 (List.map st l12)))
 (h1:decide ((↑l12.length:Int)>256)=false)
 (h2:vexec Tryd.prog X call lf 0 fg15 (Code.loop (loopN Tryd.f15 0)) (f15_S0 x0 l12)=some (Ex.exit 0,(f15_S5 x0 l12 i0)))
 (h3:vexec Tryd.prog X call lf 0 fg15 (Code.loop (loopN Tryd.f15 1)) (f15_S6 x0 l12 i0)=some (Ex.exit 2,(f15_S8 x0 l12 i0 i1)))
 (h4:vexec Tryd.prog X call lf 0 fg15 (Code.loop (loopN Tryd.f15 2)) (f15_S9 x0 l12 i0 i1)=some (Ex.ret,(f15_S13 x0 l12 i0 i1 i2 a c r71 i3 d r88))):vbody Tryd.prog X call lf fg15 Tryd.f15 (codeOf Tryd.f15) [AV.agg (sgnC x0)] [] 0=some (bo false,[Ob.cells [lro x0.sorts.length 1 (List.map st x0.sorts),lro x0.consts.length 2 (List.flatMap cstC x0.consts),lro x0.preds.length 2 (List.flatMap prdC x0.preds)]]) :=
  along_sound (ans:=[(5,Ans.v (lro l12.length 1 (List.map st l12))),(10,Ans.b false),(14,Ans.l (Ex.exit 0) (f15_S5 x0 l12 i0)),(20,Ans.l (Ex.exit 2) (f15_S8 x0 l12 i0 i1)),(26,Ans.l Ex.ret (f15_S13 x0 l12 i0 i1 i2 a c r71 i3 d r88))]) (by kernel_rfl) (ai h0 (ai h1 (ai h2 (ai h3 (ai h4 trivial)))))
def f15_S14 (x0:Sgn)(l12:List ByteArray)(i0 i1 i2:Nat)(a:ByteArray)(b:List ByteArray)(r71:List AV)(i3:Nat):St :=
  stOf 96 [2,6,10,20,21,22,23,24,25,26,27,28,29,30,31,32,33,34,35,36,37,38,39,40,41,42,43,44,45,46,47,48,49,50,51,57,58,59,60,61,62,63,64,65,88,89,90,91,92,93,94,95] [(0,AV.agg [lro x0.sorts.length 1 (List.map st x0.sorts),lro x0.consts.length 2 (List.flatMap cstC x0.consts),lro x0.preds.length 2 (List.flatMap prdC x0.preds)]),(1,AV.ref 0 0),(3,lro l12.length 1 (List.map st l12)),(4,i6 (↑i0:Int)),(8,AV.eaddr [st a,lro b.length 1 (List.map st b)]),(11,AV.agg [lro x0.sorts.length 1 (List.map st x0.sorts),lro x0.consts.length 2 (List.flatMap cstC x0.consts),lro x0.preds.length 2 (List.flatMap prdC x0.preds)]),(12,lro l12.length 1 (List.map st l12)),(13,lro l12.length 1 (List.map st l12)),(14,i6 (↑l12.length:Int)),(15,bo false),(16,i6 (↑i0:Int)),(17,lro l12.length 1 (List.map st l12)),(18,i6 (↑l12.length:Int)),(19,bo false),(52,AV.ref 0 1),(53,lro x0.consts.length 2 (List.flatMap cstC x0.consts)),(54,i6 (↑x0.consts.length:Int)),(55,i6 (↑i1:Int)),(56,bo false),(66,AV.ref 0 2),(67,lro x0.preds.length 2 (List.flatMap prdC x0.preds)),(68,i6 (↑x0.preds.length:Int)),(69,i6 (↑i2:Int)),(70,bo true),(71,AV.eaddr (st a::lro b.length 1 (List.map st b)::r71)),(72,AV.agg [st a,lro b.length 1 (List.map st b)]),(73,AV.eaddr [lro b.length 1 (List.map st b)]),(74,lro b.length 1 (List.map st b)),(75,i6 (↑b.length:Int)),(76,bo false),(77,bo false),(78,AV.eaddr [lro b.length 1 (List.map st b)]),(79,lro b.length 1 (List.map st b)),(80,i6 (↑b.length:Int)),(81,bo false),(82,bo false),(83,AV.eaddr [lro b.length 1 (List.map st b)]),(84,lro b.length 1 (List.map st b)),(85,i6 (↑b.length:Int)),(86,i6 (↑i3:Int)),(87,bo false)] [Ob.cells [lro x0.sorts.length 1 (List.map st x0.sorts),lro x0.consts.length 2 (List.flatMap cstC x0.consts),lro x0.preds.length 2 (List.flatMap prdC x0.preds)]]
theorem f15_r3_f (x0:Sgn)(X:Ext)(call:Caller)(lf:Nat)(l12:List ByteArray)(i0 i1 i2:Nat)(a:ByteArray)(c:List ByteArray)(r71:List AV)(i3:Nat)
 (h0:decide ((↑i3:Int)<(↑c.length:Int))=false):vexec Tryd.prog X call lf 0 fg15 (loopN Tryd.f15 3) (f15_F3 x0 l12 i0 i1 i2 a c r71 i3)=some (Ex.exit 6,(f15_S14 x0 l12 i0 i1 i2 a c r71 i3)) :=
  around_sound (ans:=[(1,Ans.b false)]) (by kernel_rfl) (ai h0 trivial)
theorem f15_s2_tfflf (x0:Sgn)(X:Ext)(call:Caller)(lf:Nat)(l12:List ByteArray)(i0 i1 i2:Nat)(a:ByteArray)(c:List ByteArray)(r71:List AV)(i3:Nat)
 (h0:decide ((↑i2:Int)<(↑x0.preds.length:Int))=true)
 (h1:kiq 24 [Ob.cells [lro x0.sorts.length 1 (List.map st x0.sorts),lro x0.consts.length 2 (List.flatMap cstC x0.consts),lro x0.preds.length 2 (List.flatMap prdC x0.preds)]] (lro x0.preds.length 2 (List.flatMap prdC x0.preds)) (i6 (↑i2:Int)) (st a::lro c.length 1 (List.map st c)::r71))
 (h2:decide ((↑c.length:Int)<1)=false)
 (h3:decide ((↑c.length:Int)>3)=false)
 (h4:vexec Tryd.prog X call lf 0 fg15 (Code.loop (loopN Tryd.f15 3)) (f15_S12 x0 l12 i0 i1 i2 a c r71)=some (Ex.exit 6,(f15_S14 x0 l12 i0 i1 i2 a c r71 i3)))
 (e0:(↑(i2 + 1):Int)=w6 ((↑i2:Int) + 1)):∃ Sx,vexec Tryd.prog X call lf 0 fg15 (loopN Tryd.f15 2) (f15_F2 x0 l12 i0 i1 i2)=some (Ex.normal,Sx)∧forget f15_D2 Sx=(f15_F2 x0 l12 i0 i1 (i2 + 1)) :=
  ⟨stOf 96 [2,6,10,20,21,22,23,24,25,26,27,28,29,30,31,32,33,34,35,36,37,38,39,40,41,42,43,44,45,46,47,48,49,50,51,57,58,59,60,61,62,63,64,65,88,89,90,91,92,93,94] [(0,AV.agg [lro x0.sorts.length 1 (List.map st x0.sorts),lro x0.consts.length 2 (List.flatMap cstC x0.consts),lro x0.preds.length 2 (List.flatMap prdC x0.preds)]),(1,AV.ref 0 0),(3,lro l12.length 1 (List.map st l12)),(4,i6 (↑i0:Int)),(8,AV.eaddr [st a,lro c.length 1 (List.map st c)]),(11,AV.agg [lro x0.sorts.length 1 (List.map st x0.sorts),lro x0.consts.length 2 (List.flatMap cstC x0.consts),lro x0.preds.length 2 (List.flatMap prdC x0.preds)]),(12,lro l12.length 1 (List.map st l12)),(13,lro l12.length 1 (List.map st l12)),(14,i6 (↑l12.length:Int)),(15,bo false),(16,i6 (↑i0:Int)),(17,lro l12.length 1 (List.map st l12)),(18,i6 (↑l12.length:Int)),(19,bo false),(52,AV.ref 0 1),(53,lro x0.consts.length 2 (List.flatMap cstC x0.consts)),(54,i6 (↑x0.consts.length:Int)),(55,i6 (↑i1:Int)),(56,bo false),(66,AV.ref 0 2),(67,lro x0.preds.length 2 (List.flatMap prdC x0.preds)),(68,i6 (↑x0.preds.length:Int)),(69,i6 (w6 ((↑i2:Int) + 1))),(70,bo true),(71,AV.eaddr (st a::lro c.length 1 (List.map st c)::r71)),(72,AV.agg [st a,lro c.length 1 (List.map st c)]),(73,AV.eaddr [lro c.length 1 (List.map st c)]),(74,lro c.length 1 (List.map st c)),(75,i6 (↑c.length:Int)),(76,bo false),(77,bo false),(78,AV.eaddr [lro c.length 1 (List.map st c)]),(79,lro c.length 1 (List.map st c)),(80,i6 (↑c.length:Int)),(81,bo false),(82,bo false),(83,AV.eaddr [lro c.length 1 (List.map st c)]),(84,lro c.length 1 (List.map st c)),(85,i6 (↑c.length:Int)),(86,i6 (↑i3:Int)),(87,bo false),(95,i6 (w6 ((↑i2:Int) + 1)))] [Ob.cells [lro x0.sorts.length 1 (List.map st x0.sorts),lro x0.consts.length 2 (List.flatMap cstC x0.consts),lro x0.preds.length 2 (List.flatMap prdC x0.preds)]],around_sound (ans:=[(1,Ans.b true),(4,Ans.v (AV.eaddr (st a::lro c.length 1 (List.map st c)::r71))),(10,Ans.b false),(19,Ans.b false),(27,Ans.l (Ex.exit 6) (f15_S14 x0 l12 i0 i1 i2 a c r71 i3))]) (by kernel_rfl) (ai h0 (ai h1 (ai h2 (ai h3 (ai h4 trivial))))),by unfold f15_F2; rw [e0]; show _=_; kernel_rfl⟩
def f15_S15 (x0:Sgn)(l12:List ByteArray)(i0 i1 i2:Nat):St :=
  stOf 96 [2,6,8,10,20,21,22,23,24,25,26,27,28,29,30,31,32,33,34,35,36,37,38,39,40,41,42,43,44,45,46,47,48,49,50,51,57,58,59,60,61,62,63,64,65,71,72,73,74,75,76,77,78,79,80,81,82,83,84,85,86,87,88,89,90,91,92,93,94,95] [(0,AV.agg [lro x0.sorts.length 1 (List.map st x0.sorts),lro x0.consts.length 2 (List.flatMap cstC x0.consts),lro x0.preds.length 2 (List.flatMap prdC x0.preds)]),(1,AV.ref 0 0),(3,lro l12.length 1 (List.map st l12)),(4,i6 (↑i0:Int)),(11,AV.agg [lro x0.sorts.length 1 (List.map st x0.sorts),lro x0.consts.length 2 (List.flatMap cstC x0.consts),lro x0.preds.length 2 (List.flatMap prdC x0.preds)]),(12,lro l12.length 1 (List.map st l12)),(13,lro l12.length 1 (List.map st l12)),(14,i6 (↑l12.length:Int)),(15,bo false),(16,i6 (↑i0:Int)),(17,lro l12.length 1 (List.map st l12)),(18,i6 (↑l12.length:Int)),(19,bo false),(52,AV.ref 0 1),(53,lro x0.consts.length 2 (List.flatMap cstC x0.consts)),(54,i6 (↑x0.consts.length:Int)),(55,i6 (↑i1:Int)),(56,bo false),(66,AV.ref 0 2),(67,lro x0.preds.length 2 (List.flatMap prdC x0.preds)),(68,i6 (↑x0.preds.length:Int)),(69,i6 (↑i2:Int)),(70,bo false)] [Ob.cells [lro x0.sorts.length 1 (List.map st x0.sorts),lro x0.consts.length 2 (List.flatMap cstC x0.consts),lro x0.preds.length 2 (List.flatMap prdC x0.preds)]]
theorem f15_r2_f (x0:Sgn)(X:Ext)(call:Caller)(lf:Nat)(l12:List ByteArray)(i0 i1 i2:Nat)
 (h0:decide ((↑i2:Int)<(↑x0.preds.length:Int))=false):vexec Tryd.prog X call lf 0 fg15 (loopN Tryd.f15 2) (f15_F2 x0 l12 i0 i1 i2)=some (Ex.exit 4,(f15_S15 x0 l12 i0 i1 i2)) :=
  around_sound (ans:=[(1,Ans.b false)]) (by kernel_rfl) (ai h0 trivial)
theorem f15_pflflflf (x0:Sgn)(X:Ext)(call:Caller)(lf:Nat)(l12:List ByteArray)(i0 i1 i2:Nat)
 (h0:cvq X call false 33 [AV.agg [lro x0.sorts.length 1 (List.map st x0.sorts),lro x0.consts.length 2 (List.flatMap cstC x0.consts),lro x0.preds.length 2 (List.flatMap prdC x0.preds)]] [Ob.cells [lro x0.sorts.length 1 (List.map st x0.sorts),lro x0.consts.length 2 (List.flatMap cstC x0.consts),lro x0.preds.length 2 (List.flatMap prdC x0.preds)]] (lro l12.length 1 (List.map st l12)))
 (h1:decide ((↑l12.length:Int)>256)=false)
 (h2:vexec Tryd.prog X call lf 0 fg15 (Code.loop (loopN Tryd.f15 0)) (f15_S0 x0 l12)=some (Ex.exit 0,(f15_S5 x0 l12 i0)))
 (h3:vexec Tryd.prog X call lf 0 fg15 (Code.loop (loopN Tryd.f15 1)) (f15_S6 x0 l12 i0)=some (Ex.exit 2,(f15_S8 x0 l12 i0 i1)))
 (h4:vexec Tryd.prog X call lf 0 fg15 (Code.loop (loopN Tryd.f15 2)) (f15_S9 x0 l12 i0 i1)=some (Ex.exit 4,(f15_S15 x0 l12 i0 i1 i2))):vbody Tryd.prog X call lf fg15 Tryd.f15 (codeOf Tryd.f15) [AV.agg (sgnC x0)] [] 0=some (bo true,[Ob.cells [lro x0.sorts.length 1 (List.map st x0.sorts),lro x0.consts.length 2 (List.flatMap cstC x0.consts),lro x0.preds.length 2 (List.flatMap prdC x0.preds)]]) :=
  along_sound (ans:=[(5,Ans.v (lro l12.length 1 (List.map st l12))),(10,Ans.b false),(14,Ans.l (Ex.exit 0) (f15_S5 x0 l12 i0)),(20,Ans.l (Ex.exit 2) (f15_S8 x0 l12 i0 i1)),(26,Ans.l (Ex.exit 4) (f15_S15 x0 l12 i0 i1 i2))]) (by kernel_rfl) (ai h0 (ai h1 (ai h2 (ai h3 (ai h4 trivial)))))
def f15_o0 (l12:List ByteArray)(i0:Nat)(a b:ByteArray)(b0 b1:Bool):Nat :=
  (match decide ((↑i0:Int)<(↑l12.length:Int)) with
  | true=>(match b0 with
    | true=>(match (ByteArray.toList a == ByteArray.toList (ByteArray.mk #[116,105,109,101])) with
      | true=>1
      | false=>(match (ByteArray.toList b == ByteArray.toList (ByteArray.mk #[110,117,109,98,101,114])) with
        | true=>2
        | false=>(match b1 with
          | true=>3
          | false=>0)))
    | false=>4)
  | false=>5)
theorem f15_B0 (x0:Sgn)(X:Ext)(call:Caller)(lf:Nat)(l12:List ByteArray)(i0:Nat)(a:ByteArray)(r24:List AV)(b:ByteArray)(r31:List AV)(c:ByteArray)(r38:List AV)(l45:List ByteArray)(k45:LK)(d:ByteArray)(r48:List AV)(b0 b1:Bool)
 (g0:decide ((↑i0:Int)<(↑l12.length:Int))=true→kiq 22 [Ob.cells [lro x0.sorts.length 1 (List.map st x0.sorts),lro x0.consts.length 2 (List.flatMap cstC x0.consts),lro x0.preds.length 2 (List.flatMap prdC x0.preds)]] (lro l12.length 1 (List.map st l12)) (i6 (↑i0:Int)) (st a::r24))
 (g1:decide ((↑i0:Int)<(↑l12.length:Int))=true→cvq X call true 34 [st a] [Ob.cells [lro x0.sorts.length 1 (List.map st x0.sorts),lro x0.consts.length 2 (List.flatMap cstC x0.consts),lro x0.preds.length 2 (List.flatMap prdC x0.preds)]] (bo b0))
 (g2:decide ((↑i0:Int)<(↑l12.length:Int))=true→b0=true→kiq 22 [Ob.cells [lro x0.sorts.length 1 (List.map st x0.sorts),lro x0.consts.length 2 (List.flatMap cstC x0.consts),lro x0.preds.length 2 (List.flatMap prdC x0.preds)]] (lro l12.length 1 (List.map st l12)) (i6 (↑i0:Int)) (st b::r31))
 (g3:decide ((↑i0:Int)<(↑l12.length:Int))=true→b0=true→(ByteArray.toList b == ByteArray.toList (ByteArray.mk #[116,105,109,101]))=false→kiq 22 [Ob.cells [lro x0.sorts.length 1 (List.map st x0.sorts),lro x0.consts.length 2 (List.flatMap cstC x0.consts),lro x0.preds.length 2 (List.flatMap prdC x0.preds)]] (lro l12.length 1 (List.map st l12)) (i6 (↑i0:Int)) (st c::r38))
 (g4:decide ((↑i0:Int)<(↑l12.length:Int))=true→b0=true→(ByteArray.toList b == ByteArray.toList (ByteArray.mk #[116,105,109,101]))=false→(ByteArray.toList c == ByteArray.toList (ByteArray.mk #[110,117,109,98,101,114]))=false→slc Tryd.prog 22 [Ob.cells [lro x0.sorts.length 1 (List.map st x0.sorts),lro x0.consts.length 2 (List.flatMap cstC x0.consts),lro x0.preds.length 2 (List.flatMap prdC x0.preds)]] true 0 (lro l12.length 1 (List.map st l12)) none (some (i6 (↑i0:Int))) none=some (AV.list k45 l45.length 1 (List.map st l45),[Ob.cells [lro x0.sorts.length 1 (List.map st x0.sorts),lro x0.consts.length 2 (List.flatMap cstC x0.consts),lro x0.preds.length 2 (List.flatMap prdC x0.preds)]]))
 (g5:decide ((↑i0:Int)<(↑l12.length:Int))=true→b0=true→(ByteArray.toList b == ByteArray.toList (ByteArray.mk #[116,105,109,101]))=false→(ByteArray.toList c == ByteArray.toList (ByteArray.mk #[110,117,109,98,101,114]))=false→kiq 22 [Ob.cells [lro x0.sorts.length 1 (List.map st x0.sorts),lro x0.consts.length 2 (List.flatMap cstC x0.consts),lro x0.preds.length 2 (List.flatMap prdC x0.preds)]] (lro l12.length 1 (List.map st l12)) (i6 (↑i0:Int)) (st d::r48))
 (g6:decide ((↑i0:Int)<(↑l12.length:Int))=true→b0=true→(ByteArray.toList b == ByteArray.toList (ByteArray.mk #[116,105,109,101]))=false→(ByteArray.toList c == ByteArray.toList (ByteArray.mk #[110,117,109,98,101,114]))=false→cvq X call true 35 [AV.list k45 l45.length 1 (List.map st l45),st d] [Ob.cells [lro x0.sorts.length 1 (List.map st x0.sorts),lro x0.consts.length 2 (List.flatMap cstC x0.consts),lro x0.preds.length 2 (List.flatMap prdC x0.preds)]] (bo b1))
 (e0:decide ((↑i0:Int)<(↑l12.length:Int))=true→(↑(i0 + 1):Int)=w6 ((↑i0:Int) + 1)) :
    (f15_o0 l12 i0 b c b0 b1=0→∃ Sx,vexec Tryd.prog X call lf 0 fg15 (loopN Tryd.f15 0) (f15_F0 x0 l12 i0)=some (Ex.normal,Sx)∧forget f15_D0 Sx=(f15_F0 x0 l12 (i0 + 1)))∧(f15_o0 l12 i0 b c b0 b1=1→vexec Tryd.prog X call lf 0 fg15 (loopN Tryd.f15 0) (f15_F0 x0 l12 i0)=some (Ex.ret,(f15_S1 x0 l12 i0 a r24 b r31)))∧(f15_o0 l12 i0 b c b0 b1=2→vexec Tryd.prog X call lf 0 fg15 (loopN Tryd.f15 0) (f15_F0 x0 l12 i0)=some (Ex.ret,(f15_S2 x0 l12 i0 a r24 b r31 c r38)))∧(f15_o0 l12 i0 b c b0 b1=3→vexec Tryd.prog X call lf 0 fg15 (loopN Tryd.f15 0) (f15_F0 x0 l12 i0)=some (Ex.ret,(f15_S3 x0 l12 i0 a r24 b r31 c r38 l45 k45 d r48)))∧(f15_o0 l12 i0 b c b0 b1=4→vexec Tryd.prog X call lf 0 fg15 (loopN Tryd.f15 0) (f15_F0 x0 l12 i0)=some (Ex.ret,(f15_S4 x0 l12 i0 a r24)))∧(f15_o0 l12 i0 b c b0 b1=5→vexec Tryd.prog X call lf 0 fg15 (loopN Tryd.f15 0) (f15_F0 x0 l12 i0)=some (Ex.exit 0,(f15_S5 x0 l12 i0))):=by
  unfold f15_o0
  cases c0:decide ((↑i0:Int)<(↑l12.length:Int)) with
  | true =>
    cases c1:b0 with
    | true =>
      cases c2:(ByteArray.toList b == ByteArray.toList (ByteArray.mk #[116,105,109,101])) with
      | true =>
        exact ⟨fun h=>nq h,fun _=>f15_r0_ttt x0 X call lf l12 i0 a r24 b r31 c0 (g0 c0) (by have:=(g1 c0); rw [c1] at this; exact this) (g2 c0 c1) c2,fun h=>nq h,fun h=>nq h,fun h=>nq h,fun h=>nq h⟩
      | false =>
        cases c3:(ByteArray.toList c == ByteArray.toList (ByteArray.mk #[110,117,109,98,101,114])) with
        | true =>
          exact ⟨fun h=>nq h,fun h=>nq h,fun _=>f15_r0_ttft x0 X call lf l12 i0 a r24 b r31 c r38 c0 (g0 c0) (by have:=(g1 c0); rw [c1] at this; exact this) (g2 c0 c1) c2 (g3 c0 c1 c2) c3,fun h=>nq h,fun h=>nq h,fun h=>nq h⟩
        | false =>
          cases c4:b1 with
          | true =>
            exact ⟨fun h=>nq h,fun h=>nq h,fun h=>nq h,fun _=>f15_r0_ttfft x0 X call lf l12 i0 a r24 b r31 c r38 l45 k45 d r48 c0 (g0 c0) (by have:=(g1 c0); rw [c1] at this; exact this) (g2 c0 c1) c2 (g3 c0 c1 c2) c3 (g4 c0 c1 c2 c3) (g5 c0 c1 c2 c3) (by have:=(g6 c0 c1 c2 c3); rw [c4] at this; exact this),fun h=>nq h,fun h=>nq h⟩
          | false =>
            exact ⟨fun _=>f15_s0_ttfff x0 X call lf l12 i0 a r24 b r31 c r38 l45 k45 d r48 c0 (g0 c0) (by have:=(g1 c0); rw [c1] at this; exact this) (g2 c0 c1) c2 (g3 c0 c1 c2) c3 (g4 c0 c1 c2 c3) (g5 c0 c1 c2 c3) (by have:=(g6 c0 c1 c2 c3); rw [c4] at this; exact this) (e0 c0),fun h=>nq h,fun h=>nq h,fun h=>nq h,fun h=>nq h,fun h=>nq h⟩
    | false =>
      exact ⟨fun h=>nq h,fun h=>nq h,fun h=>nq h,fun h=>nq h,fun _=>f15_r0_tf x0 X call lf l12 i0 a r24 c0 (g0 c0) (by have:=(g1 c0); rw [c1] at this; exact this),fun h=>nq h⟩
  | false =>
    exact ⟨fun h=>nq h,fun h=>nq h,fun h=>nq h,fun h=>nq h,fun h=>nq h,fun _=>f15_r0_f x0 X call lf l12 i0 c0⟩
def f15_o1 (x0:Sgn)(i1:Nat)(b0:Bool):Nat :=
  (match decide ((↑i1:Int)<(↑x0.consts.length:Int)) with
  | true=>(match b0 with
    | true=>0
    | false=>1)
  | false=>2)
theorem f15_B1 (x0:Sgn)(X:Ext)(call:Caller)(lf:Nat)(l12:List ByteArray)(i0 i1:Nat)(a b:ByteArray)(r57:List AV)(b0:Bool)
 (g0:decide ((↑i1:Int)<(↑x0.consts.length:Int))=true→kiq 23 [Ob.cells [lro x0.sorts.length 1 (List.map st x0.sorts),lro x0.consts.length 2 (List.flatMap cstC x0.consts),lro x0.preds.length 2 (List.flatMap prdC x0.preds)]] (lro x0.consts.length 2 (List.flatMap cstC x0.consts)) (i6 (↑i1:Int)) (st a::st b::r57))
 (g1:decide ((↑i1:Int)<(↑x0.consts.length:Int))=true→cvq X call false 35 [lro x0.sorts.length 1 (List.map st x0.sorts),st b] [Ob.cells [lro x0.sorts.length 1 (List.map st x0.sorts),lro x0.consts.length 2 (List.flatMap cstC x0.consts),lro x0.preds.length 2 (List.flatMap prdC x0.preds)]] (bo b0))
 (e0:decide ((↑i1:Int)<(↑x0.consts.length:Int))=true→(↑(i1 + 1):Int)=w6 ((↑i1:Int) + 1)) :
    (f15_o1 x0 i1 b0=0→∃ Sx,vexec Tryd.prog X call lf 0 fg15 (loopN Tryd.f15 1) (f15_F1 x0 l12 i0 i1)=some (Ex.normal,Sx)∧forget f15_D1 Sx=(f15_F1 x0 l12 i0 (i1 + 1)))∧(f15_o1 x0 i1 b0=1→vexec Tryd.prog X call lf 0 fg15 (loopN Tryd.f15 1) (f15_F1 x0 l12 i0 i1)=some (Ex.ret,(f15_S7 x0 l12 i0 i1 a b r57)))∧(f15_o1 x0 i1 b0=2→vexec Tryd.prog X call lf 0 fg15 (loopN Tryd.f15 1) (f15_F1 x0 l12 i0 i1)=some (Ex.exit 2,(f15_S8 x0 l12 i0 i1))):=by
  unfold f15_o1
  cases c0:decide ((↑i1:Int)<(↑x0.consts.length:Int)) with
  | true =>
    cases c1:b0 with
    | true =>
      exact ⟨fun _=>f15_s1_tt x0 X call lf l12 i0 i1 a b r57 c0 (g0 c0) (by have:=(g1 c0); rw [c1] at this; exact this) (e0 c0),fun h=>nq h,fun h=>nq h⟩
    | false =>
      exact ⟨fun h=>nq h,fun _=>f15_r1_tf x0 X call lf l12 i0 i1 a b r57 c0 (g0 c0) (by have:=(g1 c0); rw [c1] at this; exact this),fun h=>nq h⟩
  | false =>
    exact ⟨fun h=>nq h,fun h=>nq h,fun _=>f15_r1_f x0 X call lf l12 i0 i1 c0⟩
def f15_o3 (a:List ByteArray)(i3:Nat)(b0:Bool):Nat :=
  (match decide ((↑i3:Int)<(↑a.length:Int)) with
  | true=>(match b0 with
    | true=>0
    | false=>1)
  | false=>2)
theorem f15_B3 (x0:Sgn)(X:Ext)(call:Caller)(lf:Nat)(l12:List ByteArray)(i0 i1 i2:Nat)(a:ByteArray)(b:List ByteArray)(r71:List AV)(i3:Nat)(c:ByteArray)(r88:List AV)(b0:Bool)
 (g0:decide ((↑i3:Int)<(↑b.length:Int))=true→kiq 22 [Ob.cells [lro x0.sorts.length 1 (List.map st x0.sorts),lro x0.consts.length 2 (List.flatMap cstC x0.consts),lro x0.preds.length 2 (List.flatMap prdC x0.preds)]] (lro b.length 1 (List.map st b)) (i6 (↑i3:Int)) (st c::r88))
 (g1:decide ((↑i3:Int)<(↑b.length:Int))=true→cvq X call false 24 [AV.agg [lro x0.sorts.length 1 (List.map st x0.sorts),lro x0.consts.length 2 (List.flatMap cstC x0.consts),lro x0.preds.length 2 (List.flatMap prdC x0.preds)],st c] [Ob.cells [lro x0.sorts.length 1 (List.map st x0.sorts),lro x0.consts.length 2 (List.flatMap cstC x0.consts),lro x0.preds.length 2 (List.flatMap prdC x0.preds)]] (bo b0))
 (e0:decide ((↑i3:Int)<(↑b.length:Int))=true→(↑(i3 + 1):Int)=w6 ((↑i3:Int) + 1)) :
    (f15_o3 b i3 b0=0→∃ Sx,vexec Tryd.prog X call lf 0 fg15 (loopN Tryd.f15 3) (f15_F3 x0 l12 i0 i1 i2 a b r71 i3)=some (Ex.normal,Sx)∧forget f15_D3 Sx=(f15_F3 x0 l12 i0 i1 i2 a b r71 (i3 + 1)))∧(f15_o3 b i3 b0=1→vexec Tryd.prog X call lf 0 fg15 (loopN Tryd.f15 3) (f15_F3 x0 l12 i0 i1 i2 a b r71 i3)=some (Ex.ret,(f15_S13 x0 l12 i0 i1 i2 a b r71 i3 c r88)))∧(f15_o3 b i3 b0=2→vexec Tryd.prog X call lf 0 fg15 (loopN Tryd.f15 3) (f15_F3 x0 l12 i0 i1 i2 a b r71 i3)=some (Ex.exit 6,(f15_S14 x0 l12 i0 i1 i2 a b r71 i3))):=by
  unfold f15_o3
  cases c0:decide ((↑i3:Int)<(↑b.length:Int)) with
  | true =>
    cases c1:b0 with
    | true =>
      exact ⟨fun _=>f15_s3_tt x0 X call lf l12 i0 i1 i2 a b r71 i3 c r88 c0 (g0 c0) (by have:=(g1 c0); rw [c1] at this; exact this) (e0 c0),fun h=>nq h,fun h=>nq h⟩
    | false =>
      exact ⟨fun h=>nq h,fun _=>f15_r3_tf x0 X call lf l12 i0 i1 i2 a b r71 i3 c r88 c0 (g0 c0) (by have:=(g1 c0); rw [c1] at this; exact this),fun h=>nq h⟩
  | false =>
    exact ⟨fun h=>nq h,fun h=>nq h,fun _=>f15_r3_f x0 X call lf l12 i0 i1 i2 a b r71 i3 c0⟩
end Go.Proofs.Sig
end
/- Signature: Clone, Clip. -/
section
open Go Go.Vm Go.Proofs
namespace Go.Proofs.Sig
theorem appended_strs [Fixed] {σ:List Ob} (F:List ByteArray):appended σ 1 (strsV F)=some (F.length,F.flatMap fun s=>[AV.str s]):=by
  have h : appended σ 1 (.list .ro F.length 1 (F.flatMap fun s => [AV.str s])) = some (F.length, F.flatMap fun s => [AV.str s]) := by
    simp only [appended]
    by_cases h:F.length=0
    · have : F = [] := List.eq_nil_of_length_eq_zero h
      subst this; rfl
    · rw [if_neg h,if_pos trivial]
  rw [strs_flat] at h ⊢
  exact h
def opsF (fn:Func) (k:Nat):Array Oper:=opsR (regN fn k)
def cloneC (fn:Func):Code := .seq (.region 0 (opsF fn 0) false) (.seq (.seq (.region 1 (opsF fn 1) false) (.cond (.tmp 4) (.seq (.region 2 (opsF fn 2) false) .ret) .skip)) (.seq (.region 3 (opsF fn 3) false) .ret))
def preF (fn:Func) (k n:Nat):List Oper:=(opsF fn k).toList.take n
def opF (fn:Func) (k n:Nat):Oper:=((opsF fn k).toList[n]?).getD default
theorem body48:Tryd.f48.body=some (cloneC Tryd.f48):=by kernel_rfl
section
variable {X:Ext} {call:Caller} {lf:Nat}
def S48 (F:List ByteArray):St := { tmps:=[strsV F] ++ List.replicate 7 .undef,st:=[] }
theorem r48_0 (F:List ByteArray):vexec Tryd.prog X call lf 0 noFg (.region 0 (opsF Tryd.f48 0) false) (S48 F)=some (.normal,{ tmps:=[strsV F,.undef,.list .nil 0 0 [],.undef,.undef,.undef,.undef,.undef],st:=[] }):=by kernel_rfl
theorem r48_2 (F:List ByteArray) (b:Bool):vexec Tryd.prog X call lf 0 noFg (.seq (.region 2 (opsF Tryd.f48 2) false) .ret) { tmps:=[strsV F,.undef,.list .nil 0 0 [],strsV F,.bool b,.undef,.undef,.undef],st:=[] }=some (.ret,{ tmps:=[strsV F,.undef,.list .nil 0 0 [],strsV F,.bool b,.undef,.undef,.undef],st:=[] }):=by kernel_rfl
theorem r48_3 (F:List ByteArray) (b:Bool) (v:AV) (σ:List Ob) (h:appendv Tryd.prog 22 [] 0 (.list .clip 0 1 []) (strsV F)=some (v,σ)):vexec Tryd.prog X call lf 0 noFg (.seq (.region 3 (opsF Tryd.f48 3) false) .ret) { tmps:=[strsV F,.undef,.list .nil 0 0 [],strsV F,.bool b,.undef,.undef,.undef],st:=[] }=some (.ret,{ tmps:=[strsV F,.undef,v,strsV F,.bool b,.list .clip 0 1 [],strsV F,v],st:=σ }) :=
  around_sound (ans:=[(3,Ans.c v σ)]) (by kernel_rfl) (And.intro h trivial)
theorem split48:(opsF Tryd.f48 1).toList=preF Tryd.f48 1 1 ++ [opF Tryd.f48 1 1]:=by kernel_rfl
end
section
variable [Fixed] {X:Ext}
/-- slices.Clone of ByteArray. -/
theorem clone48 (hX:ExtOk Tryd.prog X) {F:List ByteArray} (hF:F.length * 17 ≤ big):CallAt Tryd.prog 48 [strsV F] [] 0 (aSs.enc F) []:=by
  have hC:CallOk Tryd.prog (callerOf fun _ _=>none):=callerOf_ok SpecOk.none'
  have hbig:F.length * 17 ≤ 140737488355328:=hF
  refine call_rel (B:=aSs) (fn:=Tryd.f48) (c:=cloneC Tryd.f48) (R:=fun x T=>(x = .normal ∨ x = .ret)∧∃ r σ',vend Tryd.prog Tryd.f48 [] 0 T=some (r,σ')∧aSs.dec r=some F) Tryd.func48 body48 (of_decide_eq_false (by kernel_rfl)) ?_ (fun x T h=>h)
  refine SR.seq (SR.exec hX hC (lf:=0) (fg:=noFg) (by kernel_rfl) (r48_0 F)) (fun T hT => ?_) (fun x T hx h=>absurd h.1 hx)
  obtain ⟨-,rfl⟩:=hT
  refine SR.seq (R1:=fun x T=>(x = .ret∧∃ b,F=[]∧T = { tmps:=[strsV F,.undef,.list .nil 0 0 [],strsV F,.bool b,.undef,.undef,.undef],st:=[] }) ∨ (x = .normal∧∃ b,T = { tmps:=[strsV F,.undef,.list .nil 0 0 [],strsV F,.bool b,.undef,.undef,.undef],st:=[] })) ?_ (fun T hT => ?_) (fun x T hx h => ?_)
  · refine SR.seq (SR.nilTest hX hC (pre := preF Tryd.f48 1 1) (o := opF Tryd.f48 1 1) (t := 22) (e := 9) (x := .tmp 3) (nb := 22) (d := 4) (n := F.length) (sz := 1) (k := .ro) (cs := F.map .str)
      (S1 := { tmps:=[strsV F,.undef,.list .nil 0 0 [],strsV F,.undef,.undef,.undef,.undef],st:=[] }) split48 (by kernel_rfl) (by kernel_rfl) (by kernel_rfl) (by kernel_rfl) Tryd.underlying22 (by kernel_rfl)) (fun T hT => ?_) (fun x T hx h=>absurd h.1 hx)
    obtain ⟨-,b,hb,rfl⟩:=hT
    refine SR.cond (b:=b) (by rfl) ?_
    cases b with
    | true =>
      refine (SR.exec hX hC (lf:=0) (fg:=noFg) (by kernel_rfl) (r48_2 F true)).mono fun x T h => ?_
      exact .inl ⟨h.1,true,List.eq_nil_of_length_eq_zero (hb rfl),h.2⟩
    | false=>exact SR.skip (.inr ⟨rfl,false,rfl⟩)
  · rcases hT with ⟨h, _⟩ | ⟨-, b, rfl⟩
    · cases h
    · have hg := gr_step (σ0 := []) (l := []) (m := F) (lk := .clip) (sz0 := 1) rowS (.inr rfl) (x := strsV F) (appended_strs F) (by simpa using hF)
      obtain ⟨r,σ',h1,h2,-⟩:=gr_end (A:=Cod.str) (lk := .clip) (sz0:=1) (σ1:=[]) (σ0:=[]) F
      refine (SR.exec hX hC (lf:=0) (fg:=noFg) (by kernel_rfl) (r48_3 F b _ _ hg)).mono fun x T h => ?_
      obtain ⟨rfl,rfl⟩:=h
      exact ⟨.inr rfl,r,σ',h1,h2⟩
  · rcases h with ⟨rfl, b, rfl, rfl⟩ | ⟨rfl, _⟩
    · exact ⟨.inr rfl,.list .nil 0 0 [],[],rfl,rfl⟩
    · exact absurd rfl hx
end
theorem body49:Tryd.f49.body=some (cloneC Tryd.f49):=by kernel_rfl
section
variable {X:Ext} {call:Caller} {lf:Nat}
def S49 (F:List Cst):St := { tmps:=[cstsV F] ++ List.replicate 7 .undef,st:=[] }
theorem r49_0 (F:List Cst):vexec Tryd.prog X call lf 0 noFg (.region 0 (opsF Tryd.f49 0) false) (S49 F)=some (.normal,{ tmps:=[cstsV F,.undef,.list .nil 0 0 [],.undef,.undef,.undef,.undef,.undef],st:=[] }):=by kernel_rfl
theorem r49_2 (F:List Cst) (b:Bool):vexec Tryd.prog X call lf 0 noFg (.seq (.region 2 (opsF Tryd.f49 2) false) .ret) { tmps:=[cstsV F,.undef,.list .nil 0 0 [],cstsV F,.bool b,.undef,.undef,.undef],st:=[] }=some (.ret,{ tmps:=[cstsV F,.undef,.list .nil 0 0 [],cstsV F,.bool b,.undef,.undef,.undef],st:=[] }):=by kernel_rfl
theorem r49_3 (F:List Cst) (b:Bool) (v:AV) (σ:List Ob) (h:appendv Tryd.prog 23 [] 0 (.list .clip 0 2 []) (cstsV F)=some (v,σ)):vexec Tryd.prog X call lf 0 noFg (.seq (.region 3 (opsF Tryd.f49 3) false) .ret) { tmps:=[cstsV F,.undef,.list .nil 0 0 [],cstsV F,.bool b,.undef,.undef,.undef],st:=[] }=some (.ret,{ tmps:=[cstsV F,.undef,v,cstsV F,.bool b,.list .clip 0 2 [],cstsV F,v],st:=σ }) :=
  around_sound (ans:=[(3,Ans.c v σ)]) (by kernel_rfl) (And.intro h trivial)
theorem split49:(opsF Tryd.f49 1).toList=preF Tryd.f49 1 1 ++ [opF Tryd.f49 1 1]:=by kernel_rfl
end
section
variable [Fixed] {X:Ext}
/-- slices.Clone of Cst. -/
theorem clone49 (hX:ExtOk Tryd.prog X) {F:List Cst} (hF:F.length * 33 ≤ big):CallAt Tryd.prog 49 [cstsV F] [] 0 (aCs.enc F) []:=by
  have hC:CallOk Tryd.prog (callerOf fun _ _=>none):=callerOf_ok SpecOk.none'
  have hbig:F.length * 33 ≤ 140737488355328:=hF
  refine call_rel (B:=aCs) (fn:=Tryd.f49) (c:=cloneC Tryd.f49) (R:=fun x T=>(x = .normal ∨ x = .ret)∧∃ r σ',vend Tryd.prog Tryd.f49 [] 0 T=some (r,σ')∧aCs.dec r=some F) Tryd.func49 body49 (of_decide_eq_false (by kernel_rfl)) ?_ (fun x T h=>h)
  refine SR.seq (SR.exec hX hC (lf:=0) (fg:=noFg) (by kernel_rfl) (r49_0 F)) (fun T hT => ?_) (fun x T hx h=>absurd h.1 hx)
  obtain ⟨-,rfl⟩:=hT
  refine SR.seq (R1:=fun x T=>(x = .ret∧∃ b,F=[]∧T = { tmps:=[cstsV F,.undef,.list .nil 0 0 [],cstsV F,.bool b,.undef,.undef,.undef],st:=[] }) ∨ (x = .normal∧∃ b,T = { tmps:=[cstsV F,.undef,.list .nil 0 0 [],cstsV F,.bool b,.undef,.undef,.undef],st:=[] })) ?_ (fun T hT => ?_) (fun x T hx h => ?_)
  · refine SR.seq (SR.nilTest hX hC (pre := preF Tryd.f49 1 1) (o := opF Tryd.f49 1 1) (t := 23) (e := 48) (x := .tmp 3) (nb := 23) (d := 4) (n := F.length) (sz := 2) (k := .ro) (cs := F.flatMap cstC)
      (S1 := { tmps:=[cstsV F,.undef,.list .nil 0 0 [],cstsV F,.undef,.undef,.undef,.undef],st:=[] }) split49 (by kernel_rfl) (by kernel_rfl) (by kernel_rfl) (by kernel_rfl) Tryd.underlying23 (by kernel_rfl)) (fun T hT => ?_) (fun x T hx h=>absurd h.1 hx)
    obtain ⟨-,b,hb,rfl⟩:=hT
    refine SR.cond (b:=b) (by rfl) ?_
    cases b with
    | true =>
      refine (SR.exec hX hC (lf:=0) (fg:=noFg) (by kernel_rfl) (r49_2 F true)).mono fun x T h => ?_
      exact .inl ⟨h.1,true,List.eq_nil_of_length_eq_zero (hb rfl),h.2⟩
    | false=>exact SR.skip (.inr ⟨rfl,false,rfl⟩)
  · rcases hT with ⟨h, _⟩ | ⟨-, b, rfl⟩
    · cases h
    · have hg := gr_step (σ0 := []) (l := []) (m := F) (lk := .clip) (sz0 := 2) rowC (.inr rfl) (x := cstsV F) (appended_row F) (by simpa using hF)
      obtain ⟨r,σ',h1,h2,-⟩:=gr_end (A:=cC) (lk := .clip) (sz0:=2) (σ1:=[]) (σ0:=[]) F
      refine (SR.exec hX hC (lf:=0) (fg:=noFg) (by kernel_rfl) (r49_3 F b _ _ hg)).mono fun x T h => ?_
      obtain ⟨rfl,rfl⟩:=h
      exact ⟨.inr rfl,r,σ',h1,h2⟩
  · rcases h with ⟨rfl, b, rfl, rfl⟩ | ⟨rfl, _⟩
    · exact ⟨.inr rfl,.list .nil 0 0 [],[],rfl,rfl⟩
    · exact absurd rfl hx
end
end Go.Proofs.Sig
end
/- Signature: few, walked (printed) -/
section
open Go Go.Vm Go.Proofs
namespace Go.Proofs.Sig
theorem f13_pt (x0:Sgn)(X:Ext)(call:Caller)(lf:Nat)
 (h0:decide ((↑x0.sorts.length:Int)>300)=true):vbody Tryd.prog X call lf noFg Tryd.f13 (codeOf Tryd.f13) [AV.agg (sgnC x0)] [] 0=some (bo false,[Ob.cells [lro x0.sorts.length 1 (List.map st x0.sorts),lro x0.consts.length 2 (List.flatMap cstC x0.consts),lro x0.preds.length 2 (List.flatMap prdC x0.preds)]]) :=
  along_sound (ans:=[(7,Ans.b true)]) (by kernel_rfl) (ai h0 trivial)
theorem f13_pft (x0:Sgn)(X:Ext)(call:Caller)(lf:Nat)
 (h0:decide ((↑x0.sorts.length:Int)>300)=false)
 (h1:decide ((↑x0.consts.length:Int)>300)=true):vbody Tryd.prog X call lf noFg Tryd.f13 (codeOf Tryd.f13) [AV.agg (sgnC x0)] [] 0=some (bo false,[Ob.cells [lro x0.sorts.length 1 (List.map st x0.sorts),lro x0.consts.length 2 (List.flatMap cstC x0.consts),lro x0.preds.length 2 (List.flatMap prdC x0.preds)]]) :=
  along_sound (ans:=[(7,Ans.b false),(16,Ans.b true)]) (by kernel_rfl) (ai h0 (ai h1 trivial))
theorem f13_pfft (x0:Sgn)(X:Ext)(call:Caller)(lf:Nat)
 (h0:decide ((↑x0.sorts.length:Int)>300)=false)
 (h1:decide ((↑x0.consts.length:Int)>300)=false)
 (h2:decide ((↑x0.preds.length:Int)>300)=true):vbody Tryd.prog X call lf noFg Tryd.f13 (codeOf Tryd.f13) [AV.agg (sgnC x0)] [] 0=some (bo false,[Ob.cells [lro x0.sorts.length 1 (List.map st x0.sorts),lro x0.consts.length 2 (List.flatMap cstC x0.consts),lro x0.preds.length 2 (List.flatMap prdC x0.preds)]]) :=
  along_sound (ans:=[(7,Ans.b false),(16,Ans.b false),(26,Ans.b true)]) (by kernel_rfl) (ai h0 (ai h1 (ai h2 trivial)))
theorem f13_pffft (x0:Sgn)(X:Ext)(call:Caller)(lf:Nat)
 (h0:decide ((↑x0.sorts.length:Int)>300)=false)
 (h1:decide ((↑x0.consts.length:Int)>300)=false)
 (h2:decide ((↑x0.preds.length:Int)>300)=false)
 (h3:decide (w6 (w6 ((↑x0.sorts.length:Int) + (↑x0.consts.length:Int)) + (↑x0.preds.length:Int))>300)=true):vbody Tryd.prog X call lf noFg Tryd.f13 (codeOf Tryd.f13) [AV.agg (sgnC x0)] [] 0=some (bo false,[Ob.cells [lro x0.sorts.length 1 (List.map st x0.sorts),lro x0.consts.length 2 (List.flatMap cstC x0.consts),lro x0.preds.length 2 (List.flatMap prdC x0.preds)]]) :=
  along_sound (ans:=[(7,Ans.b false),(16,Ans.b false),(26,Ans.b false),(52,Ans.b true)]) (by kernel_rfl) (ai h0 (ai h1 (ai h2 (ai h3 trivial))))
def f13_F0 (x0:Sgn)(i0:Nat):St :=
  stOf 123 [2,37,38,39,40,41,42,43,44,45,46,47,48,49,50] [(0,AV.agg [lro x0.sorts.length 1 (List.map st x0.sorts),lro x0.consts.length 2 (List.flatMap cstC x0.consts),lro x0.preds.length 2 (List.flatMap prdC x0.preds)]),(1,AV.ref 0 0),(3,i6 (↑i0:Int)),(7,AV.ref 0 0),(8,lro x0.sorts.length 1 (List.map st x0.sorts)),(9,i6 (↑x0.sorts.length:Int)),(10,bo false),(11,bo false),(12,AV.ref 0 1),(13,lro x0.consts.length 2 (List.flatMap cstC x0.consts)),(14,i6 (↑x0.consts.length:Int)),(15,bo false),(16,bo false),(17,bo false),(18,AV.ref 0 2),(19,lro x0.preds.length 2 (List.flatMap prdC x0.preds)),(20,i6 (↑x0.preds.length:Int)),(21,bo false),(22,bo false),(23,bo false),(24,AV.ref 0 0),(25,lro x0.sorts.length 1 (List.map st x0.sorts)),(26,i6 (↑x0.sorts.length:Int)),(27,AV.ref 0 1),(28,lro x0.consts.length 2 (List.flatMap cstC x0.consts)),(29,i6 (↑x0.consts.length:Int)),(30,i6 (w6 ((↑x0.sorts.length:Int) + (↑x0.consts.length:Int)))),(31,AV.ref 0 2),(32,lro x0.preds.length 2 (List.flatMap prdC x0.preds)),(33,i6 (↑x0.preds.length:Int)),(34,i6 (w6 (w6 ((↑x0.sorts.length:Int) + (↑x0.consts.length:Int)) + (↑x0.preds.length:Int)))),(35,bo false),(36,bo false)] [Ob.cells [lro x0.sorts.length 1 (List.map st x0.sorts),lro x0.consts.length 2 (List.flatMap cstC x0.consts),lro x0.preds.length 2 (List.flatMap prdC x0.preds)]]
def f13_S0 (x0:Sgn):St :=
  stOf 123 [] [(0,AV.agg [lro x0.sorts.length 1 (List.map st x0.sorts),lro x0.consts.length 2 (List.flatMap cstC x0.consts),lro x0.preds.length 2 (List.flatMap prdC x0.preds)]),(1,AV.ref 0 0),(2,bo false),(3,i6 0),(7,AV.ref 0 0),(8,lro x0.sorts.length 1 (List.map st x0.sorts)),(9,i6 (↑x0.sorts.length:Int)),(10,bo false),(11,bo false),(12,AV.ref 0 1),(13,lro x0.consts.length 2 (List.flatMap cstC x0.consts)),(14,i6 (↑x0.consts.length:Int)),(15,bo false),(16,bo false),(17,bo false),(18,AV.ref 0 2),(19,lro x0.preds.length 2 (List.flatMap prdC x0.preds)),(20,i6 (↑x0.preds.length:Int)),(21,bo false),(22,bo false),(23,bo false),(24,AV.ref 0 0),(25,lro x0.sorts.length 1 (List.map st x0.sorts)),(26,i6 (↑x0.sorts.length:Int)),(27,AV.ref 0 1),(28,lro x0.consts.length 2 (List.flatMap cstC x0.consts)),(29,i6 (↑x0.consts.length:Int)),(30,i6 (w6 ((↑x0.sorts.length:Int) + (↑x0.consts.length:Int)))),(31,AV.ref 0 2),(32,lro x0.preds.length 2 (List.flatMap prdC x0.preds)),(33,i6 (↑x0.preds.length:Int)),(34,i6 (w6 (w6 ((↑x0.sorts.length:Int) + (↑x0.consts.length:Int)) + (↑x0.preds.length:Int)))),(35,bo false),(36,bo false)] [Ob.cells [lro x0.sorts.length 1 (List.map st x0.sorts),lro x0.consts.length 2 (List.flatMap cstC x0.consts),lro x0.preds.length 2 (List.flatMap prdC x0.preds)]]
abbrev f13_D0:List Nat:=[43,42,2,50,49,48,47,46,45,44,41,40,39,38,37]
theorem f13_L0 (x0:Sgn)(X:Ext)(call:Caller)(lf n:Nat)(x:Ex) (S' : St)
 (hn:n<lf)
 (hs:∀ j,j<n→∃ Sx,vexec Tryd.prog X call lf 0 noFg (loopN Tryd.f13 0) (f13_F0 x0 j)=some (Ex.normal,Sx)∧forget f13_D0 Sx=(f13_F0 x0 (j + 1)))
 (he:vexec Tryd.prog X call lf 0 noFg (loopN Tryd.f13 0) (f13_F0 x0 n)=some (x,S'))
 (hx:x ≠ Ex.normal):vexec Tryd.prog X call lf 0 noFg (Go.Code.loop (loopN Tryd.f13 0)) (f13_S0 x0)=some (x,S') :=
  loop_runK (by kernel_rfl) (fun j=>(f13_F0 x0 j)) n hn (by show forget f13_D0 (f13_S0 x0)=(f13_F0 x0 0); unfold f13_F0; show _=_; kernel_rfl) hs he hx
def f13_S1 (x0:Sgn)(i0:Nat)(a:ByteArray)(r47:List AV):St :=
  stOf 123 [42,43] [(0,AV.agg [lro x0.sorts.length 1 (List.map st x0.sorts),lro x0.consts.length 2 (List.flatMap cstC x0.consts),lro x0.preds.length 2 (List.flatMap prdC x0.preds)]),(1,AV.ref 0 0),(2,bo false),(3,i6 (↑i0:Int)),(7,AV.ref 0 0),(8,lro x0.sorts.length 1 (List.map st x0.sorts)),(9,i6 (↑x0.sorts.length:Int)),(10,bo false),(11,bo false),(12,AV.ref 0 1),(13,lro x0.consts.length 2 (List.flatMap cstC x0.consts)),(14,i6 (↑x0.consts.length:Int)),(15,bo false),(16,bo false),(17,bo false),(18,AV.ref 0 2),(19,lro x0.preds.length 2 (List.flatMap prdC x0.preds)),(20,i6 (↑x0.preds.length:Int)),(21,bo false),(22,bo false),(23,bo false),(24,AV.ref 0 0),(25,lro x0.sorts.length 1 (List.map st x0.sorts)),(26,i6 (↑x0.sorts.length:Int)),(27,AV.ref 0 1),(28,lro x0.consts.length 2 (List.flatMap cstC x0.consts)),(29,i6 (↑x0.consts.length:Int)),(30,i6 (w6 ((↑x0.sorts.length:Int) + (↑x0.consts.length:Int)))),(31,AV.ref 0 2),(32,lro x0.preds.length 2 (List.flatMap prdC x0.preds)),(33,i6 (↑x0.preds.length:Int)),(34,i6 (w6 (w6 ((↑x0.sorts.length:Int) + (↑x0.consts.length:Int)) + (↑x0.preds.length:Int)))),(35,bo false),(36,bo false),(37,i6 (↑i0:Int)),(38,AV.ref 0 0),(39,lro x0.sorts.length 1 (List.map st x0.sorts)),(40,i6 (↑x0.sorts.length:Int)),(41,bo true),(44,AV.ref 0 0),(45,lro x0.sorts.length 1 (List.map st x0.sorts)),(46,i6 (↑i0:Int)),(47,AV.eaddr (st a::r47)),(48,st a),(49,i6 (↑(ByteArray.size a):Int)),(50,bo true)] [Ob.cells [lro x0.sorts.length 1 (List.map st x0.sorts),lro x0.consts.length 2 (List.flatMap cstC x0.consts),lro x0.preds.length 2 (List.flatMap prdC x0.preds)]]
theorem f13_r0_tt (x0:Sgn)(X:Ext)(call:Caller)(lf i0:Nat)(a:ByteArray)(r47:List AV)
 (h0:decide ((↑i0:Int)<(↑x0.sorts.length:Int))=true)
 (h1:kiq 22 [Ob.cells [lro x0.sorts.length 1 (List.map st x0.sorts),lro x0.consts.length 2 (List.flatMap cstC x0.consts),lro x0.preds.length 2 (List.flatMap prdC x0.preds)]] (lro x0.sorts.length 1 (List.map st x0.sorts)) (i6 (↑i0:Int)) (st a::r47))
 (h2:decide ((↑(ByteArray.size a):Int)>40)=true):vexec Tryd.prog X call lf 0 noFg (loopN Tryd.f13 0) (f13_F0 x0 i0)=some (Ex.ret,(f13_S1 x0 i0 a r47)) :=
  around_sound (ans:=[(5,Ans.b true),(11,Ans.v (AV.eaddr (st a::r47))),(14,Ans.b true)]) (by kernel_rfl) (ai h0 (ai h1 (ai h2 trivial)))
theorem f13_pffffltt (x0:Sgn)(X:Ext)(call:Caller)(lf i0:Nat)(a:ByteArray)(r47:List AV)
 (h0:decide ((↑x0.sorts.length:Int)>300)=false)
 (h1:decide ((↑x0.consts.length:Int)>300)=false)
 (h2:decide ((↑x0.preds.length:Int)>300)=false)
 (h3:decide (w6 (w6 ((↑x0.sorts.length:Int) + (↑x0.consts.length:Int)) + (↑x0.preds.length:Int))>300)=false)
 (h4:vexec Tryd.prog X call lf 0 noFg (Code.loop (loopN Tryd.f13 0)) (f13_S0 x0)=some (Ex.ret,(f13_S1 x0 i0 a r47))):vbody Tryd.prog X call lf noFg Tryd.f13 (codeOf Tryd.f13) [AV.agg (sgnC x0)] [] 0=some (bo false,[Ob.cells [lro x0.sorts.length 1 (List.map st x0.sorts),lro x0.consts.length 2 (List.flatMap cstC x0.consts),lro x0.preds.length 2 (List.flatMap prdC x0.preds)]]) :=
  along_sound (ans:=[(7,Ans.b false),(16,Ans.b false),(26,Ans.b false),(52,Ans.b false),(57,Ans.l Ex.ret (f13_S1 x0 i0 a r47))]) (by kernel_rfl) (ai h0 (ai h1 (ai h2 (ai h3 (ai h4 trivial)))))
theorem f13_s0_tf (x0:Sgn)(X:Ext)(call:Caller)(lf i0:Nat)(a:ByteArray)(r47:List AV)
 (h0:decide ((↑i0:Int)<(↑x0.sorts.length:Int))=true)
 (h1:kiq 22 [Ob.cells [lro x0.sorts.length 1 (List.map st x0.sorts),lro x0.consts.length 2 (List.flatMap cstC x0.consts),lro x0.preds.length 2 (List.flatMap prdC x0.preds)]] (lro x0.sorts.length 1 (List.map st x0.sorts)) (i6 (↑i0:Int)) (st a::r47))
 (h2:decide ((↑(ByteArray.size a):Int)>40)=false)
 (e0:(↑(i0 + 1):Int)=w6 ((↑i0:Int) + 1)):∃ Sx,vexec Tryd.prog X call lf 0 noFg (loopN Tryd.f13 0) (f13_F0 x0 i0)=some (Ex.normal,Sx)∧forget f13_D0 Sx=(f13_F0 x0 (i0 + 1)) :=
  ⟨stOf 123 [2] [(0,AV.agg [lro x0.sorts.length 1 (List.map st x0.sorts),lro x0.consts.length 2 (List.flatMap cstC x0.consts),lro x0.preds.length 2 (List.flatMap prdC x0.preds)]),(1,AV.ref 0 0),(3,i6 (w6 ((↑i0:Int) + 1))),(7,AV.ref 0 0),(8,lro x0.sorts.length 1 (List.map st x0.sorts)),(9,i6 (↑x0.sorts.length:Int)),(10,bo false),(11,bo false),(12,AV.ref 0 1),(13,lro x0.consts.length 2 (List.flatMap cstC x0.consts)),(14,i6 (↑x0.consts.length:Int)),(15,bo false),(16,bo false),(17,bo false),(18,AV.ref 0 2),(19,lro x0.preds.length 2 (List.flatMap prdC x0.preds)),(20,i6 (↑x0.preds.length:Int)),(21,bo false),(22,bo false),(23,bo false),(24,AV.ref 0 0),(25,lro x0.sorts.length 1 (List.map st x0.sorts)),(26,i6 (↑x0.sorts.length:Int)),(27,AV.ref 0 1),(28,lro x0.consts.length 2 (List.flatMap cstC x0.consts)),(29,i6 (↑x0.consts.length:Int)),(30,i6 (w6 ((↑x0.sorts.length:Int) + (↑x0.consts.length:Int)))),(31,AV.ref 0 2),(32,lro x0.preds.length 2 (List.flatMap prdC x0.preds)),(33,i6 (↑x0.preds.length:Int)),(34,i6 (w6 (w6 ((↑x0.sorts.length:Int) + (↑x0.consts.length:Int)) + (↑x0.preds.length:Int)))),(35,bo false),(36,bo false),(37,i6 (↑i0:Int)),(38,AV.ref 0 0),(39,lro x0.sorts.length 1 (List.map st x0.sorts)),(40,i6 (↑x0.sorts.length:Int)),(41,bo true),(42,i6 (↑i0:Int)),(43,i6 (w6 ((↑i0:Int) + 1))),(44,AV.ref 0 0),(45,lro x0.sorts.length 1 (List.map st x0.sorts)),(46,i6 (↑i0:Int)),(47,AV.eaddr (st a::r47)),(48,st a),(49,i6 (↑(ByteArray.size a):Int)),(50,bo false)] [Ob.cells [lro x0.sorts.length 1 (List.map st x0.sorts),lro x0.consts.length 2 (List.flatMap cstC x0.consts),lro x0.preds.length 2 (List.flatMap prdC x0.preds)]],around_sound (ans:=[(5,Ans.b true),(11,Ans.v (AV.eaddr (st a::r47))),(14,Ans.b false)]) (by kernel_rfl) (ai h0 (ai h1 (ai h2 trivial))),by unfold f13_F0; rw [e0]; show _=_; kernel_rfl⟩
def f13_S2 (x0:Sgn)(i0:Nat):St :=
  stOf 123 [2,42,43,44,45,46,47,48,49,50] [(0,AV.agg [lro x0.sorts.length 1 (List.map st x0.sorts),lro x0.consts.length 2 (List.flatMap cstC x0.consts),lro x0.preds.length 2 (List.flatMap prdC x0.preds)]),(1,AV.ref 0 0),(3,i6 (↑i0:Int)),(7,AV.ref 0 0),(8,lro x0.sorts.length 1 (List.map st x0.sorts)),(9,i6 (↑x0.sorts.length:Int)),(10,bo false),(11,bo false),(12,AV.ref 0 1),(13,lro x0.consts.length 2 (List.flatMap cstC x0.consts)),(14,i6 (↑x0.consts.length:Int)),(15,bo false),(16,bo false),(17,bo false),(18,AV.ref 0 2),(19,lro x0.preds.length 2 (List.flatMap prdC x0.preds)),(20,i6 (↑x0.preds.length:Int)),(21,bo false),(22,bo false),(23,bo false),(24,AV.ref 0 0),(25,lro x0.sorts.length 1 (List.map st x0.sorts)),(26,i6 (↑x0.sorts.length:Int)),(27,AV.ref 0 1),(28,lro x0.consts.length 2 (List.flatMap cstC x0.consts)),(29,i6 (↑x0.consts.length:Int)),(30,i6 (w6 ((↑x0.sorts.length:Int) + (↑x0.consts.length:Int)))),(31,AV.ref 0 2),(32,lro x0.preds.length 2 (List.flatMap prdC x0.preds)),(33,i6 (↑x0.preds.length:Int)),(34,i6 (w6 (w6 ((↑x0.sorts.length:Int) + (↑x0.consts.length:Int)) + (↑x0.preds.length:Int)))),(35,bo false),(36,bo false),(37,i6 (↑i0:Int)),(38,AV.ref 0 0),(39,lro x0.sorts.length 1 (List.map st x0.sorts)),(40,i6 (↑x0.sorts.length:Int)),(41,bo false)] [Ob.cells [lro x0.sorts.length 1 (List.map st x0.sorts),lro x0.consts.length 2 (List.flatMap cstC x0.consts),lro x0.preds.length 2 (List.flatMap prdC x0.preds)]]
theorem f13_r0_f (x0:Sgn)(X:Ext)(call:Caller)(lf i0:Nat)
 (h0:decide ((↑i0:Int)<(↑x0.sorts.length:Int))=false):vexec Tryd.prog X call lf 0 noFg (loopN Tryd.f13 0) (f13_F0 x0 i0)=some (Ex.exit 0,(f13_S2 x0 i0)) :=
  around_sound (ans:=[(5,Ans.b false)]) (by kernel_rfl) (ai h0 trivial)
def f13_F1 (x0:Sgn)(i0 i1:Nat):St :=
  stOf 123 [2,42,43,44,45,46,47,48,49,50,51,52,53,54,55,56,57,58,59,60,61,62,63,64,65,66,67,68,69,70,71,72,73,74,75] [(0,AV.agg [lro x0.sorts.length 1 (List.map st x0.sorts),lro x0.consts.length 2 (List.flatMap cstC x0.consts),lro x0.preds.length 2 (List.flatMap prdC x0.preds)]),(1,AV.ref 0 0),(3,i6 (↑i0:Int)),(4,i6 (↑i1:Int)),(7,AV.ref 0 0),(8,lro x0.sorts.length 1 (List.map st x0.sorts)),(9,i6 (↑x0.sorts.length:Int)),(10,bo false),(11,bo false),(12,AV.ref 0 1),(13,lro x0.consts.length 2 (List.flatMap cstC x0.consts)),(14,i6 (↑x0.consts.length:Int)),(15,bo false),(16,bo false),(17,bo false),(18,AV.ref 0 2),(19,lro x0.preds.length 2 (List.flatMap prdC x0.preds)),(20,i6 (↑x0.preds.length:Int)),(21,bo false),(22,bo false),(23,bo false),(24,AV.ref 0 0),(25,lro x0.sorts.length 1 (List.map st x0.sorts)),(26,i6 (↑x0.sorts.length:Int)),(27,AV.ref 0 1),(28,lro x0.consts.length 2 (List.flatMap cstC x0.consts)),(29,i6 (↑x0.consts.length:Int)),(30,i6 (w6 ((↑x0.sorts.length:Int) + (↑x0.consts.length:Int)))),(31,AV.ref 0 2),(32,lro x0.preds.length 2 (List.flatMap prdC x0.preds)),(33,i6 (↑x0.preds.length:Int)),(34,i6 (w6 (w6 ((↑x0.sorts.length:Int) + (↑x0.consts.length:Int)) + (↑x0.preds.length:Int)))),(35,bo false),(36,bo false),(37,i6 (↑i0:Int)),(38,AV.ref 0 0),(39,lro x0.sorts.length 1 (List.map st x0.sorts)),(40,i6 (↑x0.sorts.length:Int)),(41,bo false)] [Ob.cells [lro x0.sorts.length 1 (List.map st x0.sorts),lro x0.consts.length 2 (List.flatMap cstC x0.consts),lro x0.preds.length 2 (List.flatMap prdC x0.preds)]]
def f13_S3 (x0:Sgn)(i0:Nat):St :=
  stOf 123 [2,42,43,44,45,46,47,48,49,50] [(0,AV.agg [lro x0.sorts.length 1 (List.map st x0.sorts),lro x0.consts.length 2 (List.flatMap cstC x0.consts),lro x0.preds.length 2 (List.flatMap prdC x0.preds)]),(1,AV.ref 0 0),(3,i6 (↑i0:Int)),(4,i6 0),(7,AV.ref 0 0),(8,lro x0.sorts.length 1 (List.map st x0.sorts)),(9,i6 (↑x0.sorts.length:Int)),(10,bo false),(11,bo false),(12,AV.ref 0 1),(13,lro x0.consts.length 2 (List.flatMap cstC x0.consts)),(14,i6 (↑x0.consts.length:Int)),(15,bo false),(16,bo false),(17,bo false),(18,AV.ref 0 2),(19,lro x0.preds.length 2 (List.flatMap prdC x0.preds)),(20,i6 (↑x0.preds.length:Int)),(21,bo false),(22,bo false),(23,bo false),(24,AV.ref 0 0),(25,lro x0.sorts.length 1 (List.map st x0.sorts)),(26,i6 (↑x0.sorts.length:Int)),(27,AV.ref 0 1),(28,lro x0.consts.length 2 (List.flatMap cstC x0.consts)),(29,i6 (↑x0.consts.length:Int)),(30,i6 (w6 ((↑x0.sorts.length:Int) + (↑x0.consts.length:Int)))),(31,AV.ref 0 2),(32,lro x0.preds.length 2 (List.flatMap prdC x0.preds)),(33,i6 (↑x0.preds.length:Int)),(34,i6 (w6 (w6 ((↑x0.sorts.length:Int) + (↑x0.consts.length:Int)) + (↑x0.preds.length:Int)))),(35,bo false),(36,bo false),(37,i6 (↑i0:Int)),(38,AV.ref 0 0),(39,lro x0.sorts.length 1 (List.map st x0.sorts)),(40,i6 (↑x0.sorts.length:Int)),(41,bo false)] [Ob.cells [lro x0.sorts.length 1 (List.map st x0.sorts),lro x0.consts.length 2 (List.flatMap cstC x0.consts),lro x0.preds.length 2 (List.flatMap prdC x0.preds)]]
abbrev f13_D1:List Nat:=[57,56,2,75,74,73,72,71,70,69,68,67,66,65,64,63,62,61,60,59,58,55,54,53,52,51]
theorem f13_L1 (x0:Sgn)(i0:Nat)(X:Ext)(call:Caller)(lf n:Nat)(x:Ex) (S' : St)
 (hn:n<lf)
 (hs:∀ j,j<n→∃ Sx,vexec Tryd.prog X call lf 0 noFg (loopN Tryd.f13 1) (f13_F1 x0 i0 j)=some (Ex.normal,Sx)∧forget f13_D1 Sx=(f13_F1 x0 i0 (j + 1)))
 (he:vexec Tryd.prog X call lf 0 noFg (loopN Tryd.f13 1) (f13_F1 x0 i0 n)=some (x,S'))
 (hx:x ≠ Ex.normal):vexec Tryd.prog X call lf 0 noFg (Go.Code.loop (loopN Tryd.f13 1)) (f13_S3 x0 i0)=some (x,S') :=
  loop_runK (by kernel_rfl) (fun j=>(f13_F1 x0 i0 j)) n hn (by show forget f13_D1 (f13_S3 x0 i0)=(f13_F1 x0 i0 0); unfold f13_F1; show _=_; kernel_rfl) hs he hx
def f13_S4 (x0:Sgn)(i0 i1:Nat)(a b:ByteArray)(r61:List AV):St :=
  stOf 123 [42,43,44,45,46,47,48,49,50,56,57] [(0,AV.agg [lro x0.sorts.length 1 (List.map st x0.sorts),lro x0.consts.length 2 (List.flatMap cstC x0.consts),lro x0.preds.length 2 (List.flatMap prdC x0.preds)]),(1,AV.ref 0 0),(2,bo false),(3,i6 (↑i0:Int)),(4,i6 (↑i1:Int)),(7,AV.ref 0 0),(8,lro x0.sorts.length 1 (List.map st x0.sorts)),(9,i6 (↑x0.sorts.length:Int)),(10,bo false),(11,bo false),(12,AV.ref 0 1),(13,lro x0.consts.length 2 (List.flatMap cstC x0.consts)),(14,i6 (↑x0.consts.length:Int)),(15,bo false),(16,bo false),(17,bo false),(18,AV.ref 0 2),(19,lro x0.preds.length 2 (List.flatMap prdC x0.preds)),(20,i6 (↑x0.preds.length:Int)),(21,bo false),(22,bo false),(23,bo false),(24,AV.ref 0 0),(25,lro x0.sorts.length 1 (List.map st x0.sorts)),(26,i6 (↑x0.sorts.length:Int)),(27,AV.ref 0 1),(28,lro x0.consts.length 2 (List.flatMap cstC x0.consts)),(29,i6 (↑x0.consts.length:Int)),(30,i6 (w6 ((↑x0.sorts.length:Int) + (↑x0.consts.length:Int)))),(31,AV.ref 0 2),(32,lro x0.preds.length 2 (List.flatMap prdC x0.preds)),(33,i6 (↑x0.preds.length:Int)),(34,i6 (w6 (w6 ((↑x0.sorts.length:Int) + (↑x0.consts.length:Int)) + (↑x0.preds.length:Int)))),(35,bo false),(36,bo false),(37,i6 (↑i0:Int)),(38,AV.ref 0 0),(39,lro x0.sorts.length 1 (List.map st x0.sorts)),(40,i6 (↑x0.sorts.length:Int)),(41,bo false),(51,i6 (↑i1:Int)),(52,AV.ref 0 1),(53,lro x0.consts.length 2 (List.flatMap cstC x0.consts)),(54,i6 (↑x0.consts.length:Int)),(55,bo true),(58,AV.ref 0 1),(59,lro x0.consts.length 2 (List.flatMap cstC x0.consts)),(60,i6 (↑i1:Int)),(61,AV.eaddr (st a::st b::r61)),(62,AV.eaddr (st a::st b::r61)),(63,st a),(64,i6 (↑(ByteArray.size a):Int)),(65,bo true),(66,bo true),(75,bo true)] [Ob.cells [lro x0.sorts.length 1 (List.map st x0.sorts),lro x0.consts.length 2 (List.flatMap cstC x0.consts),lro x0.preds.length 2 (List.flatMap prdC x0.preds)]]
theorem f13_r1_tt (x0:Sgn)(X:Ext)(call:Caller)(lf i0 i1:Nat)(a c:ByteArray)(r61:List AV)
 (h0:decide ((↑i1:Int)<(↑x0.consts.length:Int))=true)
 (h1:kiq 23 [Ob.cells [lro x0.sorts.length 1 (List.map st x0.sorts),lro x0.consts.length 2 (List.flatMap cstC x0.consts),lro x0.preds.length 2 (List.flatMap prdC x0.preds)]] (lro x0.consts.length 2 (List.flatMap cstC x0.consts)) (i6 (↑i1:Int)) (st a::st c::r61))
 (h2:decide ((↑(ByteArray.size a):Int)>40)=true):vexec Tryd.prog X call lf 0 noFg (loopN Tryd.f13 1) (f13_F1 x0 i0 i1)=some (Ex.ret,(f13_S4 x0 i0 i1 a c r61)) :=
  around_sound (ans:=[(5,Ans.b true),(11,Ans.v (AV.eaddr (st a::st c::r61))),(15,Ans.b true)]) (by kernel_rfl) (ai h0 (ai h1 (ai h2 trivial)))
theorem f13_pfffflfltt (x0:Sgn)(X:Ext)(call:Caller)(lf i0 i1:Nat)(a c:ByteArray)(r61:List AV)
 (h0:decide ((↑x0.sorts.length:Int)>300)=false)
 (h1:decide ((↑x0.consts.length:Int)>300)=false)
 (h2:decide ((↑x0.preds.length:Int)>300)=false)
 (h3:decide (w6 (w6 ((↑x0.sorts.length:Int) + (↑x0.consts.length:Int)) + (↑x0.preds.length:Int))>300)=false)
 (h4:vexec Tryd.prog X call lf 0 noFg (Code.loop (loopN Tryd.f13 0)) (f13_S0 x0)=some (Ex.exit 0,(f13_S2 x0 i0)))
 (h5:vexec Tryd.prog X call lf 0 noFg (Code.loop (loopN Tryd.f13 1)) (f13_S3 x0 i0)=some (Ex.ret,(f13_S4 x0 i0 i1 a c r61))):vbody Tryd.prog X call lf noFg Tryd.f13 (codeOf Tryd.f13) [AV.agg (sgnC x0)] [] 0=some (bo false,[Ob.cells [lro x0.sorts.length 1 (List.map st x0.sorts),lro x0.consts.length 2 (List.flatMap cstC x0.consts),lro x0.preds.length 2 (List.flatMap prdC x0.preds)]]) :=
  along_sound (ans:=[(7,Ans.b false),(16,Ans.b false),(26,Ans.b false),(52,Ans.b false),(57,Ans.l (Ex.exit 0) (f13_S2 x0 i0)),(60,Ans.l Ex.ret (f13_S4 x0 i0 i1 a c r61))]) (by kernel_rfl) (ai h0 (ai h1 (ai h2 (ai h3 (ai h4 (ai h5 trivial))))))
def f13_S5 (x0:Sgn)(i0 i1:Nat)(a b:ByteArray)(r61:List AV)(c d:ByteArray)(r70:List AV):St :=
  stOf 123 [42,43,44,45,46,47,48,49,50,56,57] [(0,AV.agg [lro x0.sorts.length 1 (List.map st x0.sorts),lro x0.consts.length 2 (List.flatMap cstC x0.consts),lro x0.preds.length 2 (List.flatMap prdC x0.preds)]),(1,AV.ref 0 0),(2,bo false),(3,i6 (↑i0:Int)),(4,i6 (↑i1:Int)),(7,AV.ref 0 0),(8,lro x0.sorts.length 1 (List.map st x0.sorts)),(9,i6 (↑x0.sorts.length:Int)),(10,bo false),(11,bo false),(12,AV.ref 0 1),(13,lro x0.consts.length 2 (List.flatMap cstC x0.consts)),(14,i6 (↑x0.consts.length:Int)),(15,bo false),(16,bo false),(17,bo false),(18,AV.ref 0 2),(19,lro x0.preds.length 2 (List.flatMap prdC x0.preds)),(20,i6 (↑x0.preds.length:Int)),(21,bo false),(22,bo false),(23,bo false),(24,AV.ref 0 0),(25,lro x0.sorts.length 1 (List.map st x0.sorts)),(26,i6 (↑x0.sorts.length:Int)),(27,AV.ref 0 1),(28,lro x0.consts.length 2 (List.flatMap cstC x0.consts)),(29,i6 (↑x0.consts.length:Int)),(30,i6 (w6 ((↑x0.sorts.length:Int) + (↑x0.consts.length:Int)))),(31,AV.ref 0 2),(32,lro x0.preds.length 2 (List.flatMap prdC x0.preds)),(33,i6 (↑x0.preds.length:Int)),(34,i6 (w6 (w6 ((↑x0.sorts.length:Int) + (↑x0.consts.length:Int)) + (↑x0.preds.length:Int)))),(35,bo false),(36,bo false),(37,i6 (↑i0:Int)),(38,AV.ref 0 0),(39,lro x0.sorts.length 1 (List.map st x0.sorts)),(40,i6 (↑x0.sorts.length:Int)),(41,bo false),(51,i6 (↑i1:Int)),(52,AV.ref 0 1),(53,lro x0.consts.length 2 (List.flatMap cstC x0.consts)),(54,i6 (↑x0.consts.length:Int)),(55,bo true),(58,AV.ref 0 1),(59,lro x0.consts.length 2 (List.flatMap cstC x0.consts)),(60,i6 (↑i1:Int)),(61,AV.eaddr (st a::st b::r61)),(62,AV.eaddr (st a::st b::r61)),(63,st a),(64,i6 (↑(ByteArray.size a):Int)),(65,bo false),(66,bo false),(67,AV.ref 0 1),(68,lro x0.consts.length 2 (List.flatMap cstC x0.consts)),(69,i6 (↑i1:Int)),(70,AV.eaddr (st c::st d::r70)),(71,AV.eaddr (st d::r70)),(72,st d),(73,i6 (↑(ByteArray.size d):Int)),(74,bo true),(75,bo true)] [Ob.cells [lro x0.sorts.length 1 (List.map st x0.sorts),lro x0.consts.length 2 (List.flatMap cstC x0.consts),lro x0.preds.length 2 (List.flatMap prdC x0.preds)]]
theorem f13_r1_tft (x0:Sgn)(X:Ext)(call:Caller)(lf i0 i1:Nat)(a c:ByteArray)(r61:List AV)(d e:ByteArray)(r70:List AV)
 (h0:decide ((↑i1:Int)<(↑x0.consts.length:Int))=true)
 (h1:kiq 23 [Ob.cells [lro x0.sorts.length 1 (List.map st x0.sorts),lro x0.consts.length 2 (List.flatMap cstC x0.consts),lro x0.preds.length 2 (List.flatMap prdC x0.preds)]] (lro x0.consts.length 2 (List.flatMap cstC x0.consts)) (i6 (↑i1:Int)) (st a::st c::r61))
 (h2:decide ((↑(ByteArray.size a):Int)>40)=false)
 (h3:kiq 23 [Ob.cells [lro x0.sorts.length 1 (List.map st x0.sorts),lro x0.consts.length 2 (List.flatMap cstC x0.consts),lro x0.preds.length 2 (List.flatMap prdC x0.preds)]] (lro x0.consts.length 2 (List.flatMap cstC x0.consts)) (i6 (↑i1:Int)) (st d::st e::r70))
 (h4:decide ((↑(ByteArray.size e):Int)>40)=true):vexec Tryd.prog X call lf 0 noFg (loopN Tryd.f13 1) (f13_F1 x0 i0 i1)=some (Ex.ret,(f13_S5 x0 i0 i1 a c r61 d e r70)) :=
  around_sound (ans:=[(5,Ans.b true),(11,Ans.v (AV.eaddr (st a::st c::r61))),(15,Ans.b false),(24,Ans.v (AV.eaddr (st d::st e::r70))),(32,Ans.b true)]) (by kernel_rfl) (ai h0 (ai h1 (ai h2 (ai h3 (ai h4 trivial)))))
theorem f13_pfffflfltft (x0:Sgn)(X:Ext)(call:Caller)(lf i0 i1:Nat)(a c:ByteArray)(r61:List AV)(d e:ByteArray)(r70:List AV)
 (h0:decide ((↑x0.sorts.length:Int)>300)=false)
 (h1:decide ((↑x0.consts.length:Int)>300)=false)
 (h2:decide ((↑x0.preds.length:Int)>300)=false)
 (h3:decide (w6 (w6 ((↑x0.sorts.length:Int) + (↑x0.consts.length:Int)) + (↑x0.preds.length:Int))>300)=false)
 (h4:vexec Tryd.prog X call lf 0 noFg (Code.loop (loopN Tryd.f13 0)) (f13_S0 x0)=some (Ex.exit 0,(f13_S2 x0 i0)))
 (h5:vexec Tryd.prog X call lf 0 noFg (Code.loop (loopN Tryd.f13 1)) (f13_S3 x0 i0)=some (Ex.ret,(f13_S5 x0 i0 i1 a c r61 d e r70))):vbody Tryd.prog X call lf noFg Tryd.f13 (codeOf Tryd.f13) [AV.agg (sgnC x0)] [] 0=some (bo false,[Ob.cells [lro x0.sorts.length 1 (List.map st x0.sorts),lro x0.consts.length 2 (List.flatMap cstC x0.consts),lro x0.preds.length 2 (List.flatMap prdC x0.preds)]]) :=
  along_sound (ans:=[(7,Ans.b false),(16,Ans.b false),(26,Ans.b false),(52,Ans.b false),(57,Ans.l (Ex.exit 0) (f13_S2 x0 i0)),(60,Ans.l Ex.ret (f13_S5 x0 i0 i1 a c r61 d e r70))]) (by kernel_rfl) (ai h0 (ai h1 (ai h2 (ai h3 (ai h4 (ai h5 trivial))))))
theorem f13_s1_tff (x0:Sgn)(X:Ext)(call:Caller)(lf i0 i1:Nat)(a c:ByteArray)(r61:List AV)(d e:ByteArray)(r70:List AV)
 (h0:decide ((↑i1:Int)<(↑x0.consts.length:Int))=true)
 (h1:kiq 23 [Ob.cells [lro x0.sorts.length 1 (List.map st x0.sorts),lro x0.consts.length 2 (List.flatMap cstC x0.consts),lro x0.preds.length 2 (List.flatMap prdC x0.preds)]] (lro x0.consts.length 2 (List.flatMap cstC x0.consts)) (i6 (↑i1:Int)) (st a::st c::r61))
 (h2:decide ((↑(ByteArray.size a):Int)>40)=false)
 (h3:kiq 23 [Ob.cells [lro x0.sorts.length 1 (List.map st x0.sorts),lro x0.consts.length 2 (List.flatMap cstC x0.consts),lro x0.preds.length 2 (List.flatMap prdC x0.preds)]] (lro x0.consts.length 2 (List.flatMap cstC x0.consts)) (i6 (↑i1:Int)) (st d::st e::r70))
 (h4:decide ((↑(ByteArray.size e):Int)>40)=false)
 (e0:(↑(i1 + 1):Int)=w6 ((↑i1:Int) + 1)):∃ Sx,vexec Tryd.prog X call lf 0 noFg (loopN Tryd.f13 1) (f13_F1 x0 i0 i1)=some (Ex.normal,Sx)∧forget f13_D1 Sx=(f13_F1 x0 i0 (i1 + 1)) :=
  ⟨stOf 123 [2,42,43,44,45,46,47,48,49,50] [(0,AV.agg [lro x0.sorts.length 1 (List.map st x0.sorts),lro x0.consts.length 2 (List.flatMap cstC x0.consts),lro x0.preds.length 2 (List.flatMap prdC x0.preds)]),(1,AV.ref 0 0),(3,i6 (↑i0:Int)),(4,i6 (w6 ((↑i1:Int) + 1))),(7,AV.ref 0 0),(8,lro x0.sorts.length 1 (List.map st x0.sorts)),(9,i6 (↑x0.sorts.length:Int)),(10,bo false),(11,bo false),(12,AV.ref 0 1),(13,lro x0.consts.length 2 (List.flatMap cstC x0.consts)),(14,i6 (↑x0.consts.length:Int)),(15,bo false),(16,bo false),(17,bo false),(18,AV.ref 0 2),(19,lro x0.preds.length 2 (List.flatMap prdC x0.preds)),(20,i6 (↑x0.preds.length:Int)),(21,bo false),(22,bo false),(23,bo false),(24,AV.ref 0 0),(25,lro x0.sorts.length 1 (List.map st x0.sorts)),(26,i6 (↑x0.sorts.length:Int)),(27,AV.ref 0 1),(28,lro x0.consts.length 2 (List.flatMap cstC x0.consts)),(29,i6 (↑x0.consts.length:Int)),(30,i6 (w6 ((↑x0.sorts.length:Int) + (↑x0.consts.length:Int)))),(31,AV.ref 0 2),(32,lro x0.preds.length 2 (List.flatMap prdC x0.preds)),(33,i6 (↑x0.preds.length:Int)),(34,i6 (w6 (w6 ((↑x0.sorts.length:Int) + (↑x0.consts.length:Int)) + (↑x0.preds.length:Int)))),(35,bo false),(36,bo false),(37,i6 (↑i0:Int)),(38,AV.ref 0 0),(39,lro x0.sorts.length 1 (List.map st x0.sorts)),(40,i6 (↑x0.sorts.length:Int)),(41,bo false),(51,i6 (↑i1:Int)),(52,AV.ref 0 1),(53,lro x0.consts.length 2 (List.flatMap cstC x0.consts)),(54,i6 (↑x0.consts.length:Int)),(55,bo true),(56,i6 (↑i1:Int)),(57,i6 (w6 ((↑i1:Int) + 1))),(58,AV.ref 0 1),(59,lro x0.consts.length 2 (List.flatMap cstC x0.consts)),(60,i6 (↑i1:Int)),(61,AV.eaddr (st a::st c::r61)),(62,AV.eaddr (st a::st c::r61)),(63,st a),(64,i6 (↑(ByteArray.size a):Int)),(65,bo false),(66,bo false),(67,AV.ref 0 1),(68,lro x0.consts.length 2 (List.flatMap cstC x0.consts)),(69,i6 (↑i1:Int)),(70,AV.eaddr (st d::st e::r70)),(71,AV.eaddr (st e::r70)),(72,st e),(73,i6 (↑(ByteArray.size e):Int)),(74,bo false),(75,bo false)] [Ob.cells [lro x0.sorts.length 1 (List.map st x0.sorts),lro x0.consts.length 2 (List.flatMap cstC x0.consts),lro x0.preds.length 2 (List.flatMap prdC x0.preds)]],around_sound (ans:=[(5,Ans.b true),(11,Ans.v (AV.eaddr (st a::st c::r61))),(15,Ans.b false),(24,Ans.v (AV.eaddr (st d::st e::r70))),(32,Ans.b false)]) (by kernel_rfl) (ai h0 (ai h1 (ai h2 (ai h3 (ai h4 trivial))))),by unfold f13_F1; rw [e0]; show _=_; kernel_rfl⟩
def f13_S6 (x0:Sgn)(i0 i1:Nat):St :=
  stOf 123 [2,42,43,44,45,46,47,48,49,50,56,57,58,59,60,61,62,63,64,65,66,67,68,69,70,71,72,73,74,75] [(0,AV.agg [lro x0.sorts.length 1 (List.map st x0.sorts),lro x0.consts.length 2 (List.flatMap cstC x0.consts),lro x0.preds.length 2 (List.flatMap prdC x0.preds)]),(1,AV.ref 0 0),(3,i6 (↑i0:Int)),(4,i6 (↑i1:Int)),(7,AV.ref 0 0),(8,lro x0.sorts.length 1 (List.map st x0.sorts)),(9,i6 (↑x0.sorts.length:Int)),(10,bo false),(11,bo false),(12,AV.ref 0 1),(13,lro x0.consts.length 2 (List.flatMap cstC x0.consts)),(14,i6 (↑x0.consts.length:Int)),(15,bo false),(16,bo false),(17,bo false),(18,AV.ref 0 2),(19,lro x0.preds.length 2 (List.flatMap prdC x0.preds)),(20,i6 (↑x0.preds.length:Int)),(21,bo false),(22,bo false),(23,bo false),(24,AV.ref 0 0),(25,lro x0.sorts.length 1 (List.map st x0.sorts)),(26,i6 (↑x0.sorts.length:Int)),(27,AV.ref 0 1),(28,lro x0.consts.length 2 (List.flatMap cstC x0.consts)),(29,i6 (↑x0.consts.length:Int)),(30,i6 (w6 ((↑x0.sorts.length:Int) + (↑x0.consts.length:Int)))),(31,AV.ref 0 2),(32,lro x0.preds.length 2 (List.flatMap prdC x0.preds)),(33,i6 (↑x0.preds.length:Int)),(34,i6 (w6 (w6 ((↑x0.sorts.length:Int) + (↑x0.consts.length:Int)) + (↑x0.preds.length:Int)))),(35,bo false),(36,bo false),(37,i6 (↑i0:Int)),(38,AV.ref 0 0),(39,lro x0.sorts.length 1 (List.map st x0.sorts)),(40,i6 (↑x0.sorts.length:Int)),(41,bo false),(51,i6 (↑i1:Int)),(52,AV.ref 0 1),(53,lro x0.consts.length 2 (List.flatMap cstC x0.consts)),(54,i6 (↑x0.consts.length:Int)),(55,bo false)] [Ob.cells [lro x0.sorts.length 1 (List.map st x0.sorts),lro x0.consts.length 2 (List.flatMap cstC x0.consts),lro x0.preds.length 2 (List.flatMap prdC x0.preds)]]
theorem f13_r1_f (x0:Sgn)(X:Ext)(call:Caller)(lf i0 i1:Nat)
 (h0:decide ((↑i1:Int)<(↑x0.consts.length:Int))=false):vexec Tryd.prog X call lf 0 noFg (loopN Tryd.f13 1) (f13_F1 x0 i0 i1)=some (Ex.exit 2,(f13_S6 x0 i0 i1)) :=
  around_sound (ans:=[(5,Ans.b false)]) (by kernel_rfl) (ai h0 trivial)
def f13_F2 (x0:Sgn)(i0 i1 i2:Nat):St :=
  stOf 123 [2,6,42,43,44,45,46,47,48,49,50,56,57,58,59,60,61,62,63,64,65,66,67,68,69,70,71,72,73,74,75,76,77,78,79,80,81,82,83,84,85,86,87,88,89,90,91,92,93,94,95,96,97,98,99,100,101,102,103,104,105,106,107,108,109,110,111,112,113,114,115,116,117,118,119,120,121,122] [(0,AV.agg [lro x0.sorts.length 1 (List.map st x0.sorts),lro x0.consts.length 2 (List.flatMap cstC x0.consts),lro x0.preds.length 2 (List.flatMap prdC x0.preds)]),(1,AV.ref 0 0),(3,i6 (↑i0:Int)),(4,i6 (↑i1:Int)),(5,i6 (↑i2:Int)),(7,AV.ref 0 0),(8,lro x0.sorts.length 1 (List.map st x0.sorts)),(9,i6 (↑x0.sorts.length:Int)),(10,bo false),(11,bo false),(12,AV.ref 0 1),(13,lro x0.consts.length 2 (List.flatMap cstC x0.consts)),(14,i6 (↑x0.consts.length:Int)),(15,bo false),(16,bo false),(17,bo false),(18,AV.ref 0 2),(19,lro x0.preds.length 2 (List.flatMap prdC x0.preds)),(20,i6 (↑x0.preds.length:Int)),(21,bo false),(22,bo false),(23,bo false),(24,AV.ref 0 0),(25,lro x0.sorts.length 1 (List.map st x0.sorts)),(26,i6 (↑x0.sorts.length:Int)),(27,AV.ref 0 1),(28,lro x0.consts.length 2 (List.flatMap cstC x0.consts)),(29,i6 (↑x0.consts.length:Int)),(30,i6 (w6 ((↑x0.sorts.length:Int) + (↑x0.consts.length:Int)))),(31,AV.ref 0 2),(32,lro x0.preds.length 2 (List.flatMap prdC x0.preds)),(33,i6 (↑x0.preds.length:Int)),(34,i6 (w6 (w6 ((↑x0.sorts.length:Int) + (↑x0.consts.length:Int)) + (↑x0.preds.length:Int)))),(35,bo false),(36,bo false),(37,i6 (↑i0:Int)),(38,AV.ref 0 0),(39,lro x0.sorts.length 1 (List.map st x0.sorts)),(40,i6 (↑x0.sorts.length:Int)),(41,bo false),(51,i6 (↑i1:Int)),(52,AV.ref 0 1),(53,lro x0.consts.length 2 (List.flatMap cstC x0.consts)),(54,i6 (↑x0.consts.length:Int)),(55,bo false)] [Ob.cells [lro x0.sorts.length 1 (List.map st x0.sorts),lro x0.consts.length 2 (List.flatMap cstC x0.consts),lro x0.preds.length 2 (List.flatMap prdC x0.preds)]]
def f13_S7 (x0:Sgn)(i0 i1:Nat):St :=
  stOf 123 [2,42,43,44,45,46,47,48,49,50,56,57,58,59,60,61,62,63,64,65,66,67,68,69,70,71,72,73,74,75] [(0,AV.agg [lro x0.sorts.length 1 (List.map st x0.sorts),lro x0.consts.length 2 (List.flatMap cstC x0.consts),lro x0.preds.length 2 (List.flatMap prdC x0.preds)]),(1,AV.ref 0 0),(3,i6 (↑i0:Int)),(4,i6 (↑i1:Int)),(5,i6 0),(7,AV.ref 0 0),(8,lro x0.sorts.length 1 (List.map st x0.sorts)),(9,i6 (↑x0.sorts.length:Int)),(10,bo false),(11,bo false),(12,AV.ref 0 1),(13,lro x0.consts.length 2 (List.flatMap cstC x0.consts)),(14,i6 (↑x0.consts.length:Int)),(15,bo false),(16,bo false),(17,bo false),(18,AV.ref 0 2),(19,lro x0.preds.length 2 (List.flatMap prdC x0.preds)),(20,i6 (↑x0.preds.length:Int)),(21,bo false),(22,bo false),(23,bo false),(24,AV.ref 0 0),(25,lro x0.sorts.length 1 (List.map st x0.sorts)),(26,i6 (↑x0.sorts.length:Int)),(27,AV.ref 0 1),(28,lro x0.consts.length 2 (List.flatMap cstC x0.consts)),(29,i6 (↑x0.consts.length:Int)),(30,i6 (w6 ((↑x0.sorts.length:Int) + (↑x0.consts.length:Int)))),(31,AV.ref 0 2),(32,lro x0.preds.length 2 (List.flatMap prdC x0.preds)),(33,i6 (↑x0.preds.length:Int)),(34,i6 (w6 (w6 ((↑x0.sorts.length:Int) + (↑x0.consts.length:Int)) + (↑x0.preds.length:Int)))),(35,bo false),(36,bo false),(37,i6 (↑i0:Int)),(38,AV.ref 0 0),(39,lro x0.sorts.length 1 (List.map st x0.sorts)),(40,i6 (↑x0.sorts.length:Int)),(41,bo false),(51,i6 (↑i1:Int)),(52,AV.ref 0 1),(53,lro x0.consts.length 2 (List.flatMap cstC x0.consts)),(54,i6 (↑x0.consts.length:Int)),(55,bo false)] [Ob.cells [lro x0.sorts.length 1 (List.map st x0.sorts),lro x0.consts.length 2 (List.flatMap cstC x0.consts),lro x0.preds.length 2 (List.flatMap prdC x0.preds)]]
abbrev f13_D2:List Nat:=[82,81,111,110,2,122,121,120,119,118,117,116,115,114,113,112,109,108,107,106,105,104,103,102,101,6,2,100,99,98,97,96,95,94,93,92,91,90,89,88,87,86,85,84,83,80,79,78,77,76]
theorem f13_L2 (x0:Sgn)(i0 i1:Nat)(X:Ext)(call:Caller)(lf n:Nat)(x:Ex) (S' : St)
 (hn:n<lf)
 (hs:∀ j,j<n→∃ Sx,vexec Tryd.prog X call lf 0 noFg (loopN Tryd.f13 2) (f13_F2 x0 i0 i1 j)=some (Ex.normal,Sx)∧forget f13_D2 Sx=(f13_F2 x0 i0 i1 (j + 1)))
 (he:vexec Tryd.prog X call lf 0 noFg (loopN Tryd.f13 2) (f13_F2 x0 i0 i1 n)=some (x,S'))
 (hx:x ≠ Ex.normal):vexec Tryd.prog X call lf 0 noFg (Go.Code.loop (loopN Tryd.f13 2)) (f13_S7 x0 i0 i1)=some (x,S') :=
  loop_runK (by kernel_rfl) (fun j=>(f13_F2 x0 i0 i1 j)) n hn (by show forget f13_D2 (f13_S7 x0 i0 i1)=(f13_F2 x0 i0 i1 0); unfold f13_F2; show _=_; kernel_rfl) hs he hx
def f13_S8 (x0:Sgn)(i0 i1 i2:Nat)(a:ByteArray)(b:List ByteArray)(r86:List AV):St :=
  stOf 123 [6,42,43,44,45,46,47,48,49,50,56,57,58,59,60,61,62,63,64,65,66,67,68,69,70,71,72,73,74,75,81,82,101,102,103,104,105,106,107,108,109,110,111,112,113,114,115,116,117,118,119,120,121,122] [(0,AV.agg [lro x0.sorts.length 1 (List.map st x0.sorts),lro x0.consts.length 2 (List.flatMap cstC x0.consts),lro x0.preds.length 2 (List.flatMap prdC x0.preds)]),(1,AV.ref 0 0),(2,bo false),(3,i6 (↑i0:Int)),(4,i6 (↑i1:Int)),(5,i6 (↑i2:Int)),(7,AV.ref 0 0),(8,lro x0.sorts.length 1 (List.map st x0.sorts)),(9,i6 (↑x0.sorts.length:Int)),(10,bo false),(11,bo false),(12,AV.ref 0 1),(13,lro x0.consts.length 2 (List.flatMap cstC x0.consts)),(14,i6 (↑x0.consts.length:Int)),(15,bo false),(16,bo false),(17,bo false),(18,AV.ref 0 2),(19,lro x0.preds.length 2 (List.flatMap prdC x0.preds)),(20,i6 (↑x0.preds.length:Int)),(21,bo false),(22,bo false),(23,bo false),(24,AV.ref 0 0),(25,lro x0.sorts.length 1 (List.map st x0.sorts)),(26,i6 (↑x0.sorts.length:Int)),(27,AV.ref 0 1),(28,lro x0.consts.length 2 (List.flatMap cstC x0.consts)),(29,i6 (↑x0.consts.length:Int)),(30,i6 (w6 ((↑x0.sorts.length:Int) + (↑x0.consts.length:Int)))),(31,AV.ref 0 2),(32,lro x0.preds.length 2 (List.flatMap prdC x0.preds)),(33,i6 (↑x0.preds.length:Int)),(34,i6 (w6 (w6 ((↑x0.sorts.length:Int) + (↑x0.consts.length:Int)) + (↑x0.preds.length:Int)))),(35,bo false),(36,bo false),(37,i6 (↑i0:Int)),(38,AV.ref 0 0),(39,lro x0.sorts.length 1 (List.map st x0.sorts)),(40,i6 (↑x0.sorts.length:Int)),(41,bo false),(51,i6 (↑i1:Int)),(52,AV.ref 0 1),(53,lro x0.consts.length 2 (List.flatMap cstC x0.consts)),(54,i6 (↑x0.consts.length:Int)),(55,bo false),(76,i6 (↑i2:Int)),(77,AV.ref 0 2),(78,lro x0.preds.length 2 (List.flatMap prdC x0.preds)),(79,i6 (↑x0.preds.length:Int)),(80,bo true),(83,AV.ref 0 2),(84,lro x0.preds.length 2 (List.flatMap prdC x0.preds)),(85,i6 (↑i2:Int)),(86,AV.eaddr (st a::lro b.length 1 (List.map st b)::r86)),(87,AV.eaddr (st a::lro b.length 1 (List.map st b)::r86)),(88,st a),(89,i6 (↑(ByteArray.size a):Int)),(90,bo true),(91,bo true),(100,bo true)] [Ob.cells [lro x0.sorts.length 1 (List.map st x0.sorts),lro x0.consts.length 2 (List.flatMap cstC x0.consts),lro x0.preds.length 2 (List.flatMap prdC x0.preds)]]
theorem f13_r2_tt (x0:Sgn)(X:Ext)(call:Caller)(lf i0 i1 i2:Nat)(a:ByteArray)(c:List ByteArray)(r86:List AV)
 (h0:decide ((↑i2:Int)<(↑x0.preds.length:Int))=true)
 (h1:kiq 24 [Ob.cells [lro x0.sorts.length 1 (List.map st x0.sorts),lro x0.consts.length 2 (List.flatMap cstC x0.consts),lro x0.preds.length 2 (List.flatMap prdC x0.preds)]] (lro x0.preds.length 2 (List.flatMap prdC x0.preds)) (i6 (↑i2:Int)) (st a::lro c.length 1 (List.map st c)::r86))
 (h2:decide ((↑(ByteArray.size a):Int)>40)=true):vexec Tryd.prog X call lf 0 noFg (loopN Tryd.f13 2) (f13_F2 x0 i0 i1 i2)=some (Ex.ret,(f13_S8 x0 i0 i1 i2 a c r86)) :=
  around_sound (ans:=[(5,Ans.b true),(11,Ans.v (AV.eaddr (st a::lro c.length 1 (List.map st c)::r86))),(15,Ans.b true)]) (by kernel_rfl) (ai h0 (ai h1 (ai h2 trivial)))
theorem f13_pfffflflfltt (x0:Sgn)(X:Ext)(call:Caller)(lf i0 i1 i2:Nat)(a:ByteArray)(c:List ByteArray)(r86:List AV)
 (h0:decide ((↑x0.sorts.length:Int)>300)=false)
 (h1:decide ((↑x0.consts.length:Int)>300)=false)
 (h2:decide ((↑x0.preds.length:Int)>300)=false)
 (h3:decide (w6 (w6 ((↑x0.sorts.length:Int) + (↑x0.consts.length:Int)) + (↑x0.preds.length:Int))>300)=false)
 (h4:vexec Tryd.prog X call lf 0 noFg (Code.loop (loopN Tryd.f13 0)) (f13_S0 x0)=some (Ex.exit 0,(f13_S2 x0 i0)))
 (h5:vexec Tryd.prog X call lf 0 noFg (Code.loop (loopN Tryd.f13 1)) (f13_S3 x0 i0)=some (Ex.exit 2,(f13_S6 x0 i0 i1)))
 (h6:vexec Tryd.prog X call lf 0 noFg (Code.loop (loopN Tryd.f13 2)) (f13_S7 x0 i0 i1)=some (Ex.ret,(f13_S8 x0 i0 i1 i2 a c r86))):vbody Tryd.prog X call lf noFg Tryd.f13 (codeOf Tryd.f13) [AV.agg (sgnC x0)] [] 0=some (bo false,[Ob.cells [lro x0.sorts.length 1 (List.map st x0.sorts),lro x0.consts.length 2 (List.flatMap cstC x0.consts),lro x0.preds.length 2 (List.flatMap prdC x0.preds)]]) :=
  along_sound (ans:=[(7,Ans.b false),(16,Ans.b false),(26,Ans.b false),(52,Ans.b false),(57,Ans.l (Ex.exit 0) (f13_S2 x0 i0)),(60,Ans.l (Ex.exit 2) (f13_S6 x0 i0 i1)),(63,Ans.l Ex.ret (f13_S8 x0 i0 i1 i2 a c r86))]) (by kernel_rfl) (ai h0 (ai h1 (ai h2 (ai h3 (ai h4 (ai h5 (ai h6 trivial)))))))
def f13_S9 (x0:Sgn)(i0 i1 i2:Nat)(a:ByteArray)(b:List ByteArray)(r86:List AV)(c:ByteArray)(d:List ByteArray)(r95:List AV):St :=
  stOf 123 [6,42,43,44,45,46,47,48,49,50,56,57,58,59,60,61,62,63,64,65,66,67,68,69,70,71,72,73,74,75,81,82,101,102,103,104,105,106,107,108,109,110,111,112,113,114,115,116,117,118,119,120,121,122] [(0,AV.agg [lro x0.sorts.length 1 (List.map st x0.sorts),lro x0.consts.length 2 (List.flatMap cstC x0.consts),lro x0.preds.length 2 (List.flatMap prdC x0.preds)]),(1,AV.ref 0 0),(2,bo false),(3,i6 (↑i0:Int)),(4,i6 (↑i1:Int)),(5,i6 (↑i2:Int)),(7,AV.ref 0 0),(8,lro x0.sorts.length 1 (List.map st x0.sorts)),(9,i6 (↑x0.sorts.length:Int)),(10,bo false),(11,bo false),(12,AV.ref 0 1),(13,lro x0.consts.length 2 (List.flatMap cstC x0.consts)),(14,i6 (↑x0.consts.length:Int)),(15,bo false),(16,bo false),(17,bo false),(18,AV.ref 0 2),(19,lro x0.preds.length 2 (List.flatMap prdC x0.preds)),(20,i6 (↑x0.preds.length:Int)),(21,bo false),(22,bo false),(23,bo false),(24,AV.ref 0 0),(25,lro x0.sorts.length 1 (List.map st x0.sorts)),(26,i6 (↑x0.sorts.length:Int)),(27,AV.ref 0 1),(28,lro x0.consts.length 2 (List.flatMap cstC x0.consts)),(29,i6 (↑x0.consts.length:Int)),(30,i6 (w6 ((↑x0.sorts.length:Int) + (↑x0.consts.length:Int)))),(31,AV.ref 0 2),(32,lro x0.preds.length 2 (List.flatMap prdC x0.preds)),(33,i6 (↑x0.preds.length:Int)),(34,i6 (w6 (w6 ((↑x0.sorts.length:Int) + (↑x0.consts.length:Int)) + (↑x0.preds.length:Int)))),(35,bo false),(36,bo false),(37,i6 (↑i0:Int)),(38,AV.ref 0 0),(39,lro x0.sorts.length 1 (List.map st x0.sorts)),(40,i6 (↑x0.sorts.length:Int)),(41,bo false),(51,i6 (↑i1:Int)),(52,AV.ref 0 1),(53,lro x0.consts.length 2 (List.flatMap cstC x0.consts)),(54,i6 (↑x0.consts.length:Int)),(55,bo false),(76,i6 (↑i2:Int)),(77,AV.ref 0 2),(78,lro x0.preds.length 2 (List.flatMap prdC x0.preds)),(79,i6 (↑x0.preds.length:Int)),(80,bo true),(83,AV.ref 0 2),(84,lro x0.preds.length 2 (List.flatMap prdC x0.preds)),(85,i6 (↑i2:Int)),(86,AV.eaddr (st a::lro b.length 1 (List.map st b)::r86)),(87,AV.eaddr (st a::lro b.length 1 (List.map st b)::r86)),(88,st a),(89,i6 (↑(ByteArray.size a):Int)),(90,bo false),(91,bo false),(92,AV.ref 0 2),(93,lro x0.preds.length 2 (List.flatMap prdC x0.preds)),(94,i6 (↑i2:Int)),(95,AV.eaddr (st c::lro d.length 1 (List.map st d)::r95)),(96,AV.eaddr (lro d.length 1 (List.map st d)::r95)),(97,lro d.length 1 (List.map st d)),(98,i6 (↑d.length:Int)),(99,bo true),(100,bo true)] [Ob.cells [lro x0.sorts.length 1 (List.map st x0.sorts),lro x0.consts.length 2 (List.flatMap cstC x0.consts),lro x0.preds.length 2 (List.flatMap prdC x0.preds)]]
theorem f13_r2_tft (x0:Sgn)(X:Ext)(call:Caller)(lf i0 i1 i2:Nat)(a:ByteArray)(c:List ByteArray)(r86:List AV)(d:ByteArray)(e:List ByteArray)(r95:List AV)
 (h0:decide ((↑i2:Int)<(↑x0.preds.length:Int))=true)
 (h1:kiq 24 [Ob.cells [lro x0.sorts.length 1 (List.map st x0.sorts),lro x0.consts.length 2 (List.flatMap cstC x0.consts),lro x0.preds.length 2 (List.flatMap prdC x0.preds)]] (lro x0.preds.length 2 (List.flatMap prdC x0.preds)) (i6 (↑i2:Int)) (st a::lro c.length 1 (List.map st c)::r86))
 (h2:decide ((↑(ByteArray.size a):Int)>40)=false)
 (h3:kiq 24 [Ob.cells [lro x0.sorts.length 1 (List.map st x0.sorts),lro x0.consts.length 2 (List.flatMap cstC x0.consts),lro x0.preds.length 2 (List.flatMap prdC x0.preds)]] (lro x0.preds.length 2 (List.flatMap prdC x0.preds)) (i6 (↑i2:Int)) (st d::lro e.length 1 (List.map st e)::r95))
 (h4:decide ((↑e.length:Int)>6)=true):vexec Tryd.prog X call lf 0 noFg (loopN Tryd.f13 2) (f13_F2 x0 i0 i1 i2)=some (Ex.ret,(f13_S9 x0 i0 i1 i2 a c r86 d e r95)) :=
  around_sound (ans:=[(5,Ans.b true),(11,Ans.v (AV.eaddr (st a::lro c.length 1 (List.map st c)::r86))),(15,Ans.b false),(24,Ans.v (AV.eaddr (st d::lro e.length 1 (List.map st e)::r95))),(32,Ans.b true)]) (by kernel_rfl) (ai h0 (ai h1 (ai h2 (ai h3 (ai h4 trivial)))))
theorem f13_pfffflflfltft (x0:Sgn)(X:Ext)(call:Caller)(lf i0 i1 i2:Nat)(a:ByteArray)(c:List ByteArray)(r86:List AV)(d:ByteArray)(e:List ByteArray)(r95:List AV)
 (h0:decide ((↑x0.sorts.length:Int)>300)=false)
 (h1:decide ((↑x0.consts.length:Int)>300)=false)
 (h2:decide ((↑x0.preds.length:Int)>300)=false)
 (h3:decide (w6 (w6 ((↑x0.sorts.length:Int) + (↑x0.consts.length:Int)) + (↑x0.preds.length:Int))>300)=false)
 (h4:vexec Tryd.prog X call lf 0 noFg (Code.loop (loopN Tryd.f13 0)) (f13_S0 x0)=some (Ex.exit 0,(f13_S2 x0 i0)))
 (h5:vexec Tryd.prog X call lf 0 noFg (Code.loop (loopN Tryd.f13 1)) (f13_S3 x0 i0)=some (Ex.exit 2,(f13_S6 x0 i0 i1)))
 (h6:vexec Tryd.prog X call lf 0 noFg (Code.loop (loopN Tryd.f13 2)) (f13_S7 x0 i0 i1)=some (Ex.ret,(f13_S9 x0 i0 i1 i2 a c r86 d e r95))):vbody Tryd.prog X call lf noFg Tryd.f13 (codeOf Tryd.f13) [AV.agg (sgnC x0)] [] 0=some (bo false,[Ob.cells [lro x0.sorts.length 1 (List.map st x0.sorts),lro x0.consts.length 2 (List.flatMap cstC x0.consts),lro x0.preds.length 2 (List.flatMap prdC x0.preds)]]) :=
  along_sound (ans:=[(7,Ans.b false),(16,Ans.b false),(26,Ans.b false),(52,Ans.b false),(57,Ans.l (Ex.exit 0) (f13_S2 x0 i0)),(60,Ans.l (Ex.exit 2) (f13_S6 x0 i0 i1)),(63,Ans.l Ex.ret (f13_S9 x0 i0 i1 i2 a c r86 d e r95))]) (by kernel_rfl) (ai h0 (ai h1 (ai h2 (ai h3 (ai h4 (ai h5 (ai h6 trivial)))))))
def f13_F3 (x0:Sgn)(i0 i1 i2:Nat)(a:ByteArray)(b:List ByteArray)(r86:List AV)(c:ByteArray)(d:List ByteArray)(r95:List AV)(i3:Nat):St :=
  stOf 123 [2,42,43,44,45,46,47,48,49,50,56,57,58,59,60,61,62,63,64,65,66,67,68,69,70,71,72,73,74,75,81,82,101,102,103,104,105,106,107,108,109,110,111,112,113,114,115,116,117,118,119,120,121,122] [(0,AV.agg [lro x0.sorts.length 1 (List.map st x0.sorts),lro x0.consts.length 2 (List.flatMap cstC x0.consts),lro x0.preds.length 2 (List.flatMap prdC x0.preds)]),(1,AV.ref 0 0),(3,i6 (↑i0:Int)),(4,i6 (↑i1:Int)),(5,i6 (↑i2:Int)),(6,i6 (↑i3:Int)),(7,AV.ref 0 0),(8,lro x0.sorts.length 1 (List.map st x0.sorts)),(9,i6 (↑x0.sorts.length:Int)),(10,bo false),(11,bo false),(12,AV.ref 0 1),(13,lro x0.consts.length 2 (List.flatMap cstC x0.consts)),(14,i6 (↑x0.consts.length:Int)),(15,bo false),(16,bo false),(17,bo false),(18,AV.ref 0 2),(19,lro x0.preds.length 2 (List.flatMap prdC x0.preds)),(20,i6 (↑x0.preds.length:Int)),(21,bo false),(22,bo false),(23,bo false),(24,AV.ref 0 0),(25,lro x0.sorts.length 1 (List.map st x0.sorts)),(26,i6 (↑x0.sorts.length:Int)),(27,AV.ref 0 1),(28,lro x0.consts.length 2 (List.flatMap cstC x0.consts)),(29,i6 (↑x0.consts.length:Int)),(30,i6 (w6 ((↑x0.sorts.length:Int) + (↑x0.consts.length:Int)))),(31,AV.ref 0 2),(32,lro x0.preds.length 2 (List.flatMap prdC x0.preds)),(33,i6 (↑x0.preds.length:Int)),(34,i6 (w6 (w6 ((↑x0.sorts.length:Int) + (↑x0.consts.length:Int)) + (↑x0.preds.length:Int)))),(35,bo false),(36,bo false),(37,i6 (↑i0:Int)),(38,AV.ref 0 0),(39,lro x0.sorts.length 1 (List.map st x0.sorts)),(40,i6 (↑x0.sorts.length:Int)),(41,bo false),(51,i6 (↑i1:Int)),(52,AV.ref 0 1),(53,lro x0.consts.length 2 (List.flatMap cstC x0.consts)),(54,i6 (↑x0.consts.length:Int)),(55,bo false),(76,i6 (↑i2:Int)),(77,AV.ref 0 2),(78,lro x0.preds.length 2 (List.flatMap prdC x0.preds)),(79,i6 (↑x0.preds.length:Int)),(80,bo true),(83,AV.ref 0 2),(84,lro x0.preds.length 2 (List.flatMap prdC x0.preds)),(85,i6 (↑i2:Int)),(86,AV.eaddr (st a::lro b.length 1 (List.map st b)::r86)),(87,AV.eaddr (st a::lro b.length 1 (List.map st b)::r86)),(88,st a),(89,i6 (↑(ByteArray.size a):Int)),(90,bo false),(91,bo false),(92,AV.ref 0 2),(93,lro x0.preds.length 2 (List.flatMap prdC x0.preds)),(94,i6 (↑i2:Int)),(95,AV.eaddr (st c::lro d.length 1 (List.map st d)::r95)),(96,AV.eaddr (lro d.length 1 (List.map st d)::r95)),(97,lro d.length 1 (List.map st d)),(98,i6 (↑d.length:Int)),(99,bo false),(100,bo false)] [Ob.cells [lro x0.sorts.length 1 (List.map st x0.sorts),lro x0.consts.length 2 (List.flatMap cstC x0.consts),lro x0.preds.length 2 (List.flatMap prdC x0.preds)]]
def f13_S10 (x0:Sgn)(i0 i1 i2:Nat)(a:ByteArray)(b:List ByteArray)(r86:List AV)(c:ByteArray)(d:List ByteArray)(r95:List AV):St :=
  stOf 123 [2,42,43,44,45,46,47,48,49,50,56,57,58,59,60,61,62,63,64,65,66,67,68,69,70,71,72,73,74,75,81,82,101,102,103,104,105,106,107,108,109,110,111,112,113,114,115,116,117,118,119,120,121,122] [(0,AV.agg [lro x0.sorts.length 1 (List.map st x0.sorts),lro x0.consts.length 2 (List.flatMap cstC x0.consts),lro x0.preds.length 2 (List.flatMap prdC x0.preds)]),(1,AV.ref 0 0),(3,i6 (↑i0:Int)),(4,i6 (↑i1:Int)),(5,i6 (↑i2:Int)),(6,i6 0),(7,AV.ref 0 0),(8,lro x0.sorts.length 1 (List.map st x0.sorts)),(9,i6 (↑x0.sorts.length:Int)),(10,bo false),(11,bo false),(12,AV.ref 0 1),(13,lro x0.consts.length 2 (List.flatMap cstC x0.consts)),(14,i6 (↑x0.consts.length:Int)),(15,bo false),(16,bo false),(17,bo false),(18,AV.ref 0 2),(19,lro x0.preds.length 2 (List.flatMap prdC x0.preds)),(20,i6 (↑x0.preds.length:Int)),(21,bo false),(22,bo false),(23,bo false),(24,AV.ref 0 0),(25,lro x0.sorts.length 1 (List.map st x0.sorts)),(26,i6 (↑x0.sorts.length:Int)),(27,AV.ref 0 1),(28,lro x0.consts.length 2 (List.flatMap cstC x0.consts)),(29,i6 (↑x0.consts.length:Int)),(30,i6 (w6 ((↑x0.sorts.length:Int) + (↑x0.consts.length:Int)))),(31,AV.ref 0 2),(32,lro x0.preds.length 2 (List.flatMap prdC x0.preds)),(33,i6 (↑x0.preds.length:Int)),(34,i6 (w6 (w6 ((↑x0.sorts.length:Int) + (↑x0.consts.length:Int)) + (↑x0.preds.length:Int)))),(35,bo false),(36,bo false),(37,i6 (↑i0:Int)),(38,AV.ref 0 0),(39,lro x0.sorts.length 1 (List.map st x0.sorts)),(40,i6 (↑x0.sorts.length:Int)),(41,bo false),(51,i6 (↑i1:Int)),(52,AV.ref 0 1),(53,lro x0.consts.length 2 (List.flatMap cstC x0.consts)),(54,i6 (↑x0.consts.length:Int)),(55,bo false),(76,i6 (↑i2:Int)),(77,AV.ref 0 2),(78,lro x0.preds.length 2 (List.flatMap prdC x0.preds)),(79,i6 (↑x0.preds.length:Int)),(80,bo true),(83,AV.ref 0 2),(84,lro x0.preds.length 2 (List.flatMap prdC x0.preds)),(85,i6 (↑i2:Int)),(86,AV.eaddr (st a::lro b.length 1 (List.map st b)::r86)),(87,AV.eaddr (st a::lro b.length 1 (List.map st b)::r86)),(88,st a),(89,i6 (↑(ByteArray.size a):Int)),(90,bo false),(91,bo false),(92,AV.ref 0 2),(93,lro x0.preds.length 2 (List.flatMap prdC x0.preds)),(94,i6 (↑i2:Int)),(95,AV.eaddr (st c::lro d.length 1 (List.map st d)::r95)),(96,AV.eaddr (lro d.length 1 (List.map st d)::r95)),(97,lro d.length 1 (List.map st d)),(98,i6 (↑d.length:Int)),(99,bo false),(100,bo false)] [Ob.cells [lro x0.sorts.length 1 (List.map st x0.sorts),lro x0.consts.length 2 (List.flatMap cstC x0.consts),lro x0.preds.length 2 (List.flatMap prdC x0.preds)]]
abbrev f13_D3:List Nat:=[111,110,2,122,121,120,119,118,117,116,115,114,113,112,109,108,107,106,105,104,103,102,101]
theorem f13_L3 (x0:Sgn)(i0 i1 i2:Nat)(a:ByteArray)(b:List ByteArray)(r86:List AV)(c:ByteArray)(d:List ByteArray)(r95:List AV)(X:Ext)(call:Caller)(lf n:Nat)(x:Ex) (S' : St)
 (hn:n<lf)
 (hs:∀ j,j<n→∃ Sx,vexec Tryd.prog X call lf 0 noFg (loopN Tryd.f13 3) (f13_F3 x0 i0 i1 i2 a b r86 c d r95 j)=some (Ex.normal,Sx)∧forget f13_D3 Sx=(f13_F3 x0 i0 i1 i2 a b r86 c d r95 (j + 1)))
 (he:vexec Tryd.prog X call lf 0 noFg (loopN Tryd.f13 3) (f13_F3 x0 i0 i1 i2 a b r86 c d r95 n)=some (x,S'))
 (hx:x ≠ Ex.normal):vexec Tryd.prog X call lf 0 noFg (Go.Code.loop (loopN Tryd.f13 3)) (f13_S10 x0 i0 i1 i2 a b r86 c d r95)=some (x,S') :=
  loop_runK (by kernel_rfl) (fun j=>(f13_F3 x0 i0 i1 i2 a b r86 c d r95 j)) n hn (by show forget f13_D3 (f13_S10 x0 i0 i1 i2 a b r86 c d r95)=(f13_F3 x0 i0 i1 i2 a b r86 c d r95 0); unfold f13_F3; show _=_; kernel_rfl) hs he hx
def f13_S11 (x0:Sgn)(i0 i1 i2:Nat)(a:ByteArray)(b:List ByteArray)(r86:List AV)(c:ByteArray)(d:List ByteArray)(r95:List AV)(i3:Nat)(e:ByteArray)(g:List ByteArray)(r105:List AV)(h:ByteArray)(j:List ByteArray)(r115:List AV)(k:ByteArray)(r119:List AV):St :=
  stOf 123 [42,43,44,45,46,47,48,49,50,56,57,58,59,60,61,62,63,64,65,66,67,68,69,70,71,72,73,74,75,81,82,110,111] [(0,AV.agg [lro x0.sorts.length 1 (List.map st x0.sorts),lro x0.consts.length 2 (List.flatMap cstC x0.consts),lro x0.preds.length 2 (List.flatMap prdC x0.preds)]),(1,AV.ref 0 0),(2,bo false),(3,i6 (↑i0:Int)),(4,i6 (↑i1:Int)),(5,i6 (↑i2:Int)),(6,i6 (↑i3:Int)),(7,AV.ref 0 0),(8,lro x0.sorts.length 1 (List.map st x0.sorts)),(9,i6 (↑x0.sorts.length:Int)),(10,bo false),(11,bo false),(12,AV.ref 0 1),(13,lro x0.consts.length 2 (List.flatMap cstC x0.consts)),(14,i6 (↑x0.consts.length:Int)),(15,bo false),(16,bo false),(17,bo false),(18,AV.ref 0 2),(19,lro x0.preds.length 2 (List.flatMap prdC x0.preds)),(20,i6 (↑x0.preds.length:Int)),(21,bo false),(22,bo false),(23,bo false),(24,AV.ref 0 0),(25,lro x0.sorts.length 1 (List.map st x0.sorts)),(26,i6 (↑x0.sorts.length:Int)),(27,AV.ref 0 1),(28,lro x0.consts.length 2 (List.flatMap cstC x0.consts)),(29,i6 (↑x0.consts.length:Int)),(30,i6 (w6 ((↑x0.sorts.length:Int) + (↑x0.consts.length:Int)))),(31,AV.ref 0 2),(32,lro x0.preds.length 2 (List.flatMap prdC x0.preds)),(33,i6 (↑x0.preds.length:Int)),(34,i6 (w6 (w6 ((↑x0.sorts.length:Int) + (↑x0.consts.length:Int)) + (↑x0.preds.length:Int)))),(35,bo false),(36,bo false),(37,i6 (↑i0:Int)),(38,AV.ref 0 0),(39,lro x0.sorts.length 1 (List.map st x0.sorts)),(40,i6 (↑x0.sorts.length:Int)),(41,bo false),(51,i6 (↑i1:Int)),(52,AV.ref 0 1),(53,lro x0.consts.length 2 (List.flatMap cstC x0.consts)),(54,i6 (↑x0.consts.length:Int)),(55,bo false),(76,i6 (↑i2:Int)),(77,AV.ref 0 2),(78,lro x0.preds.length 2 (List.flatMap prdC x0.preds)),(79,i6 (↑x0.preds.length:Int)),(80,bo true),(83,AV.ref 0 2),(84,lro x0.preds.length 2 (List.flatMap prdC x0.preds)),(85,i6 (↑i2:Int)),(86,AV.eaddr (st a::lro b.length 1 (List.map st b)::r86)),(87,AV.eaddr (st a::lro b.length 1 (List.map st b)::r86)),(88,st a),(89,i6 (↑(ByteArray.size a):Int)),(90,bo false),(91,bo false),(92,AV.ref 0 2),(93,lro x0.preds.length 2 (List.flatMap prdC x0.preds)),(94,i6 (↑i2:Int)),(95,AV.eaddr (st c::lro d.length 1 (List.map st d)::r95)),(96,AV.eaddr (lro d.length 1 (List.map st d)::r95)),(97,lro d.length 1 (List.map st d)),(98,i6 (↑d.length:Int)),(99,bo false),(100,bo false),(101,i6 (↑i3:Int)),(102,AV.ref 0 2),(103,lro x0.preds.length 2 (List.flatMap prdC x0.preds)),(104,i6 (↑i2:Int)),(105,AV.eaddr (st e::lro g.length 1 (List.map st g)::r105)),(106,AV.eaddr (lro g.length 1 (List.map st g)::r105)),(107,lro g.length 1 (List.map st g)),(108,i6 (↑g.length:Int)),(109,bo true),(112,AV.ref 0 2),(113,lro x0.preds.length 2 (List.flatMap prdC x0.preds)),(114,i6 (↑i2:Int)),(115,AV.eaddr (st h::lro j.length 1 (List.map st j)::r115)),(116,AV.eaddr (lro j.length 1 (List.map st j)::r115)),(117,lro j.length 1 (List.map st j)),(118,i6 (↑i3:Int)),(119,AV.eaddr (st k::r119)),(120,st k),(121,i6 (↑(ByteArray.size k):Int)),(122,bo true)] [Ob.cells [lro x0.sorts.length 1 (List.map st x0.sorts),lro x0.consts.length 2 (List.flatMap cstC x0.consts),lro x0.preds.length 2 (List.flatMap prdC x0.preds)]]
theorem f13_r3_tt (x0:Sgn)(X:Ext)(call:Caller)(lf i0 i1 i2:Nat)(a:ByteArray)(c:List ByteArray)(r86:List AV)(d:ByteArray)(e:List ByteArray)(r95:List AV)(i3:Nat)(g:ByteArray)(h:List ByteArray)(r105:List AV)(j:ByteArray)(k:List ByteArray)(r115:List AV)(p:ByteArray)(r119:List AV)
 (h0:kiq 24 [Ob.cells [lro x0.sorts.length 1 (List.map st x0.sorts),lro x0.consts.length 2 (List.flatMap cstC x0.consts),lro x0.preds.length 2 (List.flatMap prdC x0.preds)]] (lro x0.preds.length 2 (List.flatMap prdC x0.preds)) (i6 (↑i2:Int)) (st g::lro h.length 1 (List.map st h)::r105))
 (h1:decide ((↑i3:Int)<(↑h.length:Int))=true)
 (h2:kiq 24 [Ob.cells [lro x0.sorts.length 1 (List.map st x0.sorts),lro x0.consts.length 2 (List.flatMap cstC x0.consts),lro x0.preds.length 2 (List.flatMap prdC x0.preds)]] (lro x0.preds.length 2 (List.flatMap prdC x0.preds)) (i6 (↑i2:Int)) (st j::lro k.length 1 (List.map st k)::r115))
 (h3:kiq 22 [Ob.cells [lro x0.sorts.length 1 (List.map st x0.sorts),lro x0.consts.length 2 (List.flatMap cstC x0.consts),lro x0.preds.length 2 (List.flatMap prdC x0.preds)]] (lro k.length 1 (List.map st k)) (i6 (↑i3:Int)) (st p::r119))
 (h4:decide ((↑(ByteArray.size p):Int)>40)=true):vexec Tryd.prog X call lf 0 noFg (loopN Tryd.f13 3) (f13_F3 x0 i0 i1 i2 a c r86 d e r95 i3)=some (Ex.ret,(f13_S11 x0 i0 i1 i2 a c r86 d e r95 i3 g h r105 j k r115 p r119)) :=
  around_sound (ans:=[(5,Ans.v (AV.eaddr (st g::lro h.length 1 (List.map st h)::r105))),(9,Ans.b true),(15,Ans.v (AV.eaddr (st j::lro k.length 1 (List.map st k)::r115))),(19,Ans.v (AV.eaddr (st p::r119))),(22,Ans.b true)]) (by kernel_rfl) (ai h0 (ai h1 (ai h2 (ai h3 (ai h4 trivial)))))
theorem f13_r2_tffltt (x0:Sgn)(X:Ext)(call:Caller)(lf i0 i1 i2:Nat)(a:ByteArray)(c:List ByteArray)(r86:List AV)(d:ByteArray)(e:List ByteArray)(r95:List AV)(i3:Nat)(g:ByteArray)(h:List ByteArray)(r105:List AV)(j:ByteArray)(k:List ByteArray)(r115:List AV)(p:ByteArray)(r119:List AV)
 (h0:decide ((↑i2:Int)<(↑x0.preds.length:Int))=true)
 (h1:kiq 24 [Ob.cells [lro x0.sorts.length 1 (List.map st x0.sorts),lro x0.consts.length 2 (List.flatMap cstC x0.consts),lro x0.preds.length 2 (List.flatMap prdC x0.preds)]] (lro x0.preds.length 2 (List.flatMap prdC x0.preds)) (i6 (↑i2:Int)) (st a::lro c.length 1 (List.map st c)::r86))
 (h2:decide ((↑(ByteArray.size a):Int)>40)=false)
 (h3:kiq 24 [Ob.cells [lro x0.sorts.length 1 (List.map st x0.sorts),lro x0.consts.length 2 (List.flatMap cstC x0.consts),lro x0.preds.length 2 (List.flatMap prdC x0.preds)]] (lro x0.preds.length 2 (List.flatMap prdC x0.preds)) (i6 (↑i2:Int)) (st d::lro e.length 1 (List.map st e)::r95))
 (h4:decide ((↑e.length:Int)>6)=false)
 (h5:vexec Tryd.prog X call lf 0 noFg (Code.loop (loopN Tryd.f13 3)) (f13_S10 x0 i0 i1 i2 a c r86 d e r95)=some (Ex.ret,(f13_S11 x0 i0 i1 i2 a c r86 d e r95 i3 g h r105 j k r115 p r119))):vexec Tryd.prog X call lf 0 noFg (loopN Tryd.f13 2) (f13_F2 x0 i0 i1 i2)=some (Ex.ret,(f13_S11 x0 i0 i1 i2 a c r86 d e r95 i3 g h r105 j k r115 p r119)) :=
  around_sound (ans:=[(5,Ans.b true),(11,Ans.v (AV.eaddr (st a::lro c.length 1 (List.map st c)::r86))),(15,Ans.b false),(24,Ans.v (AV.eaddr (st d::lro e.length 1 (List.map st e)::r95))),(32,Ans.b false),(37,Ans.l Ex.ret (f13_S11 x0 i0 i1 i2 a c r86 d e r95 i3 g h r105 j k r115 p r119))]) (by kernel_rfl) (ai h0 (ai h1 (ai h2 (ai h3 (ai h4 (ai h5 trivial))))))
theorem f13_pfffflflfltffltt (x0:Sgn)(X:Ext)(call:Caller)(lf i0 i1 i2:Nat)(a:ByteArray)(c:List ByteArray)(r86:List AV)(d:ByteArray)(e:List ByteArray)(r95:List AV)(i3:Nat)(g:ByteArray)(h:List ByteArray)(r105:List AV)(j:ByteArray)(k:List ByteArray)(r115:List AV)(p:ByteArray)(r119:List AV)
 (h0:decide ((↑x0.sorts.length:Int)>300)=false)
 (h1:decide ((↑x0.consts.length:Int)>300)=false)
 (h2:decide ((↑x0.preds.length:Int)>300)=false)
 (h3:decide (w6 (w6 ((↑x0.sorts.length:Int) + (↑x0.consts.length:Int)) + (↑x0.preds.length:Int))>300)=false)
 (h4:vexec Tryd.prog X call lf 0 noFg (Code.loop (loopN Tryd.f13 0)) (f13_S0 x0)=some (Ex.exit 0,(f13_S2 x0 i0)))
 (h5:vexec Tryd.prog X call lf 0 noFg (Code.loop (loopN Tryd.f13 1)) (f13_S3 x0 i0)=some (Ex.exit 2,(f13_S6 x0 i0 i1)))
 (h6:vexec Tryd.prog X call lf 0 noFg (Code.loop (loopN Tryd.f13 2)) (f13_S7 x0 i0 i1)=some (Ex.ret,(f13_S11 x0 i0 i1 i2 a c r86 d e r95 i3 g h r105 j k r115 p r119))):vbody Tryd.prog X call lf noFg Tryd.f13 (codeOf Tryd.f13) [AV.agg (sgnC x0)] [] 0=some (bo false,[Ob.cells [lro x0.sorts.length 1 (List.map st x0.sorts),lro x0.consts.length 2 (List.flatMap cstC x0.consts),lro x0.preds.length 2 (List.flatMap prdC x0.preds)]]) :=
  along_sound (ans:=[(7,Ans.b false),(16,Ans.b false),(26,Ans.b false),(52,Ans.b false),(57,Ans.l (Ex.exit 0) (f13_S2 x0 i0)),(60,Ans.l (Ex.exit 2) (f13_S6 x0 i0 i1)),(63,Ans.l Ex.ret (f13_S11 x0 i0 i1 i2 a c r86 d e r95 i3 g h r105 j k r115 p r119))]) (by kernel_rfl) (ai h0 (ai h1 (ai h2 (ai h3 (ai h4 (ai h5 (ai h6 trivial)))))))
theorem f13_s3_tf (x0:Sgn)(X:Ext)(call:Caller)(lf i0 i1 i2:Nat)(a:ByteArray)(c:List ByteArray)(r86:List AV)(d:ByteArray)(e:List ByteArray)(r95:List AV)(i3:Nat)(g:ByteArray)(h:List ByteArray)(r105:List AV)(j:ByteArray)(k:List ByteArray)(r115:List AV)(p:ByteArray)(r119:List AV)
 (h0:kiq 24 [Ob.cells [lro x0.sorts.length 1 (List.map st x0.sorts),lro x0.consts.length 2 (List.flatMap cstC x0.consts),lro x0.preds.length 2 (List.flatMap prdC x0.preds)]] (lro x0.preds.length 2 (List.flatMap prdC x0.preds)) (i6 (↑i2:Int)) (st g::lro h.length 1 (List.map st h)::r105))
 (h1:decide ((↑i3:Int)<(↑h.length:Int))=true)
 (h2:kiq 24 [Ob.cells [lro x0.sorts.length 1 (List.map st x0.sorts),lro x0.consts.length 2 (List.flatMap cstC x0.consts),lro x0.preds.length 2 (List.flatMap prdC x0.preds)]] (lro x0.preds.length 2 (List.flatMap prdC x0.preds)) (i6 (↑i2:Int)) (st j::lro k.length 1 (List.map st k)::r115))
 (h3:kiq 22 [Ob.cells [lro x0.sorts.length 1 (List.map st x0.sorts),lro x0.consts.length 2 (List.flatMap cstC x0.consts),lro x0.preds.length 2 (List.flatMap prdC x0.preds)]] (lro k.length 1 (List.map st k)) (i6 (↑i3:Int)) (st p::r119))
 (h4:decide ((↑(ByteArray.size p):Int)>40)=false)
 (e0:(↑(i3 + 1):Int)=w6 ((↑i3:Int) + 1)):∃ Sx,vexec Tryd.prog X call lf 0 noFg (loopN Tryd.f13 3) (f13_F3 x0 i0 i1 i2 a c r86 d e r95 i3)=some (Ex.normal,Sx)∧forget f13_D3 Sx=(f13_F3 x0 i0 i1 i2 a c r86 d e r95 (i3 + 1)) :=
  ⟨stOf 123 [2,42,43,44,45,46,47,48,49,50,56,57,58,59,60,61,62,63,64,65,66,67,68,69,70,71,72,73,74,75,81,82] [(0,AV.agg [lro x0.sorts.length 1 (List.map st x0.sorts),lro x0.consts.length 2 (List.flatMap cstC x0.consts),lro x0.preds.length 2 (List.flatMap prdC x0.preds)]),(1,AV.ref 0 0),(3,i6 (↑i0:Int)),(4,i6 (↑i1:Int)),(5,i6 (↑i2:Int)),(6,i6 (w6 ((↑i3:Int) + 1))),(7,AV.ref 0 0),(8,lro x0.sorts.length 1 (List.map st x0.sorts)),(9,i6 (↑x0.sorts.length:Int)),(10,bo false),(11,bo false),(12,AV.ref 0 1),(13,lro x0.consts.length 2 (List.flatMap cstC x0.consts)),(14,i6 (↑x0.consts.length:Int)),(15,bo false),(16,bo false),(17,bo false),(18,AV.ref 0 2),(19,lro x0.preds.length 2 (List.flatMap prdC x0.preds)),(20,i6 (↑x0.preds.length:Int)),(21,bo false),(22,bo false),(23,bo false),(24,AV.ref 0 0),(25,lro x0.sorts.length 1 (List.map st x0.sorts)),(26,i6 (↑x0.sorts.length:Int)),(27,AV.ref 0 1),(28,lro x0.consts.length 2 (List.flatMap cstC x0.consts)),(29,i6 (↑x0.consts.length:Int)),(30,i6 (w6 ((↑x0.sorts.length:Int) + (↑x0.consts.length:Int)))),(31,AV.ref 0 2),(32,lro x0.preds.length 2 (List.flatMap prdC x0.preds)),(33,i6 (↑x0.preds.length:Int)),(34,i6 (w6 (w6 ((↑x0.sorts.length:Int) + (↑x0.consts.length:Int)) + (↑x0.preds.length:Int)))),(35,bo false),(36,bo false),(37,i6 (↑i0:Int)),(38,AV.ref 0 0),(39,lro x0.sorts.length 1 (List.map st x0.sorts)),(40,i6 (↑x0.sorts.length:Int)),(41,bo false),(51,i6 (↑i1:Int)),(52,AV.ref 0 1),(53,lro x0.consts.length 2 (List.flatMap cstC x0.consts)),(54,i6 (↑x0.consts.length:Int)),(55,bo false),(76,i6 (↑i2:Int)),(77,AV.ref 0 2),(78,lro x0.preds.length 2 (List.flatMap prdC x0.preds)),(79,i6 (↑x0.preds.length:Int)),(80,bo true),(83,AV.ref 0 2),(84,lro x0.preds.length 2 (List.flatMap prdC x0.preds)),(85,i6 (↑i2:Int)),(86,AV.eaddr (st a::lro c.length 1 (List.map st c)::r86)),(87,AV.eaddr (st a::lro c.length 1 (List.map st c)::r86)),(88,st a),(89,i6 (↑(ByteArray.size a):Int)),(90,bo false),(91,bo false),(92,AV.ref 0 2),(93,lro x0.preds.length 2 (List.flatMap prdC x0.preds)),(94,i6 (↑i2:Int)),(95,AV.eaddr (st d::lro e.length 1 (List.map st e)::r95)),(96,AV.eaddr (lro e.length 1 (List.map st e)::r95)),(97,lro e.length 1 (List.map st e)),(98,i6 (↑e.length:Int)),(99,bo false),(100,bo false),(101,i6 (↑i3:Int)),(102,AV.ref 0 2),(103,lro x0.preds.length 2 (List.flatMap prdC x0.preds)),(104,i6 (↑i2:Int)),(105,AV.eaddr (st g::lro h.length 1 (List.map st h)::r105)),(106,AV.eaddr (lro h.length 1 (List.map st h)::r105)),(107,lro h.length 1 (List.map st h)),(108,i6 (↑h.length:Int)),(109,bo true),(110,i6 (↑i3:Int)),(111,i6 (w6 ((↑i3:Int) + 1))),(112,AV.ref 0 2),(113,lro x0.preds.length 2 (List.flatMap prdC x0.preds)),(114,i6 (↑i2:Int)),(115,AV.eaddr (st j::lro k.length 1 (List.map st k)::r115)),(116,AV.eaddr (lro k.length 1 (List.map st k)::r115)),(117,lro k.length 1 (List.map st k)),(118,i6 (↑i3:Int)),(119,AV.eaddr (st p::r119)),(120,st p),(121,i6 (↑(ByteArray.size p):Int)),(122,bo false)] [Ob.cells [lro x0.sorts.length 1 (List.map st x0.sorts),lro x0.consts.length 2 (List.flatMap cstC x0.consts),lro x0.preds.length 2 (List.flatMap prdC x0.preds)]],around_sound (ans:=[(5,Ans.v (AV.eaddr (st g::lro h.length 1 (List.map st h)::r105))),(9,Ans.b true),(15,Ans.v (AV.eaddr (st j::lro k.length 1 (List.map st k)::r115))),(19,Ans.v (AV.eaddr (st p::r119))),(22,Ans.b false)]) (by kernel_rfl) (ai h0 (ai h1 (ai h2 (ai h3 (ai h4 trivial))))),by unfold f13_F3; rw [e0]; show _=_; kernel_rfl⟩
def f13_S12 (x0:Sgn)(i0 i1 i2:Nat)(a:ByteArray)(b:List ByteArray)(r86:List AV)(c:ByteArray)(d:List ByteArray)(r95:List AV)(i3:Nat)(e:ByteArray)(g:List ByteArray)(r105:List AV):St :=
  stOf 123 [2,42,43,44,45,46,47,48,49,50,56,57,58,59,60,61,62,63,64,65,66,67,68,69,70,71,72,73,74,75,81,82,110,111,112,113,114,115,116,117,118,119,120,121,122] [(0,AV.agg [lro x0.sorts.length 1 (List.map st x0.sorts),lro x0.consts.length 2 (List.flatMap cstC x0.consts),lro x0.preds.length 2 (List.flatMap prdC x0.preds)]),(1,AV.ref 0 0),(3,i6 (↑i0:Int)),(4,i6 (↑i1:Int)),(5,i6 (↑i2:Int)),(6,i6 (↑i3:Int)),(7,AV.ref 0 0),(8,lro x0.sorts.length 1 (List.map st x0.sorts)),(9,i6 (↑x0.sorts.length:Int)),(10,bo false),(11,bo false),(12,AV.ref 0 1),(13,lro x0.consts.length 2 (List.flatMap cstC x0.consts)),(14,i6 (↑x0.consts.length:Int)),(15,bo false),(16,bo false),(17,bo false),(18,AV.ref 0 2),(19,lro x0.preds.length 2 (List.flatMap prdC x0.preds)),(20,i6 (↑x0.preds.length:Int)),(21,bo false),(22,bo false),(23,bo false),(24,AV.ref 0 0),(25,lro x0.sorts.length 1 (List.map st x0.sorts)),(26,i6 (↑x0.sorts.length:Int)),(27,AV.ref 0 1),(28,lro x0.consts.length 2 (List.flatMap cstC x0.consts)),(29,i6 (↑x0.consts.length:Int)),(30,i6 (w6 ((↑x0.sorts.length:Int) + (↑x0.consts.length:Int)))),(31,AV.ref 0 2),(32,lro x0.preds.length 2 (List.flatMap prdC x0.preds)),(33,i6 (↑x0.preds.length:Int)),(34,i6 (w6 (w6 ((↑x0.sorts.length:Int) + (↑x0.consts.length:Int)) + (↑x0.preds.length:Int)))),(35,bo false),(36,bo false),(37,i6 (↑i0:Int)),(38,AV.ref 0 0),(39,lro x0.sorts.length 1 (List.map st x0.sorts)),(40,i6 (↑x0.sorts.length:Int)),(41,bo false),(51,i6 (↑i1:Int)),(52,AV.ref 0 1),(53,lro x0.consts.length 2 (List.flatMap cstC x0.consts)),(54,i6 (↑x0.consts.length:Int)),(55,bo false),(76,i6 (↑i2:Int)),(77,AV.ref 0 2),(78,lro x0.preds.length 2 (List.flatMap prdC x0.preds)),(79,i6 (↑x0.preds.length:Int)),(80,bo true),(83,AV.ref 0 2),(84,lro x0.preds.length 2 (List.flatMap prdC x0.preds)),(85,i6 (↑i2:Int)),(86,AV.eaddr (st a::lro b.length 1 (List.map st b)::r86)),(87,AV.eaddr (st a::lro b.length 1 (List.map st b)::r86)),(88,st a),(89,i6 (↑(ByteArray.size a):Int)),(90,bo false),(91,bo false),(92,AV.ref 0 2),(93,lro x0.preds.length 2 (List.flatMap prdC x0.preds)),(94,i6 (↑i2:Int)),(95,AV.eaddr (st c::lro d.length 1 (List.map st d)::r95)),(96,AV.eaddr (lro d.length 1 (List.map st d)::r95)),(97,lro d.length 1 (List.map st d)),(98,i6 (↑d.length:Int)),(99,bo false),(100,bo false),(101,i6 (↑i3:Int)),(102,AV.ref 0 2),(103,lro x0.preds.length 2 (List.flatMap prdC x0.preds)),(104,i6 (↑i2:Int)),(105,AV.eaddr (st e::lro g.length 1 (List.map st g)::r105)),(106,AV.eaddr (lro g.length 1 (List.map st g)::r105)),(107,lro g.length 1 (List.map st g)),(108,i6 (↑g.length:Int)),(109,bo false)] [Ob.cells [lro x0.sorts.length 1 (List.map st x0.sorts),lro x0.consts.length 2 (List.flatMap cstC x0.consts),lro x0.preds.length 2 (List.flatMap prdC x0.preds)]]
theorem f13_r3_f (x0:Sgn)(X:Ext)(call:Caller)(lf i0 i1 i2:Nat)(a:ByteArray)(c:List ByteArray)(r86:List AV)(d:ByteArray)(e:List ByteArray)(r95:List AV)(i3:Nat)(g:ByteArray)(h:List ByteArray)(r105:List AV)
 (h0:kiq 24 [Ob.cells [lro x0.sorts.length 1 (List.map st x0.sorts),lro x0.consts.length 2 (List.flatMap cstC x0.consts),lro x0.preds.length 2 (List.flatMap prdC x0.preds)]] (lro x0.preds.length 2 (List.flatMap prdC x0.preds)) (i6 (↑i2:Int)) (st g::lro h.length 1 (List.map st h)::r105))
 (h1:decide ((↑i3:Int)<(↑h.length:Int))=false):vexec Tryd.prog X call lf 0 noFg (loopN Tryd.f13 3) (f13_F3 x0 i0 i1 i2 a c r86 d e r95 i3)=some (Ex.exit 6,(f13_S12 x0 i0 i1 i2 a c r86 d e r95 i3 g h r105)) :=
  around_sound (ans:=[(5,Ans.v (AV.eaddr (st g::lro h.length 1 (List.map st h)::r105))),(9,Ans.b false)]) (by kernel_rfl) (ai h0 (ai h1 trivial))
theorem f13_s2_tfflf (x0:Sgn)(X:Ext)(call:Caller)(lf i0 i1 i2:Nat)(a:ByteArray)(c:List ByteArray)(r86:List AV)(d:ByteArray)(e:List ByteArray)(r95:List AV)(i3:Nat)(g:ByteArray)(h:List ByteArray)(r105:List AV)
 (h0:decide ((↑i2:Int)<(↑x0.preds.length:Int))=true)
 (h1:kiq 24 [Ob.cells [lro x0.sorts.length 1 (List.map st x0.sorts),lro x0.consts.length 2 (List.flatMap cstC x0.consts),lro x0.preds.length 2 (List.flatMap prdC x0.preds)]] (lro x0.preds.length 2 (List.flatMap prdC x0.preds)) (i6 (↑i2:Int)) (st a::lro c.length 1 (List.map st c)::r86))
 (h2:decide ((↑(ByteArray.size a):Int)>40)=false)
 (h3:kiq 24 [Ob.cells [lro x0.sorts.length 1 (List.map st x0.sorts),lro x0.consts.length 2 (List.flatMap cstC x0.consts),lro x0.preds.length 2 (List.flatMap prdC x0.preds)]] (lro x0.preds.length 2 (List.flatMap prdC x0.preds)) (i6 (↑i2:Int)) (st d::lro e.length 1 (List.map st e)::r95))
 (h4:decide ((↑e.length:Int)>6)=false)
 (h5:vexec Tryd.prog X call lf 0 noFg (Code.loop (loopN Tryd.f13 3)) (f13_S10 x0 i0 i1 i2 a c r86 d e r95)=some (Ex.exit 6,(f13_S12 x0 i0 i1 i2 a c r86 d e r95 i3 g h r105)))
 (e0:(↑(i2 + 1):Int)=w6 ((↑i2:Int) + 1)):∃ Sx,vexec Tryd.prog X call lf 0 noFg (loopN Tryd.f13 2) (f13_F2 x0 i0 i1 i2)=some (Ex.normal,Sx)∧forget f13_D2 Sx=(f13_F2 x0 i0 i1 (i2 + 1)) :=
  ⟨stOf 123 [2,42,43,44,45,46,47,48,49,50,56,57,58,59,60,61,62,63,64,65,66,67,68,69,70,71,72,73,74,75,110,111,112,113,114,115,116,117,118,119,120,121,122] [(0,AV.agg [lro x0.sorts.length 1 (List.map st x0.sorts),lro x0.consts.length 2 (List.flatMap cstC x0.consts),lro x0.preds.length 2 (List.flatMap prdC x0.preds)]),(1,AV.ref 0 0),(3,i6 (↑i0:Int)),(4,i6 (↑i1:Int)),(5,i6 (w6 ((↑i2:Int) + 1))),(6,i6 (↑i3:Int)),(7,AV.ref 0 0),(8,lro x0.sorts.length 1 (List.map st x0.sorts)),(9,i6 (↑x0.sorts.length:Int)),(10,bo false),(11,bo false),(12,AV.ref 0 1),(13,lro x0.consts.length 2 (List.flatMap cstC x0.consts)),(14,i6 (↑x0.consts.length:Int)),(15,bo false),(16,bo false),(17,bo false),(18,AV.ref 0 2),(19,lro x0.preds.length 2 (List.flatMap prdC x0.preds)),(20,i6 (↑x0.preds.length:Int)),(21,bo false),(22,bo false),(23,bo false),(24,AV.ref 0 0),(25,lro x0.sorts.length 1 (List.map st x0.sorts)),(26,i6 (↑x0.sorts.length:Int)),(27,AV.ref 0 1),(28,lro x0.consts.length 2 (List.flatMap cstC x0.consts)),(29,i6 (↑x0.consts.length:Int)),(30,i6 (w6 ((↑x0.sorts.length:Int) + (↑x0.consts.length:Int)))),(31,AV.ref 0 2),(32,lro x0.preds.length 2 (List.flatMap prdC x0.preds)),(33,i6 (↑x0.preds.length:Int)),(34,i6 (w6 (w6 ((↑x0.sorts.length:Int) + (↑x0.consts.length:Int)) + (↑x0.preds.length:Int)))),(35,bo false),(36,bo false),(37,i6 (↑i0:Int)),(38,AV.ref 0 0),(39,lro x0.sorts.length 1 (List.map st x0.sorts)),(40,i6 (↑x0.sorts.length:Int)),(41,bo false),(51,i6 (↑i1:Int)),(52,AV.ref 0 1),(53,lro x0.consts.length 2 (List.flatMap cstC x0.consts)),(54,i6 (↑x0.consts.length:Int)),(55,bo false),(76,i6 (↑i2:Int)),(77,AV.ref 0 2),(78,lro x0.preds.length 2 (List.flatMap prdC x0.preds)),(79,i6 (↑x0.preds.length:Int)),(80,bo true),(81,i6 (↑i2:Int)),(82,i6 (w6 ((↑i2:Int) + 1))),(83,AV.ref 0 2),(84,lro x0.preds.length 2 (List.flatMap prdC x0.preds)),(85,i6 (↑i2:Int)),(86,AV.eaddr (st a::lro c.length 1 (List.map st c)::r86)),(87,AV.eaddr (st a::lro c.length 1 (List.map st c)::r86)),(88,st a),(89,i6 (↑(ByteArray.size a):Int)),(90,bo false),(91,bo false),(92,AV.ref 0 2),(93,lro x0.preds.length 2 (List.flatMap prdC x0.preds)),(94,i6 (↑i2:Int)),(95,AV.eaddr (st d::lro e.length 1 (List.map st e)::r95)),(96,AV.eaddr (lro e.length 1 (List.map st e)::r95)),(97,lro e.length 1 (List.map st e)),(98,i6 (↑e.length:Int)),(99,bo false),(100,bo false),(101,i6 (↑i3:Int)),(102,AV.ref 0 2),(103,lro x0.preds.length 2 (List.flatMap prdC x0.preds)),(104,i6 (↑i2:Int)),(105,AV.eaddr (st g::lro h.length 1 (List.map st h)::r105)),(106,AV.eaddr (lro h.length 1 (List.map st h)::r105)),(107,lro h.length 1 (List.map st h)),(108,i6 (↑h.length:Int)),(109,bo false)] [Ob.cells [lro x0.sorts.length 1 (List.map st x0.sorts),lro x0.consts.length 2 (List.flatMap cstC x0.consts),lro x0.preds.length 2 (List.flatMap prdC x0.preds)]],around_sound (ans:=[(5,Ans.b true),(11,Ans.v (AV.eaddr (st a::lro c.length 1 (List.map st c)::r86))),(15,Ans.b false),(24,Ans.v (AV.eaddr (st d::lro e.length 1 (List.map st e)::r95))),(32,Ans.b false),(37,Ans.l (Ex.exit 6) (f13_S12 x0 i0 i1 i2 a c r86 d e r95 i3 g h r105))]) (by kernel_rfl) (ai h0 (ai h1 (ai h2 (ai h3 (ai h4 (ai h5 trivial)))))),by unfold f13_F2; rw [e0]; show _=_; kernel_rfl⟩
def f13_S13 (x0:Sgn)(i0 i1 i2:Nat):St :=
  stOf 123 [2,6,42,43,44,45,46,47,48,49,50,56,57,58,59,60,61,62,63,64,65,66,67,68,69,70,71,72,73,74,75,81,82,83,84,85,86,87,88,89,90,91,92,93,94,95,96,97,98,99,100,101,102,103,104,105,106,107,108,109,110,111,112,113,114,115,116,117,118,119,120,121,122] [(0,AV.agg [lro x0.sorts.length 1 (List.map st x0.sorts),lro x0.consts.length 2 (List.flatMap cstC x0.consts),lro x0.preds.length 2 (List.flatMap prdC x0.preds)]),(1,AV.ref 0 0),(3,i6 (↑i0:Int)),(4,i6 (↑i1:Int)),(5,i6 (↑i2:Int)),(7,AV.ref 0 0),(8,lro x0.sorts.length 1 (List.map st x0.sorts)),(9,i6 (↑x0.sorts.length:Int)),(10,bo false),(11,bo false),(12,AV.ref 0 1),(13,lro x0.consts.length 2 (List.flatMap cstC x0.consts)),(14,i6 (↑x0.consts.length:Int)),(15,bo false),(16,bo false),(17,bo false),(18,AV.ref 0 2),(19,lro x0.preds.length 2 (List.flatMap prdC x0.preds)),(20,i6 (↑x0.preds.length:Int)),(21,bo false),(22,bo false),(23,bo false),(24,AV.ref 0 0),(25,lro x0.sorts.length 1 (List.map st x0.sorts)),(26,i6 (↑x0.sorts.length:Int)),(27,AV.ref 0 1),(28,lro x0.consts.length 2 (List.flatMap cstC x0.consts)),(29,i6 (↑x0.consts.length:Int)),(30,i6 (w6 ((↑x0.sorts.length:Int) + (↑x0.consts.length:Int)))),(31,AV.ref 0 2),(32,lro x0.preds.length 2 (List.flatMap prdC x0.preds)),(33,i6 (↑x0.preds.length:Int)),(34,i6 (w6 (w6 ((↑x0.sorts.length:Int) + (↑x0.consts.length:Int)) + (↑x0.preds.length:Int)))),(35,bo false),(36,bo false),(37,i6 (↑i0:Int)),(38,AV.ref 0 0),(39,lro x0.sorts.length 1 (List.map st x0.sorts)),(40,i6 (↑x0.sorts.length:Int)),(41,bo false),(51,i6 (↑i1:Int)),(52,AV.ref 0 1),(53,lro x0.consts.length 2 (List.flatMap cstC x0.consts)),(54,i6 (↑x0.consts.length:Int)),(55,bo false),(76,i6 (↑i2:Int)),(77,AV.ref 0 2),(78,lro x0.preds.length 2 (List.flatMap prdC x0.preds)),(79,i6 (↑x0.preds.length:Int)),(80,bo false)] [Ob.cells [lro x0.sorts.length 1 (List.map st x0.sorts),lro x0.consts.length 2 (List.flatMap cstC x0.consts),lro x0.preds.length 2 (List.flatMap prdC x0.preds)]]
theorem f13_r2_f (x0:Sgn)(X:Ext)(call:Caller)(lf i0 i1 i2:Nat)
 (h0:decide ((↑i2:Int)<(↑x0.preds.length:Int))=false):vexec Tryd.prog X call lf 0 noFg (loopN Tryd.f13 2) (f13_F2 x0 i0 i1 i2)=some (Ex.exit 4,(f13_S13 x0 i0 i1 i2)) :=
  around_sound (ans:=[(5,Ans.b false)]) (by kernel_rfl) (ai h0 trivial)
theorem f13_pfffflflflf (x0:Sgn)(X:Ext)(call:Caller)(lf i0 i1 i2:Nat)
 (h0:decide ((↑x0.sorts.length:Int)>300)=false)
 (h1:decide ((↑x0.consts.length:Int)>300)=false)
 (h2:decide ((↑x0.preds.length:Int)>300)=false)
 (h3:decide (w6 (w6 ((↑x0.sorts.length:Int) + (↑x0.consts.length:Int)) + (↑x0.preds.length:Int))>300)=false)
 (h4:vexec Tryd.prog X call lf 0 noFg (Code.loop (loopN Tryd.f13 0)) (f13_S0 x0)=some (Ex.exit 0,(f13_S2 x0 i0)))
 (h5:vexec Tryd.prog X call lf 0 noFg (Code.loop (loopN Tryd.f13 1)) (f13_S3 x0 i0)=some (Ex.exit 2,(f13_S6 x0 i0 i1)))
 (h6:vexec Tryd.prog X call lf 0 noFg (Code.loop (loopN Tryd.f13 2)) (f13_S7 x0 i0 i1)=some (Ex.exit 4,(f13_S13 x0 i0 i1 i2))):vbody Tryd.prog X call lf noFg Tryd.f13 (codeOf Tryd.f13) [AV.agg (sgnC x0)] [] 0=some (bo true,[Ob.cells [lro x0.sorts.length 1 (List.map st x0.sorts),lro x0.consts.length 2 (List.flatMap cstC x0.consts),lro x0.preds.length 2 (List.flatMap prdC x0.preds)]]) :=
  along_sound (ans:=[(7,Ans.b false),(16,Ans.b false),(26,Ans.b false),(52,Ans.b false),(57,Ans.l (Ex.exit 0) (f13_S2 x0 i0)),(60,Ans.l (Ex.exit 2) (f13_S6 x0 i0 i1)),(63,Ans.l (Ex.exit 4) (f13_S13 x0 i0 i1 i2))]) (by kernel_rfl) (ai h0 (ai h1 (ai h2 (ai h3 (ai h4 (ai h5 (ai h6 trivial)))))))
def f13_q0 (x0:Sgn):Nat :=
  (match decide ((↑x0.sorts.length:Int)>300) with
  | true=>0
  | false=>(match decide ((↑x0.consts.length:Int)>300) with
    | true=>0
    | false=>(match decide ((↑x0.preds.length:Int)>300) with
      | true=>0
      | false=>(match decide (w6 (w6 ((↑x0.sorts.length:Int) + (↑x0.consts.length:Int)) + (↑x0.preds.length:Int))>300) with
        | true=>0
        | false=>999))))
theorem f13_P0 (x0:Sgn)(X:Ext)(call:Caller)(lf:Nat) :
    (f13_q0 x0=0→vbody Tryd.prog X call lf noFg Tryd.f13 (codeOf Tryd.f13) [AV.agg (sgnC x0)] [] 0=some (bo false,[Ob.cells [lro x0.sorts.length 1 (List.map st x0.sorts),lro x0.consts.length 2 (List.flatMap cstC x0.consts),lro x0.preds.length 2 (List.flatMap prdC x0.preds)]])):=by
  unfold f13_q0
  cases c0:decide ((↑x0.sorts.length:Int)>300) with
  | true =>
    exact fun _=>f13_pt x0 X call lf c0
  | false =>
    cases c1:decide ((↑x0.consts.length:Int)>300) with
    | true =>
      exact fun _=>f13_pft x0 X call lf c0 c1
    | false =>
      cases c2:decide ((↑x0.preds.length:Int)>300) with
      | true =>
        exact fun _=>f13_pfft x0 X call lf c0 c1 c2
      | false =>
        cases c3:decide (w6 (w6 ((↑x0.sorts.length:Int) + (↑x0.consts.length:Int)) + (↑x0.preds.length:Int))>300) with
        | true =>
          exact fun _=>f13_pffft x0 X call lf c0 c1 c2 c3
        | false =>
          exact fun h=>absurd (show (999:Nat)=0 from h) (by decide)
def f13_o0 (x0:Sgn)(i0:Nat)(a:ByteArray):Nat :=
  (match decide ((↑i0:Int)<(↑x0.sorts.length:Int)) with
  | true=>(match decide ((↑(ByteArray.size a):Int)>40) with
    | true=>1
    | false=>0)
  | false=>2)
theorem f13_B0 (x0:Sgn)(X:Ext)(call:Caller)(lf i0:Nat)(a:ByteArray)(r47:List AV)
 (g0:decide ((↑i0:Int)<(↑x0.sorts.length:Int))=true→kiq 22 [Ob.cells [lro x0.sorts.length 1 (List.map st x0.sorts),lro x0.consts.length 2 (List.flatMap cstC x0.consts),lro x0.preds.length 2 (List.flatMap prdC x0.preds)]] (lro x0.sorts.length 1 (List.map st x0.sorts)) (i6 (↑i0:Int)) (st a::r47))
 (e0:decide ((↑i0:Int)<(↑x0.sorts.length:Int))=true→(↑(i0 + 1):Int)=w6 ((↑i0:Int) + 1)) :
    (f13_o0 x0 i0 a=0→∃ Sx,vexec Tryd.prog X call lf 0 noFg (loopN Tryd.f13 0) (f13_F0 x0 i0)=some (Ex.normal,Sx)∧forget f13_D0 Sx=(f13_F0 x0 (i0 + 1)))∧(f13_o0 x0 i0 a=1→vexec Tryd.prog X call lf 0 noFg (loopN Tryd.f13 0) (f13_F0 x0 i0)=some (Ex.ret,(f13_S1 x0 i0 a r47)))∧(f13_o0 x0 i0 a=2→vexec Tryd.prog X call lf 0 noFg (loopN Tryd.f13 0) (f13_F0 x0 i0)=some (Ex.exit 0,(f13_S2 x0 i0))):=by
  unfold f13_o0
  cases c0:decide ((↑i0:Int)<(↑x0.sorts.length:Int)) with
  | true =>
    cases c1:decide ((↑(ByteArray.size a):Int)>40) with
    | true =>
      exact ⟨fun h=>nq h,fun _=>f13_r0_tt x0 X call lf i0 a r47 c0 (g0 c0) c1,fun h=>nq h⟩
    | false =>
      exact ⟨fun _=>f13_s0_tf x0 X call lf i0 a r47 c0 (g0 c0) c1 (e0 c0),fun h=>nq h,fun h=>nq h⟩
  | false =>
    exact ⟨fun h=>nq h,fun h=>nq h,fun _=>f13_r0_f x0 X call lf i0 c0⟩
def f13_o1 (x0:Sgn)(i1:Nat)(a b:ByteArray):Nat :=
  (match decide ((↑i1:Int)<(↑x0.consts.length:Int)) with
  | true=>(match decide ((↑(ByteArray.size a):Int)>40) with
    | true=>1
    | false=>(match decide ((↑(ByteArray.size b):Int)>40) with
      | true=>2
      | false=>0))
  | false=>3)
theorem f13_B1 (x0:Sgn)(X:Ext)(call:Caller)(lf i0 i1:Nat)(a b:ByteArray)(r61:List AV)(c d:ByteArray)(r70:List AV)
 (g0:decide ((↑i1:Int)<(↑x0.consts.length:Int))=true→kiq 23 [Ob.cells [lro x0.sorts.length 1 (List.map st x0.sorts),lro x0.consts.length 2 (List.flatMap cstC x0.consts),lro x0.preds.length 2 (List.flatMap prdC x0.preds)]] (lro x0.consts.length 2 (List.flatMap cstC x0.consts)) (i6 (↑i1:Int)) (st a::st b::r61))
 (g1:decide ((↑i1:Int)<(↑x0.consts.length:Int))=true→decide ((↑(ByteArray.size a):Int)>40)=false→kiq 23 [Ob.cells [lro x0.sorts.length 1 (List.map st x0.sorts),lro x0.consts.length 2 (List.flatMap cstC x0.consts),lro x0.preds.length 2 (List.flatMap prdC x0.preds)]] (lro x0.consts.length 2 (List.flatMap cstC x0.consts)) (i6 (↑i1:Int)) (st c::st d::r70))
 (e0:decide ((↑i1:Int)<(↑x0.consts.length:Int))=true→(↑(i1 + 1):Int)=w6 ((↑i1:Int) + 1)) :
    (f13_o1 x0 i1 a d=0→∃ Sx,vexec Tryd.prog X call lf 0 noFg (loopN Tryd.f13 1) (f13_F1 x0 i0 i1)=some (Ex.normal,Sx)∧forget f13_D1 Sx=(f13_F1 x0 i0 (i1 + 1)))∧(f13_o1 x0 i1 a d=1→vexec Tryd.prog X call lf 0 noFg (loopN Tryd.f13 1) (f13_F1 x0 i0 i1)=some (Ex.ret,(f13_S4 x0 i0 i1 a b r61)))∧(f13_o1 x0 i1 a d=2→vexec Tryd.prog X call lf 0 noFg (loopN Tryd.f13 1) (f13_F1 x0 i0 i1)=some (Ex.ret,(f13_S5 x0 i0 i1 a b r61 c d r70)))∧(f13_o1 x0 i1 a d=3→vexec Tryd.prog X call lf 0 noFg (loopN Tryd.f13 1) (f13_F1 x0 i0 i1)=some (Ex.exit 2,(f13_S6 x0 i0 i1))):=by
  unfold f13_o1
  cases c0:decide ((↑i1:Int)<(↑x0.consts.length:Int)) with
  | true =>
    cases c1:decide ((↑(ByteArray.size a):Int)>40) with
    | true =>
      exact ⟨fun h=>nq h,fun _=>f13_r1_tt x0 X call lf i0 i1 a b r61 c0 (g0 c0) c1,fun h=>nq h,fun h=>nq h⟩
    | false =>
      cases c2:decide ((↑(ByteArray.size d):Int)>40) with
      | true =>
        exact ⟨fun h=>nq h,fun h=>nq h,fun _=>f13_r1_tft x0 X call lf i0 i1 a b r61 c d r70 c0 (g0 c0) c1 (g1 c0 c1) c2,fun h=>nq h⟩
      | false =>
        exact ⟨fun _=>f13_s1_tff x0 X call lf i0 i1 a b r61 c d r70 c0 (g0 c0) c1 (g1 c0 c1) c2 (e0 c0),fun h=>nq h,fun h=>nq h,fun h=>nq h⟩
  | false =>
    exact ⟨fun h=>nq h,fun h=>nq h,fun h=>nq h,fun _=>f13_r1_f x0 X call lf i0 i1 c0⟩
def f13_o3 (i3:Nat)(a:List ByteArray)(b:ByteArray):Nat :=
  (match decide ((↑i3:Int)<(↑a.length:Int)) with
  | true=>(match decide ((↑(ByteArray.size b):Int)>40) with
    | true=>1
    | false=>0)
  | false=>2)
theorem f13_B3 (x0:Sgn)(X:Ext)(call:Caller)(lf i0 i1 i2:Nat)(a:ByteArray)(b:List ByteArray)(r86:List AV)(c:ByteArray)(d:List ByteArray)(r95:List AV)(i3:Nat)(e:ByteArray)(g:List ByteArray)(r105:List AV)(j:ByteArray)(k:List ByteArray)(r115:List AV)(p:ByteArray)(r119:List AV)
 (g0:kiq 24 [Ob.cells [lro x0.sorts.length 1 (List.map st x0.sorts),lro x0.consts.length 2 (List.flatMap cstC x0.consts),lro x0.preds.length 2 (List.flatMap prdC x0.preds)]] (lro x0.preds.length 2 (List.flatMap prdC x0.preds)) (i6 (↑i2:Int)) (st e::lro g.length 1 (List.map st g)::r105))
 (g1:decide ((↑i3:Int)<(↑g.length:Int))=true→kiq 24 [Ob.cells [lro x0.sorts.length 1 (List.map st x0.sorts),lro x0.consts.length 2 (List.flatMap cstC x0.consts),lro x0.preds.length 2 (List.flatMap prdC x0.preds)]] (lro x0.preds.length 2 (List.flatMap prdC x0.preds)) (i6 (↑i2:Int)) (st j::lro k.length 1 (List.map st k)::r115))
 (g2:decide ((↑i3:Int)<(↑g.length:Int))=true→kiq 22 [Ob.cells [lro x0.sorts.length 1 (List.map st x0.sorts),lro x0.consts.length 2 (List.flatMap cstC x0.consts),lro x0.preds.length 2 (List.flatMap prdC x0.preds)]] (lro k.length 1 (List.map st k)) (i6 (↑i3:Int)) (st p::r119))
 (e0:decide ((↑i3:Int)<(↑g.length:Int))=true→(↑(i3 + 1):Int)=w6 ((↑i3:Int) + 1)) :
    (f13_o3 i3 g p=0→∃ Sx,vexec Tryd.prog X call lf 0 noFg (loopN Tryd.f13 3) (f13_F3 x0 i0 i1 i2 a b r86 c d r95 i3)=some (Ex.normal,Sx)∧forget f13_D3 Sx=(f13_F3 x0 i0 i1 i2 a b r86 c d r95 (i3 + 1)))∧(f13_o3 i3 g p=1→vexec Tryd.prog X call lf 0 noFg (loopN Tryd.f13 3) (f13_F3 x0 i0 i1 i2 a b r86 c d r95 i3)=some (Ex.ret,(f13_S11 x0 i0 i1 i2 a b r86 c d r95 i3 e g r105 j k r115 p r119)))∧(f13_o3 i3 g p=2→vexec Tryd.prog X call lf 0 noFg (loopN Tryd.f13 3) (f13_F3 x0 i0 i1 i2 a b r86 c d r95 i3)=some (Ex.exit 6,(f13_S12 x0 i0 i1 i2 a b r86 c d r95 i3 e g r105))):=by
  unfold f13_o3
  cases c0:decide ((↑i3:Int)<(↑g.length:Int)) with
  | true =>
    cases c1:decide ((↑(ByteArray.size p):Int)>40) with
    | true =>
      exact ⟨fun h=>nq h,fun _=>f13_r3_tt x0 X call lf i0 i1 i2 a b r86 c d r95 i3 e g r105 j k r115 p r119 g0 c0 (g1 c0) (g2 c0) c1,fun h=>nq h⟩
    | false =>
      exact ⟨fun _=>f13_s3_tf x0 X call lf i0 i1 i2 a b r86 c d r95 i3 e g r105 j k r115 p r119 g0 c0 (g1 c0) (g2 c0) c1 (e0 c0),fun h=>nq h,fun h=>nq h⟩
  | false =>
    exact ⟨fun h=>nq h,fun h=>nq h,fun _=>f13_r3_f x0 X call lf i0 i1 i2 a b r86 c d r95 i3 e g r105 g0 c0⟩
end Go.Proofs.Sig
end
/- Signature: Clip, awake, walked (printed) -/
section
open Go Go.Vm Go.Proofs
namespace Go.Proofs.Sig
theorem f55_p (l0:List ByteArray)(X:Ext)(call:Caller)(lf:Nat)(l8:List ByteArray)(k8:LK)(rE:AV)(sE:List Ob)
 (h0:slc Tryd.prog 22 [] false 0 (lro l0.length 1 (List.map st l0)) none (some (i6 (↑l0.length:Int))) (some (i6 (↑l0.length:Int)))=some (AV.list k8 l8.length 1 (List.map st l8),[]))
 (h1:vend1 [] 0 [] [AV.list k8 l8.length 1 (List.map st l8)]=some (rE,sE)):vbody Tryd.prog X call lf noFg Tryd.f55 (codeOf Tryd.f55) [strsV l0] [] 0=some (rE,sE) :=
  along_sound (ans:=[(8,Ans.v (AV.list k8 l8.length 1 (List.map st l8))),(10,Ans.c rE sE)]) (by kernel_rfl) (ai h0 (ai h1 trivial))
theorem f12_p (x1:Sgn)(X:Ext)(call:Caller)(lf:Nat)
 (h0:cvq X call false 16 [st (ByteArray.mk (List.toArray (List.append [115,111,114,116,32,112,101,114,115,111,110,10,99,111,110,115,116,97,110,116,32,109,97,114,116,97,32,112,101,114,115,111,110,10,112,114,101,100,105,99,97,116] [101,32,119,97,105,116,32,112,101,114,115,111,110,10,112,114,101,100,105,99,97,116,101,32,99,111,115,116,32,112,101,114,115,111,110,32,110,117,109,98,101,114,10])))] [] (AV.tup [AV.agg [lro x1.sorts.length 1 (List.map st x1.sorts),lro x1.consts.length 2 (List.flatMap cstC x1.consts),lro x1.preds.length 2 (List.flatMap prdC x1.preds)],i6 0,i6 0]))
 (h1:cvq X call false 19 [AV.agg [lro x1.sorts.length 1 (List.map st x1.sorts),lro x1.consts.length 2 (List.flatMap cstC x1.consts),lro x1.preds.length 2 (List.flatMap prdC x1.preds)],st (ByteArray.mk #[109,97,114,116,97])] [Ob.cells [lro x1.sorts.length 1 (List.map st x1.sorts),lro x1.consts.length 2 (List.flatMap cstC x1.consts),lro x1.preds.length 2 (List.flatMap prdC x1.preds)]] (AV.tup [st (ByteArray.mk #[112,101,114,115,111,110]),bo true]))
 (h2:cvq X call false 31 [AV.agg [lro x1.sorts.length 1 (List.map st x1.sorts),lro x1.consts.length 2 (List.flatMap cstC x1.consts),lro x1.preds.length 2 (List.flatMap prdC x1.preds)],st (ByteArray.mk #[112,101,114,115,111,110])] [Ob.cells [lro x1.sorts.length 1 (List.map st x1.sorts),lro x1.consts.length 2 (List.flatMap cstC x1.consts),lro x1.preds.length 2 (List.flatMap prdC x1.preds)]] (lro 1 1 [st (ByteArray.mk #[119,97,105,116])]))
 (h3:cvq X call false 16 [st (ByteArray.mk #[112,114,101,100,105,99,97,116,101,32,119,97,105,116,32,112,101,114,115,111,110,10])] [Ob.cells [lro x1.sorts.length 1 (List.map st x1.sorts),lro x1.consts.length 2 (List.flatMap cstC x1.consts),lro x1.preds.length 2 (List.flatMap prdC x1.preds)]] (AV.tup [AV.agg [lro 0 1 [],lro 0 2 [],lro 0 2 []],i6 1,i6 3]))
 (h4:cvq X call false 14 [AV.agg [lro x1.sorts.length 1 (List.map st x1.sorts),lro x1.consts.length 2 (List.flatMap cstC x1.consts),lro x1.preds.length 2 (List.flatMap prdC x1.preds)]] [Ob.cells [lro x1.sorts.length 1 (List.map st x1.sorts),lro x1.consts.length 2 (List.flatMap cstC x1.consts),lro x1.preds.length 2 (List.flatMap prdC x1.preds)],Ob.cells [lro 0 1 [],lro 0 2 [],lro 0 2 []]] (bo true))
 (h5:cvq X call false 23 [AV.agg [lro x1.sorts.length 1 (List.map st x1.sorts),lro x1.consts.length 2 (List.flatMap cstC x1.consts),lro x1.preds.length 2 (List.flatMap prdC x1.preds)],st (ByteArray.mk #[110,117,109,98,101,114])] [Ob.cells [lro x1.sorts.length 1 (List.map st x1.sorts),lro x1.consts.length 2 (List.flatMap cstC x1.consts),lro x1.preds.length 2 (List.flatMap prdC x1.preds)],Ob.cells [lro 0 1 [],lro 0 2 [],lro 0 2 []]] (bo true)):vbody Tryd.prog X call lf noFg Tryd.f12 (codeOf Tryd.f12) [] [] 0=some (bo true,[Ob.cells [lro x1.sorts.length 1 (List.map st x1.sorts),lro x1.consts.length 2 (List.flatMap cstC x1.consts),lro x1.preds.length 2 (List.flatMap prdC x1.preds)],Ob.cells [lro 0 1 [],lro 0 2 [],lro 0 2 []]]) :=
  along_sound (ans:=[(3,Ans.v (AV.tup [AV.agg [lro x1.sorts.length 1 (List.map st x1.sorts),lro x1.consts.length 2 (List.flatMap cstC x1.consts),lro x1.preds.length 2 (List.flatMap prdC x1.preds)],i6 0,i6 0])),(14,Ans.v (AV.tup [st (ByteArray.mk #[112,101,114,115,111,110]),bo true])),(22,Ans.v (lro 1 1 [st (ByteArray.mk #[119,97,105,116])])),(25,Ans.v (AV.tup [AV.agg [lro 0 1 [],lro 0 2 [],lro 0 2 []],i6 1,i6 3])),(47,Ans.v (bo true)),(81,Ans.v (bo true))]) (by kernel_rfl) (ai h0 (ai h1 (ai h2 (ai h3 (ai h4 (ai h5 trivial))))))
end Go.Proofs.Sig
end
