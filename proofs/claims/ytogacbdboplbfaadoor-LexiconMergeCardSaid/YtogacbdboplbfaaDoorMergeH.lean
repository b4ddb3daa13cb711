/- Part 8 of the texts of this claim: the evaluator, and what it says of the program's functions. -/
import Derived.Test.YtogacbdboplbfaaDoorMergeE
import Derived.Test.YtogacbdboplbfaaDoorMergeF
import Derived.Test.YtogacbdboplbfaaDoorMergeG
set_option linter.unusedSectionVars false
set_option linter.unusedVariables false
set_option linter.unusedSimpArgs false
set_option linter.constructorNameAsVariable false
/- Lexicon: Concat, Grow, and filter by a closure that captures nothing (printed) -/
section
open Go Go.Vm Go.Proofs
namespace Go.Proofs.Lex
theorem f90_pt (n0:Nat)(z0:List AV)(X:Ext)(call:Caller)(lf:Nat)
 (h0:decide (w6 ((↑n0:Int) - 0)>0)=true)
 (h1:appendZv Tryd.prog 22 3 [] (AV.list LK.nil 0 0 []) (i6 (w6 ((↑n0:Int) - 0)))=some (AV.own 0 n0,[Ob.arr n0 5 z0]))
 (h2:slc Tryd.prog 22 [Ob.arr n0 5 z0] false 0 (AV.own 0 n0) none (some (i6 0)) none=some (AV.own 1 0,[Ob.gone,Ob.arr 0 5 []])):vbody Tryd.prog X call lf noFg Tryd.f90 (codeOf Tryd.f90) [AV.list LK.nil 0 0 [],i6 (↑n0:Int)] [] 0=some (AV.list LK.fresh 0 5 [],[Ob.gone,Ob.fro 0 5 []]) :=
  along_sound (ans:=[(17,Ans.b true),(25,Ans.c (AV.own 0 n0) [Ob.arr n0 5 z0]),(28,Ans.c (AV.own 1 0) [Ob.gone,Ob.arr 0 5 []])]) (by kernel_rfl) (ai h0 (ai h1 (ai h2 trivial)))
theorem f90_pf (n0:Nat)(X:Ext)(call:Caller)(lf:Nat)
 (h0:decide (w6 ((↑n0:Int) - 0)>0)=false):vbody Tryd.prog X call lf noFg Tryd.f90 (codeOf Tryd.f90) [AV.list LK.nil 0 0 [],i6 (↑n0:Int)] [] 0=some (AV.list LK.nil 0 0 [],[]) :=
  along_sound (ans:=[(17,Ans.b false)]) (by kernel_rfl) (ai h0 trivial)
def f68_F0 (L0 L1:List Lexm)(n0:Nat→Int)(i0:Nat):St :=
  stOf 36 [5,12,13,14,15,16,17,18,19,20,21,22] [(0,lro 2 1 [lro L0.length 5 (List.flatMap lexC L0),lro L1.length 5 (List.flatMap lexC L1)]),(2,AV.list LK.nil 0 0 []),(3,i6 (n0 i0)),(9,lro 2 1 [lro L0.length 5 (List.flatMap lexC L0),lro L1.length 5 (List.flatMap lexC L1)]),(10,i6 2),(11,i6 (↑i0:Int))] []
def f68_S0 (L0 L1:List Lexm):St :=
  stOf 36 [] [(0,lro 2 1 [lro L0.length 5 (List.flatMap lexC L0),lro L1.length 5 (List.flatMap lexC L1)]),(2,AV.list LK.nil 0 0 []),(3,i6 0),(9,lro 2 1 [lro L0.length 5 (List.flatMap lexC L0),lro L1.length 5 (List.flatMap lexC L1)]),(10,i6 2),(11,i6 0)] []
abbrev f68_D0:List Nat:=[22,21,20,19,18,17,16,15,5,14,13,12]
theorem f68_L0 (L0 L1:List Lexm)(n0:Nat→Int)(X:Ext)(call:Caller)(lf n:Nat)(x:Ex) (S' : St)
 (e0:n0 0=0)
 (hn:n<lf)
 (hs:∀ j,j<n→∃ Sx,vexec Tryd.prog X call lf 0 noFg (loopN Tryd.f68 0) (f68_F0 L0 L1 n0 j)=some (Ex.normal,Sx)∧forget f68_D0 Sx=(f68_F0 L0 L1 n0 (j + 1)))
 (he:vexec Tryd.prog X call lf 0 noFg (loopN Tryd.f68 0) (f68_F0 L0 L1 n0 n)=some (x,S'))
 (hx:x ≠ Ex.normal):vexec Tryd.prog X call lf 0 noFg (Go.Code.loop (loopN Tryd.f68 0)) (f68_S0 L0 L1)=some (x,S') :=
  loop_runK (by kernel_rfl) (fun j=>(f68_F0 L0 L1 n0 j)) n hn (by show forget f68_D0 (f68_S0 L0 L1)=(f68_F0 L0 L1 n0 0); unfold f68_F0; rw [e0]; show _=_; kernel_rfl) hs he hx
theorem f68_s0_tf (L0 L1:List Lexm)(n0:Nat→Int)(X:Ext)(call:Caller)(lf i0 a:Nat)(c r13:List AV)
 (h0:decide ((↑i0:Int)<2)=true)
 (h1:keep [] (indexAddrv Tryd.prog 104 [] (lro 2 1 [lro L0.length 5 (List.flatMap lexC L0),lro L1.length 5 (List.flatMap lexC L1)]) (i6 (↑i0:Int)))=some (AV.eaddr (lro a 5 c::r13),[]))
 (h2:decide (w6 (n0 i0 + (↑a:Int))<0)=false)
 (e0:n0 (i0 + 1)=w6 (n0 i0 + (↑a:Int)))
 (e1:(↑(i0 + 1):Int)=w6 ((↑i0:Int) + 1)):∃ Sx,vexec Tryd.prog X call lf 0 noFg (loopN Tryd.f68 0) (f68_F0 L0 L1 n0 i0)=some (Ex.normal,Sx)∧forget f68_D0 Sx=(f68_F0 L0 L1 n0 (i0 + 1)) :=
  ⟨stOf 36 [21] [(0,lro 2 1 [lro L0.length 5 (List.flatMap lexC L0),lro L1.length 5 (List.flatMap lexC L1)]),(2,AV.list LK.nil 0 0 []),(3,i6 (w6 (n0 i0 + (↑a:Int)))),(5,lro a 5 c),(9,lro 2 1 [lro L0.length 5 (List.flatMap lexC L0),lro L1.length 5 (List.flatMap lexC L1)]),(10,i6 2),(11,i6 (w6 ((↑i0:Int) + 1))),(12,bo true),(13,AV.eaddr (lro a 5 c::r13)),(14,lro a 5 c),(15,i6 (n0 i0)),(16,lro a 5 c),(17,i6 (↑a:Int)),(18,i6 (w6 (n0 i0 + (↑a:Int)))),(19,i6 (w6 (n0 i0 + (↑a:Int)))),(20,bo false),(22,i6 (w6 ((↑i0:Int) + 1)))] [],around_sound (ans:=[(1,Ans.b true),(4,Ans.v (AV.eaddr (lro a 5 c::r13))),(15,Ans.b false)]) (by kernel_rfl) (ai h0 (ai h1 (ai h2 trivial))),by unfold f68_F0; rw [e0,e1]; show _=_; kernel_rfl⟩
def f68_S1 (L0 L1:List Lexm)(n0:Nat→Int)(i0:Nat):St :=
  stOf 36 [5,13,14,15,16,17,18,19,20,21,22] [(0,lro 2 1 [lro L0.length 5 (List.flatMap lexC L0),lro L1.length 5 (List.flatMap lexC L1)]),(2,AV.list LK.nil 0 0 []),(3,i6 (n0 i0)),(9,lro 2 1 [lro L0.length 5 (List.flatMap lexC L0),lro L1.length 5 (List.flatMap lexC L1)]),(10,i6 2),(11,i6 (↑i0:Int)),(12,bo false)] []
theorem f68_r0_f (L0 L1:List Lexm)(n0:Nat→Int)(X:Ext)(call:Caller)(lf i0:Nat)
 (h0:decide ((↑i0:Int)<2)=false):vexec Tryd.prog X call lf 0 noFg (loopN Tryd.f68 0) (f68_F0 L0 L1 n0 i0)=some (Ex.exit 0,(f68_S1 L0 L1 n0 i0)) :=
  around_sound (ans:=[(1,Ans.b false)]) (by kernel_rfl) (ai h0 trivial)
def f68_F1 (L0 L1:List Lexm)(n0:Nat→Int)(v24:AV)(i0:Nat)(S1:Nat→List Ob)(o6:Nat→AV)(i1:Nat):St :=
  stOf 36 [5,8,13,14,15,16,17,18,19,20,21,22,28,29,30,31,32,33,34] [(0,lro 2 1 [lro L0.length 5 (List.flatMap lexC L0),lro L1.length 5 (List.flatMap lexC L1)]),(2,AV.list LK.nil 0 0 []),(3,i6 (n0 i0)),(6,o6 i1),(9,lro 2 1 [lro L0.length 5 (List.flatMap lexC L0),lro L1.length 5 (List.flatMap lexC L1)]),(10,i6 2),(11,i6 (↑i0:Int)),(12,bo false),(23,i6 (n0 i0)),(24,v24),(25,lro 2 1 [lro L0.length 5 (List.flatMap lexC L0),lro L1.length 5 (List.flatMap lexC L1)]),(26,i6 2),(27,i6 (↑i1:Int))] (S1 i1)
def f68_S2 (L0 L1:List Lexm)(n0:Nat→Int)(v24:AV)(s24:List Ob)(i0:Nat):St :=
  stOf 36 [5,13,14,15,16,17,18,19,20,21,22] [(0,lro 2 1 [lro L0.length 5 (List.flatMap lexC L0),lro L1.length 5 (List.flatMap lexC L1)]),(2,AV.list LK.nil 0 0 []),(3,i6 (n0 i0)),(6,v24),(9,lro 2 1 [lro L0.length 5 (List.flatMap lexC L0),lro L1.length 5 (List.flatMap lexC L1)]),(10,i6 2),(11,i6 (↑i0:Int)),(12,bo false),(23,i6 (n0 i0)),(24,v24),(25,lro 2 1 [lro L0.length 5 (List.flatMap lexC L0),lro L1.length 5 (List.flatMap lexC L1)]),(26,i6 2),(27,i6 0)] s24
abbrev f68_D1:List Nat:=[34,33,32,31,8,30,29,28]
theorem f68_L1 (L0 L1:List Lexm)(n0:Nat→Int)(v24:AV)(s24:List Ob)(i0:Nat)(S1:Nat→List Ob)(o6:Nat→AV)(X:Ext)(call:Caller)(lf n:Nat)(x:Ex) (S' : St)
 (e0:o6 0=v24)
 (e1:S1 0=s24)
 (hn:n<lf)
 (hs:∀ j,j<n→∃ Sx,vexec Tryd.prog X call lf 0 noFg (loopN Tryd.f68 1) (f68_F1 L0 L1 n0 v24 i0 S1 o6 j)=some (Ex.normal,Sx)∧forget f68_D1 Sx=(f68_F1 L0 L1 n0 v24 i0 S1 o6 (j + 1)))
 (he:vexec Tryd.prog X call lf 0 noFg (loopN Tryd.f68 1) (f68_F1 L0 L1 n0 v24 i0 S1 o6 n)=some (x,S'))
 (hx:x ≠ Ex.normal):vexec Tryd.prog X call lf 0 noFg (Go.Code.loop (loopN Tryd.f68 1)) (f68_S2 L0 L1 n0 v24 s24 i0)=some (x,S') :=
  loop_runK (by kernel_rfl) (fun j=>(f68_F1 L0 L1 n0 v24 i0 S1 o6 j)) n hn (by show forget f68_D1 (f68_S2 L0 L1 n0 v24 s24 i0)=(f68_F1 L0 L1 n0 v24 i0 S1 o6 0); unfold f68_F1; rw [e0,e1]; show _=_; kernel_rfl) hs he hx
theorem f68_s1_t (L0 L1:List Lexm)(n0:Nat→Int)(v24:AV)(X:Ext)(call:Caller)(lf i0:Nat)(S1:Nat→List Ob)(o6:Nat→AV)(i1 a:Nat)(d r29:List AV)(v33:AV)(s33:List Ob)
 (h0:decide ((↑i1:Int)<2)=true)
 (h1:keep (S1 i1) (indexAddrv Tryd.prog 104 (S1 i1) (lro 2 1 [lro L0.length 5 (List.flatMap lexC L0),lro L1.length 5 (List.flatMap lexC L1)]) (i6 (↑i1:Int)))=some (AV.eaddr (lro a 5 d::r29),S1 i1))
 (h2:appendv Tryd.prog 22 (S1 i1) 0 (o6 i1) (lro a 5 d)=some (v33,s33))
 (e0:o6 (i1 + 1)=v33)
 (e1:(↑(i1 + 1):Int)=w6 ((↑i1:Int) + 1))
 (e2:S1 (i1 + 1)=s33):∃ Sx,vexec Tryd.prog X call lf 0 noFg (loopN Tryd.f68 1) (f68_F1 L0 L1 n0 v24 i0 S1 o6 i1)=some (Ex.normal,Sx)∧forget f68_D1 Sx=(f68_F1 L0 L1 n0 v24 i0 S1 o6 (i1 + 1)) :=
  ⟨stOf 36 [5,13,14,15,16,17,18,19,20,21,22] [(0,lro 2 1 [lro L0.length 5 (List.flatMap lexC L0),lro L1.length 5 (List.flatMap lexC L1)]),(2,AV.list LK.nil 0 0 []),(3,i6 (n0 i0)),(6,v33),(8,lro a 5 d),(9,lro 2 1 [lro L0.length 5 (List.flatMap lexC L0),lro L1.length 5 (List.flatMap lexC L1)]),(10,i6 2),(11,i6 (↑i0:Int)),(12,bo false),(23,i6 (n0 i0)),(24,v24),(25,lro 2 1 [lro L0.length 5 (List.flatMap lexC L0),lro L1.length 5 (List.flatMap lexC L1)]),(26,i6 2),(27,i6 (w6 ((↑i1:Int) + 1))),(28,bo true),(29,AV.eaddr (lro a 5 d::r29)),(30,lro a 5 d),(31,o6 i1),(32,lro a 5 d),(33,v33),(34,i6 (w6 ((↑i1:Int) + 1)))] s33,around_sound (ans:=[(1,Ans.b true),(4,Ans.v (AV.eaddr (lro a 5 d::r29))),(10,Ans.c v33 s33)]) (by kernel_rfl) (ai h0 (ai h1 (ai h2 trivial))),by unfold f68_F1; rw [e0,e1,e2]; show _=_; kernel_rfl⟩
def f68_S3 (L0 L1:List Lexm)(n0:Nat→Int)(v24:AV)(i0:Nat)(S1:Nat→List Ob)(o6:Nat→AV)(i1:Nat):St :=
  stOf 36 [5,8,13,14,15,16,17,18,19,20,21,22,29,30,31,32,33,34] [(0,lro 2 1 [lro L0.length 5 (List.flatMap lexC L0),lro L1.length 5 (List.flatMap lexC L1)]),(2,AV.list LK.nil 0 0 []),(3,i6 (n0 i0)),(6,o6 i1),(9,lro 2 1 [lro L0.length 5 (List.flatMap lexC L0),lro L1.length 5 (List.flatMap lexC L1)]),(10,i6 2),(11,i6 (↑i0:Int)),(12,bo false),(23,i6 (n0 i0)),(24,v24),(25,lro 2 1 [lro L0.length 5 (List.flatMap lexC L0),lro L1.length 5 (List.flatMap lexC L1)]),(26,i6 2),(27,i6 (↑i1:Int)),(28,bo false)] (S1 i1)
theorem f68_r1_f (L0 L1:List Lexm)(n0:Nat→Int)(v24:AV)(X:Ext)(call:Caller)(lf i0:Nat)(S1:Nat→List Ob)(o6:Nat→AV)(i1:Nat)
 (h0:decide ((↑i1:Int)<2)=false):vexec Tryd.prog X call lf 0 noFg (loopN Tryd.f68 1) (f68_F1 L0 L1 n0 v24 i0 S1 o6 i1)=some (Ex.exit 2,(f68_S3 L0 L1 n0 v24 i0 S1 o6 i1)) :=
  around_sound (ans:=[(1,Ans.b false)]) (by kernel_rfl) (ai h0 trivial)
theorem f68_plflf (L0 L1:List Lexm)(n0:Nat→Int)(v24:AV)(s24:List Ob)(X:Ext)(call:Caller)(lf i0:Nat)(S1:Nat→List Ob)(o6:Nat→AV)(i1:Nat)(rE:AV)(sE:List Ob)
 (h0:vexec Tryd.prog X call lf 0 noFg (Code.loop (loopN Tryd.f68 0)) (f68_S0 L0 L1)=some (Ex.exit 0,(f68_S1 L0 L1 n0 i0)))
 (h1:callv X call false 90 [AV.list LK.nil 0 0 [],i6 (n0 i0)] [] 0=some (v24,s24))
 (h2:vexec Tryd.prog X call lf 0 noFg (Code.loop (loopN Tryd.f68 1)) (f68_S2 L0 L1 n0 v24 s24 i0)=some (Ex.exit 2,(f68_S3 L0 L1 n0 v24 i0 S1 o6 i1)))
 (h3:vend1 [] 0 (S1 i1) [o6 i1]=some (rE,sE)):vbody Tryd.prog X call lf noFg Tryd.f68 (codeOf Tryd.f68) [lro 2 1 [lexsV L0,lexsV L1]] [] 0=some (rE,sE) :=
  along_sound (ans:=[(8,Ans.l (Ex.exit 0) (f68_S1 L0 L1 n0 i0)),(11,Ans.c v24 s24),(17,Ans.l (Ex.exit 2) (f68_S3 L0 L1 n0 v24 i0 S1 o6 i1)),(21,Ans.c rE sE)]) (by kernel_rfl) (ai h0 (ai h1 (ai h2 (ai h3 trivial))))
def f68_o0 (n0:Nat→Int)(i0 a:Nat):Nat :=
  (match decide ((↑i0:Int)<2) with
  | true=>(match decide (w6 (n0 i0 + (↑a:Int))<0) with
    | true=>999
    | false=>0)
  | false=>1)
theorem f68_B0 (L0 L1:List Lexm)(n0:Nat→Int)(X:Ext)(call:Caller)(lf i0 a:Nat)(b r13:List AV)
 (g0:decide ((↑i0:Int)<2)=true→keep [] (indexAddrv Tryd.prog 104 [] (lro 2 1 [lro L0.length 5 (List.flatMap lexC L0),lro L1.length 5 (List.flatMap lexC L1)]) (i6 (↑i0:Int)))=some (AV.eaddr (lro a 5 b::r13),[]))
 (e0:decide ((↑i0:Int)<2)=true→n0 (i0 + 1)=w6 (n0 i0 + (↑a:Int)))
 (e1:decide ((↑i0:Int)<2)=true→(↑(i0 + 1):Int)=w6 ((↑i0:Int) + 1)) :
    (f68_o0 n0 i0 a=0→∃ Sx,vexec Tryd.prog X call lf 0 noFg (loopN Tryd.f68 0) (f68_F0 L0 L1 n0 i0)=some (Ex.normal,Sx)∧forget f68_D0 Sx=(f68_F0 L0 L1 n0 (i0 + 1)))∧(f68_o0 n0 i0 a=1→vexec Tryd.prog X call lf 0 noFg (loopN Tryd.f68 0) (f68_F0 L0 L1 n0 i0)=some (Ex.exit 0,(f68_S1 L0 L1 n0 i0))):=by
  unfold f68_o0
  cases c0:decide ((↑i0:Int)<2) with
  | true =>
    cases c1:decide (w6 (n0 i0 + (↑a:Int))<0) with
    | true =>
      exact ⟨fun h=>absurd (show (999:Nat)=0 from h) (by decide),fun h=>absurd (show (999:Nat)=1 from h) (by decide)⟩
    | false =>
      exact ⟨fun _=>f68_s0_tf L0 L1 n0 X call lf i0 a b r13 c0 (g0 c0) c1 (e0 c0) (e1 c0),fun h=>absurd (show (0:Nat)=1 from h) (by decide)⟩
  | false =>
    exact ⟨fun h=>absurd (show (1:Nat)=0 from h) (by decide),fun _=>f68_r0_f L0 L1 n0 X call lf i0 c0⟩
def f68_o1 (i1:Nat):Nat :=
  (match decide ((↑i1:Int)<2) with
  | true=>0
  | false=>1)
theorem f68_B1 (L0 L1:List Lexm)(n0:Nat→Int)(v24:AV)(X:Ext)(call:Caller)(lf i0:Nat)(S1:Nat→List Ob)(o6:Nat→AV)(i1 a:Nat)(b r29:List AV)(v33:AV)(s33:List Ob)
 (g0:decide ((↑i1:Int)<2)=true→keep (S1 i1) (indexAddrv Tryd.prog 104 (S1 i1) (lro 2 1 [lro L0.length 5 (List.flatMap lexC L0),lro L1.length 5 (List.flatMap lexC L1)]) (i6 (↑i1:Int)))=some (AV.eaddr (lro a 5 b::r29),S1 i1))
 (g1:decide ((↑i1:Int)<2)=true→appendv Tryd.prog 22 (S1 i1) 0 (o6 i1) (lro a 5 b)=some (v33,s33))
 (e0:decide ((↑i1:Int)<2)=true→o6 (i1 + 1)=v33)
 (e1:decide ((↑i1:Int)<2)=true→(↑(i1 + 1):Int)=w6 ((↑i1:Int) + 1))
 (e2:decide ((↑i1:Int)<2)=true→S1 (i1 + 1)=s33) :
    (f68_o1 i1=0→∃ Sx,vexec Tryd.prog X call lf 0 noFg (loopN Tryd.f68 1) (f68_F1 L0 L1 n0 v24 i0 S1 o6 i1)=some (Ex.normal,Sx)∧forget f68_D1 Sx=(f68_F1 L0 L1 n0 v24 i0 S1 o6 (i1 + 1)))∧(f68_o1 i1=1→vexec Tryd.prog X call lf 0 noFg (loopN Tryd.f68 1) (f68_F1 L0 L1 n0 v24 i0 S1 o6 i1)=some (Ex.exit 2,(f68_S3 L0 L1 n0 v24 i0 S1 o6 i1))):=by
  unfold f68_o1
  cases c0:decide ((↑i1:Int)<2) with
  | true =>
    exact ⟨fun _=>f68_s1_t L0 L1 n0 v24 X call lf i0 S1 o6 i1 a b r29 v33 s33 c0 (g0 c0) (g1 c0) (e0 c0) (e1 c0) (e2 c0),fun h=>absurd (show (0:Nat)=1 from h) (by decide)⟩
  | false =>
    exact ⟨fun h=>absurd (show (1:Nat)=0 from h) (by decide),fun _=>f68_r1_f L0 L1 n0 v24 X call lf i0 S1 o6 i1 c0⟩
def f40e_F0 (L0:List Lexm)(S0:Nat→List Ob)(o5:Nat→AV)(i0:Nat):St :=
  stOf 24 [7,11,12,13,14,15,16,17,18,19,20,21,22] [(0,lro L0.length 5 (List.flatMap lexC L0)),(1,AV.clo 69 []),(4,AV.list LK.nil 0 0 []),(5,o5 i0),(8,lro L0.length 5 (List.flatMap lexC L0)),(9,i6 (↑L0.length:Int)),(10,i6 (↑i0:Int))] (S0 i0)
def f40e_S0 (L0:List Lexm):St :=
  stOf 24 [] [(0,lro L0.length 5 (List.flatMap lexC L0)),(1,AV.clo 69 []),(4,AV.list LK.nil 0 0 []),(5,AV.list LK.nil 0 0 []),(8,lro L0.length 5 (List.flatMap lexC L0)),(9,i6 (↑L0.length:Int)),(10,i6 0)] []
abbrev f40e_D0:List Nat:=[22,21,20,19,18,17,16,15,14,7,13,12,11]
theorem f40e_L0 (L0:List Lexm)(S0:Nat→List Ob)(o5:Nat→AV)(X:Ext)(call:Caller)(lf n:Nat)(x:Ex) (S' : St)
 (e0:o5 0=AV.list LK.nil 0 0 [])
 (e1:S0 0=[])
 (hn:n<lf)
 (hs:∀ j,j<n→∃ Sx,vexec Tryd.prog X call lf 0 fg40 (loopN Tryd.f40 0) (f40e_F0 L0 S0 o5 j)=some (Ex.normal,Sx)∧forget f40e_D0 Sx=(f40e_F0 L0 S0 o5 (j + 1)))
 (he:vexec Tryd.prog X call lf 0 fg40 (loopN Tryd.f40 0) (f40e_F0 L0 S0 o5 n)=some (x,S'))
 (hx:x ≠ Ex.normal):vexec Tryd.prog X call lf 0 fg40 (Go.Code.loop (loopN Tryd.f40 0)) (f40e_S0 L0)=some (x,S') :=
  loop_runK (by kernel_rfl) (fun j=>(f40e_F0 L0 S0 o5 j)) n hn (by show forget f40e_D0 (f40e_S0 L0)=(f40e_F0 L0 S0 o5 0); unfold f40e_F0; rw [e0,e1]; show _=_; kernel_rfl) hs he hx
theorem f40e_s0_tt (L0:List Lexm)(X:Ext)(call:Caller)(lf:Nat)(S0:Nat→List Ob)(o5:Nat→AV)(i0:Nat)(a d e g:ByteArray)(h:Nat)(j r12:List AV)(k p q r:ByteArray)(t:Nat)(u:List AV)(m20:Nat)(c20:List AV)(k20:LK)(v21:AV)(s21:List Ob)
 (h0:decide ((↑i0:Int)<(↑L0.length:Int))=true)
 (h1:keep (S0 i0) (indexAddrv Tryd.prog 22 (S0 i0) (lro L0.length 5 (List.flatMap lexC L0)) (i6 (↑i0:Int)))=some (AV.eaddr (st a::st d::st e::st g::lro h 2 j::r12),S0 i0))
 (h2:callv X call false 69 [AV.agg [st a,st d,st e,st g,lro h 2 j]] (S0 i0) 0=some (bo true,S0 i0))
 (h3:callv X call false 61 [AV.agg [st a,st d,st e,st g,lro h 2 j]] (S0 i0) 0=some (AV.agg [st k,st p,st q,st r,lro t 2 u],S0 i0))
 (h4:bsl Tryd.prog 22 1 (S0 i0) false 0 [(0,AV.agg [st k,st p,st q,st r,lro t 2 u])]=some (AV.list k20 m20 5 c20,S0 i0))
 (h5:appendv Tryd.prog 22 (S0 i0) 0 (o5 i0) (AV.list k20 m20 5 c20)=some (v21,s21))
 (e0:o5 (i0 + 1)=v21)
 (e1:(↑(i0 + 1):Int)=w6 ((↑i0:Int) + 1))
 (e2:S0 (i0 + 1)=s21):∃ Sx,vexec Tryd.prog X call lf 0 fg40 (loopN Tryd.f40 0) (f40e_F0 L0 S0 o5 i0)=some (Ex.normal,Sx)∧forget f40e_D0 Sx=(f40e_F0 L0 S0 o5 (i0 + 1)) :=
  ⟨stOf 24 [] [(0,lro L0.length 5 (List.flatMap lexC L0)),(1,AV.clo 69 []),(4,AV.list LK.nil 0 0 []),(5,v21),(7,AV.eaddr [st a,st d,st e,st g,lro h 2 j]),(8,lro L0.length 5 (List.flatMap lexC L0)),(9,i6 (↑L0.length:Int)),(10,i6 (w6 ((↑i0:Int) + 1))),(11,bo true),(12,AV.eaddr (st a::st d::st e::st g::lro h 2 j::r12)),(13,AV.agg [st a,st d,st e,st g,lro h 2 j]),(14,AV.clo 69 []),(15,AV.agg [st a,st d,st e,st g,lro h 2 j]),(16,bo true),(17,o5 i0),(18,AV.agg [st a,st d,st e,st g,lro h 2 j]),(19,AV.agg [st k,st p,st q,st r,lro t 2 u]),(20,AV.list k20 m20 5 c20),(21,v21),(22,i6 (w6 ((↑i0:Int) + 1)))] s21,around_sound (ans:=[(1,Ans.b true),(4,Ans.v (AV.eaddr (st a::st d::st e::st g::lro h 2 j::r12))),(9,Ans.v (bo true)),(14,Ans.v (AV.agg [st k,st p,st q,st r,lro t 2 u])),(15,Ans.v (AV.list k20 m20 5 c20)),(16,Ans.c v21 s21)]) (by kernel_rfl) (ai h0 (ai h1 (ai h2 (ai h3 (ai h4 (ai h5 trivial)))))),by unfold f40e_F0; rw [e0,e1,e2]; show _=_; kernel_rfl⟩
theorem f40e_s0_tf (L0:List Lexm)(X:Ext)(call:Caller)(lf:Nat)(S0:Nat→List Ob)(o5:Nat→AV)(i0:Nat)(a c d e:ByteArray)(g:Nat)(h r12:List AV)
 (h0:decide ((↑i0:Int)<(↑L0.length:Int))=true)
 (h1:keep (S0 i0) (indexAddrv Tryd.prog 22 (S0 i0) (lro L0.length 5 (List.flatMap lexC L0)) (i6 (↑i0:Int)))=some (AV.eaddr (st a::st c::st d::st e::lro g 2 h::r12),S0 i0))
 (h2:callv X call false 69 [AV.agg [st a,st c,st d,st e,lro g 2 h]] (S0 i0) 0=some (bo false,S0 i0))
 (e0:o5 (i0 + 1)=o5 i0)
 (e1:(↑(i0 + 1):Int)=w6 ((↑i0:Int) + 1))
 (e2:S0 (i0 + 1)=S0 i0):∃ Sx,vexec Tryd.prog X call lf 0 fg40 (loopN Tryd.f40 0) (f40e_F0 L0 S0 o5 i0)=some (Ex.normal,Sx)∧forget f40e_D0 Sx=(f40e_F0 L0 S0 o5 (i0 + 1)) :=
  ⟨stOf 24 [17,18,19,20,21] [(0,lro L0.length 5 (List.flatMap lexC L0)),(1,AV.clo 69 []),(4,AV.list LK.nil 0 0 []),(5,o5 i0),(7,AV.eaddr [st a,st c,st d,st e,lro g 2 h]),(8,lro L0.length 5 (List.flatMap lexC L0)),(9,i6 (↑L0.length:Int)),(10,i6 (w6 ((↑i0:Int) + 1))),(11,bo true),(12,AV.eaddr (st a::st c::st d::st e::lro g 2 h::r12)),(13,AV.agg [st a,st c,st d,st e,lro g 2 h]),(14,AV.clo 69 []),(15,AV.agg [st a,st c,st d,st e,lro g 2 h]),(16,bo false),(22,i6 (w6 ((↑i0:Int) + 1)))] (S0 i0),around_sound (ans:=[(1,Ans.b true),(4,Ans.v (AV.eaddr (st a::st c::st d::st e::lro g 2 h::r12))),(9,Ans.v (bo false))]) (by kernel_rfl) (ai h0 (ai h1 (ai h2 trivial))),by unfold f40e_F0; rw [e0,e1,e2]; show _=_; kernel_rfl⟩
def f40e_S1 (L0:List Lexm)(S0:Nat→List Ob)(o5:Nat→AV)(i0:Nat):St :=
  stOf 24 [7,12,13,14,15,16,17,18,19,20,21,22] [(0,lro L0.length 5 (List.flatMap lexC L0)),(1,AV.clo 69 []),(4,AV.list LK.nil 0 0 []),(5,o5 i0),(8,lro L0.length 5 (List.flatMap lexC L0)),(9,i6 (↑L0.length:Int)),(10,i6 (↑i0:Int)),(11,bo false)] (S0 i0)
theorem f40e_r0_f (L0:List Lexm)(X:Ext)(call:Caller)(lf:Nat)(S0:Nat→List Ob)(o5:Nat→AV)(i0:Nat)
 (h0:decide ((↑i0:Int)<(↑L0.length:Int))=false):vexec Tryd.prog X call lf 0 fg40 (loopN Tryd.f40 0) (f40e_F0 L0 S0 o5 i0)=some (Ex.exit 0,(f40e_S1 L0 S0 o5 i0)) :=
  around_sound (ans:=[(1,Ans.b false)]) (by kernel_rfl) (ai h0 trivial)
theorem f40e_plf (L0:List Lexm)(X:Ext)(call:Caller)(lf:Nat)(S0:Nat→List Ob)(o5:Nat→AV)(i0:Nat)(rE:AV)(sE:List Ob)
 (h0:vexec Tryd.prog X call lf 0 fg40 (Code.loop (loopN Tryd.f40 0)) (f40e_S0 L0)=some (Ex.exit 0,(f40e_S1 L0 S0 o5 i0)))
 (h1:vend1 [] 0 (S0 i0) [o5 i0]=some (rE,sE)):vbody Tryd.prog X call lf fg40 Tryd.f40 (codeOf Tryd.f40) [lexsV L0,AV.clo 69 []] [] 0=some (rE,sE) :=
  along_sound (ans:=[(8,Ans.l (Ex.exit 0) (f40e_S1 L0 S0 o5 i0)),(12,Ans.c rE sE)]) (by kernel_rfl) (ai h0 (ai h1 trivial))
def f40e_o0 (L0:List Lexm)(i0:Nat)(b0:Bool):Nat :=
  (match decide ((↑i0:Int)<(↑L0.length:Int)) with
  | true=>(match b0 with
    | true=>0
    | false=>0)
  | false=>1)
theorem f40e_B0 (L0:List Lexm)(X:Ext)(call:Caller)(lf:Nat)(S0:Nat→List Ob)(o5:Nat→AV)(i0:Nat)(a b c d:ByteArray)(e:Nat)(g r12:List AV)(j k p q:ByteArray)(r:Nat)(t:List AV)(m20:Nat)(c20:List AV)(k20:LK)(v21:AV)(s21:List Ob)(b0:Bool)
 (g0:decide ((↑i0:Int)<(↑L0.length:Int))=true→keep (S0 i0) (indexAddrv Tryd.prog 22 (S0 i0) (lro L0.length 5 (List.flatMap lexC L0)) (i6 (↑i0:Int)))=some (AV.eaddr (st a::st b::st c::st d::lro e 2 g::r12),S0 i0))
 (g1:decide ((↑i0:Int)<(↑L0.length:Int))=true→callv X call false 69 [AV.agg [st a,st b,st c,st d,lro e 2 g]] (S0 i0) 0=some (bo b0,S0 i0))
 (g2:decide ((↑i0:Int)<(↑L0.length:Int))=true→b0=true→callv X call false 61 [AV.agg [st a,st b,st c,st d,lro e 2 g]] (S0 i0) 0=some (AV.agg [st j,st k,st p,st q,lro r 2 t],S0 i0))
 (g3:decide ((↑i0:Int)<(↑L0.length:Int))=true→b0=true→bsl Tryd.prog 22 1 (S0 i0) false 0 [(0,AV.agg [st j,st k,st p,st q,lro r 2 t])]=some (AV.list k20 m20 5 c20,S0 i0))
 (g4:decide ((↑i0:Int)<(↑L0.length:Int))=true→b0=true→appendv Tryd.prog 22 (S0 i0) 0 (o5 i0) (AV.list k20 m20 5 c20)=some (v21,s21))
 (e0:decide ((↑i0:Int)<(↑L0.length:Int))=true→b0=true→o5 (i0 + 1)=v21)
 (e1:decide ((↑i0:Int)<(↑L0.length:Int))=true→(↑(i0 + 1):Int)=w6 ((↑i0:Int) + 1))
 (e2:decide ((↑i0:Int)<(↑L0.length:Int))=true→b0=true→S0 (i0 + 1)=s21)
 (e3:decide ((↑i0:Int)<(↑L0.length:Int))=true→b0=false→o5 (i0 + 1)=o5 i0)
 (e4:decide ((↑i0:Int)<(↑L0.length:Int))=true→b0=false→S0 (i0 + 1)=S0 i0) :
    (f40e_o0 L0 i0 b0=0→∃ Sx,vexec Tryd.prog X call lf 0 fg40 (loopN Tryd.f40 0) (f40e_F0 L0 S0 o5 i0)=some (Ex.normal,Sx)∧forget f40e_D0 Sx=(f40e_F0 L0 S0 o5 (i0 + 1)))∧(f40e_o0 L0 i0 b0=1→vexec Tryd.prog X call lf 0 fg40 (loopN Tryd.f40 0) (f40e_F0 L0 S0 o5 i0)=some (Ex.exit 0,(f40e_S1 L0 S0 o5 i0))):=by
  unfold f40e_o0
  cases c0:decide ((↑i0:Int)<(↑L0.length:Int)) with
  | true =>
    cases c1:b0 with
    | true =>
      exact ⟨fun _=>f40e_s0_tt L0 X call lf S0 o5 i0 a b c d e g r12 j k p q r t m20 c20 k20 v21 s21 c0 (g0 c0) (by have:=(g1 c0); rw [c1] at this; exact this) (g2 c0 c1) (g3 c0 c1) (g4 c0 c1) (e0 c0 c1) (e1 c0) (e2 c0 c1),fun h=>absurd (show (0:Nat)=1 from h) (by decide)⟩
    | false =>
      exact ⟨fun _=>f40e_s0_tf L0 X call lf S0 o5 i0 a b c d e g r12 c0 (g0 c0) (by have:=(g1 c0); rw [c1] at this; exact this) (e3 c0 c1) (e1 c0) (e4 c0 c1),fun h=>absurd (show (0:Nat)=1 from h) (by decide)⟩
  | false =>
    exact ⟨fun h=>absurd (show (1:Nat)=0 from h) (by decide),fun _=>f40e_r0_f L0 X call lf S0 o5 i0 c0⟩
theorem f40e_X0 (L0:List Lexm)(X:Ext)(call:Caller)(lf:Nat)(S0:Nat→List Ob)(o5:Nat→AV)(i0:Nat)(a b c d:ByteArray)(e:Nat)(g r12:List AV)(j k p q:ByteArray)(r:Nat)(t:List AV)(m20:Nat)(c20:List AV)(k20:LK)(v21:AV)(s21:List Ob)(b0:Bool)
 (g0:decide ((↑i0:Int)<(↑L0.length:Int))=true→keep (S0 i0) (indexAddrv Tryd.prog 22 (S0 i0) (lro L0.length 5 (List.flatMap lexC L0)) (i6 (↑i0:Int)))=some (AV.eaddr (st a::st b::st c::st d::lro e 2 g::r12),S0 i0))
 (g1:decide ((↑i0:Int)<(↑L0.length:Int))=true→callv X call false 69 [AV.agg [st a,st b,st c,st d,lro e 2 g]] (S0 i0) 0=some (bo b0,S0 i0))
 (g2:decide ((↑i0:Int)<(↑L0.length:Int))=true→b0=true→callv X call false 61 [AV.agg [st a,st b,st c,st d,lro e 2 g]] (S0 i0) 0=some (AV.agg [st j,st k,st p,st q,lro r 2 t],S0 i0))
 (g3:decide ((↑i0:Int)<(↑L0.length:Int))=true→b0=true→bsl Tryd.prog 22 1 (S0 i0) false 0 [(0,AV.agg [st j,st k,st p,st q,lro r 2 t])]=some (AV.list k20 m20 5 c20,S0 i0))
 (g4:decide ((↑i0:Int)<(↑L0.length:Int))=true→b0=true→appendv Tryd.prog 22 (S0 i0) 0 (o5 i0) (AV.list k20 m20 5 c20)=some (v21,s21)) :
    (f40e_o0 L0 i0 b0=1→vexec Tryd.prog X call lf 0 fg40 (loopN Tryd.f40 0) (f40e_F0 L0 S0 o5 i0)=some (Ex.exit 0,(f40e_S1 L0 S0 o5 i0))):=by
  unfold f40e_o0
  cases c0:decide ((↑i0:Int)<(↑L0.length:Int)) with
  | true =>
    cases c1:b0 with
    | true =>
      exact fun h=>absurd (show (0:Nat)=1 from h) (by decide)
    | false =>
      exact fun h=>absurd (show (0:Nat)=1 from h) (by decide)
  | false =>
    exact fun _=>f40e_r0_f L0 X call lf S0 o5 i0 c0
theorem f40e_M (L0:List Lexm)(S0:Nat→List Ob)(o5:Nat→AV)(X:Ext)(call:Caller)(lf n:Nat)(a b c d:Nat→ByteArray)(e:Nat→Nat)(g r12:Nat→List AV)(h k p q:Nat→ByteArray)(r:Nat→Nat)(t:Nat→List AV)(m20:Nat→Nat)(c20:Nat→List AV)(k20:Nat→LK)(v21:Nat→AV)(s21:Nat→List Ob)(b0:Nat→Bool)
 (z0:o5 0=AV.list LK.nil 0 0 [])
 (z1:S0 0=[])
 (hn:n<lf)
 (g0:∀ i0,i0 ≤ n→decide ((↑i0:Int)<(↑L0.length:Int))=true→keep (S0 i0) (indexAddrv Tryd.prog 22 (S0 i0) (lro L0.length 5 (List.flatMap lexC L0)) (i6 (↑i0:Int)))=some (AV.eaddr (st (a i0)::st (b i0)::st (c i0)::st (d i0)::lro (e i0) 2 (g i0)::(r12 i0)),S0 i0))
 (g1:∀ i0,i0 ≤ n→decide ((↑i0:Int)<(↑L0.length:Int))=true→callv X call false 69 [AV.agg [st (a i0),st (b i0),st (c i0),st (d i0),lro (e i0) 2 (g i0)]] (S0 i0) 0=some (bo (b0 i0),S0 i0))
 (g2:∀ i0,i0 ≤ n→decide ((↑i0:Int)<(↑L0.length:Int))=true→(b0 i0)=true→callv X call false 61 [AV.agg [st (a i0),st (b i0),st (c i0),st (d i0),lro (e i0) 2 (g i0)]] (S0 i0) 0=some (AV.agg [st (h i0),st (k i0),st (p i0),st (q i0),lro (r i0) 2 (t i0)],S0 i0))
 (g3:∀ i0,i0 ≤ n→decide ((↑i0:Int)<(↑L0.length:Int))=true→(b0 i0)=true→bsl Tryd.prog 22 1 (S0 i0) false 0 [(0,AV.agg [st (h i0),st (k i0),st (p i0),st (q i0),lro (r i0) 2 (t i0)])]=some (AV.list (k20 i0) (m20 i0) 5 (c20 i0),S0 i0))
 (g4:∀ i0,i0 ≤ n→decide ((↑i0:Int)<(↑L0.length:Int))=true→(b0 i0)=true→appendv Tryd.prog 22 (S0 i0) 0 (o5 i0) (AV.list (k20 i0) (m20 i0) 5 (c20 i0))=some ((v21 i0),(s21 i0)))
 (e0:∀ i0,i0<n→decide ((↑i0:Int)<(↑L0.length:Int))=true→(b0 i0)=true→o5 (i0 + 1)=(v21 i0))
 (e1:∀ i0,i0<n→decide ((↑i0:Int)<(↑L0.length:Int))=true→(↑(i0 + 1):Int)=w6 ((↑i0:Int) + 1))
 (e2:∀ i0,i0<n→decide ((↑i0:Int)<(↑L0.length:Int))=true→(b0 i0)=true→S0 (i0 + 1)=(s21 i0))
 (e3:∀ i0,i0<n→decide ((↑i0:Int)<(↑L0.length:Int))=true→(b0 i0)=false→o5 (i0 + 1)=o5 i0)
 (e4:∀ i0,i0<n→decide ((↑i0:Int)<(↑L0.length:Int))=true→(b0 i0)=false→S0 (i0 + 1)=S0 i0)
 (hz:∀ j,j<n→f40e_o0 L0 j (b0 j)=0) :
    (f40e_o0 L0 n (b0 n)=1→∀ (rE:AV),∀ (sE:List Ob),vend1 [] 0 (S0 n) [o5 n]=some (rE,sE)→vbody Tryd.prog X call lf fg40 Tryd.f40 (codeOf Tryd.f40) [lexsV L0,AV.clo 69 []] [] 0=some (rE,sE)):=by
  have key:∀ j,j<n→_:=fun j hj=>(f40e_B0 L0 X call lf S0 o5 j (a j) (b j) (c j) (d j) (e j) (g j) (r12 j) (h j) (k j) (p j) (q j) (r j) (t j) (m20 j) (c20 j) (k20 j) (v21 j) (s21 j) (b0 j) (g0 j (Nat.le_of_lt hj)) (g1 j (Nat.le_of_lt hj)) (g2 j (Nat.le_of_lt hj)) (g3 j (Nat.le_of_lt hj)) (g4 j (Nat.le_of_lt hj)) (e0 j hj) (e1 j hj) (e2 j hj) (e3 j hj) (e4 j hj)).1 (hz j hj)
  have kn:=f40e_X0 L0 X call lf S0 o5 n (a n) (b n) (c n) (d n) (e n) (g n) (r12 n) (h n) (k n) (p n) (q n) (r n) (t n) (m20 n) (c20 n) (k20 n) (v21 n) (s21 n) (b0 n) (g0 n (Nat.le_refl n)) (g1 n (Nat.le_refl n)) (g2 n (Nat.le_refl n)) (g3 n (Nat.le_refl n)) (g4 n (Nat.le_refl n))
  exact fun hk rE sE q0=>f40e_plf L0 X call lf S0 o5 n rE sE (f40e_L0 L0 S0 o5 X call lf n _ _ z0 z1 hn key (kn hk) (by simp)) q0
end Go.Proofs.Lex
end
/- Lexicon: slices.Concat of two lists of lexemes. -/
section
open Go Go.Vm Go.Proofs
namespace Go.Proofs.Lex
/-- The context in which Grow's row is one's own. -/
def XG (X:Ext):Ext := { X with adopt:=fun f=>f == 90 }
section
variable [Fixed] {X:Ext}
theorem XG_ok (hX:ExtOk Tryd.prog X):ExtOk Tryd.prog (XG X):=⟨hX.mixed,hX.dom,hX.pure,hX.st⟩
def grow90:List AV→Option AV:=fun vs=>match vs with
  | [.list .nil 0 0 [],.int .i64 n]=>if n=0 then some nil0 else if 0 < n∧n * 89 ≤ 140737488355328 then some (.list .fresh 0 5 []) else none
  | _=>none
theorem call90 (hX:ExtOk Tryd.prog X) (hL:XL X) {n:Nat} (hn:0 < n) (hb:n * 89 ≤ 140737488355328):CallAt Tryd.prog 90 [nil0,i6 n] [] 0 (.list .fresh 0 5 []) []:=by
  have hC:CallOk Tryd.prog (callerOf fun _ _=>none):=callerOf_ok SpecOk.none'
  have hw:w6 ((n:Int) - 0)=(n:Int):=by unfold w6; rw [Int.sub_zero,IntKind.wrap_i64]; omega
  obtain ⟨z,hz,hzl⟩:=(rowL).zero
  have h := f90_pt n (replv n z.cells) X (callerOf fun _ _ => none) 0 (by rw [hw]; simpa using hn) (by
    rw [hw]
    unfold appendZv
    rw [Tryd.underlying22,Tryd.underlying3]
    simp only [rowL.bytes,hz,rowL.cells]
    rw [if_pos ⟨by omega,by simpa using hb⟩,if_pos hzl,if_neg (by omega)]
    simp only [Int.toNat_natCast,List.nil_append,List.length_nil]
    rfl) (by
    unfold slc cutOwn
    simp only [Bool.false_eq_true,if_false,Tryd.underlying22,List.getElem?_cons_zero]
    rw [if_pos ⟨trivial,trivial,Nat.zero_le _,info33⟩]
    rfl)
  exact (body_at hX hC (hL.dom 90 rfl rfl) Tryd.func90 (by kernel_rfl) h).clean rfl
theorem call90z (hX:ExtOk Tryd.prog X) (hL:XL X):CallAt Tryd.prog 90 [nil0,i6 0] [] 0 nil0 []:=by
  have hC:CallOk Tryd.prog (callerOf fun _ _=>none):=callerOf_ok SpecOk.none'
  exact (body_at hX hC (hL.dom 90 rfl rfl) Tryd.func90 (by kernel_rfl) (f90_pf 0 X (callerOf fun _ _=>none) 0 (by decide))).clean rfl
def TG:Go.Vm.Spec:=Go.Vm.Spec.on (fun _ _=>none) 90 grow90
theorem TG_ok (hX:ExtOk Tryd.prog X) (hL:XL X):SpecOk Tryd.prog TG:=by
  refine SpecOk.on SpecOk.none' fun vs r h => ?_
  unfold grow90 at h
  split at h
  · rename_i n
    split at h
    · rename_i h0
      subst h0
      simp only [Option.some.injEq] at h
      subst h
      exact call90z hX hL
    · split at h
      · rename_i h0
        simp only [Option.some.injEq] at h
        subst h
        obtain ⟨k,e⟩:=Int.eq_ofNat_of_zero_le (Int.le_of_lt h0.1)
        subst e
        exact call90 hX hL (by omega) (by omega)
      · cases h
  · cases h
/-- What is joined after some of the two lists. -/
def joinC (L M:List Lexm):Nat→List Lexm
  | 0=>[]
  | 1=>L
  | _=>L ++ M
def pick2 (L M:List Lexm):Nat→List Lexm
  | 0=>L
  | _=>M
theorem joinC_step (L M:List Lexm) {i:Nat} (h:i < 2):joinC L M (i + 1)=joinC L M i ++ pick2 L M i:=by
  rcases i with _ | _ | i
  · rfl
  · rfl
  · omega
def aLss:Arg (List (List Lexm)):=Arg.cell cL.list.list rfl
theorem at_two {L M:List Lexm} {σ:List Ob} {i:Nat} (h:i < 2):∃ r,keep σ (indexAddrv Tryd.prog 104 σ (lro 2 1 [lexsV L,lexsV M]) (i6 (i:Int)))=some (.eaddr (lexsV (pick2 L M i)::r),σ):=by
  rcases i with _ | _ | i
  · exact ⟨[lexsV M],by show _=_; kernel_rfl⟩
  · exact ⟨[],by show _=_; kernel_rfl⟩
  · omega
theorem own_step {l m:List Lexm} (hb:(l.length + m.length) * 89 ≤ 140737488355328) :
    appendv Tryd.prog 22 [.arr l.length 5 (l.flatMap lexC)] 0 (.own 0 l.length) (lexsV m)=some (.own 0 (l ++ m).length,[.arr (l ++ m).length 5 ((l ++ m).flatMap lexC)]):=by
  obtain ⟨z,hz,hzl⟩:=(rowL).zero
  have ho:[Ob.arr l.length 5 (l.flatMap lexC)][0]? = some (.arr l.length (Tryd.prog.cellsOf 33) (l.flatMap lexC)):=by rw [rowL.cells]; rfl
  have hx:appended [Ob.arr l.length 5 (l.flatMap lexC)] (Tryd.prog.cellsOf 33) (lexsV m)=some (m.length,m.flatMap lexC):=by rw [rowL.cells]; exact appended_row (A:=cL) m
  by_cases hm:m.length=0
  · have hm' : m = [] := List.eq_nil_of_length_eq_zero hm
    subst hm'
    rw [grow_none rowL.und hz (by rw [hzl,rowL.cells]) ho (Nat.zero_le _) hx rfl (by rw [rowL.bytes]; simpa using hb)]
    simp
  · rw [grow_own rowL.und hz (by rw [hzl, rowL.cells]) ho (Nat.zero_le _) hx (Cod.flat_owns (A := cL) m) hm (by rw [rowL.bytes]; exact hb)]
    rw [List.length_append,rowL.cells,List.flatMap_append]
    rfl
theorem call68 (hX:ExtOk Tryd.prog X) (hL:XL X) {L M:List Lexm} (hb:(L.length + M.length) * 89 ≤ big):CallAt Tryd.prog 68 [aLss.enc [L,M]] [] 0 (aLs.enc (L ++ M)) []:=by
  have hb' : (L.length + M.length) * 89 ≤ 140737488355328:=hb
  have hC:=callerOf_ok (TG_ok hX hL)
  have two:∀ {i:Nat},decide ((i:Int) < 2)=true→i < 2:=fun h=>by have:=of_decide_eq_true h; omega
  have hJ : ∀ i, (joinC L M i).length ≤ L.length + M.length := fun i => by
    rcases i with _ | _ | i
    · exact Nat.zero_le _
    · exact Nat.le_add_right _ _
    · exact Nat.le_of_eq List.length_append
  have l0 : vexec Tryd.prog (XG X) (callerOf TG) 3 0 noFg (.loop (loopN Tryd.f68 0)) (f68_S0 L M) = some (.exit 0, f68_S1 L M (fun i => ((joinC L M i).length : Int)) 2) := by
    refine f68_L0 L M (fun i=>((joinC L M i).length:Int)) (XG X) (callerOf TG) 3 2 _ _ rfl (by omega) (fun j hj => ?_) ?_ (by simp)
    · obtain ⟨r, hr⟩ := at_two (L := L) (M := M) (σ := []) hj
      refine (f68_B0 L M (fun i=>((joinC L M i).length:Int)) (XG X) (callerOf TG) 3 j (pick2 L M j).length ((pick2 L M j).flatMap lexC) r (fun _=>hr) (fun _ => ?_) (fun _=>up hj (by decide))).1 ?_
      · show (((joinC L M (j + 1)).length : Nat) : Int) = w6 (((joinC L M j).length : Int) + ((pick2 L M j).length : Int))
        have h1:=hJ (j + 1)
        rw [joinC_step L M hj,List.length_append] at h1 ⊢
        unfold w6
        rw [IntKind.wrap_i64]
        omega
      · unfold f68_o0
        have h1:=hJ (j + 1)
        rw [joinC_step L M hj,List.length_append] at h1
        rw [decide_eq_true (by omega)]
        have : decide (w6 (((joinC L M j).length : Int) + ((pick2 L M j).length : Int)) < 0) = false := by
          unfold w6
          rw [IntKind.wrap_i64]
          exact decide_eq_false (by omega)
        rw [this]
    · exact f68_r0_f L M (fun i=>((joinC L M i).length:Int)) (XG X) (callerOf TG) 3 2 (by decide)
  have res : ∃ r σ', vbody Tryd.prog (XG X) (callerOf TG) 3 noFg Tryd.f68 (codeOf Tryd.f68) [lro 2 1 [lexsV L, lexsV M]] [] 0 = some (r, σ') ∧ aLs.dec r = some (L ++ M) := by
    by_cases h0:L.length + M.length=0
    · have e1 : L = [] := List.eq_nil_of_length_eq_zero (by omega)
      have e2:M=[]:=List.eq_nil_of_length_eq_zero (by omega)
      subst e1; subst e2
      refine ⟨nil0,[],f68_plflf [] [] (fun i=>((joinC [] [] i).length:Int)) nil0 [] (XG X) (callerOf TG) 3 2 (fun _=>[]) (fun _=>nil0) 2 _ _ l0 ?_ ?_ rfl,rfl⟩
      · have ht : TG 90 [nil0, i6 0] = some nil0 := rfl
        exact (call_spec (X:=XG X) (T:=TG) (σ:=[]) (ro:=0) (dr:=false) (hL.ok 90 rfl).1 (hL.ok 90 rfl).2.1 rfl ht rfl).trans rfl
      · refine f68_L1 [] [] (fun i => ((joinC [] [] i).length : Int)) nil0 [] 2 (fun _ => []) (fun _ => nil0) (XG X) (callerOf TG) 3 2 _ _ rfl rfl (by omega) (fun j hj => ?_) ?_ (by simp)
        · obtain ⟨r, hr⟩ := at_two (L := []) (M := []) (σ := []) hj
          have hp:pick2 [] [] j=[]:=by rcases j with _ | j <;> rfl
          rw [hp] at hr
          refine (f68_B1 [] [] (fun i=>((joinC [] [] i).length:Int)) nil0 (XG X) (callerOf TG) 3 2 (fun _=>[]) (fun _=>nil0) j 0 [] r nil0 [] (fun _=>hr) (fun _=>by show _=_; kernel_rfl) (fun _=>rfl) (fun _=>up hj (by decide)) (fun _=>rfl)).1 ?_
          unfold f68_o1
          rw [decide_eq_true (by omega)]
        · exact f68_r1_f [] [] (fun i=>((joinC [] [] i).length:Int)) nil0 (XG X) (callerOf TG) 3 2 (fun _=>[]) (fun _=>nil0) 2 (by decide)
    · let o : Nat → AV := fun i => .own 0 (joinC L M i).length
      let S:Nat→List Ob:=fun i=>[.arr (joinC L M i).length 5 ((joinC L M i).flatMap lexC)]
      refine ⟨_,_,f68_plflf L M (fun i=>((joinC L M i).length:Int)) (.own 0 0) [.arr 0 5 []] (XG X) (callerOf TG) 3 2 S o 2 _ _ l0 ?_ ?_ end_row,?_⟩
      · have ht : TG 90 [nil0, i6 ((joinC L M 2).length : Int)] = some (.list .fresh 0 5 []) := by
          have e:(joinC L M 2).length=L.length + M.length:=List.length_append
          show grow90 [.list .nil 0 0 [],.int .i64 ((joinC L M 2).length:Int)]=_
          unfold grow90
          rw [e]
          simp only
          rw [if_neg (by omega),if_pos ⟨by omega,by omega⟩]
        exact (call_spec (X:=XG X) (T:=TG) (σ:=[]) (ro:=0) (dr:=false) (hL.ok 90 rfl).1 (hL.ok 90 rfl).2.1 rfl ht rfl).trans rfl
      · refine f68_L1 L M (fun i => ((joinC L M i).length : Int)) (.own 0 0) [.arr 0 5 []] 2 S o (XG X) (callerOf TG) 3 2 _ _ rfl rfl (by omega) (fun j hj => ?_) ?_ (by simp)
        · obtain ⟨r, hr⟩ := at_two (L := L) (M := M) (σ := S j) hj
          refine (f68_B1 L M (fun i=>((joinC L M i).length:Int)) (.own 0 0) (XG X) (callerOf TG) 3 2 S o j (pick2 L M j).length ((pick2 L M j).flatMap lexC) r (o (j + 1)) (S (j + 1)) (fun _=>hr) (fun _ => ?_) (fun _=>rfl) (fun _=>up hj (by decide)) (fun _=>rfl)).1 ?_
          · have h1 := hJ (j + 1)
            rw [joinC_step L M hj,List.length_append] at h1
            have:=own_step (l:=joinC L M j) (m:=pick2 L M j) (by omega)
            rw [← joinC_step L M hj] at this
            exact this
          · unfold f68_o1
            rw [decide_eq_true (by omega)]
        · exact f68_r1_f L M (fun i=>((joinC L M i).length:Int)) (.own 0 0) (XG X) (callerOf TG) 3 2 S o 2 (by decide)
      · have e : joinC L M 2 = L ++ M := rfl
        rw [e]
        show cL.list.dec [.list .fresh (L ++ M).length 5 ((L ++ M).flatMap lexC)]=some (L ++ M)
        show (if (L ++ M).length=0 then _ else if 5=cL.k then cL.many (L ++ M).length ((L ++ M).flatMap cL.enc) else none)=some (L ++ M)
        rw [if_neg (by rw [List.length_append]; exact h0),if_pos (show 5=cL.k from rfl),Cod.many_de]
  obtain ⟨r,σ',h,hd⟩:=res
  exact run_res (B:=aLs) (XG_ok hX) hC (hL.dom 68 rfl rfl) Tryd.func68 (by kernel_rfl) h hd
end
end Go.Proofs.Lex
end
/- Lexicon: Merge, walked (printed) -/
section
open Go Go.Vm Go.Proofs
namespace Go.Proofs.Lex
def fg36:Nat→List Nat
  | 5004=>[1]
  | 5009=>[1]
  | _=>[]
def f36_F0 (L0 L1:List Lexm)(S0:Nat→List Ob)(i0:Nat):St :=
  stOf 47 [8,15,16,17,18,19,20,21] [(0,lro L0.length 5 (List.flatMap lexC L0)),(1,lro L1.length 5 (List.flatMap lexC L1)),(4,AV.list LK.nil 0 0 []),(5,i6 0),(6,AV.map 0),(11,AV.map 0),(12,lro L0.length 5 (List.flatMap lexC L0)),(13,i6 (↑L0.length:Int)),(14,i6 (↑i0:Int))] (S0 i0)
def f36_S0 (L0 L1:List Lexm):St :=
  stOf 47 [] [(0,lro L0.length 5 (List.flatMap lexC L0)),(1,lro L1.length 5 (List.flatMap lexC L1)),(4,AV.list LK.nil 0 0 []),(5,i6 0),(6,AV.map 0),(11,AV.map 0),(12,lro L0.length 5 (List.flatMap lexC L0)),(13,i6 (↑L0.length:Int)),(14,i6 0)] [Ob.mapo []]
abbrev f36_D0:List Nat:=[21,20,19,18,8,17,16,15]
theorem f36_L0 (L0 L1:List Lexm)(S0:Nat→List Ob)(X:Ext)(call:Caller)(lf n:Nat)(x:Ex) (S' : St)
 (e0:S0 0=[Ob.mapo []])
 (hn:n<lf)
 (hs:∀ j,j<n→∃ Sx,vexec Tryd.prog X call lf 0 fg36 (loopN Tryd.f36 0) (f36_F0 L0 L1 S0 j)=some (Ex.normal,Sx)∧forget f36_D0 Sx=(f36_F0 L0 L1 S0 (j + 1)))
 (he:vexec Tryd.prog X call lf 0 fg36 (loopN Tryd.f36 0) (f36_F0 L0 L1 S0 n)=some (x,S'))
 (hx:x ≠ Ex.normal):vexec Tryd.prog X call lf 0 fg36 (Go.Code.loop (loopN Tryd.f36 0)) (f36_S0 L0 L1)=some (x,S') :=
  loop_runK (by kernel_rfl) (fun j=>(f36_F0 L0 L1 S0 j)) n hn (by show forget f36_D0 (f36_S0 L0 L1)=(f36_F0 L0 L1 S0 0); unfold f36_F0; rw [e0]; show _=_; kernel_rfl) hs he hx
theorem f36_s0_t (L0 L1:List Lexm)(X:Ext)(call:Caller)(lf:Nat)(S0:Nat→List Ob)(i0:Nat)(a d e g:ByteArray)(h:Nat)(j r16:List AV)(sq10:List Ob)
 (h0:decide ((↑i0:Int)<(↑L0.length:Int))=true)
 (h1:keep (S0 i0) (indexAddrv Tryd.prog 22 (S0 i0) (lro L0.length 5 (List.flatMap lexC L0)) (i6 (↑i0:Int)))=some (AV.eaddr (st a::st d::st e::st g::lro h 2 j::r16),S0 i0))
 (h2:unit1 (mapUpdatev Tryd.prog 58 (S0 i0) 0 (AV.map 0) (st a) (bo true))=some (AV.undef,sq10))
 (e0:(↑(i0 + 1):Int)=w6 ((↑i0:Int) + 1))
 (e1:S0 (i0 + 1)=sq10):∃ Sx,vexec Tryd.prog X call lf 0 fg36 (loopN Tryd.f36 0) (f36_F0 L0 L1 S0 i0)=some (Ex.normal,Sx)∧forget f36_D0 Sx=(f36_F0 L0 L1 S0 (i0 + 1)) :=
  ⟨stOf 47 [] [(0,lro L0.length 5 (List.flatMap lexC L0)),(1,lro L1.length 5 (List.flatMap lexC L1)),(4,AV.list LK.nil 0 0 []),(5,i6 0),(6,AV.map 0),(8,AV.eaddr [st a,st d,st e,st g,lro h 2 j]),(11,AV.map 0),(12,lro L0.length 5 (List.flatMap lexC L0)),(13,i6 (↑L0.length:Int)),(14,i6 (w6 ((↑i0:Int) + 1))),(15,bo true),(16,AV.eaddr (st a::st d::st e::st g::lro h 2 j::r16)),(17,AV.agg [st a,st d,st e,st g,lro h 2 j]),(18,AV.map 0),(19,AV.eaddr [st a,st d,st e,st g,lro h 2 j]),(20,st a),(21,i6 (w6 ((↑i0:Int) + 1)))] sq10,around_sound (ans:=[(1,Ans.b true),(4,Ans.v (AV.eaddr (st a::st d::st e::st g::lro h 2 j::r16))),(10,Ans.c AV.undef sq10)]) (by kernel_rfl) (ai h0 (ai h1 (ai h2 trivial))),by unfold f36_F0; rw [e0,e1]; show _=_; kernel_rfl⟩
def f36_S1 (L0 L1:List Lexm)(S0:Nat→List Ob)(i0:Nat):St :=
  stOf 47 [8,16,17,18,19,20,21] [(0,lro L0.length 5 (List.flatMap lexC L0)),(1,lro L1.length 5 (List.flatMap lexC L1)),(4,AV.list LK.nil 0 0 []),(5,i6 0),(6,AV.map 0),(11,AV.map 0),(12,lro L0.length 5 (List.flatMap lexC L0)),(13,i6 (↑L0.length:Int)),(14,i6 (↑i0:Int)),(15,bo false)] (S0 i0)
theorem f36_r0_f (L0 L1:List Lexm)(X:Ext)(call:Caller)(lf:Nat)(S0:Nat→List Ob)(i0:Nat)
 (h0:decide ((↑i0:Int)<(↑L0.length:Int))=false):vexec Tryd.prog X call lf 0 fg36 (loopN Tryd.f36 0) (f36_F0 L0 L1 S0 i0)=some (Ex.exit 0,(f36_S1 L0 L1 S0 i0)) :=
  around_sound (ans:=[(1,Ans.b false)]) (by kernel_rfl) (ai h0 trivial)
def f36_F1 (L0 L1:List Lexm)(i0:Nat)(S1:Nat→List Ob)(i1:Nat):St :=
  stOf 47 [4,5,8,10,16,17,18,19,20,21,25,26,27,28,29,30,31,32,33,34,35] [(0,lro L0.length 5 (List.flatMap lexC L0)),(1,lro L1.length 5 (List.flatMap lexC L1)),(6,AV.map 0),(11,AV.map 0),(12,lro L0.length 5 (List.flatMap lexC L0)),(13,i6 (↑L0.length:Int)),(14,i6 (↑i0:Int)),(15,bo false),(22,lro L1.length 5 (List.flatMap lexC L1)),(23,i6 (↑L1.length:Int)),(24,i6 (↑i1:Int))] (S1 i1)
def f36_S2 (L0 L1:List Lexm)(S0:Nat→List Ob)(i0:Nat):St :=
  stOf 47 [8,16,17,18,19,20,21] [(0,lro L0.length 5 (List.flatMap lexC L0)),(1,lro L1.length 5 (List.flatMap lexC L1)),(4,AV.list LK.nil 0 0 []),(5,i6 0),(6,AV.map 0),(11,AV.map 0),(12,lro L0.length 5 (List.flatMap lexC L0)),(13,i6 (↑L0.length:Int)),(14,i6 (↑i0:Int)),(15,bo false),(22,lro L1.length 5 (List.flatMap lexC L1)),(23,i6 (↑L1.length:Int)),(24,i6 0)] (S0 i0)
abbrev f36_D1:List Nat:=[35,34,33,32,5,4,31,30,29,28,10,27,26,25]
theorem f36_L1 (L0 L1:List Lexm)(S0:Nat→List Ob)(i0:Nat)(S1:Nat→List Ob)(X:Ext)(call:Caller)(lf n:Nat)(x:Ex) (S' : St)
 (e0:S1 0=S0 i0)
 (hn:n<lf)
 (hs:∀ j,j<n→∃ Sx,vexec Tryd.prog X call lf 0 fg36 (loopN Tryd.f36 1) (f36_F1 L0 L1 i0 S1 j)=some (Ex.normal,Sx)∧forget f36_D1 Sx=(f36_F1 L0 L1 i0 S1 (j + 1)))
 (he:vexec Tryd.prog X call lf 0 fg36 (loopN Tryd.f36 1) (f36_F1 L0 L1 i0 S1 n)=some (x,S'))
 (hx:x ≠ Ex.normal):vexec Tryd.prog X call lf 0 fg36 (Go.Code.loop (loopN Tryd.f36 1)) (f36_S2 L0 L1 S0 i0)=some (x,S') :=
  loop_runK (by kernel_rfl) (fun j=>(f36_F1 L0 L1 i0 S1 j)) n hn (by show forget f36_D1 (f36_S2 L0 L1 S0 i0)=(f36_F1 L0 L1 i0 S1 0); unfold f36_F1; rw [e0]; show _=_; kernel_rfl) hs he hx
def f36_S3 (L0 L1:List Lexm)(i0:Nat)(S1:Nat→List Ob)(i1:Nat)(a b c d:ByteArray)(e:Nat)(g r26:List AV):St :=
  stOf 47 [8,16,17,18,19,20,21,32,33,34,35] [(0,lro L0.length 5 (List.flatMap lexC L0)),(1,lro L1.length 5 (List.flatMap lexC L1)),(4,AV.list LK.nil 0 0 []),(5,i6 5),(6,AV.map 0),(10,AV.eaddr [st a,st b,st c,st d,lro e 2 g]),(11,AV.map 0),(12,lro L0.length 5 (List.flatMap lexC L0)),(13,i6 (↑L0.length:Int)),(14,i6 (↑i0:Int)),(15,bo false),(22,lro L1.length 5 (List.flatMap lexC L1)),(23,i6 (↑L1.length:Int)),(24,i6 (↑i1:Int)),(25,bo true),(26,AV.eaddr (st a::st b::st c::st d::lro e 2 g::r26)),(27,AV.agg [st a,st b,st c,st d,lro e 2 g]),(28,AV.map 0),(29,AV.eaddr [st a,st b,st c,st d,lro e 2 g]),(30,st a),(31,bo true)] (S1 i1)
theorem f36_r1_tt (L0 L1:List Lexm)(X:Ext)(call:Caller)(lf i0:Nat)(S1:Nat→List Ob)(i1:Nat)(a c d e:ByteArray)(g:Nat)(h r26:List AV)
 (h0:decide ((↑i1:Int)<(↑L1.length:Int))=true)
 (h1:keep (S1 i1) (indexAddrv Tryd.prog 22 (S1 i1) (lro L1.length 5 (List.flatMap lexC L1)) (i6 (↑i1:Int)))=some (AV.eaddr (st a::st c::st d::st e::lro g 2 h::r26),S1 i1))
 (h2:keep (S1 i1) (lookupv Tryd.prog 58 (S1 i1) (AV.map 0) (st a) false)=some (bo true,S1 i1)):vexec Tryd.prog X call lf 0 fg36 (loopN Tryd.f36 1) (f36_F1 L0 L1 i0 S1 i1)=some (Ex.ret,(f36_S3 L0 L1 i0 S1 i1 a c d e g h r26)) :=
  around_sound (ans:=[(1,Ans.b true),(4,Ans.v (AV.eaddr (st a::st c::st d::st e::lro g 2 h::r26))),(10,Ans.v (bo true))]) (by kernel_rfl) (ai h0 (ai h1 (ai h2 trivial)))
theorem f36_plfltt (L0 L1:List Lexm)(X:Ext)(call:Caller)(lf:Nat)(S0:Nat→List Ob)(i0:Nat)(S1:Nat→List Ob)(i1:Nat)(a b c d:ByteArray)(e:Nat)(g r26:List AV)
 (h0:vexec Tryd.prog X call lf 0 fg36 (Code.loop (loopN Tryd.f36 0)) (f36_S0 L0 L1)=some (Ex.exit 0,(f36_S1 L0 L1 S0 i0)))
 (h1:vexec Tryd.prog X call lf 0 fg36 (Code.loop (loopN Tryd.f36 1)) (f36_S2 L0 L1 S0 i0)=some (Ex.ret,(f36_S3 L0 L1 i0 S1 i1 a b c d e g r26))):vbody Tryd.prog X call lf fg36 Tryd.f36 (codeOf Tryd.f36) [lexsV L0,lexsV L1] [] 0=some (AV.tup [AV.list LK.nil 0 0 [],i6 5],S1 i1) :=
  along_sound (ans:=[(10,Ans.l (Ex.exit 0) (f36_S1 L0 L1 S0 i0)),(15,Ans.l Ex.ret (f36_S3 L0 L1 i0 S1 i1 a b c d e g r26))]) (by kernel_rfl) (ai h0 (ai h1 trivial))
theorem f36_s1_tf (L0 L1:List Lexm)(X:Ext)(call:Caller)(lf i0:Nat)(S1:Nat→List Ob)(i1:Nat)(a d e g:ByteArray)(h:Nat)(j r26:List AV)(sq16:List Ob)
 (h0:decide ((↑i1:Int)<(↑L1.length:Int))=true)
 (h1:keep (S1 i1) (indexAddrv Tryd.prog 22 (S1 i1) (lro L1.length 5 (List.flatMap lexC L1)) (i6 (↑i1:Int)))=some (AV.eaddr (st a::st d::st e::st g::lro h 2 j::r26),S1 i1))
 (h2:keep (S1 i1) (lookupv Tryd.prog 58 (S1 i1) (AV.map 0) (st a) false)=some (bo false,S1 i1))
 (h3:unit1 (mapUpdatev Tryd.prog 58 (S1 i1) 0 (AV.map 0) (st a) (bo true))=some (AV.undef,sq16))
 (e0:(↑(i1 + 1):Int)=w6 ((↑i1:Int) + 1))
 (e1:S1 (i1 + 1)=sq16):∃ Sx,vexec Tryd.prog X call lf 0 fg36 (loopN Tryd.f36 1) (f36_F1 L0 L1 i0 S1 i1)=some (Ex.normal,Sx)∧forget f36_D1 Sx=(f36_F1 L0 L1 i0 S1 (i1 + 1)) :=
  ⟨stOf 47 [4,5,8,16,17,18,19,20,21] [(0,lro L0.length 5 (List.flatMap lexC L0)),(1,lro L1.length 5 (List.flatMap lexC L1)),(6,AV.map 0),(10,AV.eaddr [st a,st d,st e,st g,lro h 2 j]),(11,AV.map 0),(12,lro L0.length 5 (List.flatMap lexC L0)),(13,i6 (↑L0.length:Int)),(14,i6 (↑i0:Int)),(15,bo false),(22,lro L1.length 5 (List.flatMap lexC L1)),(23,i6 (↑L1.length:Int)),(24,i6 (w6 ((↑i1:Int) + 1))),(25,bo true),(26,AV.eaddr (st a::st d::st e::st g::lro h 2 j::r26)),(27,AV.agg [st a,st d,st e,st g,lro h 2 j]),(28,AV.map 0),(29,AV.eaddr [st a,st d,st e,st g,lro h 2 j]),(30,st a),(31,bo false),(32,AV.map 0),(33,AV.eaddr [st a,st d,st e,st g,lro h 2 j]),(34,st a),(35,i6 (w6 ((↑i1:Int) + 1)))] sq16,around_sound (ans:=[(1,Ans.b true),(4,Ans.v (AV.eaddr (st a::st d::st e::st g::lro h 2 j::r26))),(10,Ans.v (bo false)),(16,Ans.c AV.undef sq16)]) (by kernel_rfl) (ai h0 (ai h1 (ai h2 (ai h3 trivial)))),by unfold f36_F1; rw [e0,e1]; show _=_; kernel_rfl⟩
def f36_S4 (L0 L1:List Lexm)(i0:Nat)(S1:Nat→List Ob)(i1:Nat):St :=
  stOf 47 [4,5,8,10,16,17,18,19,20,21,26,27,28,29,30,31,32,33,34,35] [(0,lro L0.length 5 (List.flatMap lexC L0)),(1,lro L1.length 5 (List.flatMap lexC L1)),(6,AV.map 0),(11,AV.map 0),(12,lro L0.length 5 (List.flatMap lexC L0)),(13,i6 (↑L0.length:Int)),(14,i6 (↑i0:Int)),(15,bo false),(22,lro L1.length 5 (List.flatMap lexC L1)),(23,i6 (↑L1.length:Int)),(24,i6 (↑i1:Int)),(25,bo false)] (S1 i1)
theorem f36_r1_f (L0 L1:List Lexm)(X:Ext)(call:Caller)(lf i0:Nat)(S1:Nat→List Ob)(i1:Nat)
 (h0:decide ((↑i1:Int)<(↑L1.length:Int))=false):vexec Tryd.prog X call lf 0 fg36 (loopN Tryd.f36 1) (f36_F1 L0 L1 i0 S1 i1)=some (Ex.exit 2,(f36_S4 L0 L1 i0 S1 i1)) :=
  around_sound (ans:=[(1,Ans.b false)]) (by kernel_rfl) (ai h0 trivial)
theorem f36_plflft (L0 L1:List Lexm)(X:Ext)(call:Caller)(lf:Nat)(S0:Nat→List Ob)(i0:Nat)(S1:Nat→List Ob)(i1:Nat)
 (h0:vexec Tryd.prog X call lf 0 fg36 (Code.loop (loopN Tryd.f36 0)) (f36_S0 L0 L1)=some (Ex.exit 0,(f36_S1 L0 L1 S0 i0)))
 (h1:vexec Tryd.prog X call lf 0 fg36 (Code.loop (loopN Tryd.f36 1)) (f36_S2 L0 L1 S0 i0)=some (Ex.exit 2,(f36_S4 L0 L1 i0 S1 i1)))
 (h2:decide (w6 ((↑L0.length:Int) + (↑L1.length:Int))>256)=true):vbody Tryd.prog X call lf fg36 Tryd.f36 (codeOf Tryd.f36) [lexsV L0,lexsV L1] [] 0=some (AV.tup [AV.list LK.nil 0 0 [],i6 2],S1 i1) :=
  along_sound (ans:=[(10,Ans.l (Ex.exit 0) (f36_S1 L0 L1 S0 i0)),(15,Ans.l (Ex.exit 2) (f36_S4 L0 L1 i0 S1 i1)),(22,Ans.b true)]) (by kernel_rfl) (ai h0 (ai h1 (ai h2 trivial)))
theorem f36_plflff (L0 L1:List Lexm)(v46:AV)(X:Ext)(call:Caller)(lf:Nat)(S0:Nat→List Ob)(i0:Nat)(S1:Nat→List Ob)(i1 m44:Nat)(c44:List AV)(k44:LK)(m45:Nat)(c45:List AV)(rE:AV)(sE:List Ob)
 (h0:vexec Tryd.prog X call lf 0 fg36 (Code.loop (loopN Tryd.f36 0)) (f36_S0 L0 L1)=some (Ex.exit 0,(f36_S1 L0 L1 S0 i0)))
 (h1:vexec Tryd.prog X call lf 0 fg36 (Code.loop (loopN Tryd.f36 1)) (f36_S2 L0 L1 S0 i0)=some (Ex.exit 2,(f36_S4 L0 L1 i0 S1 i1)))
 (h2:decide (w6 ((↑L0.length:Int) + (↑L1.length:Int))>256)=false)
 (h3:bsl Tryd.prog 104 2 (S1 i1) false 0 [(0,lro L0.length 5 (List.flatMap lexC L0)),(1,lro L1.length 5 (List.flatMap lexC L1))]=some (AV.list k44 m44 1 c44,S1 i1))
 (h4:callv X call false 68 [AV.list k44 m44 1 c44] (S1 i1) 0=some (lro m45 5 c45,S1 i1))
 (h5:callv X call false 40 [lro m45 5 c45,AV.clo 69 []] (S1 i1) 0=some (v46,S1 i1))
 (h6:vend1 [] 0 (S1 i1) [v46,i6 0]=some (rE,sE)):vbody Tryd.prog X call lf fg36 Tryd.f36 (codeOf Tryd.f36) [lexsV L0,lexsV L1] [] 0=some (rE,sE) :=
  along_sound (ans:=[(10,Ans.l (Ex.exit 0) (f36_S1 L0 L1 S0 i0)),(15,Ans.l (Ex.exit 2) (f36_S4 L0 L1 i0 S1 i1)),(22,Ans.b false),(27,Ans.v (AV.list k44 m44 1 c44)),(28,Ans.v (lro m45 5 c45)),(29,Ans.v v46),(32,Ans.c rE sE)]) (by kernel_rfl) (ai h0 (ai h1 (ai h2 (ai h3 (ai h4 (ai h5 (ai h6 trivial)))))))
def f36_o0 (L0:List Lexm)(i0:Nat):Nat :=
  (match decide ((↑i0:Int)<(↑L0.length:Int)) with
  | true=>0
  | false=>1)
theorem f36_B0 (L0 L1:List Lexm)(X:Ext)(call:Caller)(lf:Nat)(S0:Nat→List Ob)(i0:Nat)(a b c d:ByteArray)(e:Nat)(g r16:List AV)(sq10:List Ob)
 (g0:decide ((↑i0:Int)<(↑L0.length:Int))=true→keep (S0 i0) (indexAddrv Tryd.prog 22 (S0 i0) (lro L0.length 5 (List.flatMap lexC L0)) (i6 (↑i0:Int)))=some (AV.eaddr (st a::st b::st c::st d::lro e 2 g::r16),S0 i0))
 (g1:decide ((↑i0:Int)<(↑L0.length:Int))=true→unit1 (mapUpdatev Tryd.prog 58 (S0 i0) 0 (AV.map 0) (st a) (bo true))=some (AV.undef,sq10))
 (e0:decide ((↑i0:Int)<(↑L0.length:Int))=true→(↑(i0 + 1):Int)=w6 ((↑i0:Int) + 1))
 (e1:decide ((↑i0:Int)<(↑L0.length:Int))=true→S0 (i0 + 1)=sq10) :
    (f36_o0 L0 i0=0→∃ Sx,vexec Tryd.prog X call lf 0 fg36 (loopN Tryd.f36 0) (f36_F0 L0 L1 S0 i0)=some (Ex.normal,Sx)∧forget f36_D0 Sx=(f36_F0 L0 L1 S0 (i0 + 1)))∧(f36_o0 L0 i0=1→vexec Tryd.prog X call lf 0 fg36 (loopN Tryd.f36 0) (f36_F0 L0 L1 S0 i0)=some (Ex.exit 0,(f36_S1 L0 L1 S0 i0))):=by
  unfold f36_o0
  cases c0:decide ((↑i0:Int)<(↑L0.length:Int)) with
  | true =>
    exact ⟨fun _=>f36_s0_t L0 L1 X call lf S0 i0 a b c d e g r16 sq10 c0 (g0 c0) (g1 c0) (e0 c0) (e1 c0),fun h=>absurd (show (0:Nat)=1 from h) (by decide)⟩
  | false =>
    exact ⟨fun h=>absurd (show (1:Nat)=0 from h) (by decide),fun _=>f36_r0_f L0 L1 X call lf S0 i0 c0⟩
def f36_o1 (L1:List Lexm)(i1:Nat)(b0:Bool):Nat :=
  (match decide ((↑i1:Int)<(↑L1.length:Int)) with
  | true=>(match b0 with
    | true=>1
    | false=>0)
  | false=>2)
theorem f36_B1 (L0 L1:List Lexm)(X:Ext)(call:Caller)(lf i0:Nat)(S1:Nat→List Ob)(i1:Nat)(a b c d:ByteArray)(e:Nat)(g r26:List AV)(sq16:List Ob)(b0:Bool)
 (g0:decide ((↑i1:Int)<(↑L1.length:Int))=true→keep (S1 i1) (indexAddrv Tryd.prog 22 (S1 i1) (lro L1.length 5 (List.flatMap lexC L1)) (i6 (↑i1:Int)))=some (AV.eaddr (st a::st b::st c::st d::lro e 2 g::r26),S1 i1))
 (g1:decide ((↑i1:Int)<(↑L1.length:Int))=true→keep (S1 i1) (lookupv Tryd.prog 58 (S1 i1) (AV.map 0) (st a) false)=some (bo b0,S1 i1))
 (g2:decide ((↑i1:Int)<(↑L1.length:Int))=true→b0=false→unit1 (mapUpdatev Tryd.prog 58 (S1 i1) 0 (AV.map 0) (st a) (bo true))=some (AV.undef,sq16))
 (e0:decide ((↑i1:Int)<(↑L1.length:Int))=true→(↑(i1 + 1):Int)=w6 ((↑i1:Int) + 1))
 (e1:decide ((↑i1:Int)<(↑L1.length:Int))=true→S1 (i1 + 1)=sq16) :
    (f36_o1 L1 i1 b0=0→∃ Sx,vexec Tryd.prog X call lf 0 fg36 (loopN Tryd.f36 1) (f36_F1 L0 L1 i0 S1 i1)=some (Ex.normal,Sx)∧forget f36_D1 Sx=(f36_F1 L0 L1 i0 S1 (i1 + 1)))∧(f36_o1 L1 i1 b0=1→vexec Tryd.prog X call lf 0 fg36 (loopN Tryd.f36 1) (f36_F1 L0 L1 i0 S1 i1)=some (Ex.ret,(f36_S3 L0 L1 i0 S1 i1 a b c d e g r26)))∧(f36_o1 L1 i1 b0=2→vexec Tryd.prog X call lf 0 fg36 (loopN Tryd.f36 1) (f36_F1 L0 L1 i0 S1 i1)=some (Ex.exit 2,(f36_S4 L0 L1 i0 S1 i1))):=by
  unfold f36_o1
  cases c0:decide ((↑i1:Int)<(↑L1.length:Int)) with
  | true =>
    cases c1:b0 with
    | true =>
      exact ⟨fun h=>absurd (show (1:Nat)=0 from h) (by decide),fun _=>f36_r1_tt L0 L1 X call lf i0 S1 i1 a b c d e g r26 c0 (g0 c0) (by have:=(g1 c0); rw [c1] at this; exact this),fun h=>absurd (show (1:Nat)=2 from h) (by decide)⟩
    | false =>
      exact ⟨fun _=>f36_s1_tf L0 L1 X call lf i0 S1 i1 a b c d e g r26 sq16 c0 (g0 c0) (by have:=(g1 c0); rw [c1] at this; exact this) (g2 c0 c1) (e0 c0) (e1 c0),fun h=>absurd (show (0:Nat)=1 from h) (by decide),fun h=>absurd (show (0:Nat)=2 from h) (by decide)⟩
  | false =>
    exact ⟨fun h=>absurd (show (2:Nat)=0 from h) (by decide),fun h=>absurd (show (2:Nat)=1 from h) (by decide),fun _=>f36_r1_f L0 L1 X call lf i0 S1 i1 c0⟩
def f36_q1 (L0 L1:List Lexm):Nat :=
  (match decide (w6 ((↑L0.length:Int) + (↑L1.length:Int))>256) with
  | true=>0
  | false=>1)
theorem f36_P1 (L0 L1:List Lexm)(X:Ext)(call:Caller)(lf:Nat)(S0:Nat→List Ob)(i0:Nat)(S1:Nat→List Ob)(i1:Nat)(v46:AV)(m44:Nat)(c44:List AV)(k44:LK)(m45:Nat)(c45:List AV)(rE:AV)(sE:List Ob)
 (g0:vexec Tryd.prog X call lf 0 fg36 (Code.loop (loopN Tryd.f36 0)) (f36_S0 L0 L1)=some (Ex.exit 0,(f36_S1 L0 L1 S0 i0)))
 (g1:vexec Tryd.prog X call lf 0 fg36 (Code.loop (loopN Tryd.f36 1)) (f36_S2 L0 L1 S0 i0)=some (Ex.exit 2,(f36_S4 L0 L1 i0 S1 i1)))
 (g2:decide (w6 ((↑L0.length:Int) + (↑L1.length:Int))>256)=false→bsl Tryd.prog 104 2 (S1 i1) false 0 [(0,lro L0.length 5 (List.flatMap lexC L0)),(1,lro L1.length 5 (List.flatMap lexC L1))]=some (AV.list k44 m44 1 c44,S1 i1))
 (g3:decide (w6 ((↑L0.length:Int) + (↑L1.length:Int))>256)=false→callv X call false 68 [AV.list k44 m44 1 c44] (S1 i1) 0=some (lro m45 5 c45,S1 i1))
 (g4:decide (w6 ((↑L0.length:Int) + (↑L1.length:Int))>256)=false→callv X call false 40 [lro m45 5 c45,AV.clo 69 []] (S1 i1) 0=some (v46,S1 i1))
 (g5:decide (w6 ((↑L0.length:Int) + (↑L1.length:Int))>256)=false→vend1 [] 0 (S1 i1) [v46,i6 0]=some (rE,sE)) :
    (f36_q1 L0 L1=0→vbody Tryd.prog X call lf fg36 Tryd.f36 (codeOf Tryd.f36) [lexsV L0,lexsV L1] [] 0=some (AV.tup [AV.list LK.nil 0 0 [],i6 2],S1 i1))∧(f36_q1 L0 L1=1→vbody Tryd.prog X call lf fg36 Tryd.f36 (codeOf Tryd.f36) [lexsV L0,lexsV L1] [] 0=some (rE,sE)):=by
  unfold f36_q1
  cases c0:decide (w6 ((↑L0.length:Int) + (↑L1.length:Int))>256) with
  | true =>
    exact ⟨fun _=>f36_plflft L0 L1 X call lf S0 i0 S1 i1 g0 g1 c0,fun h=>absurd (show (0:Nat)=1 from h) (by decide)⟩
  | false =>
    exact ⟨fun h=>absurd (show (1:Nat)=0 from h) (by decide),fun _=>f36_plflff L0 L1 v46 X call lf S0 i0 S1 i1 m44 c44 k44 m45 c45 rE sE g0 g1 c0 (g2 c0) (g3 c0) (g4 c0) (g5 c0)⟩
def fg37:Nat→List Nat
  | 5003=>[1]
  | _=>[]
def f37_F0 (L0 L1:List Lexm)(i0:Nat):St :=
  stOf 40 [4,5,6,7,11,12,13,14,15,16,17,18,19,20,21,22,23,24,25,26,27,28] [(0,lro L0.length 5 (List.flatMap lexC L0)),(1,lro L1.length 5 (List.flatMap lexC L1)),(8,lro L1.length 5 (List.flatMap lexC L1)),(9,i6 (↑L1.length:Int)),(10,i6 (↑i0:Int))] []
def f37_S0 (L0 L1:List Lexm):St :=
  stOf 40 [] [(0,lro L0.length 5 (List.flatMap lexC L0)),(1,lro L1.length 5 (List.flatMap lexC L1)),(4,AV.list LK.nil 0 0 []),(5,i6 0),(8,lro L1.length 5 (List.flatMap lexC L1)),(9,i6 (↑L1.length:Int)),(10,i6 0)] []
abbrev f37_D0:List Nat:=[28,5,4,27,26,25,24,23,22,21,20,19,18,17,16,15,6,7,14,13,12,11]
theorem f37_L0 (L0 L1:List Lexm)(X:Ext)(call:Caller)(lf n:Nat)(x:Ex) (S' : St)
 (hn:n<lf)
 (hs:∀ j,j<n→∃ Sx,vexec Tryd.prog X call lf 0 fg37 (loopN Tryd.f37 0) (f37_F0 L0 L1 j)=some (Ex.normal,Sx)∧forget f37_D0 Sx=(f37_F0 L0 L1 (j + 1)))
 (he:vexec Tryd.prog X call lf 0 fg37 (loopN Tryd.f37 0) (f37_F0 L0 L1 n)=some (x,S'))
 (hx:x ≠ Ex.normal):vexec Tryd.prog X call lf 0 fg37 (Go.Code.loop (loopN Tryd.f37 0)) (f37_S0 L0 L1)=some (x,S') :=
  loop_runK (by kernel_rfl) (fun j=>(f37_F0 L0 L1 j)) n hn (by show forget f37_D0 (f37_S0 L0 L1)=(f37_F0 L0 L1 0); unfold f37_F0; show _=_; kernel_rfl) hs he hx
def f37_S1 (L0 L1:List Lexm)(i0:Nat)(a b c d:ByteArray)(e:Nat)(g r13:List AV)(n18:Int):St :=
  stOf 40 [28] [(0,lro L0.length 5 (List.flatMap lexC L0)),(1,lro L1.length 5 (List.flatMap lexC L1)),(4,AV.list LK.nil 0 0 []),(5,i6 5),(6,i6 (↑i0:Int)),(7,AV.eaddr [st a,st b,st c,st d,lro e 2 g]),(8,lro L1.length 5 (List.flatMap lexC L1)),(9,i6 (↑L1.length:Int)),(10,i6 (↑i0:Int)),(11,bo true),(12,i6 (↑i0:Int)),(13,AV.eaddr (st a::st b::st c::st d::lro e 2 g::r13)),(14,AV.agg [st a,st b,st c,st d,lro e 2 g]),(15,lro L0.length 5 (List.flatMap lexC L0)),(16,AV.eaddr [st a,st b,st c,st d,lro e 2 g]),(17,st a),(18,i6 n18),(19,bo true),(20,bo true),(27,bo true)] []
theorem f37_r0_tt (L0 L1:List Lexm)(X:Ext)(call:Caller)(lf i0:Nat)(a c d e:ByteArray)(g:Nat)(h r13:List AV)(n18:Int)
 (h0:decide ((↑i0:Int)<(↑L1.length:Int))=true)
 (h1:keep [] (indexAddrv Tryd.prog 22 [] (lro L1.length 5 (List.flatMap lexC L1)) (i6 (↑i0:Int)))=some (AV.eaddr (st a::st c::st d::st e::lro g 2 h::r13),[]))
 (h2:callv X call false 29 [lro L0.length 5 (List.flatMap lexC L0),st a] [] 0=some (i6 n18,[]))
 (h3:decide (n18 ≥ 0)=true):vexec Tryd.prog X call lf 0 fg37 (loopN Tryd.f37 0) (f37_F0 L0 L1 i0)=some (Ex.ret,(f37_S1 L0 L1 i0 a c d e g h r13 n18)) :=
  around_sound (ans:=[(1,Ans.b true),(5,Ans.v (AV.eaddr (st a::st c::st d::st e::lro g 2 h::r13))),(11,Ans.v (i6 n18)),(12,Ans.b true)]) (by kernel_rfl) (ai h0 (ai h1 (ai h2 (ai h3 trivial))))
theorem f37_pltt (L0 L1:List Lexm)(X:Ext)(call:Caller)(lf i0:Nat)(a b c d:ByteArray)(e:Nat)(g r13:List AV)(n18:Int)
 (h0:vexec Tryd.prog X call lf 0 fg37 (Code.loop (loopN Tryd.f37 0)) (f37_S0 L0 L1)=some (Ex.ret,(f37_S1 L0 L1 i0 a b c d e g r13 n18))):vbody Tryd.prog X call lf fg37 Tryd.f37 (codeOf Tryd.f37) [lexsV L0,lexsV L1] [] 0=some (AV.tup [AV.list LK.nil 0 0 [],i6 5],[]) :=
  along_sound (ans:=[(7,Ans.l Ex.ret (f37_S1 L0 L1 i0 a b c d e g r13 n18))]) (by kernel_rfl) (ai h0 trivial)
def f37_S2 (L0 L1:List Lexm)(i0:Nat)(a b c d:ByteArray)(e:Nat)(g r13:List AV)(n18 n24:Int):St :=
  stOf 40 [28] [(0,lro L0.length 5 (List.flatMap lexC L0)),(1,lro L1.length 5 (List.flatMap lexC L1)),(4,AV.list LK.nil 0 0 []),(5,i6 5),(6,i6 (↑i0:Int)),(7,AV.eaddr [st a,st b,st c,st d,lro e 2 g]),(8,lro L1.length 5 (List.flatMap lexC L1)),(9,i6 (↑L1.length:Int)),(10,i6 (↑i0:Int)),(11,bo true),(12,i6 (↑i0:Int)),(13,AV.eaddr (st a::st b::st c::st d::lro e 2 g::r13)),(14,AV.agg [st a,st b,st c,st d,lro e 2 g]),(15,lro L0.length 5 (List.flatMap lexC L0)),(16,AV.eaddr [st a,st b,st c,st d,lro e 2 g]),(17,st a),(18,i6 n18),(19,bo false),(20,bo false),(21,lro L1.length 5 (List.flatMap lexC L1)),(22,AV.eaddr [st a,st b,st c,st d,lro e 2 g]),(23,st a),(24,i6 n24),(25,i6 (↑i0:Int)),(26,bo true),(27,bo true)] []
theorem f37_r0_tft (L0 L1:List Lexm)(X:Ext)(call:Caller)(lf i0:Nat)(a c d e:ByteArray)(g:Nat)(h r13:List AV)(n18 n24:Int)
 (h0:decide ((↑i0:Int)<(↑L1.length:Int))=true)
 (h1:keep [] (indexAddrv Tryd.prog 22 [] (lro L1.length 5 (List.flatMap lexC L1)) (i6 (↑i0:Int)))=some (AV.eaddr (st a::st c::st d::st e::lro g 2 h::r13),[]))
 (h2:callv X call false 29 [lro L0.length 5 (List.flatMap lexC L0),st a] [] 0=some (i6 n18,[]))
 (h3:decide (n18 ≥ 0)=false)
 (h4:callv X call false 29 [lro L1.length 5 (List.flatMap lexC L1),st a] [] 0=some (i6 n24,[]))
 (h5:decide (n24<(↑i0:Int))=true):vexec Tryd.prog X call lf 0 fg37 (loopN Tryd.f37 0) (f37_F0 L0 L1 i0)=some (Ex.ret,(f37_S2 L0 L1 i0 a c d e g h r13 n18 n24)) :=
  around_sound (ans:=[(1,Ans.b true),(5,Ans.v (AV.eaddr (st a::st c::st d::st e::lro g 2 h::r13))),(11,Ans.v (i6 n18)),(12,Ans.b false),(21,Ans.v (i6 n24)),(25,Ans.b true)]) (by kernel_rfl) (ai h0 (ai h1 (ai h2 (ai h3 (ai h4 (ai h5 trivial))))))
theorem f37_pltft (L0 L1:List Lexm)(X:Ext)(call:Caller)(lf i0:Nat)(a b c d:ByteArray)(e:Nat)(g r13:List AV)(n18 n24:Int)
 (h0:vexec Tryd.prog X call lf 0 fg37 (Code.loop (loopN Tryd.f37 0)) (f37_S0 L0 L1)=some (Ex.ret,(f37_S2 L0 L1 i0 a b c d e g r13 n18 n24))):vbody Tryd.prog X call lf fg37 Tryd.f37 (codeOf Tryd.f37) [lexsV L0,lexsV L1] [] 0=some (AV.tup [AV.list LK.nil 0 0 [],i6 5],[]) :=
  along_sound (ans:=[(7,Ans.l Ex.ret (f37_S2 L0 L1 i0 a b c d e g r13 n18 n24))]) (by kernel_rfl) (ai h0 trivial)
theorem f37_s0_tff (L0 L1:List Lexm)(X:Ext)(call:Caller)(lf i0:Nat)(a c d e:ByteArray)(g:Nat)(h r13:List AV)(n18 n24:Int)
 (h0:decide ((↑i0:Int)<(↑L1.length:Int))=true)
 (h1:keep [] (indexAddrv Tryd.prog 22 [] (lro L1.length 5 (List.flatMap lexC L1)) (i6 (↑i0:Int)))=some (AV.eaddr (st a::st c::st d::st e::lro g 2 h::r13),[]))
 (h2:callv X call false 29 [lro L0.length 5 (List.flatMap lexC L0),st a] [] 0=some (i6 n18,[]))
 (h3:decide (n18 ≥ 0)=false)
 (h4:callv X call false 29 [lro L1.length 5 (List.flatMap lexC L1),st a] [] 0=some (i6 n24,[]))
 (h5:decide (n24<(↑i0:Int))=false)
 (e0:(↑(i0 + 1):Int)=w6 ((↑i0:Int) + 1)):∃ Sx,vexec Tryd.prog X call lf 0 fg37 (loopN Tryd.f37 0) (f37_F0 L0 L1 i0)=some (Ex.normal,Sx)∧forget f37_D0 Sx=(f37_F0 L0 L1 (i0 + 1)) :=
  ⟨stOf 40 [4,5] [(0,lro L0.length 5 (List.flatMap lexC L0)),(1,lro L1.length 5 (List.flatMap lexC L1)),(6,i6 (↑i0:Int)),(7,AV.eaddr [st a,st c,st d,st e,lro g 2 h]),(8,lro L1.length 5 (List.flatMap lexC L1)),(9,i6 (↑L1.length:Int)),(10,i6 (w6 ((↑i0:Int) + 1))),(11,bo true),(12,i6 (↑i0:Int)),(13,AV.eaddr (st a::st c::st d::st e::lro g 2 h::r13)),(14,AV.agg [st a,st c,st d,st e,lro g 2 h]),(15,lro L0.length 5 (List.flatMap lexC L0)),(16,AV.eaddr [st a,st c,st d,st e,lro g 2 h]),(17,st a),(18,i6 n18),(19,bo false),(20,bo false),(21,lro L1.length 5 (List.flatMap lexC L1)),(22,AV.eaddr [st a,st c,st d,st e,lro g 2 h]),(23,st a),(24,i6 n24),(25,i6 (↑i0:Int)),(26,bo false),(27,bo false),(28,i6 (w6 ((↑i0:Int) + 1)))] [],around_sound (ans:=[(1,Ans.b true),(5,Ans.v (AV.eaddr (st a::st c::st d::st e::lro g 2 h::r13))),(11,Ans.v (i6 n18)),(12,Ans.b false),(21,Ans.v (i6 n24)),(25,Ans.b false)]) (by kernel_rfl) (ai h0 (ai h1 (ai h2 (ai h3 (ai h4 (ai h5 trivial)))))),by unfold f37_F0; rw [e0]; show _=_; kernel_rfl⟩
def f37_S3 (L0 L1:List Lexm)(i0:Nat):St :=
  stOf 40 [4,5,6,7,12,13,14,15,16,17,18,19,20,21,22,23,24,25,26,27,28] [(0,lro L0.length 5 (List.flatMap lexC L0)),(1,lro L1.length 5 (List.flatMap lexC L1)),(8,lro L1.length 5 (List.flatMap lexC L1)),(9,i6 (↑L1.length:Int)),(10,i6 (↑i0:Int)),(11,bo false)] []
theorem f37_r0_f (L0 L1:List Lexm)(X:Ext)(call:Caller)(lf i0:Nat)
 (h0:decide ((↑i0:Int)<(↑L1.length:Int))=false):vexec Tryd.prog X call lf 0 fg37 (loopN Tryd.f37 0) (f37_F0 L0 L1 i0)=some (Ex.exit 0,(f37_S3 L0 L1 i0)) :=
  around_sound (ans:=[(1,Ans.b false)]) (by kernel_rfl) (ai h0 trivial)
theorem f37_plft (L0 L1:List Lexm)(X:Ext)(call:Caller)(lf i0:Nat)
 (h0:vexec Tryd.prog X call lf 0 fg37 (Code.loop (loopN Tryd.f37 0)) (f37_S0 L0 L1)=some (Ex.exit 0,(f37_S3 L0 L1 i0)))
 (h1:decide (w6 ((↑L0.length:Int) + (↑L1.length:Int))>256)=true):vbody Tryd.prog X call lf fg37 Tryd.f37 (codeOf Tryd.f37) [lexsV L0,lexsV L1] [] 0=some (AV.tup [AV.list LK.nil 0 0 [],i6 2],[]) :=
  along_sound (ans:=[(7,Ans.l (Ex.exit 0) (f37_S3 L0 L1 i0)),(14,Ans.b true)]) (by kernel_rfl) (ai h0 (ai h1 trivial))
theorem f37_plff (L0 L1:List Lexm)(X:Ext)(call:Caller)(lf i0:Nat)(v37:AV)(s37:List Ob)(v39:AV)(s39:List Ob)(rE:AV)(sE:List Ob)
 (h0:vexec Tryd.prog X call lf 0 fg37 (Code.loop (loopN Tryd.f37 0)) (f37_S0 L0 L1)=some (Ex.exit 0,(f37_S3 L0 L1 i0)))
 (h1:decide (w6 ((↑L0.length:Int) + (↑L1.length:Int))>256)=false)
 (h2:appendv Tryd.prog 22 [] 0 (AV.list LK.clip 0 5 []) (lro L0.length 5 (List.flatMap lexC L0))=some (v37,s37))
 (h3:appendv Tryd.prog 22 s37 0 v37 (lro L1.length 5 (List.flatMap lexC L1))=some (v39,s39))
 (h4:vend1 [] 0 s39 [v39,i6 0]=some (rE,sE)):vbody Tryd.prog X call lf fg37 Tryd.f37 (codeOf Tryd.f37) [lexsV L0,lexsV L1] [] 0=some (rE,sE) :=
  along_sound (ans:=[(7,Ans.l (Ex.exit 0) (f37_S3 L0 L1 i0)),(14,Ans.b false),(19,Ans.c v37 s37),(21,Ans.c v39 s39),(24,Ans.c rE sE)]) (by kernel_rfl) (ai h0 (ai h1 (ai h2 (ai h3 (ai h4 trivial)))))
def f37_o0 (L1:List Lexm)(i0:Nat)(n18 n24:Int):Nat :=
  (match decide ((↑i0:Int)<(↑L1.length:Int)) with
  | true=>(match decide (n18 ≥ 0) with
    | true=>1
    | false=>(match decide (n24<(↑i0:Int)) with
      | true=>2
      | false=>0))
  | false=>3)
theorem f37_B0 (L0 L1:List Lexm)(X:Ext)(call:Caller)(lf i0:Nat)(a b c d:ByteArray)(e:Nat)(g r13:List AV)(n18 n24:Int)
 (g0:decide ((↑i0:Int)<(↑L1.length:Int))=true→keep [] (indexAddrv Tryd.prog 22 [] (lro L1.length 5 (List.flatMap lexC L1)) (i6 (↑i0:Int)))=some (AV.eaddr (st a::st b::st c::st d::lro e 2 g::r13),[]))
 (g1:decide ((↑i0:Int)<(↑L1.length:Int))=true→callv X call false 29 [lro L0.length 5 (List.flatMap lexC L0),st a] [] 0=some (i6 n18,[]))
 (g2:decide ((↑i0:Int)<(↑L1.length:Int))=true→decide (n18 ≥ 0)=false→callv X call false 29 [lro L1.length 5 (List.flatMap lexC L1),st a] [] 0=some (i6 n24,[]))
 (e0:decide ((↑i0:Int)<(↑L1.length:Int))=true→(↑(i0 + 1):Int)=w6 ((↑i0:Int) + 1)) :
    (f37_o0 L1 i0 n18 n24=0→∃ Sx,vexec Tryd.prog X call lf 0 fg37 (loopN Tryd.f37 0) (f37_F0 L0 L1 i0)=some (Ex.normal,Sx)∧forget f37_D0 Sx=(f37_F0 L0 L1 (i0 + 1)))∧(f37_o0 L1 i0 n18 n24=1→vexec Tryd.prog X call lf 0 fg37 (loopN Tryd.f37 0) (f37_F0 L0 L1 i0)=some (Ex.ret,(f37_S1 L0 L1 i0 a b c d e g r13 n18)))∧(f37_o0 L1 i0 n18 n24=2→vexec Tryd.prog X call lf 0 fg37 (loopN Tryd.f37 0) (f37_F0 L0 L1 i0)=some (Ex.ret,(f37_S2 L0 L1 i0 a b c d e g r13 n18 n24)))∧(f37_o0 L1 i0 n18 n24=3→vexec Tryd.prog X call lf 0 fg37 (loopN Tryd.f37 0) (f37_F0 L0 L1 i0)=some (Ex.exit 0,(f37_S3 L0 L1 i0))):=by
  unfold f37_o0
  cases c0:decide ((↑i0:Int)<(↑L1.length:Int)) with
  | true =>
    cases c1:decide (n18 ≥ 0) with
    | true =>
      exact ⟨fun h=>absurd (show (1:Nat)=0 from h) (by decide),fun _=>f37_r0_tt L0 L1 X call lf i0 a b c d e g r13 n18 c0 (g0 c0) (g1 c0) c1,fun h=>absurd (show (1:Nat)=2 from h) (by decide),fun h=>absurd (show (1:Nat)=3 from h) (by decide)⟩
    | false =>
      cases c2:decide (n24<(↑i0:Int)) with
      | true =>
        exact ⟨fun h=>absurd (show (2:Nat)=0 from h) (by decide),fun h=>absurd (show (2:Nat)=1 from h) (by decide),fun _=>f37_r0_tft L0 L1 X call lf i0 a b c d e g r13 n18 n24 c0 (g0 c0) (g1 c0) c1 (g2 c0 c1) c2,fun h=>absurd (show (2:Nat)=3 from h) (by decide)⟩
      | false =>
        exact ⟨fun _=>f37_s0_tff L0 L1 X call lf i0 a b c d e g r13 n18 n24 c0 (g0 c0) (g1 c0) c1 (g2 c0 c1) c2 (e0 c0),fun h=>absurd (show (0:Nat)=1 from h) (by decide),fun h=>absurd (show (0:Nat)=2 from h) (by decide),fun h=>absurd (show (0:Nat)=3 from h) (by decide)⟩
  | false =>
    exact ⟨fun h=>absurd (show (3:Nat)=0 from h) (by decide),fun h=>absurd (show (3:Nat)=1 from h) (by decide),fun h=>absurd (show (3:Nat)=2 from h) (by decide),fun _=>f37_r0_f L0 L1 X call lf i0 c0⟩
theorem f37_X0 (L0 L1:List Lexm)(X:Ext)(call:Caller)(lf i0:Nat)(a b c d:ByteArray)(e:Nat)(g r13:List AV)(n18 n24:Int)
 (g0:decide ((↑i0:Int)<(↑L1.length:Int))=true→keep [] (indexAddrv Tryd.prog 22 [] (lro L1.length 5 (List.flatMap lexC L1)) (i6 (↑i0:Int)))=some (AV.eaddr (st a::st b::st c::st d::lro e 2 g::r13),[]))
 (g1:decide ((↑i0:Int)<(↑L1.length:Int))=true→callv X call false 29 [lro L0.length 5 (List.flatMap lexC L0),st a] [] 0=some (i6 n18,[]))
 (g2:decide ((↑i0:Int)<(↑L1.length:Int))=true→decide (n18 ≥ 0)=false→callv X call false 29 [lro L1.length 5 (List.flatMap lexC L1),st a] [] 0=some (i6 n24,[])) :
    (f37_o0 L1 i0 n18 n24=1→vexec Tryd.prog X call lf 0 fg37 (loopN Tryd.f37 0) (f37_F0 L0 L1 i0)=some (Ex.ret,(f37_S1 L0 L1 i0 a b c d e g r13 n18)))∧(f37_o0 L1 i0 n18 n24=2→vexec Tryd.prog X call lf 0 fg37 (loopN Tryd.f37 0) (f37_F0 L0 L1 i0)=some (Ex.ret,(f37_S2 L0 L1 i0 a b c d e g r13 n18 n24)))∧(f37_o0 L1 i0 n18 n24=3→vexec Tryd.prog X call lf 0 fg37 (loopN Tryd.f37 0) (f37_F0 L0 L1 i0)=some (Ex.exit 0,(f37_S3 L0 L1 i0))):=by
  unfold f37_o0
  cases c0:decide ((↑i0:Int)<(↑L1.length:Int)) with
  | true =>
    cases c1:decide (n18 ≥ 0) with
    | true =>
      exact ⟨fun _=>f37_r0_tt L0 L1 X call lf i0 a b c d e g r13 n18 c0 (g0 c0) (g1 c0) c1,fun h=>absurd (show (1:Nat)=2 from h) (by decide),fun h=>absurd (show (1:Nat)=3 from h) (by decide)⟩
    | false =>
      cases c2:decide (n24<(↑i0:Int)) with
      | true =>
        exact ⟨fun h=>absurd (show (2:Nat)=1 from h) (by decide),fun _=>f37_r0_tft L0 L1 X call lf i0 a b c d e g r13 n18 n24 c0 (g0 c0) (g1 c0) c1 (g2 c0 c1) c2,fun h=>absurd (show (2:Nat)=3 from h) (by decide)⟩
      | false =>
        exact ⟨fun h=>absurd (show (0:Nat)=1 from h) (by decide),fun h=>absurd (show (0:Nat)=2 from h) (by decide),fun h=>absurd (show (0:Nat)=3 from h) (by decide)⟩
  | false =>
    exact ⟨fun h=>absurd (show (3:Nat)=1 from h) (by decide),fun h=>absurd (show (3:Nat)=2 from h) (by decide),fun _=>f37_r0_f L0 L1 X call lf i0 c0⟩
theorem f37_M (L0 L1:List Lexm)(X:Ext)(call:Caller)(lf n:Nat)(a b c d:Nat→ByteArray)(e:Nat→Nat)(g r13:Nat→List AV)(n18 n24:Nat→Int)
 (hn:n<lf)
 (g0:∀ i0,i0 ≤ n→decide ((↑i0:Int)<(↑L1.length:Int))=true→keep [] (indexAddrv Tryd.prog 22 [] (lro L1.length 5 (List.flatMap lexC L1)) (i6 (↑i0:Int)))=some (AV.eaddr (st (a i0)::st (b i0)::st (c i0)::st (d i0)::lro (e i0) 2 (g i0)::(r13 i0)),[]))
 (g1:∀ i0,i0 ≤ n→decide ((↑i0:Int)<(↑L1.length:Int))=true→callv X call false 29 [lro L0.length 5 (List.flatMap lexC L0),st (a i0)] [] 0=some (i6 (n18 i0),[]))
 (g2:∀ i0,i0 ≤ n→decide ((↑i0:Int)<(↑L1.length:Int))=true→decide ((n18 i0) ≥ 0)=false→callv X call false 29 [lro L1.length 5 (List.flatMap lexC L1),st (a i0)] [] 0=some (i6 (n24 i0),[]))
 (e0:∀ i0,i0<n→decide ((↑i0:Int)<(↑L1.length:Int))=true→(↑(i0 + 1):Int)=w6 ((↑i0:Int) + 1))
 (hz:∀ j,j<n→f37_o0 L1 j (n18 j) (n24 j)=0) :
    (f37_o0 L1 n (n18 n) (n24 n)=1→vbody Tryd.prog X call lf fg37 Tryd.f37 (codeOf Tryd.f37) [lexsV L0,lexsV L1] [] 0=some (AV.tup [AV.list LK.nil 0 0 [],i6 5],[]))∧(f37_o0 L1 n (n18 n) (n24 n)=2→vbody Tryd.prog X call lf fg37 Tryd.f37 (codeOf Tryd.f37) [lexsV L0,lexsV L1] [] 0=some (AV.tup [AV.list LK.nil 0 0 [],i6 5],[]))∧(f37_o0 L1 n (n18 n) (n24 n)=3→decide (w6 ((↑L0.length:Int) + (↑L1.length:Int))>256)=true→vbody Tryd.prog X call lf fg37 Tryd.f37 (codeOf Tryd.f37) [lexsV L0,lexsV L1] [] 0=some (AV.tup [AV.list LK.nil 0 0 [],i6 2],[]))∧(f37_o0 L1 n (n18 n) (n24 n)=3→∀ (v37:AV),∀ (s37:List Ob),∀ (v39:AV),∀ (s39:List Ob),∀ (rE:AV),∀ (sE:List Ob),decide (w6 ((↑L0.length:Int) + (↑L1.length:Int))>256)=false→appendv Tryd.prog 22 [] 0 (AV.list LK.clip 0 5 []) (lro L0.length 5 (List.flatMap lexC L0))=some (v37,s37)→appendv Tryd.prog 22 s37 0 v37 (lro L1.length 5 (List.flatMap lexC L1))=some (v39,s39)→vend1 [] 0 s39 [v39,i6 0]=some (rE,sE)→vbody Tryd.prog X call lf fg37 Tryd.f37 (codeOf Tryd.f37) [lexsV L0,lexsV L1] [] 0=some (rE,sE)):=by
  have key:∀ j,j<n→_:=fun j hj=>(f37_B0 L0 L1 X call lf j (a j) (b j) (c j) (d j) (e j) (g j) (r13 j) (n18 j) (n24 j) (g0 j (Nat.le_of_lt hj)) (g1 j (Nat.le_of_lt hj)) (g2 j (Nat.le_of_lt hj)) (e0 j hj)).1 (hz j hj)
  have kn:=f37_X0 L0 L1 X call lf n (a n) (b n) (c n) (d n) (e n) (g n) (r13 n) (n18 n) (n24 n) (g0 n (Nat.le_refl n)) (g1 n (Nat.le_refl n)) (g2 n (Nat.le_refl n))
  exact ⟨fun hk=>f37_pltt L0 L1 X call lf n (a n) (b n) (c n) (d n) (e n) (g n) (r13 n) (n18 n) (f37_L0 L0 L1 X call lf n _ _ hn key (kn.1 hk) (by simp)),
    fun hk=>f37_pltft L0 L1 X call lf n (a n) (b n) (c n) (d n) (e n) (g n) (r13 n) (n18 n) (n24 n) (f37_L0 L0 L1 X call lf n _ _ hn key (kn.2.1 hk) (by simp)),
    fun hk q0=>f37_plft L0 L1 X call lf n (f37_L0 L0 L1 X call lf n _ _ hn key (kn.2.2 hk) (by simp)) q0,
    fun hk v37 s37 v39 s39 rE sE q0 q1 q2 q3=>f37_plff L0 L1 X call lf n v37 s37 v39 s39 rE sE (f37_L0 L0 L1 X call lf n _ _ hn key (kn.2.2 hk) (by simp)) q0 q1 q2 q3⟩
theorem f11_pttttt (L0 L1:List Lexm)(X:Ext)(call:Caller)(lf a:Nat)(c:List AV)(d:Int)(e:Nat)(g:List AV)(h:Int)
 (h0:callv X call false 14 [] [] 0=some (bo true,[]))
 (h1:callv X call false 15 [lro L0.length 5 (List.flatMap lexC L0)] [] 0=some (bo true,[]))
 (h2:callv X call false 15 [lro L1.length 5 (List.flatMap lexC L1)] [] 0=some (bo true,[]))
 (h3:callv X call false 36 [lro L0.length 5 (List.flatMap lexC L0),lro L1.length 5 (List.flatMap lexC L1)] [] 0=some (AV.tup [lro a 5 c,i6 d],[]))
 (h4:callv X call false 37 [lro L0.length 5 (List.flatMap lexC L0),lro L1.length 5 (List.flatMap lexC L1)] [] 0=some (AV.tup [lro e 5 g,i6 h],[]))
 (h5:(d == h)=true)
 (h6:callv X call false 30 [lro a 5 c,lro e 5 g] [] 0=some (bo true,[])):vbody Tryd.prog X call lf noFg Tryd.f11 (codeOf Tryd.f11) [lexsV L0,lexsV L1] [] 0=some (bo true,[]) :=
  along_sound (ans:=[(3,Ans.v (bo true)),(9,Ans.v (bo true)),(17,Ans.v (bo true)),(25,Ans.v (AV.tup [lro a 5 c,i6 d])),(34,Ans.v (AV.tup [lro e 5 g,i6 h])),(43,Ans.b true),(50,Ans.v (bo true))]) (by kernel_rfl) (ai h0 (ai h1 (ai h2 (ai h3 (ai h4 (ai h5 (ai h6 trivial)))))))
theorem f11_pttttf (L0 L1:List Lexm)(X:Ext)(call:Caller)(lf a:Nat)(c:List AV)(d:Int)(e:Nat)(g:List AV)(h:Int)
 (h0:callv X call false 14 [] [] 0=some (bo true,[]))
 (h1:callv X call false 15 [lro L0.length 5 (List.flatMap lexC L0)] [] 0=some (bo true,[]))
 (h2:callv X call false 15 [lro L1.length 5 (List.flatMap lexC L1)] [] 0=some (bo true,[]))
 (h3:callv X call false 36 [lro L0.length 5 (List.flatMap lexC L0),lro L1.length 5 (List.flatMap lexC L1)] [] 0=some (AV.tup [lro a 5 c,i6 d],[]))
 (h4:callv X call false 37 [lro L0.length 5 (List.flatMap lexC L0),lro L1.length 5 (List.flatMap lexC L1)] [] 0=some (AV.tup [lro e 5 g,i6 h],[]))
 (h5:(d == h)=true)
 (h6:callv X call false 30 [lro a 5 c,lro e 5 g] [] 0=some (bo false,[])):vbody Tryd.prog X call lf noFg Tryd.f11 (codeOf Tryd.f11) [lexsV L0,lexsV L1] [] 0=some (bo false,[]) :=
  along_sound (ans:=[(3,Ans.v (bo true)),(9,Ans.v (bo true)),(17,Ans.v (bo true)),(25,Ans.v (AV.tup [lro a 5 c,i6 d])),(34,Ans.v (AV.tup [lro e 5 g,i6 h])),(43,Ans.b true),(50,Ans.v (bo false))]) (by kernel_rfl) (ai h0 (ai h1 (ai h2 (ai h3 (ai h4 (ai h5 (ai h6 trivial)))))))
theorem f11_ptttf (L0 L1:List Lexm)(X:Ext)(call:Caller)(lf a:Nat)(c:List AV)(d:Int)(e:Nat)(g:List AV)(h:Int)
 (h0:callv X call false 14 [] [] 0=some (bo true,[]))
 (h1:callv X call false 15 [lro L0.length 5 (List.flatMap lexC L0)] [] 0=some (bo true,[]))
 (h2:callv X call false 15 [lro L1.length 5 (List.flatMap lexC L1)] [] 0=some (bo true,[]))
 (h3:callv X call false 36 [lro L0.length 5 (List.flatMap lexC L0),lro L1.length 5 (List.flatMap lexC L1)] [] 0=some (AV.tup [lro a 5 c,i6 d],[]))
 (h4:callv X call false 37 [lro L0.length 5 (List.flatMap lexC L0),lro L1.length 5 (List.flatMap lexC L1)] [] 0=some (AV.tup [lro e 5 g,i6 h],[]))
 (h5:(d == h)=false):vbody Tryd.prog X call lf noFg Tryd.f11 (codeOf Tryd.f11) [lexsV L0,lexsV L1] [] 0=some (bo false,[]) :=
  along_sound (ans:=[(3,Ans.v (bo true)),(9,Ans.v (bo true)),(17,Ans.v (bo true)),(25,Ans.v (AV.tup [lro a 5 c,i6 d])),(34,Ans.v (AV.tup [lro e 5 g,i6 h])),(43,Ans.b false)]) (by kernel_rfl) (ai h0 (ai h1 (ai h2 (ai h3 (ai h4 (ai h5 trivial))))))
theorem f11_pttft (L0 L1:List Lexm)(X:Ext)(call:Caller)(lf:Nat)
 (h0:callv X call false 14 [] [] 0=some (bo true,[]))
 (h1:callv X call false 15 [lro L0.length 5 (List.flatMap lexC L0)] [] 0=some (bo true,[]))
 (h2:callv X call false 15 [lro L1.length 5 (List.flatMap lexC L1)] [] 0=some (bo false,[]))
 (h3:callv X call false 14 [] [] 0=some (bo true,[])):vbody Tryd.prog X call lf noFg Tryd.f11 (codeOf Tryd.f11) [lexsV L0,lexsV L1] [] 0=some (bo true,[]) :=
  along_sound (ans:=[(3,Ans.v (bo true)),(9,Ans.v (bo true)),(17,Ans.v (bo false)),(23,Ans.v (bo true))]) (by kernel_rfl) (ai h0 (ai h1 (ai h2 (ai h3 trivial))))
theorem f11_pttff (L0 L1:List Lexm)(X:Ext)(call:Caller)(lf:Nat)
 (h0:callv X call false 14 [] [] 0=some (bo true,[]))
 (h1:callv X call false 15 [lro L0.length 5 (List.flatMap lexC L0)] [] 0=some (bo true,[]))
 (h2:callv X call false 15 [lro L1.length 5 (List.flatMap lexC L1)] [] 0=some (bo false,[]))
 (h3:callv X call false 14 [] [] 0=some (bo false,[])):vbody Tryd.prog X call lf noFg Tryd.f11 (codeOf Tryd.f11) [lexsV L0,lexsV L1] [] 0=some (bo false,[]) :=
  along_sound (ans:=[(3,Ans.v (bo true)),(9,Ans.v (bo true)),(17,Ans.v (bo false)),(23,Ans.v (bo false))]) (by kernel_rfl) (ai h0 (ai h1 (ai h2 (ai h3 trivial))))
theorem f11_ptft (L0 L1:List Lexm)(X:Ext)(call:Caller)(lf:Nat)
 (h0:callv X call false 14 [] [] 0=some (bo true,[]))
 (h1:callv X call false 15 [lro L0.length 5 (List.flatMap lexC L0)] [] 0=some (bo false,[]))
 (h2:callv X call false 14 [] [] 0=some (bo true,[])):vbody Tryd.prog X call lf noFg Tryd.f11 (codeOf Tryd.f11) [lexsV L0,lexsV L1] [] 0=some (bo true,[]) :=
  along_sound (ans:=[(3,Ans.v (bo true)),(9,Ans.v (bo false)),(20,Ans.v (bo true))]) (by kernel_rfl) (ai h0 (ai h1 (ai h2 trivial)))
theorem f11_ptff (L0 L1:List Lexm)(X:Ext)(call:Caller)(lf:Nat)
 (h0:callv X call false 14 [] [] 0=some (bo true,[]))
 (h1:callv X call false 15 [lro L0.length 5 (List.flatMap lexC L0)] [] 0=some (bo false,[]))
 (h2:callv X call false 14 [] [] 0=some (bo false,[])):vbody Tryd.prog X call lf noFg Tryd.f11 (codeOf Tryd.f11) [lexsV L0,lexsV L1] [] 0=some (bo false,[]) :=
  along_sound (ans:=[(3,Ans.v (bo true)),(9,Ans.v (bo false)),(20,Ans.v (bo false))]) (by kernel_rfl) (ai h0 (ai h1 (ai h2 trivial)))
theorem f11_pft (L0 L1:List Lexm)(X:Ext)(call:Caller)(lf:Nat)
 (h0:callv X call false 14 [] [] 0=some (bo false,[]))
 (h1:callv X call false 14 [] [] 0=some (bo true,[])):vbody Tryd.prog X call lf noFg Tryd.f11 (codeOf Tryd.f11) [lexsV L0,lexsV L1] [] 0=some (bo true,[]) :=
  along_sound (ans:=[(3,Ans.v (bo false)),(17,Ans.v (bo true))]) (by kernel_rfl) (ai h0 (ai h1 trivial))
theorem f11_pff (L0 L1:List Lexm)(X:Ext)(call:Caller)(lf:Nat)
 (h0:callv X call false 14 [] [] 0=some (bo false,[]))
 (h1:callv X call false 14 [] [] 0=some (bo false,[])):vbody Tryd.prog X call lf noFg Tryd.f11 (codeOf Tryd.f11) [lexsV L0,lexsV L1] [] 0=some (bo false,[]) :=
  along_sound (ans:=[(3,Ans.v (bo false)),(17,Ans.v (bo false))]) (by kernel_rfl) (ai h0 (ai h1 trivial))
def f11_q0 (a b:Int)(b0 b1 b2 b3 b4 b5 b6:Bool):Nat :=
  (match b0 with
  | true=>(match b1 with
    | true=>(match b2 with
      | true=>(match (a == b) with
        | true=>(match b3 with
          | true=>0
          | false=>1)
        | false=>1)
      | false=>(match b4 with
        | true=>0
        | false=>1))
    | false=>(match b5 with
      | true=>0
      | false=>1))
  | false=>(match b6 with
    | true=>0
    | false=>1))
theorem f11_P0 (L0 L1:List Lexm)(X:Ext)(call:Caller)(lf a:Nat)(b:List AV)(c:Int)(d:Nat)(e:List AV)(g:Int)(b0 b1 b2 b3 b4 b5 b6:Bool)
 (g0:callv X call false 14 [] [] 0=some (bo b0,[]))
 (g1:b0=true→callv X call false 15 [lro L0.length 5 (List.flatMap lexC L0)] [] 0=some (bo b1,[]))
 (g2:b0=true→b1=true→callv X call false 15 [lro L1.length 5 (List.flatMap lexC L1)] [] 0=some (bo b2,[]))
 (g3:b0=true→b1=true→b2=true→callv X call false 36 [lro L0.length 5 (List.flatMap lexC L0),lro L1.length 5 (List.flatMap lexC L1)] [] 0=some (AV.tup [lro a 5 b,i6 c],[]))
 (g4:b0=true→b1=true→b2=true→callv X call false 37 [lro L0.length 5 (List.flatMap lexC L0),lro L1.length 5 (List.flatMap lexC L1)] [] 0=some (AV.tup [lro d 5 e,i6 g],[]))
 (g5:b0=true→b1=true→b2=true→(c == g)=true→callv X call false 30 [lro a 5 b,lro d 5 e] [] 0=some (bo b3,[]))
 (g6:b0=true→b1=true→b2=false→callv X call false 14 [] [] 0=some (bo b4,[]))
 (g7:b0=true→b1=false→callv X call false 14 [] [] 0=some (bo b5,[]))
 (g8:b0=false→callv X call false 14 [] [] 0=some (bo b6,[])) :
    (f11_q0 c g b0 b1 b2 b3 b4 b5 b6=0→vbody Tryd.prog X call lf noFg Tryd.f11 (codeOf Tryd.f11) [lexsV L0,lexsV L1] [] 0=some (bo true,[]))∧(f11_q0 c g b0 b1 b2 b3 b4 b5 b6=1→vbody Tryd.prog X call lf noFg Tryd.f11 (codeOf Tryd.f11) [lexsV L0,lexsV L1] [] 0=some (bo false,[])):=by
  unfold f11_q0
  cases c0:b0 with
  | true =>
    cases c1:b1 with
    | true =>
      cases c2:b2 with
      | true =>
        cases c3:(c == g) with
        | true =>
          cases c4:b3 with
          | true =>
            exact ⟨fun _=>f11_pttttt L0 L1 X call lf a b c d e g (by rw [c0] at g0; exact g0) (by have:=(g1 c0); rw [c1] at this; exact this) (by have:=(g2 c0 c1); rw [c2] at this; exact this) (g3 c0 c1 c2) (g4 c0 c1 c2) c3 (by have:=(g5 c0 c1 c2 c3); rw [c4] at this; exact this),fun h=>absurd (show (0:Nat)=1 from h) (by decide)⟩
          | false =>
            exact ⟨fun h=>absurd (show (1:Nat)=0 from h) (by decide),fun _=>f11_pttttf L0 L1 X call lf a b c d e g (by rw [c0] at g0; exact g0) (by have:=(g1 c0); rw [c1] at this; exact this) (by have:=(g2 c0 c1); rw [c2] at this; exact this) (g3 c0 c1 c2) (g4 c0 c1 c2) c3 (by have:=(g5 c0 c1 c2 c3); rw [c4] at this; exact this)⟩
        | false =>
          exact ⟨fun h=>absurd (show (1:Nat)=0 from h) (by decide),fun _=>f11_ptttf L0 L1 X call lf a b c d e g (by rw [c0] at g0; exact g0) (by have:=(g1 c0); rw [c1] at this; exact this) (by have:=(g2 c0 c1); rw [c2] at this; exact this) (g3 c0 c1 c2) (g4 c0 c1 c2) c3⟩
      | false =>
        cases c3:b4 with
        | true =>
          exact ⟨fun _=>f11_pttft L0 L1 X call lf (by rw [c0] at g0; exact g0) (by have:=(g1 c0); rw [c1] at this; exact this) (by have:=(g2 c0 c1); rw [c2] at this; exact this) (by have:=(g6 c0 c1 c2); rw [c3] at this; exact this),fun h=>absurd (show (0:Nat)=1 from h) (by decide)⟩
        | false =>
          exact ⟨fun h=>absurd (show (1:Nat)=0 from h) (by decide),fun _=>f11_pttff L0 L1 X call lf (by rw [c0] at g0; exact g0) (by have:=(g1 c0); rw [c1] at this; exact this) (by have:=(g2 c0 c1); rw [c2] at this; exact this) (by have:=(g6 c0 c1 c2); rw [c3] at this; exact this)⟩
    | false =>
      cases c2:b5 with
      | true =>
        exact ⟨fun _=>f11_ptft L0 L1 X call lf (by rw [c0] at g0; exact g0) (by have:=(g1 c0); rw [c1] at this; exact this) (by have:=(g7 c0 c1); rw [c2] at this; exact this),fun h=>absurd (show (0:Nat)=1 from h) (by decide)⟩
      | false =>
        exact ⟨fun h=>absurd (show (1:Nat)=0 from h) (by decide),fun _=>f11_ptff L0 L1 X call lf (by rw [c0] at g0; exact g0) (by have:=(g1 c0); rw [c1] at this; exact this) (by have:=(g7 c0 c1); rw [c2] at this; exact this)⟩
  | false =>
    cases c1:b6 with
    | true =>
      exact ⟨fun _=>f11_pft L0 L1 X call lf (by rw [c0] at g0; exact g0) (by have:=(g8 c0); rw [c1] at this; exact this),fun h=>absurd (show (0:Nat)=1 from h) (by decide)⟩
    | false =>
      exact ⟨fun h=>absurd (show (1:Nat)=0 from h) (by decide),fun _=>f11_pff L0 L1 X call lf (by rw [c0] at g0; exact g0) (by have:=(g8 c0); rw [c1] at this; exact this)⟩
end Go.Proofs.Lex
end
/- Lexicon: Merge, the program's and the reference's. -/
section
open Go Go.Vm Go.Proofs
namespace Go.Proofs.Lex
/-- The identifiers known after some lexemes. -/
def idsN (K:List ByteArray) (L:List Lexm):Nat→List ByteArray
  | 0=>K
  | i + 1=>putS (idsN K L i) (nL L i).id
theorem idsN_mem {K:List ByteArray} {L:List Lexm} {c:ByteArray}:∀ i,(idsN K L i).any (fun x=>decide (x=c))=true ↔ K.any (fun x=>decide (x=c))=true ∨ ∃ j,j < i∧(nL L j).id=c
  | 0=>by simp [idsN]
  | i + 1 => by
    have ih:=idsN_mem (K:=K) (L:=L) (c:=c) i
    unfold idsN putS
    constructor
    · intro h
      split at h
      · rcases ih.1 h with h | ⟨j, hj, e⟩
        · exact .inl h
        · exact .inr ⟨j,by omega,e⟩
      · rw [List.any_append, Bool.or_eq_true] at h
        rcases h with h | h
        · rcases ih.1 h with h | ⟨j, hj, e⟩
          · exact .inl h
          · exact .inr ⟨j,by omega,e⟩
        · exact .inr ⟨i,by omega,by simpa using h⟩
    · intro h
      have h' : (idsN K L i).any (fun x => decide (x = c)) = true ∨ (nL L i).id = c := by
        rcases h with h | ⟨j,hj,e⟩
        · exact .inl (ih.2 (.inl h))
        · by_cases hji : j = i
          · subst hji; exact .inr e
          · exact .inl (ih.2 (.inr ⟨j,by omega,e⟩))
      split
      · rename_i hp
        rcases h' with h' | h'
        · exact h'
        · rw [← h']; exact hp
      · rw [List.any_append, Bool.or_eq_true]
        rcases h' with h' | h'
        · exact .inl h'
        · exact .inr (by simpa using h')
/-- Whether an identifier of the second list is known already. -/
def badM (A B:List Lexm) (i:Nat):Bool:=(idsN (idsN [] A A.length) B i).any fun x=>decide (x=(nL B i).id)
theorem badM_iff {A B:List Lexm} {i:Nat}:badM A B i=true ↔ (∃ j,j < A.length∧(nL A j).id=(nL B i).id) ∨ ∃ j,j < i∧(nL B j).id=(nL B i).id:=by
  unfold badM
  rw [idsN_mem,idsN_mem]
  simp
def mergeF (A B:List Lexm):List Lexm × Int:=if ∃ i,i < B.length∧badM A B i=true then ([],5) else if 256 < A.length + B.length then ([],2) else (A ++ B,0)
theorem lookEs_es (c:ByteArray):∀ (l:List ByteArray),lookupEs (st c) (esOf l)=some (if l.any (fun x=>decide (x=c))=true then some (bo true) else none)
  | []=>rfl
  | x :: l => by
    show lookupEs (st c) ((st x,bo true)::esOf l)=_
    unfold lookupEs
    rw [lookEs_es c l]
    by_cases h:c=x
    · subst h
      simp
    · have h' : ¬ x = c := fun e => h e.symm
      rw [List.any_cons,decide_eq_false h',Bool.false_or]
      simp only [if_neg h]
theorem look58 (c:ByteArray) (l:List ByteArray):keep [.mapo (esOf l)] (lookupv Tryd.prog 58 [.mapo (esOf l)] (.map 0) (st c) false)=some (bo (l.any fun x=>decide (x=c)),[.mapo (esOf l)]):=by
  have hu:Tryd.prog.underlying 58=some (.map 9 4):=by kernel_rfl
  have hz:zerov Tryd.prog 4=some (bo false):=by kernel_rfl
  unfold lookupv entriesOf
  rw [hu]
  simp only [Tryd.underlying9,List.getElem?_cons_zero,hz,lookEs_es]
  rw [if_pos (show isKey TypeDesc.string (st c)=true from rfl)]
  cases l.any fun x=>decide (x=c) <;> rfl
abbrev aLsE [Fixed]:Arg (List Lexm × Int):=Arg.tup2 aLs aI
section
variable [Fixed] {X:Ext} {call:Caller} {lf:Nat}
theorem endV2 {σ:List Ob} {v:AV} {L:List Lexm} {n:Int} (hd:aLs.dec v=some L) (ho:AV.owns v=[]):∃ r,vend1 [] 0 σ [v,i6 n]=some (r,σ)∧aLsE.dec r=some (L,n):=by
  have h1 : aLs.dec (unfr1 v) = some L := by
    cases v <;> first | exact hd | skip
    · rename_i kk _ _ _
      cases kk <;> exact hd
  refine ⟨.tup [unfr1 v,i6 n],vend1_plain (by simp only [AV.ownsAll,AV.owns,ho,List.append_nil]),?_⟩
  have h2:aI.dec (i6 n)=some n:=aI.de n
  unfold aLsE Arg.tup2
  simp only [h1,h2]
theorem call69 (hX:ExtOk Tryd.prog X) (hL:XL X) {x:Lexm}:CallAt Tryd.prog 69 [aL.enc x] [] 0 (aB.enc true) [] :=
  run_res (B:=aB) hX (callerOf_ok SpecOk.none') (hL.dom 69 rfl rfl) Tryd.func69 (by kernel_rfl) (f69_p x X (callerOf fun _ _=>none) 0) rfl
def TM:Go.Vm.Spec:=(T1.on 68 (sp1 aLss fun l=>match l with
  | [L,M]=>if (L.length + M.length) * 89 ≤ big then some (aLs.enc (L ++ M)) else none
  | _=>none)).on 69 (sp1 aL fun _=>some (aB.enc true))
theorem TM_ok (hX:ExtOk Tryd.prog X) (hL:XL X):SpecOk Tryd.prog TM:=by
  refine SpecOk.on1 (SpecOk.on1 (T1_ok hX hL) fun l r h => ?_) fun x r h => ?_
  · split at h
    · split at h
      · rename_i hb
        simp only [Option.some.injEq] at h
        subst h
        exact call68 hX hL hb
      · cases h
    · cases h
  · simp only [Option.some.injEq] at h
    subst h
    exact call69 hX hL
theorem TM_61 (x:Lexm) (h:okL x):TM 61 [aL.enc x]=some (aL.enc x):=T1_61 x h
/-- filter, by a closure that keeps all. -/
theorem filt40 (hL:XL X) {L:List Lexm} (hok:okLs L) (hlf:L.length < lf) (k:Nat) :
    ∃ (r:AV) (σ' : List Ob),vbody Tryd.prog X (vcallL Tryd.prog X TM lf k) lf fg40 Tryd.f40 (codeOf Tryd.f40) [lexsV L,.clo 69 []] [] 0=some (r,σ')∧aLs.dec r=some L∧AV.owns r=[]:=by
  have hl:L.length * 89 ≤ 140737488355328:=hok.1
  have hmem:∀ i,i < L.length→nL L i ∈ L:=fun i hi=>by rw [nL,getD_lt hi]; exact List.getElem_mem hi
  have ho : ∀ i, (i < L.length → f40e_o0 L i true = 0) ∧ (¬ i < L.length → f40e_o0 L i true = 1) := by
    intro i
    unfold f40e_o0
    refine ⟨fun h1 => ?_,fun h1 => ?_⟩
    · rw [decide_eq_true (by omega)]
    · rw [decide_eq_false (by omega)]
  let l:Nat→List Lexm:=fun i=>L.take i
  have hstep : ∀ i, i < L.length → l (i + 1) = l i ++ [nL L i] := fun i hi => by
    show L.take (i + 1)=_
    rw [List.take_succ_eq_append_getElem hi,nL,getD_lt hi]
  have hlen:∀ i,(l i).length ≤ i:=fun i=>by show (L.take i).length ≤ i; rw [List.length_take]; omega
  have lt_of:∀ {i:Nat},decide ((i:Int) < (L.length:Int))=true→i < L.length:=fun h=>by have:=of_decide_eq_true h; omega
  have M := f40e_M L (fun i => grS cL [] (l i)) (fun i => grV nil0 0 (l i).length) X (vcallL Tryd.prog X TM lf k) lf L.length (fun i => (nL L i).id) (fun i => (nL L i).cat) (fun i => (nL L i).stem) (fun i => (nL L i).par) _ _ _ (fun i => (nL L i).id) (fun i => (nL L i).cat) (fun i => (nL L i).stem) (fun i => (nL L i).par) _ _ _ _ _ _ _ (fun _ => true) rfl rfl hlf
    (fun i _ h=>at_lex (lt_of h))
    (fun i _ h => by
      obtain ⟨a1,a2,a3⟩:=hL.ok 69 rfl
      refine call_onL (B:=aB) (y:=true) a1 a2 a3 (by show AV.ltAll 0 [aL.enc (nL L i)]=true; simp only [AV.ltAll,aL.lt,Bool.and_self]) ?_
      show sp1 aL _ [aL.enc (nL L i)]=_
      rw [sp1_at (aL.de _)])
    (fun i _ h _ => by
      obtain ⟨a1,a2,a3⟩:=hL.ok 61 rfl
      refine call_onL (B:=aL) (y:=nL L i) a1 a2 a3 (by show AV.ltAll 0 [aL.enc (nL L i)]=true; simp only [AV.ltAll,aL.lt,Bool.and_self]) ?_
      exact TM_61 _ (hok.2 _ (hmem i (lt_of h))))
    (fun i _ h _=>bsl_one Tryd.underlying22 cells33 zero33 rfl rfl (by simp) (owns_lex _) rfl)
    (fun i _ h _ => by
      refine gr_step (σ0:=[]) (m:=[nL L i]) rowL (.inl rfl) (appended_row [nL L i]) ?_
      have:=hlen i
      have:=lt_of h
      show _ ≤ 140737488355328
      simp only [List.length_singleton]
      omega)
    (fun i h _ _=>by show grV _ _ (l (i + 1)).length=_; rw [hstep i h]; rfl)
    (fun i h _=>up h (by show _ ≤ 140737488355328; omega))
    (fun i h _ _=>by show grS _ _ (l (i + 1))=_; rw [hstep i h])
    (fun i h _ hp=>by cases hp)
    (fun i h _ hp=>by cases hp)
    (fun j hj=>(ho j).1 hj)
  obtain ⟨r,σ',h1,h2,h3⟩:=gr_end (A:=cL) (lk := .nil) (sz0:=0) (σ1:=[]) (σ0:=[]) (l L.length)
  refine ⟨r,[] ++ σ',M ((ho _).2 (by omega)) _ _ h1,?_,h3⟩
  have:l L.length=L:=List.take_length
  rw [this] at h2
  exact h2
theorem cv40 (hL:XL X) {L:List Lexm} (hok:okLs L) (hlf:L.length < lf) (σ:List Ob):∃ v,callv X (vcallL Tryd.prog X TM lf 1) false 40 [lexsV L,.clo 69 []] σ 0=some (v,σ)∧aLs.dec v=some L∧AV.owns v=[]:=by
  obtain ⟨r,σ',h,hd,ho⟩:=filt40 (lf:=lf) (X:=X) hL hok hlf 0
  obtain ⟨a1,a2,a3⟩:=hL.ok 40 rfl
  have hw : vcallL Tryd.prog X TM lf 1 40 [lexsV L, .clo 69 []] [] 0 = some (r, σ') := by
    have ht:TM 40 [lexsV L,.clo 69 []]=none:=rfl
    have hb:Tryd.f40.body=some (codeOf Tryd.f40):=by kernel_rfl
    have hf:Tryd.prog.funcs[40]? = some Tryd.f40:=Tryd.func40
    simp only [vcallL,callerOf,ht,hL.dom 40 rfl rfl,if_true,hf,hb,hL.fg]
    exact h
  have hlt : AV.ltAll 0 [lexsV L, AV.clo 69 []] = true := by
    show AV.ltAll 0 [aLs.enc L,AV.clo 69 []]=true
    simp only [AV.ltAll,aLs.lt,Bool.true_and,Bool.and_true]
    rfl
  refine ⟨unfr r,?_,?_,?_⟩
  · unfold callv
    rw [a1,a2]
    simp only [hlt,if_true,hw]
    rw [if_pos (show r.pure=true from aLs.declt _ _ hd),a3]
    rfl
  · cases r <;> first | exact hd | skip
    · rename_i kk _ _ _
      cases kk <;> exact hd
    · cases hd
  · cases r <;> first | exact ho | skip
    · rename_i kk _ _ _
      cases kk <;> exact ho
    · cases hd
end
end Go.Proofs.Lex
end
/- Lexicon: Merge told; the law. -/
section
open Go Go.Vm Go.Proofs
namespace Go.Proofs.Lex
section
variable [Fixed] {X:Ext}
theorem put58e (c:ByteArray) (l:List ByteArray):unit1 (mapUpdatev Tryd.prog 58 [.mapo (esOf l)] 0 (.map 0) (st c) (bo true))=some (.undef,[.mapo (esOf (putS l c))]):=put58 c l
theorem w6sum {a b:Nat} (h:(a + b) * 89 ≤ 140737488355328):w6 ((a:Int) + (b:Int))=((a + b:Nat):Int):=by
  unfold w6
  rw [IntKind.wrap_i64]
  omega
theorem bsl_two (A B:List Lexm) (σ:List Ob):bsl Tryd.prog 104 2 σ false 0 [(0,lexsV A),(1,lexsV B)]=some (.list .clip 2 1 [lexsV A,lexsV B],σ):=by
  unfold bsl byValue
  have hA:AV.owns (lexsV A)=[]:=owns_lexs A
  have hB:AV.owns (lexsV B)=[]:=owns_lexs B
  simp only [List.map_cons,List.map_nil,AV.ownsAll,hA,hB,List.append_nil,if_true]
  show _=_
  kernel_rfl
theorem endL2 {lk:LK} (hk:lk = .nil ∨ lk = .clip) (l:List Lexm):∃ r σ',vend1 [] 0 (grS cL [] l) [grV (.list lk 0 (if lk = .clip then 5 else 0) []) 0 l.length,i6 0]=some (r,σ')∧aLsE.dec r=some (l,0):=by
  by_cases hl:l.length=0
  · have hl' : l = [] := List.eq_nil_of_length_eq_zero hl
    subst hl'
    rcases hk with rfl | rfl
    · exact ⟨_,_,rfl,rfl⟩
    · exact ⟨_,_,rfl,rfl⟩
  · have hg : grS cL [] l = [.arr l.length 5 (l.flatMap lexC)] := by rw [grS, if_neg hl]; rfl
    rw [hg,grV,if_neg hl]
    refine ⟨.tup [.list .fresh l.length 5 (l.flatMap lexC),i6 0],[.fro l.length 5 (l.flatMap lexC)],?_,?_⟩
    · simp [vend1,AV.thawAll,AV.thaw,AV.ownsAll,AV.owns,freezeIds,freezeId,setOb,resOf,oneOf]
    · have h1 : aLs.dec (.list .fresh l.length 5 (l.flatMap lexC)) = some l := by
        show (if l.length=0 then _ else if 5=cL.k then cL.many l.length (l.flatMap cL.enc) else none)=some l
        rw [if_neg hl,if_pos (show 5=cL.k from rfl),Cod.many_de]
      have h2:aI.dec (i6 0)=some 0:=aI.de 0
      unfold aLsE Arg.tup2
      simp only [h1,h2]
/-- lexicon.Merge. -/
theorem call36 (hX:ExtOk Tryd.prog X) (hL:XL X) {A B:List Lexm} (hA:okLs A) (hB:okLs B) (hb:(A.length + B.length) * 89 ≤ big):CallAt Tryd.prog 36 [aLs.enc A,aLs.enc B] [] 0 (aLsE.enc (mergeF A B)) []:=by
  have hb' : (A.length + B.length) * 89 ≤ 140737488355328:=hb
  have hC:=vcallL_ok hX (TM_ok hX hL) (A.length + B.length + 1) 1
  let call:=vcallL Tryd.prog X TM (A.length + B.length + 1) 1
  let lf:=A.length + B.length + 1
  let K:=idsN [] A A.length
  let S0:Nat→List Ob:=fun i=>[.mapo (esOf (idsN [] A i))]
  let S1:Nat→List Ob:=fun i=>[.mapo (esOf (idsN K B i))]
  have ltA:∀ {i:Nat},decide ((i:Int) < (A.length:Int))=true→i < A.length:=fun h=>by have:=of_decide_eq_true h; omega
  have ltB:∀ {i:Nat},decide ((i:Int) < (B.length:Int))=true→i < B.length:=fun h=>by have:=of_decide_eq_true h; omega
  have l0 : vexec Tryd.prog X call lf 0 fg36 (.loop (loopN Tryd.f36 0)) (f36_S0 A B) = some (.exit 0, f36_S1 A B S0 A.length) := by
    refine f36_L0 A B S0 X call lf A.length _ _ rfl (by show _ < A.length + B.length + 1; omega) (fun j hj => ?_) ?_ (by simp)
    · exact (f36_B0 A B X call lf S0 j (nL A j).id (nL A j).cat (nL A j).stem (nL A j).par (nL A j).feats.length ((nL A j).feats.flatMap featC) (tL A j) (S0 (j + 1)) (fun h=>at_lex (ltA h)) (fun _=>put58e _ _) (fun _=>up hj (by show _ ≤ 140737488355328; omega)) (fun _=>rfl)).1 (by unfold f36_o0; rw [decide_eq_true (by omega)])
    · exact f36_r0_f A B X call lf S0 A.length (decide_eq_false (by omega))
  have step : ∀ j, j < B.length → badM A B j = false → ∃ Sx, vexec Tryd.prog X call lf 0 fg36 (loopN Tryd.f36 1) (f36_F1 A B A.length S1 j) = some (.normal, Sx) ∧ forget f36_D1 Sx = f36_F1 A B A.length S1 (j + 1) := by
    intro j hj hbad
    exact (f36_B1 A B X call lf A.length S1 j (nL B j).id (nL B j).cat (nL B j).stem (nL B j).par (nL B j).feats.length ((nL B j).feats.flatMap featC) (tL B j) (S1 (j + 1)) (badM A B j) (fun h=>at_lex (ltB h)) (fun _=>look58 _ _) (fun _ _=>put58e _ _) (fun _=>up hj (by show _ ≤ 140737488355328; omega)) (fun _=>rfl)).1 (by unfold f36_o1; rw [decide_eq_true (by omega),hbad])
  rcases first_fail (p:=fun i=>badM A B i=false) B.length with hall | ⟨j,hj,hbad,hbef⟩
  · have l1 : vexec Tryd.prog X call lf 0 fg36 (.loop (loopN Tryd.f36 1)) (f36_S2 A B S0 A.length) = some (.exit 2, f36_S4 A B A.length S1 B.length) := by
      refine f36_L1 A B S0 A.length S1 X call lf B.length _ _ rfl (by show _ < A.length + B.length + 1; omega) (fun j hj=>step j hj (hall j hj)) ?_ (by simp)
      exact f36_r1_f A B X call lf A.length S1 B.length (decide_eq_false (by omega))
    have hno : ¬ ∃ i,i < B.length∧badM A B i=true:=fun ⟨i,hi,h⟩=>by rw [hall i hi] at h; cases h
    have hAB : okLs (A ++ B) := ⟨by rw [List.length_append]; exact hb, fun x hx => by
      rcases List.mem_append.1 hx with h | h
      · exact hA.2 x h
      · exact hB.2 x h⟩
    obtain ⟨v,hv,hd,ho⟩:=cv40 (X:=X) (lf:=A.length + B.length + 1) hL hAB (by rw [List.length_append]; omega) (S1 B.length)
    obtain ⟨r,he,hr⟩:=endV2 (σ:=S1 B.length) (n:=0) hd ho
    have P:=f36_P1 A B X call lf S0 A.length S1 B.length v 2 [lexsV A,lexsV B] .clip (A ++ B).length ((A ++ B).flatMap lexC) r _ l0 l1 (fun _ => ?_) (fun _ => ?_) (fun _=>hv) (fun _=>he)
    · unfold mergeF
      rw [if_neg hno]
      by_cases hbig:256 < A.length + B.length
      · rw [if_pos hbig]
        exact run_res (B:=aLsE) hX hC (hL.dom 36 rfl rfl) Tryd.func36 (by kernel_rfl) (P.1 (by unfold f36_q1; rw [w6sum hb',decide_eq_true (by omega)])) (by rfl)
      · rw [if_neg hbig]
        exact run_res (B:=aLsE) hX hC (hL.dom 36 rfl rfl) Tryd.func36 (by kernel_rfl) (P.2 (by unfold f36_q1; rw [w6sum hb',decide_eq_false (by omega)])) hr
    · exact bsl_two A B _
    · obtain ⟨a1, a2, a3⟩ := hL.ok 68 rfl
      refine call_onL (B:=aLs) (y:=A ++ B) (vs:=[.list .clip 2 1 [lexsV A,lexsV B]]) a1 a2 a3 ?_ ?_
      · show (AV.ltAll 0 [aLs.enc A, aLs.enc B] && true) = true
        simp only [AV.ltAll,aLs.lt,Bool.and_self]
      · show sp1 aLss _ [AV.list .clip 2 1 [lexsV A, lexsV B]] = _
        have hde:aLss.dec (.list .clip 2 1 [lexsV A,lexsV B])=some [A,B]:=aLss.de [A,B]
        rw [sp1_at hde]
        show (if (A.length + B.length) * 89 ≤ big then some (aLs.enc (A ++ B)) else none)=_
        rw [if_pos hb]
  · have hbad' : badM A B j = true := by simpa using hbad
    have l1 : vexec Tryd.prog X call lf 0 fg36 (.loop (loopN Tryd.f36 1)) (f36_S2 A B S0 A.length) = some (.ret, f36_S3 A B A.length S1 j (nL B j).id (nL B j).cat (nL B j).stem (nL B j).par (nL B j).feats.length ((nL B j).feats.flatMap featC) (tL B j)) := by
      refine f36_L1 A B S0 A.length S1 X call lf j _ _ rfl (by show _ < A.length + B.length + 1; omega) (fun i hi=>step i (by omega) (hbef i hi)) ?_ (by simp)
      exact (f36_B1 A B X call lf A.length S1 j (nL B j).id (nL B j).cat (nL B j).stem (nL B j).par (nL B j).feats.length ((nL B j).feats.flatMap featC) (tL B j) (S1 (j + 1)) (badM A B j) (fun h=>at_lex (ltB h)) (fun _=>look58 _ _) (fun _ _=>put58e _ _) (fun _=>up hj (by show _ ≤ 140737488355328; omega)) (fun _=>rfl)).2.1 (by unfold f36_o1; rw [decide_eq_true (by omega),hbad'])
    unfold mergeF
    rw [if_pos ⟨j,hj,hbad'⟩]
    exact run_res (B:=aLsE) hX hC (hL.dom 36 rfl rfl) Tryd.func36 (by kernel_rfl) (f36_plfltt A B X call lf S0 A.length S1 j _ _ _ _ _ _ _ l0 l1) (by rfl)
theorem idx_pos {L:List Lexm} {c:ByteArray}:decide (idxP (fun x=>decide (x.id=c)) L ≥ 0)=true ↔ ∃ j,j < L.length∧(nL L j).id=c:=by
  rcases idxP_cases (fun x=>decide (x.id=c)) L with ⟨e,hall⟩ | ⟨k,hk,e,hp,-⟩
  · rw [e]
    refine ⟨fun h=>absurd (of_decide_eq_true h) (by decide),fun ⟨j,hj,h⟩=>absurd (decide_eq_true h) (hall j hj)⟩
  · rw [e]
    exact ⟨fun _=>⟨k,hk,of_decide_eq_true hp⟩,fun _=>decide_eq_true (by omega)⟩
theorem idx_lt {L:List Lexm} {i:Nat} (hi:i < L.length):decide (idxP (fun x=>decide (x.id=(nL L i).id)) L < (i:Int))=true ↔ ∃ j,j < i∧(nL L j).id=(nL L i).id:=by
  rcases idxP_cases (fun x=>decide (x.id=(nL L i).id)) L with ⟨e,hall⟩ | ⟨k,hk,e,hp,hbef⟩
  · exact absurd (decide_eq_true rfl) (hall i hi)
  · rw [e]
    refine ⟨fun h=>⟨k,by have:=of_decide_eq_true h; omega,of_decide_eq_true hp⟩,fun ⟨j,hj,h⟩=>decide_eq_true ?_⟩
    have : k ≤ j := by
      by_cases hkj:k ≤ j
      · exact hkj
      · exact absurd (decide_eq_true h) (hbef j (by omega))
    omega
def V29:Go.Vm.Spec:=Go.Vm.Spec.on (fun _ _=>none) 29 (sp2 aLs aS fun L s=>if L.length ≤ big then some (aI.enc (idxP (fun x=>decide (x.id=s)) L)) else none)
theorem V29_ok (hX:ExtOk Tryd.prog X) (hL:XL X):SpecOk Tryd.prog V29:=by
  refine SpecOk.on2 SpecOk.none' fun L s r h => ?_
  split at h
  · rename_i hF
    simp only [Option.some.injEq] at h
    subst h
    exact call29 hX hL hF
  · cases h
theorem V29_at {L:List Lexm} {s:ByteArray} (hl:L.length ≤ big):V29 29 [aLs.enc L,aS.enc s]=some (aI.enc (idxP (fun x=>decide (x.id=s)) L)):=by
  show sp2 aLs aS (fun L s=>if L.length ≤ big then some (aI.enc (idxP (fun x=>decide (x.id=s)) L)) else none) [aLs.enc L,aS.enc s]=_
  rw [sp2_at (aLs.de _) (aS.de _),if_pos hl]
/-- ref09.Merge. -/
theorem call37 (hX:ExtOk Tryd.prog X) (hL:XL X) {A B:List Lexm} (hb:(A.length + B.length) * 89 ≤ big):CallAt Tryd.prog 37 [aLs.enc A,aLs.enc B] [] 0 (aLsE.enc (mergeF A B)) []:=by
  have hb' : (A.length + B.length) * 89 ≤ 140737488355328:=hb
  have hC:=callerOf_ok (V29_ok hX hL)
  have ltB:∀ {i:Nat},decide ((i:Int) < (B.length:Int))=true→i < B.length:=fun h=>by have:=of_decide_eq_true h; omega
  obtain ⟨a1,a2,a3⟩:=hL.ok 29 rfl
  have hAb:A.length ≤ big:=by show _ ≤ 140737488355328; omega
  have hBb:B.length ≤ big:=by show _ ≤ 140737488355328; omega
  have c29 : ∀ (L : List Lexm) (s : ByteArray), L.length ≤ big → callv X (callerOf V29) false 29 [aLs.enc L, aS.enc s] [] 0 = some (i6 (idxP (fun x => decide (x.id = s)) L), []) := fun L s hl =>
    call_on (B:=aI) (y:=idxP (fun x=>decide (x.id=s)) L) a1 a2 a3 (by simp only [AV.ltAll,aLs.lt,aS.lt,Bool.and_self]) (V29_at (s:=s) hl)
  have M := fun n (hn : n < B.length + 1) hz => f37_M A B X (callerOf V29) (B.length + 1) n (fun i => (nL B i).id) (fun i => (nL B i).cat) (fun i => (nL B i).stem) (fun i => (nL B i).par) (fun i => (nL B i).feats.length) (fun i => (nL B i).feats.flatMap featC) (fun i => tL B i) (fun i => idxP (fun x => decide (x.id = (nL B i).id)) A) (fun i => idxP (fun x => decide (x.id = (nL B i).id)) B) hn
    (fun i _ h=>at_lex (ltB h)) (fun i _ _=>c29 _ _ hAb) (fun i _ _ _=>c29 _ _ hBb) (fun i hi h=>up (ltB h) hBb) hz
  have hgood : ∀ i, i < B.length → badM A B i = false → f37_o0 B i (idxP (fun x => decide (x.id = (nL B i).id)) A) (idxP (fun x => decide (x.id = (nL B i).id)) B) = 0 := by
    intro i hi hbad
    have h1 : decide (idxP (fun x => decide (x.id = (nL B i).id)) A ≥ 0) = false := by
      rw [Bool.eq_false_iff]
      intro h
      rw [badM_iff.2 (.inl (idx_pos.1 h))] at hbad
      cases hbad
    have h2 : decide (idxP (fun x => decide (x.id = (nL B i).id)) B < (i : Int)) = false := by
      rw [Bool.eq_false_iff]
      intro h
      rw [badM_iff.2 (.inr ((idx_lt hi).1 h))] at hbad
      cases hbad
    unfold f37_o0
    rw [decide_eq_true (by omega:(i:Int) < (B.length:Int)),h1,h2]
  rcases first_fail (p:=fun i=>badM A B i=false) B.length with hall | ⟨j,hj,hbad,hbef⟩
  · have hno : ¬ ∃ i, i < B.length ∧ badM A B i = true := fun ⟨i, hi, h⟩ => by rw [hall i hi] at h; cases h
    have K:=M B.length (by omega) (fun i hi=>hgood i hi (hall i hi))
    have ho : f37_o0 B B.length (idxP (fun x => decide (x.id = (nL B B.length).id)) A) (idxP (fun x => decide (x.id = (nL B B.length).id)) B) = 3 := by
      unfold f37_o0
      rw [decide_eq_false (by omega)]
    unfold mergeF
    rw [if_neg hno]
    by_cases hbig:256 < A.length + B.length
    · rw [if_pos hbig]
      exact run_res (B:=aLsE) hX hC (hL.dom 37 rfl rfl) Tryd.func37 (by kernel_rfl) (K.2.2.1 ho (by rw [w6sum hb']; exact decide_eq_true (by omega))) (by rfl)
    · rw [if_neg hbig]
      have s1:=gr_step (σ0:=[]) (A:=cL) (l:=[]) (m:=A) (lk := .clip) (sz0:=5) rowL (.inr rfl) (appended_row (lk := .ro) A) (by show _ ≤ 140737488355328; simp only [List.length_nil]; omega)
      have s2:=gr_step (σ0:=[]) (A:=cL) (l:=[] ++ A) (m:=B) (lk := .clip) (sz0:=5) rowL (.inr rfl) (appended_row (lk := .ro) B) (by show _ ≤ 140737488355328; simp only [List.nil_append]; omega)
      obtain ⟨r,σ',e1,e2⟩:∃ r σ',vend1 [] 0 (grS cL [] ([] ++ A ++ B)) [grV (.list .clip 0 5 []) 0 ([] ++ A ++ B).length,i6 0]=some (r,σ')∧aLsE.dec r=some (A ++ B,0):=endL2 (.inr rfl) (A ++ B)
      exact run_res (B:=aLsE) hX hC (hL.dom 37 rfl rfl) Tryd.func37 (by kernel_rfl) (K.2.2.2 ho _ _ _ _ _ _ (by rw [w6sum hb']; exact decide_eq_false (by omega)) s1 s2 e1) e2
  · have hbad' : badM A B j = true := by simpa using hbad
    have K:=M j (by omega) (fun i hi=>hgood i (by omega) (hbef i hi))
    unfold mergeF
    rw [if_pos ⟨j,hj,hbad'⟩]
    by_cases h1:decide (idxP (fun x=>decide (x.id=(nL B j).id)) A ≥ 0)=true
    · exact run_res (B:=aLsE) hX hC (hL.dom 37 rfl rfl) Tryd.func37 (by kernel_rfl) (K.1 (by unfold f37_o0; rw [decide_eq_true (by omega:(j:Int) < (B.length:Int)),h1])) (by rfl)
    · have h2 : decide (idxP (fun x => decide (x.id = (nL B j).id)) B < (j : Int)) = true := by
        rcases badM_iff.1 hbad' with h | h
        · exact absurd (idx_pos.2 h) h1
        · exact (idx_lt hj).2 h
      exact run_res (B:=aLsE) hX hC (hL.dom 37 rfl rfl) Tryd.func37 (by kernel_rfl) (K.2.1 (by unfold f37_o0; rw [decide_eq_true (by omega:(j:Int) < (B.length:Int)),Bool.eq_false_iff.2 h1,h2])) (by rfl)
end
end Go.Proofs.Lex
end
/- Lexicon: the law of Merge. -/
section
open Go Go.Vm Go.Proofs
namespace Go.Proofs.Lex
section
variable [Fixed] {X:Ext}
theorem okLs_append {A B : List Lexm} (hA : okLs A) (hB : okLs B) (hb : (A.length + B.length) * 89 ≤ big) : okLs (A ++ B) := ⟨by rw [List.length_append]; exact hb, fun x hx => by
  rcases List.mem_append.1 hx with h | h
  · exact hA.2 x h
  · exact hB.2 x h⟩
theorem okLs_merge {A B:List Lexm} (hA:okLs A) (hB:okLs B) (hb:(A.length + B.length) * 89 ≤ big):okLs (mergeF A B).1:=by
  have h0:okLs []:=⟨Nat.zero_le _,fun x hx=>by simp at hx⟩
  unfold mergeF
  split
  · exact h0
  split
  · exact h0
  · exact okLs_append hA hB hb
def okM (A B:List Lexm):Bool:=okLsB A && okLsB B && decide ((A.length + B.length) * 89 ≤ big)
theorem okM_iff {A B:List Lexm}:okM A B=true ↔ okLs A∧okLs B∧(A.length + B.length) * 89 ≤ big:=by
  unfold okM
  rw [Bool.and_eq_true,Bool.and_eq_true,okLsB_iff,okLsB_iff,decide_eq_true_eq,and_assoc]
def mergeS:List AV→Option AV:=sp2 aLs aLs fun A B=>if okM A B=true then some (aLsE.enc (mergeF A B)) else none
def sameS:List AV→Option AV:=sp2 aLs aLs fun A B=>if okLsB A=true then some (aB.enc (decide (A=B))) else none
def TD:Go.Vm.Spec:=((TB.on 30 sameS).on 36 mergeS).on 37 mergeS
theorem TD_ok (hX:ExtOk Tryd.prog X) (hL:XL X) (h14:CallAt Tryd.prog 14 [] [] 0 (bo true) []):SpecOk Tryd.prog TD:=by
  refine SpecOk.on2 (SpecOk.on2 (SpecOk.on2 (TB_ok hX hL h14) fun A B r h => ?_) fun A B r h => ?_) fun A B r h => ?_
  · split at h
    · rename_i hk
      simp only [Option.some.injEq] at h
      subst h
      exact call30 hX hL (okLsB_iff.1 hk)
    · cases h
  · split at h
    · rename_i hk
      simp only [Option.some.injEq] at h
      subst h
      obtain ⟨h1,h2,h3⟩:=okM_iff.1 hk
      exact call36 hX hL h1 h2 h3
    · cases h
  · split at h
    · rename_i hk
      simp only [Option.some.injEq] at h
      subst h
      obtain ⟨h1,h2,h3⟩:=okM_iff.1 hk
      exact call37 hX hL h3
    · cases h
theorem mergeS_at {A B:List Lexm} (h:okM A B=true):mergeS [aLs.enc A,aLs.enc B]=some (aLsE.enc (mergeF A B)):=by
  unfold mergeS
  rw [sp2_at (aLs.de _) (aLs.de _),if_pos h]
theorem law11 (hX:ExtOk Tryd.prog X) (hL:XL X) (h14:CallAt Tryd.prog 14 [] [] 0 (bo true) []) {A B:List Lexm} (hA:okLs A) (hB:okLs B) (hb:(A.length + B.length) * 89 ≤ big) (fA:fewL A=true) (fB:fewL B=true):CallAt Tryd.prog 11 [aLs.enc A,aLs.enc B] [] 0 (aB.enc true) []:=by
  have hC:=callerOf_ok (TD_ok hX hL h14)
  have hk:=okM_iff.2 ⟨hA,hB,hb⟩
  have c14 : callv X (callerOf TD) false 14 [] [] 0 = some (bo true, []) := by
    obtain ⟨a1,a2,a3⟩:=hL.ok 14 rfl
    exact call_on (B:=aB) (y:=true) (T:=TD) a1 a2 a3 rfl rfl
  have c15 : ∀ L, okLs L → fewL L = true → callv X (callerOf TD) false 15 [aLs.enc L] [] 0 = some (bo true, []) := fun L h hf => by
    obtain ⟨a1,a2,a3⟩:=hL.ok 15 rfl
    rw [← hf]
    exact call_on (B:=aB) (y:=fewL L) (T:=TD) a1 a2 a3 (by simp only [AV.ltAll,aLs.lt,Bool.and_self]) (s1_at (A:=aLs) (B:=aB) (g:=fewL) (ok:=fun L=>L.length ≤ big) (okLs_len h))
  have c2 : ∀ f, lexW f = true → TD f [aLs.enc A, aLs.enc B] = some (aLsE.enc (mergeF A B)) → callv X (callerOf TD) false f [aLs.enc A, aLs.enc B] [] 0 = some (aLsE.enc (mergeF A B), []) := fun f hw h => by
    obtain ⟨a1,a2,a3⟩:=hL.ok f hw
    exact call_on (B:=aLsE) (y:=mergeF A B) (T:=TD) (vs:=[aLs.enc A,aLs.enc B]) a1 a2 a3 (by simp only [AV.ltAll,aLs.lt,Bool.and_self]) h
  have c30 : callv X (callerOf TD) false 30 [aLs.enc (mergeF A B).1, aLs.enc (mergeF A B).1] [] 0 = some (bo true, []) := by
    obtain ⟨a1,a2,a3⟩:=hL.ok 30 rfl
    have h3 : TD 30 [aLs.enc (mergeF A B).1, aLs.enc (mergeF A B).1] = some (aB.enc (decide ((mergeF A B).1 = (mergeF A B).1))) := by
      show sp2 aLs aLs (fun A B=>if okLsB A=true then some (aB.enc (decide (A=B))) else none) [aLs.enc (mergeF A B).1,aLs.enc (mergeF A B).1]=_
      rw [sp2_at (aLs.de _) (aLs.de _),if_pos (okLsB_iff.2 (okLs_merge hA hB hb))]
    rw [decide_eq_true rfl] at h3
    exact call_on (B:=aB) (y:=true) (T:=TD) a1 a2 a3 (by simp only [AV.ltAll,aLs.lt,Bool.and_self]) h3
  have P := f11_P0 A B X (callerOf TD) 0 _ _ _ _ _ _ true true true true true true true c14 (fun _ => c15 A hA fA) (fun _ _ => c15 B hB fB)
    (fun _ _ _=>c2 36 rfl (mergeS_at hk)) (fun _ _ _=>c2 37 rfl (mergeS_at hk)) (fun _ _ _ _=>c30) (fun _ _ h=>by cases h) (fun _ h=>by cases h) (fun h=>by cases h)
  exact run_res (B := aB) hX hC (hL.dom 11 rfl rfl) Tryd.func11 (by kernel_rfl) (P.1 (by
    unfold f11_q0
    rw [show ((mergeF A B).2 == (mergeF A B).2)=true from beq_self_eq_true _])) (aB.de true)
theorem law11a (hX:ExtOk Tryd.prog X) (hL:XL X) (h14:CallAt Tryd.prog 14 [] [] 0 (bo true) []) {A B:List Lexm} (hA:A.length ≤ big) (hB:B.length ≤ big):CallAt Tryd.prog 11 [aLs.enc A,aLs.enc B] [] 0 (aB.enc true) []:=by
  have len : ∀ L, fewL L = true → L.length ≤ 300 := fun L h => by
    unfold fewL at h
    rw [Bool.and_eq_true] at h
    have:=of_decide_eq_true h.2
    omega
  cases fA:fewL A with
  | true =>
    cases fB:fewL B with
    | true =>
      have:=len A fA
      have:=len B fB
      exact law11 hX hL h14 (okLs_few fA) (okLs_few fB) (by show _ ≤ 140737488355328; omega) fA fB
    | false =>
      have a:=tb15 (X:=X) hL hA [] false
      have b:=tb15 (X:=X) hL hB [] false
      rw [fA] at a
      rw [fB] at b
      exact run_res (B:=aB) hX (callerOf_ok (TB_ok hX hL h14)) (hL.dom 11 rfl rfl) Tryd.func11 (by kernel_rfl) (f11_pttft A B X (callerOf TB) 0 (tb14 hL _ _) a b (tb14 hL _ _)) rfl
  | false =>
    have a:=tb15 (X:=X) hL hA [] false
    rw [fA] at a
    exact run_res (B:=aB) hX (callerOf_ok (TB_ok hX hL h14)) (hL.dom 11 rfl rfl) Tryd.func11 (by kernel_rfl) (f11_ptft A B X (callerOf TB) 0 (tb14 hL _ _) a (tb14 hL _ _)) rfl
end
end Go.Proofs.Lex
end
