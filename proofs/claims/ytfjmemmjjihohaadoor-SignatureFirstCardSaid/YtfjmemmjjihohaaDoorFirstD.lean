/- Part 4 of the texts of this claim: the evaluator, and what it says of the program's functions. -/
import Derived.Test.YtfjmemmjjihohaaDoorFirstC
import Derived.Test.YtfjmemmjjihohaaDoorProg
set_option linter.unusedSectionVars false
set_option linter.unusedVariables false
set_option linter.unusedSimpArgs false
set_option linter.constructorNameAsVariable false
/- Signature: words for the texts that are printed. -/
section
open Go Go.Vm Go.Proofs
namespace Go.Proofs.Sig
abbrev cvq (X:Ext) (call:Caller) (d:Bool) (f:FuncId) (us:List AV) (σ:List Ob) (r:AV):Prop:=callv X call d f us σ 0=some (r,σ)
abbrev kiq (n:TypeId) (σ:List Ob) (a i:AV) (e:List AV):Prop:=keep σ (indexAddrv Tryd.prog n σ a i)=some (AV.eaddr e,σ)
abbrev kpq (σ:List Ob) (e:Option AV) (v:AV):Prop:=keep σ e=some (v,σ)
theorem ai {a b:Prop} (x:a) (y:b):a∧b:=And.intro x y
abbrev i6 (n:Int):AV := .int .i64 n
abbrev bo (b:Bool):AV := .bool b
abbrev st (s:ByteArray):AV := .str s
abbrev lro (n sz:Nat) (cs:List AV):AV := .list .ro n sz cs
abbrev w6 (n:Int):Int:=IntKind.wrap .i64 n
structure Cst where
  name:ByteArray
  sort:ByteArray
  deriving DecidableEq
structure Prd where
  name:ByteArray
  args:List ByteArray
  deriving DecidableEq
structure Sgn where
  sorts:List ByteArray
  consts:List Cst
  preds:List Prd
  deriving DecidableEq
/-- A symbol's kind and sorts. -/
structure Dcl where
  kind:ByteArray
  sorts:List ByteArray
  deriving DecidableEq
def strsV (l:List ByteArray):AV := .list .ro l.length 1 (l.map .str)
def cstC (c:Cst):List AV:=[.str c.name,.str c.sort]
def prdC (p:Prd):List AV:=[.str p.name,strsV p.args]
def dclC (d:Dcl):List AV:=[.str d.kind,strsV d.sorts]
def cstsV (l:List Cst):AV := .list .ro l.length 2 (l.flatMap cstC)
def prdsV (l:List Prd):AV := .list .ro l.length 2 (l.flatMap prdC)
def sgnC (x:Sgn):List AV:=[strsV x.sorts,cstsV x.consts,prdsV x.preds]
/-! ### codes -/
section
variable [Fixed]
theorem strs_flat (l:List ByteArray):(l.flatMap fun s=>[AV.str s])=l.map .str:=by
  induction l with
  | nil=>rfl
  | cons x l ih=>rw [List.flatMap_cons,ih]; rfl
def cC:Cod Cst:=(Cod.str.prod Cod.str).iso (fun x=>⟨x.1,x.2⟩) (fun c=>(c.name,c.sort)) (fun _=>rfl) (fun _=>rfl)
def cP:Cod Prd:=(Cod.str.prod Cod.str.list).iso (fun x=>⟨x.1,x.2⟩) (fun p=>(p.name,p.args)) (fun _=>rfl) (fun _=>rfl)
def cD:Cod Dcl:=(Cod.str.prod Cod.str.list).iso (fun x=>⟨x.1,x.2⟩) (fun p=>(p.kind,p.sorts)) (fun _=>rfl) (fun _=>rfl)
def cS:Cod Sgn:=(Cod.str.list.prod (cC.list.prod cP.list)).iso (fun x=>⟨x.1,x.2.1,x.2.2⟩) (fun x=>(x.sorts,x.consts,x.preds)) (fun _=>rfl) (fun _=>rfl)
def aS:Arg ByteArray:=Arg.cell Cod.str rfl
def aI:Arg Int:=Arg.cell (Cod.int .i64) rfl
def aB:Arg Bool:=Arg.cell Cod.bool rfl
def aSs:Arg (List ByteArray):=Arg.cell Cod.str.list rfl
def aCs:Arg (List Cst):=Arg.cell cC.list rfl
def aD:Arg Dcl:=Arg.agg cD
def aG:Arg Sgn:=Arg.agg cS
theorem list_enc (l:List ByteArray):(Cod.str.list).enc l=[strsV l]:=by
  show [AV.list .ro l.length 1 (l.flatMap fun s=>[.str s])]=_
  rw [strs_flat]; rfl
theorem aSs_enc (l:List ByteArray):aSs.enc l=strsV l:=by
  show AV.list .ro l.length 1 (l.flatMap fun s=>[.str s])=_
  rw [strs_flat]; rfl
theorem aSs_dec {l:List ByteArray}:aSs.dec (strsV l)=some l:=by rw [← aSs_enc,aSs.de]
theorem cP_enc (p:Prd):cP.enc p=prdC p:=by
  show [AV.str p.name] ++ (Cod.str.list).enc p.args=_
  rw [list_enc]; rfl
theorem cD_enc (p:Dcl):cD.enc p=dclC p:=by
  show [AV.str p.kind] ++ (Cod.str.list).enc p.sorts=_
  rw [list_enc]; rfl
theorem cP_encs (l:List Prd):l.flatMap cP.enc=l.flatMap prdC:=by
  induction l with
  | nil=>rfl
  | cons x l ih=>rw [List.flatMap_cons,List.flatMap_cons,ih,cP_enc]
theorem aG_enc (x:Sgn):aG.enc x = .agg (sgnC x):=by
  show AV.agg ((Cod.str.list).enc x.sorts ++ ([AV.list .ro x.consts.length 2 (x.consts.flatMap cC.enc)] ++ [AV.list .ro x.preds.length 2 (x.preds.flatMap cP.enc)]))=_
  rw [list_enc,cP_encs]; rfl
theorem aD_enc (d:Dcl):aD.enc d = .agg (dclC d):=by
  show AV.agg (cD.enc d)=_
  rw [cD_enc]
end
theorem nq {p:Prop} {a b:Nat} (h:a=b) (hd:Nat.beq a b=false:=by rfl):p:=absurd (show Nat.beq a b=true from by rw [h]; exact Nat.beq_refl b) (by rw [hd]; simp)
abbrev sQ (l:List ByteArray):AV:=lro l.length 1 (List.map st l)
abbrev cQ (l:List Cst):AV:=lro l.length 2 (List.flatMap cstC l)
abbrev pQ (l:List Prd):AV:=lro l.length 2 (List.flatMap prdC l)
abbrev gQ (x:Sgn):List AV:=[sQ x.sorts,cQ x.consts,pQ x.preds]
end Go.Proofs.Sig
end
/- Signature: names and lists, walked (printed) -/
section
open Go Go.Vm Go.Proofs
namespace Go.Proofs.Sig
def f66_F0 (s0:ByteArray)(i0:Nat):St :=
  stOf 40 [2,3,4,8,9,10,11,12,13,14,15,16,17,18,19,20,21,22,23,24,25,26,27,28,29,30,31,32,33,34,35,36,37] [(0,st s0),(5,st s0),(6,i6 (↑(ByteArray.size s0):Int)),(7,i6 (↑i0:Int))] []
def f66_S0 (s0:ByteArray):St :=
  stOf 40 [] [(0,st s0),(2,bo false),(5,st s0),(6,i6 (↑(ByteArray.size s0):Int)),(7,i6 0)] []
abbrev f66_D0:List Nat:=[37,2,36,35,34,33,32,31,30,29,28,27,26,25,24,23,22,21,20,19,18,17,16,15,14,13,4,12,11,10,3,9,8]
theorem f66_L0 (s0:ByteArray)(X:Ext)(call:Caller)(lf n:Nat)(x:Ex) (S' : St)
 (hn:n<lf)
 (hs:∀ j,j<n→∃ Sx,vexec Tryd.prog X call lf 0 noFg (loopN Tryd.f66 0) (f66_F0 s0 j)=some (Ex.normal,Sx)∧forget f66_D0 Sx=(f66_F0 s0 (j + 1)))
 (he:vexec Tryd.prog X call lf 0 noFg (loopN Tryd.f66 0) (f66_F0 s0 n)=some (x,S'))
 (hx:x ≠ Ex.normal):vexec Tryd.prog X call lf 0 noFg (Go.Code.loop (loopN Tryd.f66 0)) (f66_S0 s0)=some (x,S') :=
  loop_runK (by kernel_rfl) (fun j=>(f66_F0 s0 j)) n hn (by show forget f66_D0 (f66_S0 s0)=(f66_F0 s0 0); unfold f66_F0; show _=_; kernel_rfl) hs he hx
theorem f66_s0_ttt (s0:ByteArray)(X:Ext)(call:Caller)(lf i0:Nat)(n12:Int)
 (h0:decide ((↑i0:Int)<(↑(ByteArray.size s0):Int))=true)
 (h1:kpq [] (indexv Tryd.prog 9 (st s0) (i6 (↑i0:Int))) (AV.int IntKind.u8 n12))
 (h2:decide (n12 ≥ 97)=true)
 (h3:decide (n12 ≤ 122)=true)
 (e0:(↑(i0 + 1):Int)=w6 ((↑i0:Int) + 1)):∃ Sx,vexec Tryd.prog X call lf 0 noFg (loopN Tryd.f66 0) (f66_F0 s0 i0)=some (Ex.normal,Sx)∧forget f66_D0 Sx=(f66_F0 s0 (i0 + 1)) :=
  ⟨stOf 40 [2] [(0,st s0),(3,i6 (↑i0:Int)),(4,AV.int IntKind.u8 n12),(5,st s0),(6,i6 (↑(ByteArray.size s0):Int)),(7,i6 (w6 ((↑i0:Int) + 1))),(8,bo true),(9,i6 (↑i0:Int)),(10,st s0),(11,i6 (↑i0:Int)),(12,AV.int IntKind.u8 n12),(13,AV.int IntKind.u8 n12),(14,bo true),(15,bo true),(16,AV.int IntKind.u8 n12),(17,bo true),(18,bo true),(19,bo false),(20,bo false),(36,bo false),(37,i6 (w6 ((↑i0:Int) + 1)))] [],around_sound (ans:=[(1,Ans.b true),(9,Ans.v (AV.int IntKind.u8 n12)),(13,Ans.b true),(18,Ans.b true)]) (by kernel_rfl) (ai h0 (ai h1 (ai h2 (ai h3 trivial)))),by unfold f66_F0; rw [e0]; show _=_; kernel_rfl⟩
def f66_S1 (s0:ByteArray)(i0:Nat)(n12:Int):St :=
  stOf 40 [37] [(0,st s0),(2,bo false),(3,i6 (↑i0:Int)),(4,AV.int IntKind.u8 n12),(5,st s0),(6,i6 (↑(ByteArray.size s0):Int)),(7,i6 (↑i0:Int)),(8,bo true),(9,i6 (↑i0:Int)),(10,st s0),(11,i6 (↑i0:Int)),(12,AV.int IntKind.u8 n12),(13,AV.int IntKind.u8 n12),(14,bo true),(15,bo true),(16,AV.int IntKind.u8 n12),(17,bo false),(18,bo false),(19,bo true),(20,bo true),(21,i6 (↑i0:Int)),(22,bo true),(23,bo true),(35,bo true),(36,bo true)] []
theorem f66_r0_ttft (s0:ByteArray)(X:Ext)(call:Caller)(lf i0:Nat)(n12:Int)
 (h0:decide ((↑i0:Int)<(↑(ByteArray.size s0):Int))=true)
 (h1:kpq [] (indexv Tryd.prog 9 (st s0) (i6 (↑i0:Int))) (AV.int IntKind.u8 n12))
 (h2:decide (n12 ≥ 97)=true)
 (h3:decide (n12 ≤ 122)=false)
 (h4:((↑i0:Int) == 0)=true):vexec Tryd.prog X call lf 0 noFg (loopN Tryd.f66 0) (f66_F0 s0 i0)=some (Ex.ret,(f66_S1 s0 i0 n12)) :=
  around_sound (ans:=[(1,Ans.b true),(9,Ans.v (AV.int IntKind.u8 n12)),(13,Ans.b true),(18,Ans.b false),(25,Ans.b true)]) (by kernel_rfl) (ai h0 (ai h1 (ai h2 (ai h3 (ai h4 trivial)))))
theorem f66_plttft (s0:ByteArray)(X:Ext)(call:Caller)(lf i0:Nat)(n12:Int)
 (h0:vexec Tryd.prog X call lf 0 noFg (Code.loop (loopN Tryd.f66 0)) (f66_S0 s0)=some (Ex.ret,(f66_S1 s0 i0 n12))):vbody Tryd.prog X call lf noFg Tryd.f66 (codeOf Tryd.f66) [st s0] [] 0=some (bo false,[]) :=
  along_sound (ans:=[(6,Ans.l Ex.ret (f66_S1 s0 i0 n12))]) (by kernel_rfl) (ai h0 trivial)
theorem f66_s0_ttfftt (s0:ByteArray)(X:Ext)(call:Caller)(lf i0:Nat)(n12:Int)
 (h0:decide ((↑i0:Int)<(↑(ByteArray.size s0):Int))=true)
 (h1:kpq [] (indexv Tryd.prog 9 (st s0) (i6 (↑i0:Int))) (AV.int IntKind.u8 n12))
 (h2:decide (n12 ≥ 97)=true)
 (h3:decide (n12 ≤ 122)=false)
 (h4:((↑i0:Int) == 0)=false)
 (h5:decide (n12 ≥ 48)=true)
 (h6:decide (n12 ≤ 57)=true)
 (e0:(↑(i0 + 1):Int)=w6 ((↑i0:Int) + 1)):∃ Sx,vexec Tryd.prog X call lf 0 noFg (loopN Tryd.f66 0) (f66_F0 s0 i0)=some (Ex.normal,Sx)∧forget f66_D0 Sx=(f66_F0 s0 (i0 + 1)) :=
  ⟨stOf 40 [2] [(0,st s0),(3,i6 (↑i0:Int)),(4,AV.int IntKind.u8 n12),(5,st s0),(6,i6 (↑(ByteArray.size s0):Int)),(7,i6 (w6 ((↑i0:Int) + 1))),(8,bo true),(9,i6 (↑i0:Int)),(10,st s0),(11,i6 (↑i0:Int)),(12,AV.int IntKind.u8 n12),(13,AV.int IntKind.u8 n12),(14,bo true),(15,bo true),(16,AV.int IntKind.u8 n12),(17,bo false),(18,bo false),(19,bo true),(20,bo true),(21,i6 (↑i0:Int)),(22,bo false),(23,bo false),(24,AV.int IntKind.u8 n12),(25,bo true),(26,bo true),(27,AV.int IntKind.u8 n12),(28,bo true),(29,bo true),(30,bo false),(31,bo false),(34,bo false),(35,bo false),(36,bo false),(37,i6 (w6 ((↑i0:Int) + 1)))] [],around_sound (ans:=[(1,Ans.b true),(9,Ans.v (AV.int IntKind.u8 n12)),(13,Ans.b true),(18,Ans.b false),(25,Ans.b false),(31,Ans.b true),(37,Ans.b true)]) (by kernel_rfl) (ai h0 (ai h1 (ai h2 (ai h3 (ai h4 (ai h5 (ai h6 trivial))))))),by unfold f66_F0; rw [e0]; show _=_; kernel_rfl⟩
def f66_S2 (s0:ByteArray)(i0:Nat)(n12:Int):St :=
  stOf 40 [37] [(0,st s0),(2,bo false),(3,i6 (↑i0:Int)),(4,AV.int IntKind.u8 n12),(5,st s0),(6,i6 (↑(ByteArray.size s0):Int)),(7,i6 (↑i0:Int)),(8,bo true),(9,i6 (↑i0:Int)),(10,st s0),(11,i6 (↑i0:Int)),(12,AV.int IntKind.u8 n12),(13,AV.int IntKind.u8 n12),(14,bo true),(15,bo true),(16,AV.int IntKind.u8 n12),(17,bo false),(18,bo false),(19,bo true),(20,bo true),(21,i6 (↑i0:Int)),(22,bo false),(23,bo false),(24,AV.int IntKind.u8 n12),(25,bo true),(26,bo true),(27,AV.int IntKind.u8 n12),(28,bo false),(29,bo false),(30,bo true),(31,bo true),(32,AV.int IntKind.u8 n12),(33,bo true),(34,bo true),(35,bo true),(36,bo true)] []
theorem f66_r0_ttfftft (s0:ByteArray)(X:Ext)(call:Caller)(lf i0:Nat)(n12:Int)
 (h0:decide ((↑i0:Int)<(↑(ByteArray.size s0):Int))=true)
 (h1:kpq [] (indexv Tryd.prog 9 (st s0) (i6 (↑i0:Int))) (AV.int IntKind.u8 n12))
 (h2:decide (n12 ≥ 97)=true)
 (h3:decide (n12 ≤ 122)=false)
 (h4:((↑i0:Int) == 0)=false)
 (h5:decide (n12 ≥ 48)=true)
 (h6:decide (n12 ≤ 57)=false)
 (h7:(n12 != 45)=true):vexec Tryd.prog X call lf 0 noFg (loopN Tryd.f66 0) (f66_F0 s0 i0)=some (Ex.ret,(f66_S2 s0 i0 n12)) :=
  around_sound (ans:=[(1,Ans.b true),(9,Ans.v (AV.int IntKind.u8 n12)),(13,Ans.b true),(18,Ans.b false),(25,Ans.b false),(31,Ans.b true),(37,Ans.b false),(47,Ans.b true)]) (by kernel_rfl) (ai h0 (ai h1 (ai h2 (ai h3 (ai h4 (ai h5 (ai h6 (ai h7 trivial))))))))
theorem f66_plttfftft (s0:ByteArray)(X:Ext)(call:Caller)(lf i0:Nat)(n12:Int)
 (h0:vexec Tryd.prog X call lf 0 noFg (Code.loop (loopN Tryd.f66 0)) (f66_S0 s0)=some (Ex.ret,(f66_S2 s0 i0 n12))):vbody Tryd.prog X call lf noFg Tryd.f66 (codeOf Tryd.f66) [st s0] [] 0=some (bo false,[]) :=
  along_sound (ans:=[(6,Ans.l Ex.ret (f66_S2 s0 i0 n12))]) (by kernel_rfl) (ai h0 trivial)
theorem f66_s0_ttfftff (s0:ByteArray)(X:Ext)(call:Caller)(lf i0:Nat)(n12:Int)
 (h0:decide ((↑i0:Int)<(↑(ByteArray.size s0):Int))=true)
 (h1:kpq [] (indexv Tryd.prog 9 (st s0) (i6 (↑i0:Int))) (AV.int IntKind.u8 n12))
 (h2:decide (n12 ≥ 97)=true)
 (h3:decide (n12 ≤ 122)=false)
 (h4:((↑i0:Int) == 0)=false)
 (h5:decide (n12 ≥ 48)=true)
 (h6:decide (n12 ≤ 57)=false)
 (h7:(n12 != 45)=false)
 (e0:(↑(i0 + 1):Int)=w6 ((↑i0:Int) + 1)):∃ Sx,vexec Tryd.prog X call lf 0 noFg (loopN Tryd.f66 0) (f66_F0 s0 i0)=some (Ex.normal,Sx)∧forget f66_D0 Sx=(f66_F0 s0 (i0 + 1)) :=
  ⟨stOf 40 [2] [(0,st s0),(3,i6 (↑i0:Int)),(4,AV.int IntKind.u8 n12),(5,st s0),(6,i6 (↑(ByteArray.size s0):Int)),(7,i6 (w6 ((↑i0:Int) + 1))),(8,bo true),(9,i6 (↑i0:Int)),(10,st s0),(11,i6 (↑i0:Int)),(12,AV.int IntKind.u8 n12),(13,AV.int IntKind.u8 n12),(14,bo true),(15,bo true),(16,AV.int IntKind.u8 n12),(17,bo false),(18,bo false),(19,bo true),(20,bo true),(21,i6 (↑i0:Int)),(22,bo false),(23,bo false),(24,AV.int IntKind.u8 n12),(25,bo true),(26,bo true),(27,AV.int IntKind.u8 n12),(28,bo false),(29,bo false),(30,bo true),(31,bo true),(32,AV.int IntKind.u8 n12),(33,bo false),(34,bo false),(35,bo false),(36,bo false),(37,i6 (w6 ((↑i0:Int) + 1)))] [],around_sound (ans:=[(1,Ans.b true),(9,Ans.v (AV.int IntKind.u8 n12)),(13,Ans.b true),(18,Ans.b false),(25,Ans.b false),(31,Ans.b true),(37,Ans.b false),(47,Ans.b false)]) (by kernel_rfl) (ai h0 (ai h1 (ai h2 (ai h3 (ai h4 (ai h5 (ai h6 (ai h7 trivial)))))))),by unfold f66_F0; rw [e0]; show _=_; kernel_rfl⟩
def f66_S3 (s0:ByteArray)(i0:Nat)(n12:Int):St :=
  stOf 40 [37] [(0,st s0),(2,bo false),(3,i6 (↑i0:Int)),(4,AV.int IntKind.u8 n12),(5,st s0),(6,i6 (↑(ByteArray.size s0):Int)),(7,i6 (↑i0:Int)),(8,bo true),(9,i6 (↑i0:Int)),(10,st s0),(11,i6 (↑i0:Int)),(12,AV.int IntKind.u8 n12),(13,AV.int IntKind.u8 n12),(14,bo true),(15,bo true),(16,AV.int IntKind.u8 n12),(17,bo false),(18,bo false),(19,bo true),(20,bo true),(21,i6 (↑i0:Int)),(22,bo false),(23,bo false),(24,AV.int IntKind.u8 n12),(25,bo false),(26,bo false),(29,bo false),(30,bo true),(31,bo true),(32,AV.int IntKind.u8 n12),(33,bo true),(34,bo true),(35,bo true),(36,bo true)] []
theorem f66_r0_ttffft (s0:ByteArray)(X:Ext)(call:Caller)(lf i0:Nat)(n12:Int)
 (h0:decide ((↑i0:Int)<(↑(ByteArray.size s0):Int))=true)
 (h1:kpq [] (indexv Tryd.prog 9 (st s0) (i6 (↑i0:Int))) (AV.int IntKind.u8 n12))
 (h2:decide (n12 ≥ 97)=true)
 (h3:decide (n12 ≤ 122)=false)
 (h4:((↑i0:Int) == 0)=false)
 (h5:decide (n12 ≥ 48)=false)
 (h6:(n12 != 45)=true):vexec Tryd.prog X call lf 0 noFg (loopN Tryd.f66 0) (f66_F0 s0 i0)=some (Ex.ret,(f66_S3 s0 i0 n12)) :=
  around_sound (ans:=[(1,Ans.b true),(9,Ans.v (AV.int IntKind.u8 n12)),(13,Ans.b true),(18,Ans.b false),(25,Ans.b false),(31,Ans.b false),(45,Ans.b true)]) (by kernel_rfl) (ai h0 (ai h1 (ai h2 (ai h3 (ai h4 (ai h5 (ai h6 trivial)))))))
theorem f66_plttffft (s0:ByteArray)(X:Ext)(call:Caller)(lf i0:Nat)(n12:Int)
 (h0:vexec Tryd.prog X call lf 0 noFg (Code.loop (loopN Tryd.f66 0)) (f66_S0 s0)=some (Ex.ret,(f66_S3 s0 i0 n12))):vbody Tryd.prog X call lf noFg Tryd.f66 (codeOf Tryd.f66) [st s0] [] 0=some (bo false,[]) :=
  along_sound (ans:=[(6,Ans.l Ex.ret (f66_S3 s0 i0 n12))]) (by kernel_rfl) (ai h0 trivial)
theorem f66_s0_ttffff (s0:ByteArray)(X:Ext)(call:Caller)(lf i0:Nat)(n12:Int)
 (h0:decide ((↑i0:Int)<(↑(ByteArray.size s0):Int))=true)
 (h1:kpq [] (indexv Tryd.prog 9 (st s0) (i6 (↑i0:Int))) (AV.int IntKind.u8 n12))
 (h2:decide (n12 ≥ 97)=true)
 (h3:decide (n12 ≤ 122)=false)
 (h4:((↑i0:Int) == 0)=false)
 (h5:decide (n12 ≥ 48)=false)
 (h6:(n12 != 45)=false)
 (e0:(↑(i0 + 1):Int)=w6 ((↑i0:Int) + 1)):∃ Sx,vexec Tryd.prog X call lf 0 noFg (loopN Tryd.f66 0) (f66_F0 s0 i0)=some (Ex.normal,Sx)∧forget f66_D0 Sx=(f66_F0 s0 (i0 + 1)) :=
  ⟨stOf 40 [2] [(0,st s0),(3,i6 (↑i0:Int)),(4,AV.int IntKind.u8 n12),(5,st s0),(6,i6 (↑(ByteArray.size s0):Int)),(7,i6 (w6 ((↑i0:Int) + 1))),(8,bo true),(9,i6 (↑i0:Int)),(10,st s0),(11,i6 (↑i0:Int)),(12,AV.int IntKind.u8 n12),(13,AV.int IntKind.u8 n12),(14,bo true),(15,bo true),(16,AV.int IntKind.u8 n12),(17,bo false),(18,bo false),(19,bo true),(20,bo true),(21,i6 (↑i0:Int)),(22,bo false),(23,bo false),(24,AV.int IntKind.u8 n12),(25,bo false),(26,bo false),(29,bo false),(30,bo true),(31,bo true),(32,AV.int IntKind.u8 n12),(33,bo false),(34,bo false),(35,bo false),(36,bo false),(37,i6 (w6 ((↑i0:Int) + 1)))] [],around_sound (ans:=[(1,Ans.b true),(9,Ans.v (AV.int IntKind.u8 n12)),(13,Ans.b true),(18,Ans.b false),(25,Ans.b false),(31,Ans.b false),(45,Ans.b false)]) (by kernel_rfl) (ai h0 (ai h1 (ai h2 (ai h3 (ai h4 (ai h5 (ai h6 trivial))))))),by unfold f66_F0; rw [e0]; show _=_; kernel_rfl⟩
def f66_S4 (s0:ByteArray)(i0:Nat)(n12:Int):St :=
  stOf 40 [37] [(0,st s0),(2,bo false),(3,i6 (↑i0:Int)),(4,AV.int IntKind.u8 n12),(5,st s0),(6,i6 (↑(ByteArray.size s0):Int)),(7,i6 (↑i0:Int)),(8,bo true),(9,i6 (↑i0:Int)),(10,st s0),(11,i6 (↑i0:Int)),(12,AV.int IntKind.u8 n12),(13,AV.int IntKind.u8 n12),(14,bo false),(15,bo false),(18,bo false),(19,bo true),(20,bo true),(21,i6 (↑i0:Int)),(22,bo true),(23,bo true),(35,bo true),(36,bo true)] []
theorem f66_r0_tft (s0:ByteArray)(X:Ext)(call:Caller)(lf i0:Nat)(n12:Int)
 (h0:decide ((↑i0:Int)<(↑(ByteArray.size s0):Int))=true)
 (h1:kpq [] (indexv Tryd.prog 9 (st s0) (i6 (↑i0:Int))) (AV.int IntKind.u8 n12))
 (h2:decide (n12 ≥ 97)=false)
 (h3:((↑i0:Int) == 0)=true):vexec Tryd.prog X call lf 0 noFg (loopN Tryd.f66 0) (f66_F0 s0 i0)=some (Ex.ret,(f66_S4 s0 i0 n12)) :=
  around_sound (ans:=[(1,Ans.b true),(9,Ans.v (AV.int IntKind.u8 n12)),(13,Ans.b false),(23,Ans.b true)]) (by kernel_rfl) (ai h0 (ai h1 (ai h2 (ai h3 trivial))))
theorem f66_pltft (s0:ByteArray)(X:Ext)(call:Caller)(lf i0:Nat)(n12:Int)
 (h0:vexec Tryd.prog X call lf 0 noFg (Code.loop (loopN Tryd.f66 0)) (f66_S0 s0)=some (Ex.ret,(f66_S4 s0 i0 n12))):vbody Tryd.prog X call lf noFg Tryd.f66 (codeOf Tryd.f66) [st s0] [] 0=some (bo false,[]) :=
  along_sound (ans:=[(6,Ans.l Ex.ret (f66_S4 s0 i0 n12))]) (by kernel_rfl) (ai h0 trivial)
theorem f66_s0_tfftt (s0:ByteArray)(X:Ext)(call:Caller)(lf i0:Nat)(n12:Int)
 (h0:decide ((↑i0:Int)<(↑(ByteArray.size s0):Int))=true)
 (h1:kpq [] (indexv Tryd.prog 9 (st s0) (i6 (↑i0:Int))) (AV.int IntKind.u8 n12))
 (h2:decide (n12 ≥ 97)=false)
 (h3:((↑i0:Int) == 0)=false)
 (h4:decide (n12 ≥ 48)=true)
 (h5:decide (n12 ≤ 57)=true)
 (e0:(↑(i0 + 1):Int)=w6 ((↑i0:Int) + 1)):∃ Sx,vexec Tryd.prog X call lf 0 noFg (loopN Tryd.f66 0) (f66_F0 s0 i0)=some (Ex.normal,Sx)∧forget f66_D0 Sx=(f66_F0 s0 (i0 + 1)) :=
  ⟨stOf 40 [2] [(0,st s0),(3,i6 (↑i0:Int)),(4,AV.int IntKind.u8 n12),(5,st s0),(6,i6 (↑(ByteArray.size s0):Int)),(7,i6 (w6 ((↑i0:Int) + 1))),(8,bo true),(9,i6 (↑i0:Int)),(10,st s0),(11,i6 (↑i0:Int)),(12,AV.int IntKind.u8 n12),(13,AV.int IntKind.u8 n12),(14,bo false),(15,bo false),(18,bo false),(19,bo true),(20,bo true),(21,i6 (↑i0:Int)),(22,bo false),(23,bo false),(24,AV.int IntKind.u8 n12),(25,bo true),(26,bo true),(27,AV.int IntKind.u8 n12),(28,bo true),(29,bo true),(30,bo false),(31,bo false),(34,bo false),(35,bo false),(36,bo false),(37,i6 (w6 ((↑i0:Int) + 1)))] [],around_sound (ans:=[(1,Ans.b true),(9,Ans.v (AV.int IntKind.u8 n12)),(13,Ans.b false),(23,Ans.b false),(29,Ans.b true),(35,Ans.b true)]) (by kernel_rfl) (ai h0 (ai h1 (ai h2 (ai h3 (ai h4 (ai h5 trivial)))))),by unfold f66_F0; rw [e0]; show _=_; kernel_rfl⟩
def f66_S5 (s0:ByteArray)(i0:Nat)(n12:Int):St :=
  stOf 40 [37] [(0,st s0),(2,bo false),(3,i6 (↑i0:Int)),(4,AV.int IntKind.u8 n12),(5,st s0),(6,i6 (↑(ByteArray.size s0):Int)),(7,i6 (↑i0:Int)),(8,bo true),(9,i6 (↑i0:Int)),(10,st s0),(11,i6 (↑i0:Int)),(12,AV.int IntKind.u8 n12),(13,AV.int IntKind.u8 n12),(14,bo false),(15,bo false),(18,bo false),(19,bo true),(20,bo true),(21,i6 (↑i0:Int)),(22,bo false),(23,bo false),(24,AV.int IntKind.u8 n12),(25,bo true),(26,bo true),(27,AV.int IntKind.u8 n12),(28,bo false),(29,bo false),(30,bo true),(31,bo true),(32,AV.int IntKind.u8 n12),(33,bo true),(34,bo true),(35,bo true),(36,bo true)] []
theorem f66_r0_tfftft (s0:ByteArray)(X:Ext)(call:Caller)(lf i0:Nat)(n12:Int)
 (h0:decide ((↑i0:Int)<(↑(ByteArray.size s0):Int))=true)
 (h1:kpq [] (indexv Tryd.prog 9 (st s0) (i6 (↑i0:Int))) (AV.int IntKind.u8 n12))
 (h2:decide (n12 ≥ 97)=false)
 (h3:((↑i0:Int) == 0)=false)
 (h4:decide (n12 ≥ 48)=true)
 (h5:decide (n12 ≤ 57)=false)
 (h6:(n12 != 45)=true):vexec Tryd.prog X call lf 0 noFg (loopN Tryd.f66 0) (f66_F0 s0 i0)=some (Ex.ret,(f66_S5 s0 i0 n12)) :=
  around_sound (ans:=[(1,Ans.b true),(9,Ans.v (AV.int IntKind.u8 n12)),(13,Ans.b false),(23,Ans.b false),(29,Ans.b true),(35,Ans.b false),(45,Ans.b true)]) (by kernel_rfl) (ai h0 (ai h1 (ai h2 (ai h3 (ai h4 (ai h5 (ai h6 trivial)))))))
theorem f66_pltfftft (s0:ByteArray)(X:Ext)(call:Caller)(lf i0:Nat)(n12:Int)
 (h0:vexec Tryd.prog X call lf 0 noFg (Code.loop (loopN Tryd.f66 0)) (f66_S0 s0)=some (Ex.ret,(f66_S5 s0 i0 n12))):vbody Tryd.prog X call lf noFg Tryd.f66 (codeOf Tryd.f66) [st s0] [] 0=some (bo false,[]) :=
  along_sound (ans:=[(6,Ans.l Ex.ret (f66_S5 s0 i0 n12))]) (by kernel_rfl) (ai h0 trivial)
theorem f66_s0_tfftff (s0:ByteArray)(X:Ext)(call:Caller)(lf i0:Nat)(n12:Int)
 (h0:decide ((↑i0:Int)<(↑(ByteArray.size s0):Int))=true)
 (h1:kpq [] (indexv Tryd.prog 9 (st s0) (i6 (↑i0:Int))) (AV.int IntKind.u8 n12))
 (h2:decide (n12 ≥ 97)=false)
 (h3:((↑i0:Int) == 0)=false)
 (h4:decide (n12 ≥ 48)=true)
 (h5:decide (n12 ≤ 57)=false)
 (h6:(n12 != 45)=false)
 (e0:(↑(i0 + 1):Int)=w6 ((↑i0:Int) + 1)):∃ Sx,vexec Tryd.prog X call lf 0 noFg (loopN Tryd.f66 0) (f66_F0 s0 i0)=some (Ex.normal,Sx)∧forget f66_D0 Sx=(f66_F0 s0 (i0 + 1)) :=
  ⟨stOf 40 [2] [(0,st s0),(3,i6 (↑i0:Int)),(4,AV.int IntKind.u8 n12),(5,st s0),(6,i6 (↑(ByteArray.size s0):Int)),(7,i6 (w6 ((↑i0:Int) + 1))),(8,bo true),(9,i6 (↑i0:Int)),(10,st s0),(11,i6 (↑i0:Int)),(12,AV.int IntKind.u8 n12),(13,AV.int IntKind.u8 n12),(14,bo false),(15,bo false),(18,bo false),(19,bo true),(20,bo true),(21,i6 (↑i0:Int)),(22,bo false),(23,bo false),(24,AV.int IntKind.u8 n12),(25,bo true),(26,bo true),(27,AV.int IntKind.u8 n12),(28,bo false),(29,bo false),(30,bo true),(31,bo true),(32,AV.int IntKind.u8 n12),(33,bo false),(34,bo false),(35,bo false),(36,bo false),(37,i6 (w6 ((↑i0:Int) + 1)))] [],around_sound (ans:=[(1,Ans.b true),(9,Ans.v (AV.int IntKind.u8 n12)),(13,Ans.b false),(23,Ans.b false),(29,Ans.b true),(35,Ans.b false),(45,Ans.b false)]) (by kernel_rfl) (ai h0 (ai h1 (ai h2 (ai h3 (ai h4 (ai h5 (ai h6 trivial))))))),by unfold f66_F0; rw [e0]; show _=_; kernel_rfl⟩
def f66_S6 (s0:ByteArray)(i0:Nat)(n12:Int):St :=
  stOf 40 [37] [(0,st s0),(2,bo false),(3,i6 (↑i0:Int)),(4,AV.int IntKind.u8 n12),(5,st s0),(6,i6 (↑(ByteArray.size s0):Int)),(7,i6 (↑i0:Int)),(8,bo true),(9,i6 (↑i0:Int)),(10,st s0),(11,i6 (↑i0:Int)),(12,AV.int IntKind.u8 n12),(13,AV.int IntKind.u8 n12),(14,bo false),(15,bo false),(18,bo false),(19,bo true),(20,bo true),(21,i6 (↑i0:Int)),(22,bo false),(23,bo false),(24,AV.int IntKind.u8 n12),(25,bo false),(26,bo false),(29,bo false),(30,bo true),(31,bo true),(32,AV.int IntKind.u8 n12),(33,bo true),(34,bo true),(35,bo true),(36,bo true)] []
theorem f66_r0_tffft (s0:ByteArray)(X:Ext)(call:Caller)(lf i0:Nat)(n12:Int)
 (h0:decide ((↑i0:Int)<(↑(ByteArray.size s0):Int))=true)
 (h1:kpq [] (indexv Tryd.prog 9 (st s0) (i6 (↑i0:Int))) (AV.int IntKind.u8 n12))
 (h2:decide (n12 ≥ 97)=false)
 (h3:((↑i0:Int) == 0)=false)
 (h4:decide (n12 ≥ 48)=false)
 (h5:(n12 != 45)=true):vexec Tryd.prog X call lf 0 noFg (loopN Tryd.f66 0) (f66_F0 s0 i0)=some (Ex.ret,(f66_S6 s0 i0 n12)) :=
  around_sound (ans:=[(1,Ans.b true),(9,Ans.v (AV.int IntKind.u8 n12)),(13,Ans.b false),(23,Ans.b false),(29,Ans.b false),(43,Ans.b true)]) (by kernel_rfl) (ai h0 (ai h1 (ai h2 (ai h3 (ai h4 (ai h5 trivial))))))
theorem f66_pltffft (s0:ByteArray)(X:Ext)(call:Caller)(lf i0:Nat)(n12:Int)
 (h0:vexec Tryd.prog X call lf 0 noFg (Code.loop (loopN Tryd.f66 0)) (f66_S0 s0)=some (Ex.ret,(f66_S6 s0 i0 n12))):vbody Tryd.prog X call lf noFg Tryd.f66 (codeOf Tryd.f66) [st s0] [] 0=some (bo false,[]) :=
  along_sound (ans:=[(6,Ans.l Ex.ret (f66_S6 s0 i0 n12))]) (by kernel_rfl) (ai h0 trivial)
theorem f66_s0_tffff (s0:ByteArray)(X:Ext)(call:Caller)(lf i0:Nat)(n12:Int)
 (h0:decide ((↑i0:Int)<(↑(ByteArray.size s0):Int))=true)
 (h1:kpq [] (indexv Tryd.prog 9 (st s0) (i6 (↑i0:Int))) (AV.int IntKind.u8 n12))
 (h2:decide (n12 ≥ 97)=false)
 (h3:((↑i0:Int) == 0)=false)
 (h4:decide (n12 ≥ 48)=false)
 (h5:(n12 != 45)=false)
 (e0:(↑(i0 + 1):Int)=w6 ((↑i0:Int) + 1)):∃ Sx,vexec Tryd.prog X call lf 0 noFg (loopN Tryd.f66 0) (f66_F0 s0 i0)=some (Ex.normal,Sx)∧forget f66_D0 Sx=(f66_F0 s0 (i0 + 1)) :=
  ⟨stOf 40 [2] [(0,st s0),(3,i6 (↑i0:Int)),(4,AV.int IntKind.u8 n12),(5,st s0),(6,i6 (↑(ByteArray.size s0):Int)),(7,i6 (w6 ((↑i0:Int) + 1))),(8,bo true),(9,i6 (↑i0:Int)),(10,st s0),(11,i6 (↑i0:Int)),(12,AV.int IntKind.u8 n12),(13,AV.int IntKind.u8 n12),(14,bo false),(15,bo false),(18,bo false),(19,bo true),(20,bo true),(21,i6 (↑i0:Int)),(22,bo false),(23,bo false),(24,AV.int IntKind.u8 n12),(25,bo false),(26,bo false),(29,bo false),(30,bo true),(31,bo true),(32,AV.int IntKind.u8 n12),(33,bo false),(34,bo false),(35,bo false),(36,bo false),(37,i6 (w6 ((↑i0:Int) + 1)))] [],around_sound (ans:=[(1,Ans.b true),(9,Ans.v (AV.int IntKind.u8 n12)),(13,Ans.b false),(23,Ans.b false),(29,Ans.b false),(43,Ans.b false)]) (by kernel_rfl) (ai h0 (ai h1 (ai h2 (ai h3 (ai h4 (ai h5 trivial)))))),by unfold f66_F0; rw [e0]; show _=_; kernel_rfl⟩
def f66_S7 (s0:ByteArray)(i0:Nat):St :=
  stOf 40 [2,3,4,9,10,11,12,13,14,15,16,17,18,19,20,21,22,23,24,25,26,27,28,29,30,31,32,33,34,35,36,37] [(0,st s0),(5,st s0),(6,i6 (↑(ByteArray.size s0):Int)),(7,i6 (↑i0:Int)),(8,bo false)] []
theorem f66_r0_f (s0:ByteArray)(X:Ext)(call:Caller)(lf i0:Nat)
 (h0:decide ((↑i0:Int)<(↑(ByteArray.size s0):Int))=false):vexec Tryd.prog X call lf 0 noFg (loopN Tryd.f66 0) (f66_F0 s0 i0)=some (Ex.exit 0,(f66_S7 s0 i0)) :=
  around_sound (ans:=[(1,Ans.b false)]) (by kernel_rfl) (ai h0 trivial)
theorem f66_plft (s0:ByteArray)(X:Ext)(call:Caller)(lf i0:Nat)
 (h0:vexec Tryd.prog X call lf 0 noFg (Code.loop (loopN Tryd.f66 0)) (f66_S0 s0)=some (Ex.exit 0,(f66_S7 s0 i0)))
 (h1:(!ByteArray.toList s0 == ByteArray.toList (ByteArray.mk #[]))=true):vbody Tryd.prog X call lf noFg Tryd.f66 (codeOf Tryd.f66) [st s0] [] 0=some (bo true,[]) :=
  along_sound (ans:=[(6,Ans.l (Ex.exit 0) (f66_S7 s0 i0)),(9,Ans.b true)]) (by kernel_rfl) (ai h0 (ai h1 trivial))
theorem f66_plff (s0:ByteArray)(X:Ext)(call:Caller)(lf i0:Nat)
 (h0:vexec Tryd.prog X call lf 0 noFg (Code.loop (loopN Tryd.f66 0)) (f66_S0 s0)=some (Ex.exit 0,(f66_S7 s0 i0)))
 (h1:(!ByteArray.toList s0 == ByteArray.toList (ByteArray.mk #[]))=false):vbody Tryd.prog X call lf noFg Tryd.f66 (codeOf Tryd.f66) [st s0] [] 0=some (bo false,[]) :=
  along_sound (ans:=[(6,Ans.l (Ex.exit 0) (f66_S7 s0 i0)),(9,Ans.b false)]) (by kernel_rfl) (ai h0 (ai h1 trivial))
def f66_o0 (s0:ByteArray)(i0:Nat)(n12:Int):Nat :=
  (match decide ((↑i0:Int)<(↑(ByteArray.size s0):Int)) with
  | true=>(match decide (n12 ≥ 97) with
    | true=>(match decide (n12 ≤ 122) with
      | true=>0
      | false=>(match ((↑i0:Int) == 0) with
        | true=>1
        | false=>(match decide (n12 ≥ 48) with
          | true=>(match decide (n12 ≤ 57) with
            | true=>0
            | false=>(match (n12 != 45) with
              | true=>2
              | false=>0))
          | false=>(match (n12 != 45) with
            | true=>3
            | false=>0))))
    | false=>(match ((↑i0:Int) == 0) with
      | true=>4
      | false=>(match decide (n12 ≥ 48) with
        | true=>(match decide (n12 ≤ 57) with
          | true=>0
          | false=>(match (n12 != 45) with
            | true=>5
            | false=>0))
        | false=>(match (n12 != 45) with
          | true=>6
          | false=>0))))
  | false=>7)
theorem f66_B0 (s0:ByteArray)(X:Ext)(call:Caller)(lf i0:Nat)(n12:Int)
 (g0:decide ((↑i0:Int)<(↑(ByteArray.size s0):Int))=true→kpq [] (indexv Tryd.prog 9 (st s0) (i6 (↑i0:Int))) (AV.int IntKind.u8 n12))
 (e0:decide ((↑i0:Int)<(↑(ByteArray.size s0):Int))=true→(↑(i0 + 1):Int)=w6 ((↑i0:Int) + 1)) :
    (f66_o0 s0 i0 n12=0→∃ Sx,vexec Tryd.prog X call lf 0 noFg (loopN Tryd.f66 0) (f66_F0 s0 i0)=some (Ex.normal,Sx)∧forget f66_D0 Sx=(f66_F0 s0 (i0 + 1)))∧(f66_o0 s0 i0 n12=1→vexec Tryd.prog X call lf 0 noFg (loopN Tryd.f66 0) (f66_F0 s0 i0)=some (Ex.ret,(f66_S1 s0 i0 n12)))∧(f66_o0 s0 i0 n12=2→vexec Tryd.prog X call lf 0 noFg (loopN Tryd.f66 0) (f66_F0 s0 i0)=some (Ex.ret,(f66_S2 s0 i0 n12)))∧(f66_o0 s0 i0 n12=3→vexec Tryd.prog X call lf 0 noFg (loopN Tryd.f66 0) (f66_F0 s0 i0)=some (Ex.ret,(f66_S3 s0 i0 n12)))∧(f66_o0 s0 i0 n12=4→vexec Tryd.prog X call lf 0 noFg (loopN Tryd.f66 0) (f66_F0 s0 i0)=some (Ex.ret,(f66_S4 s0 i0 n12)))∧(f66_o0 s0 i0 n12=5→vexec Tryd.prog X call lf 0 noFg (loopN Tryd.f66 0) (f66_F0 s0 i0)=some (Ex.ret,(f66_S5 s0 i0 n12)))∧(f66_o0 s0 i0 n12=6→vexec Tryd.prog X call lf 0 noFg (loopN Tryd.f66 0) (f66_F0 s0 i0)=some (Ex.ret,(f66_S6 s0 i0 n12)))∧(f66_o0 s0 i0 n12=7→vexec Tryd.prog X call lf 0 noFg (loopN Tryd.f66 0) (f66_F0 s0 i0)=some (Ex.exit 0,(f66_S7 s0 i0))):=by
  unfold f66_o0
  cases c0:decide ((↑i0:Int)<(↑(ByteArray.size s0):Int)) with
  | true =>
    cases c1:decide (n12 ≥ 97) with
    | true =>
      cases c2:decide (n12 ≤ 122) with
      | true =>
        exact ⟨fun _=>f66_s0_ttt s0 X call lf i0 n12 c0 (g0 c0) c1 c2 (e0 c0),fun h=>nq h,fun h=>nq h,fun h=>nq h,fun h=>nq h,fun h=>nq h,fun h=>nq h,fun h=>nq h⟩
      | false =>
        cases c3:((↑i0:Int) == 0) with
        | true =>
          exact ⟨fun h=>nq h,fun _=>f66_r0_ttft s0 X call lf i0 n12 c0 (g0 c0) c1 c2 c3,fun h=>nq h,fun h=>nq h,fun h=>nq h,fun h=>nq h,fun h=>nq h,fun h=>nq h⟩
        | false =>
          cases c4:decide (n12 ≥ 48) with
          | true =>
            cases c5:decide (n12 ≤ 57) with
            | true =>
              exact ⟨fun _=>f66_s0_ttfftt s0 X call lf i0 n12 c0 (g0 c0) c1 c2 c3 c4 c5 (e0 c0),fun h=>nq h,fun h=>nq h,fun h=>nq h,fun h=>nq h,fun h=>nq h,fun h=>nq h,fun h=>nq h⟩
            | false =>
              cases c6:(n12 != 45) with
              | true =>
                exact ⟨fun h=>nq h,fun h=>nq h,fun _=>f66_r0_ttfftft s0 X call lf i0 n12 c0 (g0 c0) c1 c2 c3 c4 c5 c6,fun h=>nq h,fun h=>nq h,fun h=>nq h,fun h=>nq h,fun h=>nq h⟩
              | false =>
                exact ⟨fun _=>f66_s0_ttfftff s0 X call lf i0 n12 c0 (g0 c0) c1 c2 c3 c4 c5 c6 (e0 c0),fun h=>nq h,fun h=>nq h,fun h=>nq h,fun h=>nq h,fun h=>nq h,fun h=>nq h,fun h=>nq h⟩
          | false =>
            cases c5:(n12 != 45) with
            | true =>
              exact ⟨fun h=>nq h,fun h=>nq h,fun h=>nq h,fun _=>f66_r0_ttffft s0 X call lf i0 n12 c0 (g0 c0) c1 c2 c3 c4 c5,fun h=>nq h,fun h=>nq h,fun h=>nq h,fun h=>nq h⟩
            | false =>
              exact ⟨fun _=>f66_s0_ttffff s0 X call lf i0 n12 c0 (g0 c0) c1 c2 c3 c4 c5 (e0 c0),fun h=>nq h,fun h=>nq h,fun h=>nq h,fun h=>nq h,fun h=>nq h,fun h=>nq h,fun h=>nq h⟩
    | false =>
      cases c2:((↑i0:Int) == 0) with
      | true =>
        exact ⟨fun h=>nq h,fun h=>nq h,fun h=>nq h,fun h=>nq h,fun _=>f66_r0_tft s0 X call lf i0 n12 c0 (g0 c0) c1 c2,fun h=>nq h,fun h=>nq h,fun h=>nq h⟩
      | false =>
        cases c3:decide (n12 ≥ 48) with
        | true =>
          cases c4:decide (n12 ≤ 57) with
          | true =>
            exact ⟨fun _=>f66_s0_tfftt s0 X call lf i0 n12 c0 (g0 c0) c1 c2 c3 c4 (e0 c0),fun h=>nq h,fun h=>nq h,fun h=>nq h,fun h=>nq h,fun h=>nq h,fun h=>nq h,fun h=>nq h⟩
          | false =>
            cases c5:(n12 != 45) with
            | true =>
              exact ⟨fun h=>nq h,fun h=>nq h,fun h=>nq h,fun h=>nq h,fun h=>nq h,fun _=>f66_r0_tfftft s0 X call lf i0 n12 c0 (g0 c0) c1 c2 c3 c4 c5,fun h=>nq h,fun h=>nq h⟩
            | false =>
              exact ⟨fun _=>f66_s0_tfftff s0 X call lf i0 n12 c0 (g0 c0) c1 c2 c3 c4 c5 (e0 c0),fun h=>nq h,fun h=>nq h,fun h=>nq h,fun h=>nq h,fun h=>nq h,fun h=>nq h,fun h=>nq h⟩
        | false =>
          cases c4:(n12 != 45) with
          | true =>
            exact ⟨fun h=>nq h,fun h=>nq h,fun h=>nq h,fun h=>nq h,fun h=>nq h,fun h=>nq h,fun _=>f66_r0_tffft s0 X call lf i0 n12 c0 (g0 c0) c1 c2 c3 c4,fun h=>nq h⟩
          | false =>
            exact ⟨fun _=>f66_s0_tffff s0 X call lf i0 n12 c0 (g0 c0) c1 c2 c3 c4 (e0 c0),fun h=>nq h,fun h=>nq h,fun h=>nq h,fun h=>nq h,fun h=>nq h,fun h=>nq h,fun h=>nq h⟩
  | false =>
    exact ⟨fun h=>nq h,fun h=>nq h,fun h=>nq h,fun h=>nq h,fun h=>nq h,fun h=>nq h,fun h=>nq h,fun _=>f66_r0_f s0 X call lf i0 c0⟩
theorem f66_X0 (s0:ByteArray)(X:Ext)(call:Caller)(lf i0:Nat)(n12:Int)
 (g0:decide ((↑i0:Int)<(↑(ByteArray.size s0):Int))=true→kpq [] (indexv Tryd.prog 9 (st s0) (i6 (↑i0:Int))) (AV.int IntKind.u8 n12)) :
    (f66_o0 s0 i0 n12=1→vexec Tryd.prog X call lf 0 noFg (loopN Tryd.f66 0) (f66_F0 s0 i0)=some (Ex.ret,(f66_S1 s0 i0 n12)))∧(f66_o0 s0 i0 n12=2→vexec Tryd.prog X call lf 0 noFg (loopN Tryd.f66 0) (f66_F0 s0 i0)=some (Ex.ret,(f66_S2 s0 i0 n12)))∧(f66_o0 s0 i0 n12=3→vexec Tryd.prog X call lf 0 noFg (loopN Tryd.f66 0) (f66_F0 s0 i0)=some (Ex.ret,(f66_S3 s0 i0 n12)))∧(f66_o0 s0 i0 n12=4→vexec Tryd.prog X call lf 0 noFg (loopN Tryd.f66 0) (f66_F0 s0 i0)=some (Ex.ret,(f66_S4 s0 i0 n12)))∧(f66_o0 s0 i0 n12=5→vexec Tryd.prog X call lf 0 noFg (loopN Tryd.f66 0) (f66_F0 s0 i0)=some (Ex.ret,(f66_S5 s0 i0 n12)))∧(f66_o0 s0 i0 n12=6→vexec Tryd.prog X call lf 0 noFg (loopN Tryd.f66 0) (f66_F0 s0 i0)=some (Ex.ret,(f66_S6 s0 i0 n12)))∧(f66_o0 s0 i0 n12=7→vexec Tryd.prog X call lf 0 noFg (loopN Tryd.f66 0) (f66_F0 s0 i0)=some (Ex.exit 0,(f66_S7 s0 i0))):=by
  unfold f66_o0
  cases c0:decide ((↑i0:Int)<(↑(ByteArray.size s0):Int)) with
  | true =>
    cases c1:decide (n12 ≥ 97) with
    | true =>
      cases c2:decide (n12 ≤ 122) with
      | true =>
        exact ⟨fun h=>nq h,fun h=>nq h,fun h=>nq h,fun h=>nq h,fun h=>nq h,fun h=>nq h,fun h=>nq h⟩
      | false =>
        cases c3:((↑i0:Int) == 0) with
        | true =>
          exact ⟨fun _=>f66_r0_ttft s0 X call lf i0 n12 c0 (g0 c0) c1 c2 c3,fun h=>nq h,fun h=>nq h,fun h=>nq h,fun h=>nq h,fun h=>nq h,fun h=>nq h⟩
        | false =>
          cases c4:decide (n12 ≥ 48) with
          | true =>
            cases c5:decide (n12 ≤ 57) with
            | true =>
              exact ⟨fun h=>nq h,fun h=>nq h,fun h=>nq h,fun h=>nq h,fun h=>nq h,fun h=>nq h,fun h=>nq h⟩
            | false =>
              cases c6:(n12 != 45) with
              | true =>
                exact ⟨fun h=>nq h,fun _=>f66_r0_ttfftft s0 X call lf i0 n12 c0 (g0 c0) c1 c2 c3 c4 c5 c6,fun h=>nq h,fun h=>nq h,fun h=>nq h,fun h=>nq h,fun h=>nq h⟩
              | false =>
                exact ⟨fun h=>nq h,fun h=>nq h,fun h=>nq h,fun h=>nq h,fun h=>nq h,fun h=>nq h,fun h=>nq h⟩
          | false =>
            cases c5:(n12 != 45) with
            | true =>
              exact ⟨fun h=>nq h,fun h=>nq h,fun _=>f66_r0_ttffft s0 X call lf i0 n12 c0 (g0 c0) c1 c2 c3 c4 c5,fun h=>nq h,fun h=>nq h,fun h=>nq h,fun h=>nq h⟩
            | false =>
              exact ⟨fun h=>nq h,fun h=>nq h,fun h=>nq h,fun h=>nq h,fun h=>nq h,fun h=>nq h,fun h=>nq h⟩
    | false =>
      cases c2:((↑i0:Int) == 0) with
      | true =>
        exact ⟨fun h=>nq h,fun h=>nq h,fun h=>nq h,fun _=>f66_r0_tft s0 X call lf i0 n12 c0 (g0 c0) c1 c2,fun h=>nq h,fun h=>nq h,fun h=>nq h⟩
      | false =>
        cases c3:decide (n12 ≥ 48) with
        | true =>
          cases c4:decide (n12 ≤ 57) with
          | true =>
            exact ⟨fun h=>nq h,fun h=>nq h,fun h=>nq h,fun h=>nq h,fun h=>nq h,fun h=>nq h,fun h=>nq h⟩
          | false =>
            cases c5:(n12 != 45) with
            | true =>
              exact ⟨fun h=>nq h,fun h=>nq h,fun h=>nq h,fun h=>nq h,fun _=>f66_r0_tfftft s0 X call lf i0 n12 c0 (g0 c0) c1 c2 c3 c4 c5,fun h=>nq h,fun h=>nq h⟩
            | false =>
              exact ⟨fun h=>nq h,fun h=>nq h,fun h=>nq h,fun h=>nq h,fun h=>nq h,fun h=>nq h,fun h=>nq h⟩
        | false =>
          cases c4:(n12 != 45) with
          | true =>
            exact ⟨fun h=>nq h,fun h=>nq h,fun h=>nq h,fun h=>nq h,fun h=>nq h,fun _=>f66_r0_tffft s0 X call lf i0 n12 c0 (g0 c0) c1 c2 c3 c4,fun h=>nq h⟩
          | false =>
            exact ⟨fun h=>nq h,fun h=>nq h,fun h=>nq h,fun h=>nq h,fun h=>nq h,fun h=>nq h,fun h=>nq h⟩
  | false =>
    exact ⟨fun h=>nq h,fun h=>nq h,fun h=>nq h,fun h=>nq h,fun h=>nq h,fun h=>nq h,fun _=>f66_r0_f s0 X call lf i0 c0⟩
theorem f66_M (s0:ByteArray)(X:Ext)(call:Caller)(lf n:Nat)(n12:Nat→Int)
 (hn:n<lf)
 (g0:∀ i0,i0 ≤ n→decide ((↑i0:Int)<(↑(ByteArray.size s0):Int))=true→kpq [] (indexv Tryd.prog 9 (st s0) (i6 (↑i0:Int))) (AV.int IntKind.u8 (n12 i0)))
 (e0:∀ i0,i0<n→decide ((↑i0:Int)<(↑(ByteArray.size s0):Int))=true→(↑(i0 + 1):Int)=w6 ((↑i0:Int) + 1))
 (hz:∀ j,j<n→f66_o0 s0 j (n12 j)=0) :
    (f66_o0 s0 n (n12 n)=1→vbody Tryd.prog X call lf noFg Tryd.f66 (codeOf Tryd.f66) [st s0] [] 0=some (bo false,[]))∧(f66_o0 s0 n (n12 n)=2→vbody Tryd.prog X call lf noFg Tryd.f66 (codeOf Tryd.f66) [st s0] [] 0=some (bo false,[]))∧(f66_o0 s0 n (n12 n)=3→vbody Tryd.prog X call lf noFg Tryd.f66 (codeOf Tryd.f66) [st s0] [] 0=some (bo false,[]))∧(f66_o0 s0 n (n12 n)=4→vbody Tryd.prog X call lf noFg Tryd.f66 (codeOf Tryd.f66) [st s0] [] 0=some (bo false,[]))∧(f66_o0 s0 n (n12 n)=5→vbody Tryd.prog X call lf noFg Tryd.f66 (codeOf Tryd.f66) [st s0] [] 0=some (bo false,[]))∧(f66_o0 s0 n (n12 n)=6→vbody Tryd.prog X call lf noFg Tryd.f66 (codeOf Tryd.f66) [st s0] [] 0=some (bo false,[]))∧(f66_o0 s0 n (n12 n)=7→(!ByteArray.toList s0 == ByteArray.toList (ByteArray.mk #[]))=true→vbody Tryd.prog X call lf noFg Tryd.f66 (codeOf Tryd.f66) [st s0] [] 0=some (bo true,[]))∧(f66_o0 s0 n (n12 n)=7→(!ByteArray.toList s0 == ByteArray.toList (ByteArray.mk #[]))=false→vbody Tryd.prog X call lf noFg Tryd.f66 (codeOf Tryd.f66) [st s0] [] 0=some (bo false,[])):=by
  have key:∀ j,j<n→_:=fun j hj=>(f66_B0 s0 X call lf j (n12 j) (g0 j (Nat.le_of_lt hj)) (e0 j hj)).1 (hz j hj)
  have kn:=f66_X0 s0 X call lf n (n12 n) (g0 n (Nat.le_refl n))
  exact ⟨fun hk=>f66_plttft s0 X call lf n (n12 n) (f66_L0 s0 X call lf n _ _ hn key (kn.1 hk) (by simp)),
    fun hk=>f66_plttfftft s0 X call lf n (n12 n) (f66_L0 s0 X call lf n _ _ hn key (kn.2.1 hk) (by simp)),
    fun hk=>f66_plttffft s0 X call lf n (n12 n) (f66_L0 s0 X call lf n _ _ hn key (kn.2.2.1 hk) (by simp)),
    fun hk=>f66_pltft s0 X call lf n (n12 n) (f66_L0 s0 X call lf n _ _ hn key (kn.2.2.2.1 hk) (by simp)),
    fun hk=>f66_pltfftft s0 X call lf n (n12 n) (f66_L0 s0 X call lf n _ _ hn key (kn.2.2.2.2.1 hk) (by simp)),
    fun hk=>f66_pltffft s0 X call lf n (n12 n) (f66_L0 s0 X call lf n _ _ hn key (kn.2.2.2.2.2.1 hk) (by simp)),
    fun hk q0=>f66_plft s0 X call lf n (f66_L0 s0 X call lf n _ _ hn key (kn.2.2.2.2.2.2 hk) (by simp)) q0,
    fun hk q0=>f66_plff s0 X call lf n (f66_L0 s0 X call lf n _ _ hn key (kn.2.2.2.2.2.2 hk) (by simp)) q0⟩
def f34_F0 (s0:ByteArray)(i0:Nat):St :=
  stOf 48 [2,4,5,6,7,8,9,10,11,12,13,14,15,16,17,18,19,20,21,22,23,24,25,26,27,28,29,30,31,32,33,34,35,36,37,38,39,40,41,42,43,44] [(0,st s0),(3,i6 (↑i0:Int))] []
abbrev f34_D0:List Nat:=[10,9,2,44,43,42,41,40,39,38,37,36,35,34,33,32,31,30,29,28,27,26,25,24,23,22,21,4,20,19,18,17,16,15,14,13,12,11,8,7,6,5]
theorem f34_L0 (s0:ByteArray)(X:Ext)(call:Caller)(lf n:Nat)(x:Ex) (S' : St)
 (hn:n<lf)
 (hs:∀ j,j<n→∃ Sx,vexec Tryd.prog X call lf 0 noFg (loopN Tryd.f34 0) (f34_F0 s0 j)=some (Ex.normal,Sx)∧forget f34_D0 Sx=(f34_F0 s0 (j + 1)))
 (he:vexec Tryd.prog X call lf 0 noFg (loopN Tryd.f34 0) (f34_F0 s0 n)=some (x,S'))
 (hx:x ≠ Ex.normal):vexec Tryd.prog X call lf 0 noFg (Go.Code.loop (loopN Tryd.f34 0)) (stOf 48 [] [(0,st s0),(2,bo false),(3,i6 0)] [])=some (x,S') :=
  loop_runK (by kernel_rfl) (fun j=>(f34_F0 s0 j)) n hn (by show forget f34_D0 (stOf 48 [] [(0,st s0),(2,bo false),(3,i6 0)] [])=(f34_F0 s0 0); unfold f34_F0; show _=_; kernel_rfl) hs he hx
theorem f34_s0_ttt (s0:ByteArray)(X:Ext)(call:Caller)(lf i0:Nat)(n13 n18:Int)
 (h0:decide ((↑i0:Int)<(↑(ByteArray.size s0):Int))=true)
 (h1:kpq [] (indexv Tryd.prog 9 (st s0) (i6 (↑i0:Int))) (AV.int IntKind.u8 n13))
 (h2:decide (n13 ≥ 97)=true)
 (h3:kpq [] (indexv Tryd.prog 9 (st s0) (i6 (↑i0:Int))) (AV.int IntKind.u8 n18))
 (h4:decide (n18 ≤ 122)=true)
 (e0:(↑(i0 + 1):Int)=w6 ((↑i0:Int) + 1)):∃ Sx,vexec Tryd.prog X call lf 0 noFg (loopN Tryd.f34 0) (f34_F0 s0 i0)=some (Ex.normal,Sx)∧forget f34_D0 Sx=(f34_F0 s0 (i0 + 1)) :=
  ⟨stOf 48 [2] [(0,st s0),(3,i6 (w6 ((↑i0:Int) + 1))),(4,bo true),(5,i6 (↑i0:Int)),(6,st s0),(7,i6 (↑(ByteArray.size s0):Int)),(8,bo true),(9,i6 (↑i0:Int)),(10,i6 (w6 ((↑i0:Int) + 1))),(11,st s0),(12,i6 (↑i0:Int)),(13,AV.int IntKind.u8 n13),(14,bo true),(15,bo true),(16,st s0),(17,i6 (↑i0:Int)),(18,AV.int IntKind.u8 n18),(19,bo true),(20,bo true),(21,bo true),(22,bo false),(23,bo false),(44,bo false)] [],around_sound (ans:=[(4,Ans.b true),(9,Ans.v (AV.int IntKind.u8 n13)),(10,Ans.b true),(17,Ans.v (AV.int IntKind.u8 n18)),(19,Ans.b true)]) (by kernel_rfl) (ai h0 (ai h1 (ai h2 (ai h3 (ai h4 trivial))))),by unfold f34_F0; rw [e0]; show _=_; kernel_rfl⟩
def f34_S0 (s0:ByteArray)(i0:Nat)(n13 n18:Int):St :=
  stOf 48 [9,10] [(0,st s0),(2,bo false),(3,i6 (↑i0:Int)),(4,bo false),(5,i6 (↑i0:Int)),(6,st s0),(7,i6 (↑(ByteArray.size s0):Int)),(8,bo true),(11,st s0),(12,i6 (↑i0:Int)),(13,AV.int IntKind.u8 n13),(14,bo true),(15,bo true),(16,st s0),(17,i6 (↑i0:Int)),(18,AV.int IntKind.u8 n18),(19,bo false),(20,bo false),(21,bo false),(22,bo true),(23,bo true),(24,i6 (↑i0:Int)),(25,bo true),(26,bo true),(43,bo true),(44,bo true)] []
theorem f34_r0_ttft (s0:ByteArray)(X:Ext)(call:Caller)(lf i0:Nat)(n13 n18:Int)
 (h0:decide ((↑i0:Int)<(↑(ByteArray.size s0):Int))=true)
 (h1:kpq [] (indexv Tryd.prog 9 (st s0) (i6 (↑i0:Int))) (AV.int IntKind.u8 n13))
 (h2:decide (n13 ≥ 97)=true)
 (h3:kpq [] (indexv Tryd.prog 9 (st s0) (i6 (↑i0:Int))) (AV.int IntKind.u8 n18))
 (h4:decide (n18 ≤ 122)=false)
 (h5:((↑i0:Int) == 0)=true):vexec Tryd.prog X call lf 0 noFg (loopN Tryd.f34 0) (f34_F0 s0 i0)=some (Ex.ret,(f34_S0 s0 i0 n13 n18)) :=
  around_sound (ans:=[(4,Ans.b true),(9,Ans.v (AV.int IntKind.u8 n13)),(10,Ans.b true),(17,Ans.v (AV.int IntKind.u8 n18)),(19,Ans.b false),(29,Ans.b true)]) (by kernel_rfl) (ai h0 (ai h1 (ai h2 (ai h3 (ai h4 (ai h5 trivial))))))
theorem f34_plttft (s0:ByteArray)(X:Ext)(call:Caller)(lf i0:Nat)(n13 n18:Int)
 (h0:vexec Tryd.prog X call lf 0 noFg (Code.loop (loopN Tryd.f34 0)) (stOf 48 [] [(0,st s0),(2,bo false),(3,i6 0)] [])=some (Ex.ret,(f34_S0 s0 i0 n13 n18))):vbody Tryd.prog X call lf noFg Tryd.f34 (codeOf Tryd.f34) [st s0] [] 0=some (bo false,[]) :=
  along_sound (ans:=[(4,Ans.l Ex.ret (f34_S0 s0 i0 n13 n18))]) (by kernel_rfl) (ai h0 trivial)
def f34_S1 (s0:ByteArray)(i0:Nat)(n13 n18 n29 n34:Int):St :=
  stOf 48 [9,10] [(0,st s0),(2,bo false),(3,i6 (↑i0:Int)),(4,bo false),(5,i6 (↑i0:Int)),(6,st s0),(7,i6 (↑(ByteArray.size s0):Int)),(8,bo true),(11,st s0),(12,i6 (↑i0:Int)),(13,AV.int IntKind.u8 n13),(14,bo true),(15,bo true),(16,st s0),(17,i6 (↑i0:Int)),(18,AV.int IntKind.u8 n18),(19,bo false),(20,bo false),(21,bo false),(22,bo true),(23,bo true),(24,i6 (↑i0:Int)),(25,bo false),(26,bo false),(27,st s0),(28,i6 (↑i0:Int)),(29,AV.int IntKind.u8 n29),(30,bo true),(31,bo true),(32,st s0),(33,i6 (↑i0:Int)),(34,AV.int IntKind.u8 n34),(35,bo true),(36,bo true),(41,bo true),(42,bo true),(43,bo true),(44,bo true)] []
theorem f34_r0_ttfftt (s0:ByteArray)(X:Ext)(call:Caller)(lf i0:Nat)(n13 n18 n29 n34:Int)
 (h0:decide ((↑i0:Int)<(↑(ByteArray.size s0):Int))=true)
 (h1:kpq [] (indexv Tryd.prog 9 (st s0) (i6 (↑i0:Int))) (AV.int IntKind.u8 n13))
 (h2:decide (n13 ≥ 97)=true)
 (h3:kpq [] (indexv Tryd.prog 9 (st s0) (i6 (↑i0:Int))) (AV.int IntKind.u8 n18))
 (h4:decide (n18 ≤ 122)=false)
 (h5:((↑i0:Int) == 0)=false)
 (h6:kpq [] (indexv Tryd.prog 9 (st s0) (i6 (↑i0:Int))) (AV.int IntKind.u8 n29))
 (h7:(n29 != 45)=true)
 (h8:kpq [] (indexv Tryd.prog 9 (st s0) (i6 (↑i0:Int))) (AV.int IntKind.u8 n34))
 (h9:decide (n34<48)=true):vexec Tryd.prog X call lf 0 noFg (loopN Tryd.f34 0) (f34_F0 s0 i0)=some (Ex.ret,(f34_S1 s0 i0 n13 n18 n29 n34)) :=
  around_sound (ans:=[(4,Ans.b true),(9,Ans.v (AV.int IntKind.u8 n13)),(10,Ans.b true),(17,Ans.v (AV.int IntKind.u8 n18)),(19,Ans.b false),(29,Ans.b false),(37,Ans.v (AV.int IntKind.u8 n29)),(39,Ans.b true),(47,Ans.v (AV.int IntKind.u8 n34)),(49,Ans.b true)]) (by kernel_rfl) (ai h0 (ai h1 (ai h2 (ai h3 (ai h4 (ai h5 (ai h6 (ai h7 (ai h8 (ai h9 trivial))))))))))
theorem f34_plttfftt (s0:ByteArray)(X:Ext)(call:Caller)(lf i0:Nat)(n13 n18 n29 n34:Int)
 (h0:vexec Tryd.prog X call lf 0 noFg (Code.loop (loopN Tryd.f34 0)) (stOf 48 [] [(0,st s0),(2,bo false),(3,i6 0)] [])=some (Ex.ret,(f34_S1 s0 i0 n13 n18 n29 n34))):vbody Tryd.prog X call lf noFg Tryd.f34 (codeOf Tryd.f34) [st s0] [] 0=some (bo false,[]) :=
  along_sound (ans:=[(4,Ans.l Ex.ret (f34_S1 s0 i0 n13 n18 n29 n34))]) (by kernel_rfl) (ai h0 trivial)
def f34_S2 (s0:ByteArray)(i0:Nat)(n13 n18 n29 n34 n39:Int):St :=
  stOf 48 [9,10] [(0,st s0),(2,bo false),(3,i6 (↑i0:Int)),(4,bo false),(5,i6 (↑i0:Int)),(6,st s0),(7,i6 (↑(ByteArray.size s0):Int)),(8,bo true),(11,st s0),(12,i6 (↑i0:Int)),(13,AV.int IntKind.u8 n13),(14,bo true),(15,bo true),(16,st s0),(17,i6 (↑i0:Int)),(18,AV.int IntKind.u8 n18),(19,bo false),(20,bo false),(21,bo false),(22,bo true),(23,bo true),(24,i6 (↑i0:Int)),(25,bo false),(26,bo false),(27,st s0),(28,i6 (↑i0:Int)),(29,AV.int IntKind.u8 n29),(30,bo true),(31,bo true),(32,st s0),(33,i6 (↑i0:Int)),(34,AV.int IntKind.u8 n34),(35,bo false),(36,bo false),(37,st s0),(38,i6 (↑i0:Int)),(39,AV.int IntKind.u8 n39),(40,bo true),(41,bo true),(42,bo true),(43,bo true),(44,bo true)] []
theorem f34_r0_ttfftft (s0:ByteArray)(X:Ext)(call:Caller)(lf i0:Nat)(n13 n18 n29 n34 n39:Int)
 (h0:decide ((↑i0:Int)<(↑(ByteArray.size s0):Int))=true)
 (h1:kpq [] (indexv Tryd.prog 9 (st s0) (i6 (↑i0:Int))) (AV.int IntKind.u8 n13))
 (h2:decide (n13 ≥ 97)=true)
 (h3:kpq [] (indexv Tryd.prog 9 (st s0) (i6 (↑i0:Int))) (AV.int IntKind.u8 n18))
 (h4:decide (n18 ≤ 122)=false)
 (h5:((↑i0:Int) == 0)=false)
 (h6:kpq [] (indexv Tryd.prog 9 (st s0) (i6 (↑i0:Int))) (AV.int IntKind.u8 n29))
 (h7:(n29 != 45)=true)
 (h8:kpq [] (indexv Tryd.prog 9 (st s0) (i6 (↑i0:Int))) (AV.int IntKind.u8 n34))
 (h9:decide (n34<48)=false)
 (h10:kpq [] (indexv Tryd.prog 9 (st s0) (i6 (↑i0:Int))) (AV.int IntKind.u8 n39))
 (h11:decide (n39>57)=true):vexec Tryd.prog X call lf 0 noFg (loopN Tryd.f34 0) (f34_F0 s0 i0)=some (Ex.ret,(f34_S2 s0 i0 n13 n18 n29 n34 n39)) :=
  around_sound (ans:=[(4,Ans.b true),(9,Ans.v (AV.int IntKind.u8 n13)),(10,Ans.b true),(17,Ans.v (AV.int IntKind.u8 n18)),(19,Ans.b false),(29,Ans.b false),(37,Ans.v (AV.int IntKind.u8 n29)),(39,Ans.b true),(47,Ans.v (AV.int IntKind.u8 n34)),(49,Ans.b false),(57,Ans.v (AV.int IntKind.u8 n39)),(59,Ans.b true)]) (by kernel_rfl) (ai h0 (ai h1 (ai h2 (ai h3 (ai h4 (ai h5 (ai h6 (ai h7 (ai h8 (ai h9 (ai h10 (ai h11 trivial))))))))))))
theorem f34_plttfftft (s0:ByteArray)(X:Ext)(call:Caller)(lf i0:Nat)(n13 n18 n29 n34 n39:Int)
 (h0:vexec Tryd.prog X call lf 0 noFg (Code.loop (loopN Tryd.f34 0)) (stOf 48 [] [(0,st s0),(2,bo false),(3,i6 0)] [])=some (Ex.ret,(f34_S2 s0 i0 n13 n18 n29 n34 n39))):vbody Tryd.prog X call lf noFg Tryd.f34 (codeOf Tryd.f34) [st s0] [] 0=some (bo false,[]) :=
  along_sound (ans:=[(4,Ans.l Ex.ret (f34_S2 s0 i0 n13 n18 n29 n34 n39))]) (by kernel_rfl) (ai h0 trivial)
theorem f34_s0_ttfftff (s0:ByteArray)(X:Ext)(call:Caller)(lf i0:Nat)(n13 n18 n29 n34 n39:Int)
 (h0:decide ((↑i0:Int)<(↑(ByteArray.size s0):Int))=true)
 (h1:kpq [] (indexv Tryd.prog 9 (st s0) (i6 (↑i0:Int))) (AV.int IntKind.u8 n13))
 (h2:decide (n13 ≥ 97)=true)
 (h3:kpq [] (indexv Tryd.prog 9 (st s0) (i6 (↑i0:Int))) (AV.int IntKind.u8 n18))
 (h4:decide (n18 ≤ 122)=false)
 (h5:((↑i0:Int) == 0)=false)
 (h6:kpq [] (indexv Tryd.prog 9 (st s0) (i6 (↑i0:Int))) (AV.int IntKind.u8 n29))
 (h7:(n29 != 45)=true)
 (h8:kpq [] (indexv Tryd.prog 9 (st s0) (i6 (↑i0:Int))) (AV.int IntKind.u8 n34))
 (h9:decide (n34<48)=false)
 (h10:kpq [] (indexv Tryd.prog 9 (st s0) (i6 (↑i0:Int))) (AV.int IntKind.u8 n39))
 (h11:decide (n39>57)=false)
 (e0:(↑(i0 + 1):Int)=w6 ((↑i0:Int) + 1)):∃ Sx,vexec Tryd.prog X call lf 0 noFg (loopN Tryd.f34 0) (f34_F0 s0 i0)=some (Ex.normal,Sx)∧forget f34_D0 Sx=(f34_F0 s0 (i0 + 1)) :=
  ⟨stOf 48 [2] [(0,st s0),(3,i6 (w6 ((↑i0:Int) + 1))),(4,bo false),(5,i6 (↑i0:Int)),(6,st s0),(7,i6 (↑(ByteArray.size s0):Int)),(8,bo true),(9,i6 (↑i0:Int)),(10,i6 (w6 ((↑i0:Int) + 1))),(11,st s0),(12,i6 (↑i0:Int)),(13,AV.int IntKind.u8 n13),(14,bo true),(15,bo true),(16,st s0),(17,i6 (↑i0:Int)),(18,AV.int IntKind.u8 n18),(19,bo false),(20,bo false),(21,bo false),(22,bo true),(23,bo true),(24,i6 (↑i0:Int)),(25,bo false),(26,bo false),(27,st s0),(28,i6 (↑i0:Int)),(29,AV.int IntKind.u8 n29),(30,bo true),(31,bo true),(32,st s0),(33,i6 (↑i0:Int)),(34,AV.int IntKind.u8 n34),(35,bo false),(36,bo false),(37,st s0),(38,i6 (↑i0:Int)),(39,AV.int IntKind.u8 n39),(40,bo false),(41,bo false),(42,bo false),(43,bo false),(44,bo false)] [],around_sound (ans:=[(4,Ans.b true),(9,Ans.v (AV.int IntKind.u8 n13)),(10,Ans.b true),(17,Ans.v (AV.int IntKind.u8 n18)),(19,Ans.b false),(29,Ans.b false),(37,Ans.v (AV.int IntKind.u8 n29)),(39,Ans.b true),(47,Ans.v (AV.int IntKind.u8 n34)),(49,Ans.b false),(57,Ans.v (AV.int IntKind.u8 n39)),(59,Ans.b false)]) (by kernel_rfl) (ai h0 (ai h1 (ai h2 (ai h3 (ai h4 (ai h5 (ai h6 (ai h7 (ai h8 (ai h9 (ai h10 (ai h11 trivial)))))))))))),by unfold f34_F0; rw [e0]; show _=_; kernel_rfl⟩
theorem f34_s0_ttfff (s0:ByteArray)(X:Ext)(call:Caller)(lf i0:Nat)(n13 n18 n29:Int)
 (h0:decide ((↑i0:Int)<(↑(ByteArray.size s0):Int))=true)
 (h1:kpq [] (indexv Tryd.prog 9 (st s0) (i6 (↑i0:Int))) (AV.int IntKind.u8 n13))
 (h2:decide (n13 ≥ 97)=true)
 (h3:kpq [] (indexv Tryd.prog 9 (st s0) (i6 (↑i0:Int))) (AV.int IntKind.u8 n18))
 (h4:decide (n18 ≤ 122)=false)
 (h5:((↑i0:Int) == 0)=false)
 (h6:kpq [] (indexv Tryd.prog 9 (st s0) (i6 (↑i0:Int))) (AV.int IntKind.u8 n29))
 (h7:(n29 != 45)=false)
 (e0:(↑(i0 + 1):Int)=w6 ((↑i0:Int) + 1)):∃ Sx,vexec Tryd.prog X call lf 0 noFg (loopN Tryd.f34 0) (f34_F0 s0 i0)=some (Ex.normal,Sx)∧forget f34_D0 Sx=(f34_F0 s0 (i0 + 1)) :=
  ⟨stOf 48 [2] [(0,st s0),(3,i6 (w6 ((↑i0:Int) + 1))),(4,bo false),(5,i6 (↑i0:Int)),(6,st s0),(7,i6 (↑(ByteArray.size s0):Int)),(8,bo true),(9,i6 (↑i0:Int)),(10,i6 (w6 ((↑i0:Int) + 1))),(11,st s0),(12,i6 (↑i0:Int)),(13,AV.int IntKind.u8 n13),(14,bo true),(15,bo true),(16,st s0),(17,i6 (↑i0:Int)),(18,AV.int IntKind.u8 n18),(19,bo false),(20,bo false),(21,bo false),(22,bo true),(23,bo true),(24,i6 (↑i0:Int)),(25,bo false),(26,bo false),(27,st s0),(28,i6 (↑i0:Int)),(29,AV.int IntKind.u8 n29),(30,bo false),(31,bo false),(42,bo false),(43,bo false),(44,bo false)] [],around_sound (ans:=[(4,Ans.b true),(9,Ans.v (AV.int IntKind.u8 n13)),(10,Ans.b true),(17,Ans.v (AV.int IntKind.u8 n18)),(19,Ans.b false),(29,Ans.b false),(37,Ans.v (AV.int IntKind.u8 n29)),(39,Ans.b false)]) (by kernel_rfl) (ai h0 (ai h1 (ai h2 (ai h3 (ai h4 (ai h5 (ai h6 (ai h7 trivial)))))))),by unfold f34_F0; rw [e0]; show _=_; kernel_rfl⟩
def f34_S3 (s0:ByteArray)(i0:Nat)(n13:Int):St :=
  stOf 48 [9,10] [(0,st s0),(2,bo false),(3,i6 (↑i0:Int)),(4,bo false),(5,i6 (↑i0:Int)),(6,st s0),(7,i6 (↑(ByteArray.size s0):Int)),(8,bo true),(11,st s0),(12,i6 (↑i0:Int)),(13,AV.int IntKind.u8 n13),(14,bo false),(15,bo false),(20,bo false),(21,bo false),(22,bo true),(23,bo true),(24,i6 (↑i0:Int)),(25,bo true),(26,bo true),(43,bo true),(44,bo true)] []
theorem f34_r0_tft (s0:ByteArray)(X:Ext)(call:Caller)(lf i0:Nat)(n13:Int)
 (h0:decide ((↑i0:Int)<(↑(ByteArray.size s0):Int))=true)
 (h1:kpq [] (indexv Tryd.prog 9 (st s0) (i6 (↑i0:Int))) (AV.int IntKind.u8 n13))
 (h2:decide (n13 ≥ 97)=false)
 (h3:((↑i0:Int) == 0)=true):vexec Tryd.prog X call lf 0 noFg (loopN Tryd.f34 0) (f34_F0 s0 i0)=some (Ex.ret,(f34_S3 s0 i0 n13)) :=
  around_sound (ans:=[(4,Ans.b true),(9,Ans.v (AV.int IntKind.u8 n13)),(10,Ans.b false),(25,Ans.b true)]) (by kernel_rfl) (ai h0 (ai h1 (ai h2 (ai h3 trivial))))
theorem f34_pltft (s0:ByteArray)(X:Ext)(call:Caller)(lf i0:Nat)(n13:Int)
 (h0:vexec Tryd.prog X call lf 0 noFg (Code.loop (loopN Tryd.f34 0)) (stOf 48 [] [(0,st s0),(2,bo false),(3,i6 0)] [])=some (Ex.ret,(f34_S3 s0 i0 n13))):vbody Tryd.prog X call lf noFg Tryd.f34 (codeOf Tryd.f34) [st s0] [] 0=some (bo false,[]) :=
  along_sound (ans:=[(4,Ans.l Ex.ret (f34_S3 s0 i0 n13))]) (by kernel_rfl) (ai h0 trivial)
def f34_S4 (s0:ByteArray)(i0:Nat)(n13 n29 n34:Int):St :=
  stOf 48 [9,10] [(0,st s0),(2,bo false),(3,i6 (↑i0:Int)),(4,bo false),(5,i6 (↑i0:Int)),(6,st s0),(7,i6 (↑(ByteArray.size s0):Int)),(8,bo true),(11,st s0),(12,i6 (↑i0:Int)),(13,AV.int IntKind.u8 n13),(14,bo false),(15,bo false),(20,bo false),(21,bo false),(22,bo true),(23,bo true),(24,i6 (↑i0:Int)),(25,bo false),(26,bo false),(27,st s0),(28,i6 (↑i0:Int)),(29,AV.int IntKind.u8 n29),(30,bo true),(31,bo true),(32,st s0),(33,i6 (↑i0:Int)),(34,AV.int IntKind.u8 n34),(35,bo true),(36,bo true),(41,bo true),(42,bo true),(43,bo true),(44,bo true)] []
theorem f34_r0_tfftt (s0:ByteArray)(X:Ext)(call:Caller)(lf i0:Nat)(n13 n29 n34:Int)
 (h0:decide ((↑i0:Int)<(↑(ByteArray.size s0):Int))=true)
 (h1:kpq [] (indexv Tryd.prog 9 (st s0) (i6 (↑i0:Int))) (AV.int IntKind.u8 n13))
 (h2:decide (n13 ≥ 97)=false)
 (h3:((↑i0:Int) == 0)=false)
 (h4:kpq [] (indexv Tryd.prog 9 (st s0) (i6 (↑i0:Int))) (AV.int IntKind.u8 n29))
 (h5:(n29 != 45)=true)
 (h6:kpq [] (indexv Tryd.prog 9 (st s0) (i6 (↑i0:Int))) (AV.int IntKind.u8 n34))
 (h7:decide (n34<48)=true):vexec Tryd.prog X call lf 0 noFg (loopN Tryd.f34 0) (f34_F0 s0 i0)=some (Ex.ret,(f34_S4 s0 i0 n13 n29 n34)) :=
  around_sound (ans:=[(4,Ans.b true),(9,Ans.v (AV.int IntKind.u8 n13)),(10,Ans.b false),(25,Ans.b false),(33,Ans.v (AV.int IntKind.u8 n29)),(35,Ans.b true),(43,Ans.v (AV.int IntKind.u8 n34)),(45,Ans.b true)]) (by kernel_rfl) (ai h0 (ai h1 (ai h2 (ai h3 (ai h4 (ai h5 (ai h6 (ai h7 trivial))))))))
theorem f34_pltfftt (s0:ByteArray)(X:Ext)(call:Caller)(lf i0:Nat)(n13 n29 n34:Int)
 (h0:vexec Tryd.prog X call lf 0 noFg (Code.loop (loopN Tryd.f34 0)) (stOf 48 [] [(0,st s0),(2,bo false),(3,i6 0)] [])=some (Ex.ret,(f34_S4 s0 i0 n13 n29 n34))):vbody Tryd.prog X call lf noFg Tryd.f34 (codeOf Tryd.f34) [st s0] [] 0=some (bo false,[]) :=
  along_sound (ans:=[(4,Ans.l Ex.ret (f34_S4 s0 i0 n13 n29 n34))]) (by kernel_rfl) (ai h0 trivial)
def f34_S5 (s0:ByteArray)(i0:Nat)(n13 n29 n34 n39:Int):St :=
  stOf 48 [9,10] [(0,st s0),(2,bo false),(3,i6 (↑i0:Int)),(4,bo false),(5,i6 (↑i0:Int)),(6,st s0),(7,i6 (↑(ByteArray.size s0):Int)),(8,bo true),(11,st s0),(12,i6 (↑i0:Int)),(13,AV.int IntKind.u8 n13),(14,bo false),(15,bo false),(20,bo false),(21,bo false),(22,bo true),(23,bo true),(24,i6 (↑i0:Int)),(25,bo false),(26,bo false),(27,st s0),(28,i6 (↑i0:Int)),(29,AV.int IntKind.u8 n29),(30,bo true),(31,bo true),(32,st s0),(33,i6 (↑i0:Int)),(34,AV.int IntKind.u8 n34),(35,bo false),(36,bo false),(37,st s0),(38,i6 (↑i0:Int)),(39,AV.int IntKind.u8 n39),(40,bo true),(41,bo true),(42,bo true),(43,bo true),(44,bo true)] []
theorem f34_r0_tfftft (s0:ByteArray)(X:Ext)(call:Caller)(lf i0:Nat)(n13 n29 n34 n39:Int)
 (h0:decide ((↑i0:Int)<(↑(ByteArray.size s0):Int))=true)
 (h1:kpq [] (indexv Tryd.prog 9 (st s0) (i6 (↑i0:Int))) (AV.int IntKind.u8 n13))
 (h2:decide (n13 ≥ 97)=false)
 (h3:((↑i0:Int) == 0)=false)
 (h4:kpq [] (indexv Tryd.prog 9 (st s0) (i6 (↑i0:Int))) (AV.int IntKind.u8 n29))
 (h5:(n29 != 45)=true)
 (h6:kpq [] (indexv Tryd.prog 9 (st s0) (i6 (↑i0:Int))) (AV.int IntKind.u8 n34))
 (h7:decide (n34<48)=false)
 (h8:kpq [] (indexv Tryd.prog 9 (st s0) (i6 (↑i0:Int))) (AV.int IntKind.u8 n39))
 (h9:decide (n39>57)=true):vexec Tryd.prog X call lf 0 noFg (loopN Tryd.f34 0) (f34_F0 s0 i0)=some (Ex.ret,(f34_S5 s0 i0 n13 n29 n34 n39)) :=
  around_sound (ans:=[(4,Ans.b true),(9,Ans.v (AV.int IntKind.u8 n13)),(10,Ans.b false),(25,Ans.b false),(33,Ans.v (AV.int IntKind.u8 n29)),(35,Ans.b true),(43,Ans.v (AV.int IntKind.u8 n34)),(45,Ans.b false),(53,Ans.v (AV.int IntKind.u8 n39)),(55,Ans.b true)]) (by kernel_rfl) (ai h0 (ai h1 (ai h2 (ai h3 (ai h4 (ai h5 (ai h6 (ai h7 (ai h8 (ai h9 trivial))))))))))
theorem f34_pltfftft (s0:ByteArray)(X:Ext)(call:Caller)(lf i0:Nat)(n13 n29 n34 n39:Int)
 (h0:vexec Tryd.prog X call lf 0 noFg (Code.loop (loopN Tryd.f34 0)) (stOf 48 [] [(0,st s0),(2,bo false),(3,i6 0)] [])=some (Ex.ret,(f34_S5 s0 i0 n13 n29 n34 n39))):vbody Tryd.prog X call lf noFg Tryd.f34 (codeOf Tryd.f34) [st s0] [] 0=some (bo false,[]) :=
  along_sound (ans:=[(4,Ans.l Ex.ret (f34_S5 s0 i0 n13 n29 n34 n39))]) (by kernel_rfl) (ai h0 trivial)
theorem f34_s0_tfftff (s0:ByteArray)(X:Ext)(call:Caller)(lf i0:Nat)(n13 n29 n34 n39:Int)
 (h0:decide ((↑i0:Int)<(↑(ByteArray.size s0):Int))=true)
 (h1:kpq [] (indexv Tryd.prog 9 (st s0) (i6 (↑i0:Int))) (AV.int IntKind.u8 n13))
 (h2:decide (n13 ≥ 97)=false)
 (h3:((↑i0:Int) == 0)=false)
 (h4:kpq [] (indexv Tryd.prog 9 (st s0) (i6 (↑i0:Int))) (AV.int IntKind.u8 n29))
 (h5:(n29 != 45)=true)
 (h6:kpq [] (indexv Tryd.prog 9 (st s0) (i6 (↑i0:Int))) (AV.int IntKind.u8 n34))
 (h7:decide (n34<48)=false)
 (h8:kpq [] (indexv Tryd.prog 9 (st s0) (i6 (↑i0:Int))) (AV.int IntKind.u8 n39))
 (h9:decide (n39>57)=false)
 (e0:(↑(i0 + 1):Int)=w6 ((↑i0:Int) + 1)):∃ Sx,vexec Tryd.prog X call lf 0 noFg (loopN Tryd.f34 0) (f34_F0 s0 i0)=some (Ex.normal,Sx)∧forget f34_D0 Sx=(f34_F0 s0 (i0 + 1)) :=
  ⟨stOf 48 [2] [(0,st s0),(3,i6 (w6 ((↑i0:Int) + 1))),(4,bo false),(5,i6 (↑i0:Int)),(6,st s0),(7,i6 (↑(ByteArray.size s0):Int)),(8,bo true),(9,i6 (↑i0:Int)),(10,i6 (w6 ((↑i0:Int) + 1))),(11,st s0),(12,i6 (↑i0:Int)),(13,AV.int IntKind.u8 n13),(14,bo false),(15,bo false),(20,bo false),(21,bo false),(22,bo true),(23,bo true),(24,i6 (↑i0:Int)),(25,bo false),(26,bo false),(27,st s0),(28,i6 (↑i0:Int)),(29,AV.int IntKind.u8 n29),(30,bo true),(31,bo true),(32,st s0),(33,i6 (↑i0:Int)),(34,AV.int IntKind.u8 n34),(35,bo false),(36,bo false),(37,st s0),(38,i6 (↑i0:Int)),(39,AV.int IntKind.u8 n39),(40,bo false),(41,bo false),(42,bo false),(43,bo false),(44,bo false)] [],around_sound (ans:=[(4,Ans.b true),(9,Ans.v (AV.int IntKind.u8 n13)),(10,Ans.b false),(25,Ans.b false),(33,Ans.v (AV.int IntKind.u8 n29)),(35,Ans.b true),(43,Ans.v (AV.int IntKind.u8 n34)),(45,Ans.b false),(53,Ans.v (AV.int IntKind.u8 n39)),(55,Ans.b false)]) (by kernel_rfl) (ai h0 (ai h1 (ai h2 (ai h3 (ai h4 (ai h5 (ai h6 (ai h7 (ai h8 (ai h9 trivial)))))))))),by unfold f34_F0; rw [e0]; show _=_; kernel_rfl⟩
theorem f34_s0_tfff (s0:ByteArray)(X:Ext)(call:Caller)(lf i0:Nat)(n13 n29:Int)
 (h0:decide ((↑i0:Int)<(↑(ByteArray.size s0):Int))=true)
 (h1:kpq [] (indexv Tryd.prog 9 (st s0) (i6 (↑i0:Int))) (AV.int IntKind.u8 n13))
 (h2:decide (n13 ≥ 97)=false)
 (h3:((↑i0:Int) == 0)=false)
 (h4:kpq [] (indexv Tryd.prog 9 (st s0) (i6 (↑i0:Int))) (AV.int IntKind.u8 n29))
 (h5:(n29 != 45)=false)
 (e0:(↑(i0 + 1):Int)=w6 ((↑i0:Int) + 1)):∃ Sx,vexec Tryd.prog X call lf 0 noFg (loopN Tryd.f34 0) (f34_F0 s0 i0)=some (Ex.normal,Sx)∧forget f34_D0 Sx=(f34_F0 s0 (i0 + 1)) :=
  ⟨stOf 48 [2] [(0,st s0),(3,i6 (w6 ((↑i0:Int) + 1))),(4,bo false),(5,i6 (↑i0:Int)),(6,st s0),(7,i6 (↑(ByteArray.size s0):Int)),(8,bo true),(9,i6 (↑i0:Int)),(10,i6 (w6 ((↑i0:Int) + 1))),(11,st s0),(12,i6 (↑i0:Int)),(13,AV.int IntKind.u8 n13),(14,bo false),(15,bo false),(20,bo false),(21,bo false),(22,bo true),(23,bo true),(24,i6 (↑i0:Int)),(25,bo false),(26,bo false),(27,st s0),(28,i6 (↑i0:Int)),(29,AV.int IntKind.u8 n29),(30,bo false),(31,bo false),(42,bo false),(43,bo false),(44,bo false)] [],around_sound (ans:=[(4,Ans.b true),(9,Ans.v (AV.int IntKind.u8 n13)),(10,Ans.b false),(25,Ans.b false),(33,Ans.v (AV.int IntKind.u8 n29)),(35,Ans.b false)]) (by kernel_rfl) (ai h0 (ai h1 (ai h2 (ai h3 (ai h4 (ai h5 trivial)))))),by unfold f34_F0; rw [e0]; show _=_; kernel_rfl⟩
def f34_S6 (s0:ByteArray)(i0:Nat):St :=
  stOf 48 [2,4,9,10,11,12,13,14,15,16,17,18,19,20,21,22,23,24,25,26,27,28,29,30,31,32,33,34,35,36,37,38,39,40,41,42,43,44] [(0,st s0),(3,i6 (↑i0:Int)),(5,i6 (↑i0:Int)),(6,st s0),(7,i6 (↑(ByteArray.size s0):Int)),(8,bo false)] []
theorem f34_r0_f (s0:ByteArray)(X:Ext)(call:Caller)(lf i0:Nat)
 (h0:decide ((↑i0:Int)<(↑(ByteArray.size s0):Int))=false):vexec Tryd.prog X call lf 0 noFg (loopN Tryd.f34 0) (f34_F0 s0 i0)=some (Ex.exit 0,(f34_S6 s0 i0)) :=
  around_sound (ans:=[(4,Ans.b false)]) (by kernel_rfl) (ai h0 trivial)
theorem f34_plft (s0:ByteArray)(X:Ext)(call:Caller)(lf i0:Nat)
 (h0:vexec Tryd.prog X call lf 0 noFg (Code.loop (loopN Tryd.f34 0)) (stOf 48 [] [(0,st s0),(2,bo false),(3,i6 0)] [])=some (Ex.exit 0,(f34_S6 s0 i0)))
 (h1:decide ((↑(ByteArray.size s0):Int)>0)=true):vbody Tryd.prog X call lf noFg Tryd.f34 (codeOf Tryd.f34) [st s0] [] 0=some (bo true,[]) :=
  along_sound (ans:=[(4,Ans.l (Ex.exit 0) (f34_S6 s0 i0)),(8,Ans.b true)]) (by kernel_rfl) (ai h0 (ai h1 trivial))
theorem f34_plff (s0:ByteArray)(X:Ext)(call:Caller)(lf i0:Nat)
 (h0:vexec Tryd.prog X call lf 0 noFg (Code.loop (loopN Tryd.f34 0)) (stOf 48 [] [(0,st s0),(2,bo false),(3,i6 0)] [])=some (Ex.exit 0,(f34_S6 s0 i0)))
 (h1:decide ((↑(ByteArray.size s0):Int)>0)=false):vbody Tryd.prog X call lf noFg Tryd.f34 (codeOf Tryd.f34) [st s0] [] 0=some (bo false,[]) :=
  along_sound (ans:=[(4,Ans.l (Ex.exit 0) (f34_S6 s0 i0)),(8,Ans.b false)]) (by kernel_rfl) (ai h0 (ai h1 trivial))
def f34_o0 (s0:ByteArray)(i0:Nat)(n13 n18 n29 n34 n39:Int):Nat :=
  (match decide ((↑i0:Int)<(↑(ByteArray.size s0):Int)) with
  | true=>(match decide (n13 ≥ 97) with
    | true=>(match decide (n18 ≤ 122) with
      | true=>0
      | false=>(match ((↑i0:Int) == 0) with
        | true=>1
        | false=>(match (n29 != 45) with
          | true=>(match decide (n34<48) with
            | true=>2
            | false=>(match decide (n39>57) with
              | true=>3
              | false=>0))
          | false=>0)))
    | false=>(match ((↑i0:Int) == 0) with
      | true=>4
      | false=>(match (n29 != 45) with
        | true=>(match decide (n34<48) with
          | true=>5
          | false=>(match decide (n39>57) with
            | true=>6
            | false=>0))
        | false=>0)))
  | false=>7)
theorem f34_B0 (s0:ByteArray)(X:Ext)(call:Caller)(lf i0:Nat)(n13 n18 n29 n34 n39:Int)
 (g0:decide ((↑i0:Int)<(↑(ByteArray.size s0):Int))=true→kpq [] (indexv Tryd.prog 9 (st s0) (i6 (↑i0:Int))) (AV.int IntKind.u8 n13))
 (g1:decide ((↑i0:Int)<(↑(ByteArray.size s0):Int))=true→decide (n13 ≥ 97)=true→kpq [] (indexv Tryd.prog 9 (st s0) (i6 (↑i0:Int))) (AV.int IntKind.u8 n18))
 (g2:decide ((↑i0:Int)<(↑(ByteArray.size s0):Int))=true→decide (n13 ≥ 97)=true→decide (n18 ≤ 122)=false→((↑i0:Int) == 0)=false→kpq [] (indexv Tryd.prog 9 (st s0) (i6 (↑i0:Int))) (AV.int IntKind.u8 n29))
 (g3:decide ((↑i0:Int)<(↑(ByteArray.size s0):Int))=true→decide (n13 ≥ 97)=true→decide (n18 ≤ 122)=false→((↑i0:Int) == 0)=false→(n29 != 45)=true→kpq [] (indexv Tryd.prog 9 (st s0) (i6 (↑i0:Int))) (AV.int IntKind.u8 n34))
 (g4:decide ((↑i0:Int)<(↑(ByteArray.size s0):Int))=true→decide (n13 ≥ 97)=true→decide (n18 ≤ 122)=false→((↑i0:Int) == 0)=false→(n29 != 45)=true→decide (n34<48)=false→kpq [] (indexv Tryd.prog 9 (st s0) (i6 (↑i0:Int))) (AV.int IntKind.u8 n39))
 (g5:decide ((↑i0:Int)<(↑(ByteArray.size s0):Int))=true→decide (n13 ≥ 97)=false→((↑i0:Int) == 0)=false→kpq [] (indexv Tryd.prog 9 (st s0) (i6 (↑i0:Int))) (AV.int IntKind.u8 n29))
 (g6:decide ((↑i0:Int)<(↑(ByteArray.size s0):Int))=true→decide (n13 ≥ 97)=false→((↑i0:Int) == 0)=false→(n29 != 45)=true→kpq [] (indexv Tryd.prog 9 (st s0) (i6 (↑i0:Int))) (AV.int IntKind.u8 n34))
 (g7:decide ((↑i0:Int)<(↑(ByteArray.size s0):Int))=true→decide (n13 ≥ 97)=false→((↑i0:Int) == 0)=false→(n29 != 45)=true→decide (n34<48)=false→kpq [] (indexv Tryd.prog 9 (st s0) (i6 (↑i0:Int))) (AV.int IntKind.u8 n39))
 (e0:decide ((↑i0:Int)<(↑(ByteArray.size s0):Int))=true→(↑(i0 + 1):Int)=w6 ((↑i0:Int) + 1)) :
    (f34_o0 s0 i0 n13 n18 n29 n34 n39=0→∃ Sx,vexec Tryd.prog X call lf 0 noFg (loopN Tryd.f34 0) (f34_F0 s0 i0)=some (Ex.normal,Sx)∧forget f34_D0 Sx=(f34_F0 s0 (i0 + 1)))∧(f34_o0 s0 i0 n13 n18 n29 n34 n39=1→vexec Tryd.prog X call lf 0 noFg (loopN Tryd.f34 0) (f34_F0 s0 i0)=some (Ex.ret,(f34_S0 s0 i0 n13 n18)))∧(f34_o0 s0 i0 n13 n18 n29 n34 n39=2→vexec Tryd.prog X call lf 0 noFg (loopN Tryd.f34 0) (f34_F0 s0 i0)=some (Ex.ret,(f34_S1 s0 i0 n13 n18 n29 n34)))∧(f34_o0 s0 i0 n13 n18 n29 n34 n39=3→vexec Tryd.prog X call lf 0 noFg (loopN Tryd.f34 0) (f34_F0 s0 i0)=some (Ex.ret,(f34_S2 s0 i0 n13 n18 n29 n34 n39)))∧(f34_o0 s0 i0 n13 n18 n29 n34 n39=4→vexec Tryd.prog X call lf 0 noFg (loopN Tryd.f34 0) (f34_F0 s0 i0)=some (Ex.ret,(f34_S3 s0 i0 n13)))∧(f34_o0 s0 i0 n13 n18 n29 n34 n39=5→vexec Tryd.prog X call lf 0 noFg (loopN Tryd.f34 0) (f34_F0 s0 i0)=some (Ex.ret,(f34_S4 s0 i0 n13 n29 n34)))∧(f34_o0 s0 i0 n13 n18 n29 n34 n39=6→vexec Tryd.prog X call lf 0 noFg (loopN Tryd.f34 0) (f34_F0 s0 i0)=some (Ex.ret,(f34_S5 s0 i0 n13 n29 n34 n39)))∧(f34_o0 s0 i0 n13 n18 n29 n34 n39=7→vexec Tryd.prog X call lf 0 noFg (loopN Tryd.f34 0) (f34_F0 s0 i0)=some (Ex.exit 0,(f34_S6 s0 i0))):=by
  unfold f34_o0
  cases c0:decide ((↑i0:Int)<(↑(ByteArray.size s0):Int)) with
  | true =>
    cases c1:decide (n13 ≥ 97) with
    | true =>
      cases c2:decide (n18 ≤ 122) with
      | true =>
        exact ⟨fun _=>f34_s0_ttt s0 X call lf i0 n13 n18 c0 (g0 c0) c1 (g1 c0 c1) c2 (e0 c0),fun h=>nq h,fun h=>nq h,fun h=>nq h,fun h=>nq h,fun h=>nq h,fun h=>nq h,fun h=>nq h⟩
      | false =>
        cases c3:((↑i0:Int) == 0) with
        | true =>
          exact ⟨fun h=>nq h,fun _=>f34_r0_ttft s0 X call lf i0 n13 n18 c0 (g0 c0) c1 (g1 c0 c1) c2 c3,fun h=>nq h,fun h=>nq h,fun h=>nq h,fun h=>nq h,fun h=>nq h,fun h=>nq h⟩
        | false =>
          cases c4:(n29 != 45) with
          | true =>
            cases c5:decide (n34<48) with
            | true =>
              exact ⟨fun h=>nq h,fun h=>nq h,fun _=>f34_r0_ttfftt s0 X call lf i0 n13 n18 n29 n34 c0 (g0 c0) c1 (g1 c0 c1) c2 c3 (g2 c0 c1 c2 c3) c4 (g3 c0 c1 c2 c3 c4) c5,fun h=>nq h,fun h=>nq h,fun h=>nq h,fun h=>nq h,fun h=>nq h⟩
            | false =>
              cases c6:decide (n39>57) with
              | true =>
                exact ⟨fun h=>nq h,fun h=>nq h,fun h=>nq h,fun _=>f34_r0_ttfftft s0 X call lf i0 n13 n18 n29 n34 n39 c0 (g0 c0) c1 (g1 c0 c1) c2 c3 (g2 c0 c1 c2 c3) c4 (g3 c0 c1 c2 c3 c4) c5 (g4 c0 c1 c2 c3 c4 c5) c6,fun h=>nq h,fun h=>nq h,fun h=>nq h,fun h=>nq h⟩
              | false =>
                exact ⟨fun _=>f34_s0_ttfftff s0 X call lf i0 n13 n18 n29 n34 n39 c0 (g0 c0) c1 (g1 c0 c1) c2 c3 (g2 c0 c1 c2 c3) c4 (g3 c0 c1 c2 c3 c4) c5 (g4 c0 c1 c2 c3 c4 c5) c6 (e0 c0),fun h=>nq h,fun h=>nq h,fun h=>nq h,fun h=>nq h,fun h=>nq h,fun h=>nq h,fun h=>nq h⟩
          | false =>
            exact ⟨fun _=>f34_s0_ttfff s0 X call lf i0 n13 n18 n29 c0 (g0 c0) c1 (g1 c0 c1) c2 c3 (g2 c0 c1 c2 c3) c4 (e0 c0),fun h=>nq h,fun h=>nq h,fun h=>nq h,fun h=>nq h,fun h=>nq h,fun h=>nq h,fun h=>nq h⟩
    | false =>
      cases c2:((↑i0:Int) == 0) with
      | true =>
        exact ⟨fun h=>nq h,fun h=>nq h,fun h=>nq h,fun h=>nq h,fun _=>f34_r0_tft s0 X call lf i0 n13 c0 (g0 c0) c1 c2,fun h=>nq h,fun h=>nq h,fun h=>nq h⟩
      | false =>
        cases c3:(n29 != 45) with
        | true =>
          cases c4:decide (n34<48) with
          | true =>
            exact ⟨fun h=>nq h,fun h=>nq h,fun h=>nq h,fun h=>nq h,fun h=>nq h,fun _=>f34_r0_tfftt s0 X call lf i0 n13 n29 n34 c0 (g0 c0) c1 c2 (g5 c0 c1 c2) c3 (g6 c0 c1 c2 c3) c4,fun h=>nq h,fun h=>nq h⟩
          | false =>
            cases c5:decide (n39>57) with
            | true =>
              exact ⟨fun h=>nq h,fun h=>nq h,fun h=>nq h,fun h=>nq h,fun h=>nq h,fun h=>nq h,fun _=>f34_r0_tfftft s0 X call lf i0 n13 n29 n34 n39 c0 (g0 c0) c1 c2 (g5 c0 c1 c2) c3 (g6 c0 c1 c2 c3) c4 (g7 c0 c1 c2 c3 c4) c5,fun h=>nq h⟩
            | false =>
              exact ⟨fun _=>f34_s0_tfftff s0 X call lf i0 n13 n29 n34 n39 c0 (g0 c0) c1 c2 (g5 c0 c1 c2) c3 (g6 c0 c1 c2 c3) c4 (g7 c0 c1 c2 c3 c4) c5 (e0 c0),fun h=>nq h,fun h=>nq h,fun h=>nq h,fun h=>nq h,fun h=>nq h,fun h=>nq h,fun h=>nq h⟩
        | false =>
          exact ⟨fun _=>f34_s0_tfff s0 X call lf i0 n13 n29 c0 (g0 c0) c1 c2 (g5 c0 c1 c2) c3 (e0 c0),fun h=>nq h,fun h=>nq h,fun h=>nq h,fun h=>nq h,fun h=>nq h,fun h=>nq h,fun h=>nq h⟩
  | false =>
    exact ⟨fun h=>nq h,fun h=>nq h,fun h=>nq h,fun h=>nq h,fun h=>nq h,fun h=>nq h,fun h=>nq h,fun _=>f34_r0_f s0 X call lf i0 c0⟩
theorem f34_X0 (s0:ByteArray)(X:Ext)(call:Caller)(lf i0:Nat)(n13 n18 n29 n34 n39:Int)
 (g0:decide ((↑i0:Int)<(↑(ByteArray.size s0):Int))=true→kpq [] (indexv Tryd.prog 9 (st s0) (i6 (↑i0:Int))) (AV.int IntKind.u8 n13))
 (g1:decide ((↑i0:Int)<(↑(ByteArray.size s0):Int))=true→decide (n13 ≥ 97)=true→kpq [] (indexv Tryd.prog 9 (st s0) (i6 (↑i0:Int))) (AV.int IntKind.u8 n18))
 (g2:decide ((↑i0:Int)<(↑(ByteArray.size s0):Int))=true→decide (n13 ≥ 97)=true→decide (n18 ≤ 122)=false→((↑i0:Int) == 0)=false→kpq [] (indexv Tryd.prog 9 (st s0) (i6 (↑i0:Int))) (AV.int IntKind.u8 n29))
 (g3:decide ((↑i0:Int)<(↑(ByteArray.size s0):Int))=true→decide (n13 ≥ 97)=true→decide (n18 ≤ 122)=false→((↑i0:Int) == 0)=false→(n29 != 45)=true→kpq [] (indexv Tryd.prog 9 (st s0) (i6 (↑i0:Int))) (AV.int IntKind.u8 n34))
 (g4:decide ((↑i0:Int)<(↑(ByteArray.size s0):Int))=true→decide (n13 ≥ 97)=true→decide (n18 ≤ 122)=false→((↑i0:Int) == 0)=false→(n29 != 45)=true→decide (n34<48)=false→kpq [] (indexv Tryd.prog 9 (st s0) (i6 (↑i0:Int))) (AV.int IntKind.u8 n39))
 (g5:decide ((↑i0:Int)<(↑(ByteArray.size s0):Int))=true→decide (n13 ≥ 97)=false→((↑i0:Int) == 0)=false→kpq [] (indexv Tryd.prog 9 (st s0) (i6 (↑i0:Int))) (AV.int IntKind.u8 n29))
 (g6:decide ((↑i0:Int)<(↑(ByteArray.size s0):Int))=true→decide (n13 ≥ 97)=false→((↑i0:Int) == 0)=false→(n29 != 45)=true→kpq [] (indexv Tryd.prog 9 (st s0) (i6 (↑i0:Int))) (AV.int IntKind.u8 n34))
 (g7:decide ((↑i0:Int)<(↑(ByteArray.size s0):Int))=true→decide (n13 ≥ 97)=false→((↑i0:Int) == 0)=false→(n29 != 45)=true→decide (n34<48)=false→kpq [] (indexv Tryd.prog 9 (st s0) (i6 (↑i0:Int))) (AV.int IntKind.u8 n39)) :
    (f34_o0 s0 i0 n13 n18 n29 n34 n39=1→vexec Tryd.prog X call lf 0 noFg (loopN Tryd.f34 0) (f34_F0 s0 i0)=some (Ex.ret,(f34_S0 s0 i0 n13 n18)))∧(f34_o0 s0 i0 n13 n18 n29 n34 n39=2→vexec Tryd.prog X call lf 0 noFg (loopN Tryd.f34 0) (f34_F0 s0 i0)=some (Ex.ret,(f34_S1 s0 i0 n13 n18 n29 n34)))∧(f34_o0 s0 i0 n13 n18 n29 n34 n39=3→vexec Tryd.prog X call lf 0 noFg (loopN Tryd.f34 0) (f34_F0 s0 i0)=some (Ex.ret,(f34_S2 s0 i0 n13 n18 n29 n34 n39)))∧(f34_o0 s0 i0 n13 n18 n29 n34 n39=4→vexec Tryd.prog X call lf 0 noFg (loopN Tryd.f34 0) (f34_F0 s0 i0)=some (Ex.ret,(f34_S3 s0 i0 n13)))∧(f34_o0 s0 i0 n13 n18 n29 n34 n39=5→vexec Tryd.prog X call lf 0 noFg (loopN Tryd.f34 0) (f34_F0 s0 i0)=some (Ex.ret,(f34_S4 s0 i0 n13 n29 n34)))∧(f34_o0 s0 i0 n13 n18 n29 n34 n39=6→vexec Tryd.prog X call lf 0 noFg (loopN Tryd.f34 0) (f34_F0 s0 i0)=some (Ex.ret,(f34_S5 s0 i0 n13 n29 n34 n39)))∧(f34_o0 s0 i0 n13 n18 n29 n34 n39=7→vexec Tryd.prog X call lf 0 noFg (loopN Tryd.f34 0) (f34_F0 s0 i0)=some (Ex.exit 0,(f34_S6 s0 i0))):=by
  unfold f34_o0
  cases c0:decide ((↑i0:Int)<(↑(ByteArray.size s0):Int)) with
  | true =>
    cases c1:decide (n13 ≥ 97) with
    | true =>
      cases c2:decide (n18 ≤ 122) with
      | true =>
        exact ⟨fun h=>nq h,fun h=>nq h,fun h=>nq h,fun h=>nq h,fun h=>nq h,fun h=>nq h,fun h=>nq h⟩
      | false =>
        cases c3:((↑i0:Int) == 0) with
        | true =>
          exact ⟨fun _=>f34_r0_ttft s0 X call lf i0 n13 n18 c0 (g0 c0) c1 (g1 c0 c1) c2 c3,fun h=>nq h,fun h=>nq h,fun h=>nq h,fun h=>nq h,fun h=>nq h,fun h=>nq h⟩
        | false =>
          cases c4:(n29 != 45) with
          | true =>
            cases c5:decide (n34<48) with
            | true =>
              exact ⟨fun h=>nq h,fun _=>f34_r0_ttfftt s0 X call lf i0 n13 n18 n29 n34 c0 (g0 c0) c1 (g1 c0 c1) c2 c3 (g2 c0 c1 c2 c3) c4 (g3 c0 c1 c2 c3 c4) c5,fun h=>nq h,fun h=>nq h,fun h=>nq h,fun h=>nq h,fun h=>nq h⟩
            | false =>
              cases c6:decide (n39>57) with
              | true =>
                exact ⟨fun h=>nq h,fun h=>nq h,fun _=>f34_r0_ttfftft s0 X call lf i0 n13 n18 n29 n34 n39 c0 (g0 c0) c1 (g1 c0 c1) c2 c3 (g2 c0 c1 c2 c3) c4 (g3 c0 c1 c2 c3 c4) c5 (g4 c0 c1 c2 c3 c4 c5) c6,fun h=>nq h,fun h=>nq h,fun h=>nq h,fun h=>nq h⟩
              | false =>
                exact ⟨fun h=>nq h,fun h=>nq h,fun h=>nq h,fun h=>nq h,fun h=>nq h,fun h=>nq h,fun h=>nq h⟩
          | false =>
            exact ⟨fun h=>nq h,fun h=>nq h,fun h=>nq h,fun h=>nq h,fun h=>nq h,fun h=>nq h,fun h=>nq h⟩
    | false =>
      cases c2:((↑i0:Int) == 0) with
      | true =>
        exact ⟨fun h=>nq h,fun h=>nq h,fun h=>nq h,fun _=>f34_r0_tft s0 X call lf i0 n13 c0 (g0 c0) c1 c2,fun h=>nq h,fun h=>nq h,fun h=>nq h⟩
      | false =>
        cases c3:(n29 != 45) with
        | true =>
          cases c4:decide (n34<48) with
          | true =>
            exact ⟨fun h=>nq h,fun h=>nq h,fun h=>nq h,fun h=>nq h,fun _=>f34_r0_tfftt s0 X call lf i0 n13 n29 n34 c0 (g0 c0) c1 c2 (g5 c0 c1 c2) c3 (g6 c0 c1 c2 c3) c4,fun h=>nq h,fun h=>nq h⟩
          | false =>
            cases c5:decide (n39>57) with
            | true =>
              exact ⟨fun h=>nq h,fun h=>nq h,fun h=>nq h,fun h=>nq h,fun h=>nq h,fun _=>f34_r0_tfftft s0 X call lf i0 n13 n29 n34 n39 c0 (g0 c0) c1 c2 (g5 c0 c1 c2) c3 (g6 c0 c1 c2 c3) c4 (g7 c0 c1 c2 c3 c4) c5,fun h=>nq h⟩
            | false =>
              exact ⟨fun h=>nq h,fun h=>nq h,fun h=>nq h,fun h=>nq h,fun h=>nq h,fun h=>nq h,fun h=>nq h⟩
        | false =>
          exact ⟨fun h=>nq h,fun h=>nq h,fun h=>nq h,fun h=>nq h,fun h=>nq h,fun h=>nq h,fun h=>nq h⟩
  | false =>
    exact ⟨fun h=>nq h,fun h=>nq h,fun h=>nq h,fun h=>nq h,fun h=>nq h,fun h=>nq h,fun _=>f34_r0_f s0 X call lf i0 c0⟩
theorem f34_M (s0:ByteArray)(X:Ext)(call:Caller)(lf n:Nat)(n13 n18 n29 n34 n39:Nat→Int)
 (hn:n<lf)
 (g0:∀ i0,i0 ≤ n→decide ((↑i0:Int)<(↑(ByteArray.size s0):Int))=true→kpq [] (indexv Tryd.prog 9 (st s0) (i6 (↑i0:Int))) (AV.int IntKind.u8 (n13 i0)))
 (g1:∀ i0,i0 ≤ n→decide ((↑i0:Int)<(↑(ByteArray.size s0):Int))=true→decide ((n13 i0) ≥ 97)=true→kpq [] (indexv Tryd.prog 9 (st s0) (i6 (↑i0:Int))) (AV.int IntKind.u8 (n18 i0)))
 (g2:∀ i0,i0 ≤ n→decide ((↑i0:Int)<(↑(ByteArray.size s0):Int))=true→decide ((n13 i0) ≥ 97)=true→decide ((n18 i0) ≤ 122)=false→((↑i0:Int) == 0)=false→kpq [] (indexv Tryd.prog 9 (st s0) (i6 (↑i0:Int))) (AV.int IntKind.u8 (n29 i0)))
 (g3:∀ i0,i0 ≤ n→decide ((↑i0:Int)<(↑(ByteArray.size s0):Int))=true→decide ((n13 i0) ≥ 97)=true→decide ((n18 i0) ≤ 122)=false→((↑i0:Int) == 0)=false→((n29 i0) != 45)=true→kpq [] (indexv Tryd.prog 9 (st s0) (i6 (↑i0:Int))) (AV.int IntKind.u8 (n34 i0)))
 (g4:∀ i0,i0 ≤ n→decide ((↑i0:Int)<(↑(ByteArray.size s0):Int))=true→decide ((n13 i0) ≥ 97)=true→decide ((n18 i0) ≤ 122)=false→((↑i0:Int) == 0)=false→((n29 i0) != 45)=true→decide ((n34 i0)<48)=false→kpq [] (indexv Tryd.prog 9 (st s0) (i6 (↑i0:Int))) (AV.int IntKind.u8 (n39 i0)))
 (g5:∀ i0,i0 ≤ n→decide ((↑i0:Int)<(↑(ByteArray.size s0):Int))=true→decide ((n13 i0) ≥ 97)=false→((↑i0:Int) == 0)=false→kpq [] (indexv Tryd.prog 9 (st s0) (i6 (↑i0:Int))) (AV.int IntKind.u8 (n29 i0)))
 (g6:∀ i0,i0 ≤ n→decide ((↑i0:Int)<(↑(ByteArray.size s0):Int))=true→decide ((n13 i0) ≥ 97)=false→((↑i0:Int) == 0)=false→((n29 i0) != 45)=true→kpq [] (indexv Tryd.prog 9 (st s0) (i6 (↑i0:Int))) (AV.int IntKind.u8 (n34 i0)))
 (g7:∀ i0,i0 ≤ n→decide ((↑i0:Int)<(↑(ByteArray.size s0):Int))=true→decide ((n13 i0) ≥ 97)=false→((↑i0:Int) == 0)=false→((n29 i0) != 45)=true→decide ((n34 i0)<48)=false→kpq [] (indexv Tryd.prog 9 (st s0) (i6 (↑i0:Int))) (AV.int IntKind.u8 (n39 i0)))
 (e0:∀ i0,i0<n→decide ((↑i0:Int)<(↑(ByteArray.size s0):Int))=true→(↑(i0 + 1):Int)=w6 ((↑i0:Int) + 1))
 (hz:∀ j,j<n→f34_o0 s0 j (n13 j) (n18 j) (n29 j) (n34 j) (n39 j)=0) :
    (f34_o0 s0 n (n13 n) (n18 n) (n29 n) (n34 n) (n39 n)=1→vbody Tryd.prog X call lf noFg Tryd.f34 (codeOf Tryd.f34) [st s0] [] 0=some (bo false,[]))∧(f34_o0 s0 n (n13 n) (n18 n) (n29 n) (n34 n) (n39 n)=2→vbody Tryd.prog X call lf noFg Tryd.f34 (codeOf Tryd.f34) [st s0] [] 0=some (bo false,[]))∧(f34_o0 s0 n (n13 n) (n18 n) (n29 n) (n34 n) (n39 n)=3→vbody Tryd.prog X call lf noFg Tryd.f34 (codeOf Tryd.f34) [st s0] [] 0=some (bo false,[]))∧(f34_o0 s0 n (n13 n) (n18 n) (n29 n) (n34 n) (n39 n)=4→vbody Tryd.prog X call lf noFg Tryd.f34 (codeOf Tryd.f34) [st s0] [] 0=some (bo false,[]))∧(f34_o0 s0 n (n13 n) (n18 n) (n29 n) (n34 n) (n39 n)=5→vbody Tryd.prog X call lf noFg Tryd.f34 (codeOf Tryd.f34) [st s0] [] 0=some (bo false,[]))∧(f34_o0 s0 n (n13 n) (n18 n) (n29 n) (n34 n) (n39 n)=6→vbody Tryd.prog X call lf noFg Tryd.f34 (codeOf Tryd.f34) [st s0] [] 0=some (bo false,[]))∧(f34_o0 s0 n (n13 n) (n18 n) (n29 n) (n34 n) (n39 n)=7→decide ((↑(ByteArray.size s0):Int)>0)=true→vbody Tryd.prog X call lf noFg Tryd.f34 (codeOf Tryd.f34) [st s0] [] 0=some (bo true,[]))∧(f34_o0 s0 n (n13 n) (n18 n) (n29 n) (n34 n) (n39 n)=7→decide ((↑(ByteArray.size s0):Int)>0)=false→vbody Tryd.prog X call lf noFg Tryd.f34 (codeOf Tryd.f34) [st s0] [] 0=some (bo false,[])):=by
  have key:∀ j,j<n→_:=fun j hj=>(f34_B0 s0 X call lf j (n13 j) (n18 j) (n29 j) (n34 j) (n39 j) (g0 j (Nat.le_of_lt hj)) (g1 j (Nat.le_of_lt hj)) (g2 j (Nat.le_of_lt hj)) (g3 j (Nat.le_of_lt hj)) (g4 j (Nat.le_of_lt hj)) (g5 j (Nat.le_of_lt hj)) (g6 j (Nat.le_of_lt hj)) (g7 j (Nat.le_of_lt hj)) (e0 j hj)).1 (hz j hj)
  have kn:=f34_X0 s0 X call lf n (n13 n) (n18 n) (n29 n) (n34 n) (n39 n) (g0 n (Nat.le_refl n)) (g1 n (Nat.le_refl n)) (g2 n (Nat.le_refl n)) (g3 n (Nat.le_refl n)) (g4 n (Nat.le_refl n)) (g5 n (Nat.le_refl n)) (g6 n (Nat.le_refl n)) (g7 n (Nat.le_refl n))
  exact ⟨fun hk=>f34_plttft s0 X call lf n (n13 n) (n18 n) (f34_L0 s0 X call lf n _ _ hn key (kn.1 hk) (by simp)),
    fun hk=>f34_plttfftt s0 X call lf n (n13 n) (n18 n) (n29 n) (n34 n) (f34_L0 s0 X call lf n _ _ hn key (kn.2.1 hk) (by simp)),
    fun hk=>f34_plttfftft s0 X call lf n (n13 n) (n18 n) (n29 n) (n34 n) (n39 n) (f34_L0 s0 X call lf n _ _ hn key (kn.2.2.1 hk) (by simp)),
    fun hk=>f34_pltft s0 X call lf n (n13 n) (f34_L0 s0 X call lf n _ _ hn key (kn.2.2.2.1 hk) (by simp)),
    fun hk=>f34_pltfftt s0 X call lf n (n13 n) (n29 n) (n34 n) (f34_L0 s0 X call lf n _ _ hn key (kn.2.2.2.2.1 hk) (by simp)),
    fun hk=>f34_pltfftft s0 X call lf n (n13 n) (n29 n) (n34 n) (n39 n) (f34_L0 s0 X call lf n _ _ hn key (kn.2.2.2.2.2.1 hk) (by simp)),
    fun hk q0=>f34_plft s0 X call lf n (f34_L0 s0 X call lf n _ _ hn key (kn.2.2.2.2.2.2 hk) (by simp)) q0,
    fun hk q0=>f34_plff s0 X call lf n (f34_L0 s0 X call lf n _ _ hn key (kn.2.2.2.2.2.2 hk) (by simp)) q0⟩
theorem f44_pt (s0:ByteArray)(X:Ext)(call:Caller)(lf:Nat)
 (h0:(ByteArray.toList s0 == ByteArray.toList (ByteArray.mk #[116,105,109,101]))=true):vbody Tryd.prog X call lf noFg Tryd.f44 (codeOf Tryd.f44) [st s0] [] 0=some (bo true,[]) :=
  along_sound (ans:=[(4,Ans.b true)]) (by kernel_rfl) (ai h0 trivial)
theorem f44_pft (s0:ByteArray)(X:Ext)(call:Caller)(lf:Nat)
 (h0:(ByteArray.toList s0 == ByteArray.toList (ByteArray.mk #[116,105,109,101]))=false)
 (h1:(ByteArray.toList s0 == ByteArray.toList (ByteArray.mk #[110,117,109,98,101,114]))=true):vbody Tryd.prog X call lf noFg Tryd.f44 (codeOf Tryd.f44) [st s0] [] 0=some (bo true,[]) :=
  along_sound (ans:=[(4,Ans.b false),(9,Ans.b true)]) (by kernel_rfl) (ai h0 (ai h1 trivial))
theorem f44_pff (s0:ByteArray)(X:Ext)(call:Caller)(lf:Nat)
 (h0:(ByteArray.toList s0 == ByteArray.toList (ByteArray.mk #[116,105,109,101]))=false)
 (h1:(ByteArray.toList s0 == ByteArray.toList (ByteArray.mk #[110,117,109,98,101,114]))=false):vbody Tryd.prog X call lf noFg Tryd.f44 (codeOf Tryd.f44) [st s0] [] 0=some (bo false,[]) :=
  along_sound (ans:=[(4,Ans.b false),(9,Ans.b false)]) (by kernel_rfl) (ai h0 (ai h1 trivial))
def f44_q0 (s0:ByteArray):Nat :=
  (match (ByteArray.toList s0 == ByteArray.toList (ByteArray.mk #[116,105,109,101])) with
  | true=>0
  | false=>(match (ByteArray.toList s0 == ByteArray.toList (ByteArray.mk #[110,117,109,98,101,114])) with
    | true=>0
    | false=>1))
theorem f44_P0 (s0:ByteArray)(X:Ext)(call:Caller)(lf:Nat) :
    (f44_q0 s0=0→vbody Tryd.prog X call lf noFg Tryd.f44 (codeOf Tryd.f44) [st s0] [] 0=some (bo true,[]))∧(f44_q0 s0=1→vbody Tryd.prog X call lf noFg Tryd.f44 (codeOf Tryd.f44) [st s0] [] 0=some (bo false,[])):=by
  unfold f44_q0
  cases c0:(ByteArray.toList s0 == ByteArray.toList (ByteArray.mk #[116,105,109,101])) with
  | true =>
    exact ⟨fun _=>f44_pt s0 X call lf c0,fun h=>nq h⟩
  | false =>
    cases c1:(ByteArray.toList s0 == ByteArray.toList (ByteArray.mk #[110,117,109,98,101,114])) with
    | true =>
      exact ⟨fun _=>f44_pft s0 X call lf c0 c1,fun h=>nq h⟩
    | false =>
      exact ⟨fun h=>nq h,fun _=>f44_pff s0 X call lf c0 c1⟩
def f35_F0 (l0:List ByteArray)(s1:ByteArray)(i0:Nat):St :=
  stOf 18 [4,6,7,8,9,10,11,12,13,14,15,16,17] [(0,sQ l0),(1,st s1),(5,i6 (↑i0:Int))] []
def f35_S0 (l0:List ByteArray)(s1:ByteArray):St :=
  stOf 18 [] [(0,sQ l0),(1,st s1),(4,bo false),(5,i6 0)] []
abbrev f35_D0:List Nat:=[11,10,4,17,16,15,14,13,12,9,8,7,6]
theorem f35_L0 (l0:List ByteArray)(s1:ByteArray)(X:Ext)(call:Caller)(lf n:Nat)(x:Ex) (S' : St)
 (hn:n<lf)
 (hs:∀ j,j<n→∃ Sx,vexec Tryd.prog X call lf 0 noFg (loopN Tryd.f35 0) (f35_F0 l0 s1 j)=some (Ex.normal,Sx)∧forget f35_D0 Sx=(f35_F0 l0 s1 (j + 1)))
 (he:vexec Tryd.prog X call lf 0 noFg (loopN Tryd.f35 0) (f35_F0 l0 s1 n)=some (x,S'))
 (hx:x ≠ Ex.normal):vexec Tryd.prog X call lf 0 noFg (Go.Code.loop (loopN Tryd.f35 0)) (f35_S0 l0 s1)=some (x,S') :=
  loop_runK (by kernel_rfl) (fun j=>(f35_F0 l0 s1 j)) n hn (by show forget f35_D0 (f35_S0 l0 s1)=(f35_F0 l0 s1 0); unfold f35_F0; show _=_; kernel_rfl) hs he hx
def f35_S1 (l0:List ByteArray)(s1:ByteArray)(i0:Nat)(a:ByteArray)(r14:List AV):St :=
  stOf 18 [10,11] [(0,sQ l0),(1,st s1),(4,bo true),(5,i6 (↑i0:Int)),(6,i6 (↑i0:Int)),(7,sQ l0),(8,i6 (↑l0.length:Int)),(9,bo true),(12,sQ l0),(13,i6 (↑i0:Int)),(14,AV.eaddr (st a::r14)),(15,st a),(16,st s1),(17,bo true)] []
theorem f35_r0_tt (l0:List ByteArray)(s1:ByteArray)(X:Ext)(call:Caller)(lf i0:Nat)(a:ByteArray)(r14:List AV)
 (h0:decide ((↑i0:Int)<(↑l0.length:Int))=true)
 (h1:kiq 22 [] (sQ l0) (i6 (↑i0:Int)) (st a::r14))
 (h2:(ByteArray.toList a == ByteArray.toList s1)=true):vexec Tryd.prog X call lf 0 noFg (loopN Tryd.f35 0) (f35_F0 l0 s1 i0)=some (Ex.ret,(f35_S1 l0 s1 i0 a r14)) :=
  around_sound (ans:=[(4,Ans.b true),(9,Ans.v (AV.eaddr (st a::r14))),(12,Ans.b true)]) (by kernel_rfl) (ai h0 (ai h1 (ai h2 trivial)))
theorem f35_pltt (l0:List ByteArray)(s1:ByteArray)(X:Ext)(call:Caller)(lf i0:Nat)(a:ByteArray)(r14:List AV)
 (h0:vexec Tryd.prog X call lf 0 noFg (Code.loop (loopN Tryd.f35 0)) (f35_S0 l0 s1)=some (Ex.ret,(f35_S1 l0 s1 i0 a r14))):vbody Tryd.prog X call lf noFg Tryd.f35 (codeOf Tryd.f35) [strsV l0,st s1] [] 0=some (bo true,[]) :=
  along_sound (ans:=[(4,Ans.l Ex.ret (f35_S1 l0 s1 i0 a r14))]) (by kernel_rfl) (ai h0 trivial)
theorem f35_s0_tf (l0:List ByteArray)(s1:ByteArray)(X:Ext)(call:Caller)(lf i0:Nat)(a:ByteArray)(r14:List AV)
 (h0:decide ((↑i0:Int)<(↑l0.length:Int))=true)
 (h1:kiq 22 [] (sQ l0) (i6 (↑i0:Int)) (st a::r14))
 (h2:(ByteArray.toList a == ByteArray.toList s1)=false)
 (e0:(↑(i0 + 1):Int)=w6 ((↑i0:Int) + 1)):∃ Sx,vexec Tryd.prog X call lf 0 noFg (loopN Tryd.f35 0) (f35_F0 l0 s1 i0)=some (Ex.normal,Sx)∧forget f35_D0 Sx=(f35_F0 l0 s1 (i0 + 1)) :=
  ⟨stOf 18 [4] [(0,sQ l0),(1,st s1),(5,i6 (w6 ((↑i0:Int) + 1))),(6,i6 (↑i0:Int)),(7,sQ l0),(8,i6 (↑l0.length:Int)),(9,bo true),(10,i6 (↑i0:Int)),(11,i6 (w6 ((↑i0:Int) + 1))),(12,sQ l0),(13,i6 (↑i0:Int)),(14,AV.eaddr (st a::r14)),(15,st a),(16,st s1),(17,bo false)] [],around_sound (ans:=[(4,Ans.b true),(9,Ans.v (AV.eaddr (st a::r14))),(12,Ans.b false)]) (by kernel_rfl) (ai h0 (ai h1 (ai h2 trivial))),by unfold f35_F0; rw [e0]; show _=_; kernel_rfl⟩
def f35_S2 (l0:List ByteArray)(s1:ByteArray)(i0:Nat):St :=
  stOf 18 [4,10,11,12,13,14,15,16,17] [(0,sQ l0),(1,st s1),(5,i6 (↑i0:Int)),(6,i6 (↑i0:Int)),(7,sQ l0),(8,i6 (↑l0.length:Int)),(9,bo false)] []
theorem f35_r0_f (l0:List ByteArray)(s1:ByteArray)(X:Ext)(call:Caller)(lf i0:Nat)
 (h0:decide ((↑i0:Int)<(↑l0.length:Int))=false):vexec Tryd.prog X call lf 0 noFg (loopN Tryd.f35 0) (f35_F0 l0 s1 i0)=some (Ex.exit 0,(f35_S2 l0 s1 i0)) :=
  around_sound (ans:=[(4,Ans.b false)]) (by kernel_rfl) (ai h0 trivial)
theorem f35_plf (l0:List ByteArray)(s1:ByteArray)(X:Ext)(call:Caller)(lf i0:Nat)
 (h0:vexec Tryd.prog X call lf 0 noFg (Code.loop (loopN Tryd.f35 0)) (f35_S0 l0 s1)=some (Ex.exit 0,(f35_S2 l0 s1 i0))):vbody Tryd.prog X call lf noFg Tryd.f35 (codeOf Tryd.f35) [strsV l0,st s1] [] 0=some (bo false,[]) :=
  along_sound (ans:=[(4,Ans.l (Ex.exit 0) (f35_S2 l0 s1 i0))]) (by kernel_rfl) (ai h0 trivial)
def f35_o0 (l0:List ByteArray)(s1:ByteArray)(i0:Nat)(a:ByteArray):Nat :=
  (match decide ((↑i0:Int)<(↑l0.length:Int)) with
  | true=>(match (ByteArray.toList a == ByteArray.toList s1) with
    | true=>1
    | false=>0)
  | false=>2)
theorem f35_B0 (l0:List ByteArray)(s1:ByteArray)(X:Ext)(call:Caller)(lf i0:Nat)(a:ByteArray)(r14:List AV)
 (g0:decide ((↑i0:Int)<(↑l0.length:Int))=true→kiq 22 [] (sQ l0) (i6 (↑i0:Int)) (st a::r14))
 (e0:decide ((↑i0:Int)<(↑l0.length:Int))=true→(↑(i0 + 1):Int)=w6 ((↑i0:Int) + 1)) :
    (f35_o0 l0 s1 i0 a=0→∃ Sx,vexec Tryd.prog X call lf 0 noFg (loopN Tryd.f35 0) (f35_F0 l0 s1 i0)=some (Ex.normal,Sx)∧forget f35_D0 Sx=(f35_F0 l0 s1 (i0 + 1)))∧(f35_o0 l0 s1 i0 a=1→vexec Tryd.prog X call lf 0 noFg (loopN Tryd.f35 0) (f35_F0 l0 s1 i0)=some (Ex.ret,(f35_S1 l0 s1 i0 a r14)))∧(f35_o0 l0 s1 i0 a=2→vexec Tryd.prog X call lf 0 noFg (loopN Tryd.f35 0) (f35_F0 l0 s1 i0)=some (Ex.exit 0,(f35_S2 l0 s1 i0))):=by
  unfold f35_o0
  cases c0:decide ((↑i0:Int)<(↑l0.length:Int)) with
  | true =>
    cases c1:(ByteArray.toList a == ByteArray.toList s1) with
    | true =>
      exact ⟨fun h=>nq h,fun _=>f35_r0_tt l0 s1 X call lf i0 a r14 c0 (g0 c0) c1,fun h=>nq h⟩
    | false =>
      exact ⟨fun _=>f35_s0_tf l0 s1 X call lf i0 a r14 c0 (g0 c0) c1 (e0 c0),fun h=>nq h,fun h=>nq h⟩
  | false =>
    exact ⟨fun h=>nq h,fun h=>nq h,fun _=>f35_r0_f l0 s1 X call lf i0 c0⟩
theorem f35_X0 (l0:List ByteArray)(s1:ByteArray)(X:Ext)(call:Caller)(lf i0:Nat)(a:ByteArray)(r14:List AV)
 (g0:decide ((↑i0:Int)<(↑l0.length:Int))=true→kiq 22 [] (sQ l0) (i6 (↑i0:Int)) (st a::r14)) :
    (f35_o0 l0 s1 i0 a=1→vexec Tryd.prog X call lf 0 noFg (loopN Tryd.f35 0) (f35_F0 l0 s1 i0)=some (Ex.ret,(f35_S1 l0 s1 i0 a r14)))∧(f35_o0 l0 s1 i0 a=2→vexec Tryd.prog X call lf 0 noFg (loopN Tryd.f35 0) (f35_F0 l0 s1 i0)=some (Ex.exit 0,(f35_S2 l0 s1 i0))):=by
  unfold f35_o0
  cases c0:decide ((↑i0:Int)<(↑l0.length:Int)) with
  | true =>
    cases c1:(ByteArray.toList a == ByteArray.toList s1) with
    | true =>
      exact ⟨fun _=>f35_r0_tt l0 s1 X call lf i0 a r14 c0 (g0 c0) c1,fun h=>nq h⟩
    | false =>
      exact ⟨fun h=>nq h,fun h=>nq h⟩
  | false =>
    exact ⟨fun h=>nq h,fun _=>f35_r0_f l0 s1 X call lf i0 c0⟩
theorem f35_M (l0:List ByteArray)(s1:ByteArray)(X:Ext)(call:Caller)(lf n:Nat)(a:Nat→ByteArray)(r14:Nat→List AV)
 (hn:n<lf)
 (g0:∀ i0,i0 ≤ n→decide ((↑i0:Int)<(↑l0.length:Int))=true→kiq 22 [] (sQ l0) (i6 (↑i0:Int)) (st (a i0)::(r14 i0)))
 (e0:∀ i0,i0<n→decide ((↑i0:Int)<(↑l0.length:Int))=true→(↑(i0 + 1):Int)=w6 ((↑i0:Int) + 1))
 (hz:∀ j,j<n→f35_o0 l0 s1 j (a j)=0) :
    (f35_o0 l0 s1 n (a n)=1→vbody Tryd.prog X call lf noFg Tryd.f35 (codeOf Tryd.f35) [strsV l0,st s1] [] 0=some (bo true,[]))∧(f35_o0 l0 s1 n (a n)=2→vbody Tryd.prog X call lf noFg Tryd.f35 (codeOf Tryd.f35) [strsV l0,st s1] [] 0=some (bo false,[])):=by
  have key:∀ j,j<n→_:=fun j hj=>(f35_B0 l0 s1 X call lf j (a j) (r14 j) (g0 j (Nat.le_of_lt hj)) (e0 j hj)).1 (hz j hj)
  have kn:=f35_X0 l0 s1 X call lf n (a n) (r14 n) (g0 n (Nat.le_refl n))
  exact ⟨fun hk=>f35_pltt l0 s1 X call lf n (a n) (r14 n) (f35_L0 l0 s1 X call lf n _ _ hn key (kn.1 hk) (by simp)),
    fun hk=>f35_plf l0 s1 X call lf n (f35_L0 l0 s1 X call lf n _ _ hn key (kn.2 hk) (by simp))⟩
def f60_F0 (l0:List ByteArray)(s1:ByteArray)(i0:Nat):St :=
  stOf 19 [4,5,9,10,11,12,13,14,15,16,17,18] [(0,sQ l0),(1,st s1),(6,sQ l0),(7,i6 (↑l0.length:Int)),(8,i6 (↑i0:Int))] []
def f60_S0 (l0:List ByteArray)(s1:ByteArray):St :=
  stOf 19 [] [(0,sQ l0),(1,st s1),(4,i6 0),(6,sQ l0),(7,i6 (↑l0.length:Int)),(8,i6 0)] []
abbrev f60_D0:List Nat:=[18,4,17,16,15,14,13,12,11,5,10,9]
theorem f60_L0 (l0:List ByteArray)(s1:ByteArray)(X:Ext)(call:Caller)(lf n:Nat)(x:Ex) (S' : St)
 (hn:n<lf)
 (hs:∀ j,j<n→∃ Sx,vexec Tryd.prog X call lf 0 noFg (loopN Tryd.f60 0) (f60_F0 l0 s1 j)=some (Ex.normal,Sx)∧forget f60_D0 Sx=(f60_F0 l0 s1 (j + 1)))
 (he:vexec Tryd.prog X call lf 0 noFg (loopN Tryd.f60 0) (f60_F0 l0 s1 n)=some (x,S'))
 (hx:x ≠ Ex.normal):vexec Tryd.prog X call lf 0 noFg (Go.Code.loop (loopN Tryd.f60 0)) (f60_S0 l0 s1)=some (x,S') :=
  loop_runK (by kernel_rfl) (fun j=>(f60_F0 l0 s1 j)) n hn (by show forget f60_D0 (f60_S0 l0 s1)=(f60_F0 l0 s1 0); unfold f60_F0; show _=_; kernel_rfl) hs he hx
def f60_S1 (l0:List ByteArray)(s1:ByteArray)(i0:Nat)(a:ByteArray)(r14:List AV):St :=
  stOf 19 [18] [(0,sQ l0),(1,st s1),(4,i6 (↑i0:Int)),(5,i6 (↑i0:Int)),(6,sQ l0),(7,i6 (↑l0.length:Int)),(8,i6 (↑i0:Int)),(9,bo true),(10,i6 (↑i0:Int)),(11,st s1),(12,sQ l0),(13,i6 (↑i0:Int)),(14,AV.eaddr (st a::r14)),(15,st a),(16,bo true),(17,i6 (↑i0:Int))] []
theorem f60_r0_tt (l0:List ByteArray)(s1:ByteArray)(X:Ext)(call:Caller)(lf i0:Nat)(a:ByteArray)(r14:List AV)
 (h0:decide ((↑i0:Int)<(↑l0.length:Int))=true)
 (h1:kiq 22 [] (sQ l0) (i6 (↑i0:Int)) (st a::r14))
 (h2:(ByteArray.toList s1 == ByteArray.toList a)=true):vexec Tryd.prog X call lf 0 noFg (loopN Tryd.f60 0) (f60_F0 l0 s1 i0)=some (Ex.ret,(f60_S1 l0 s1 i0 a r14)) :=
  around_sound (ans:=[(1,Ans.b true),(10,Ans.v (AV.eaddr (st a::r14))),(12,Ans.b true)]) (by kernel_rfl) (ai h0 (ai h1 (ai h2 trivial)))
theorem f60_pltt (l0:List ByteArray)(s1:ByteArray)(X:Ext)(call:Caller)(lf i0:Nat)(a:ByteArray)(r14:List AV)
 (h0:vexec Tryd.prog X call lf 0 noFg (Code.loop (loopN Tryd.f60 0)) (f60_S0 l0 s1)=some (Ex.ret,(f60_S1 l0 s1 i0 a r14))):vbody Tryd.prog X call lf noFg Tryd.f60 (codeOf Tryd.f60) [strsV l0,st s1] [] 0=some (i6 (↑i0:Int),[]) :=
  along_sound (ans:=[(6,Ans.l Ex.ret (f60_S1 l0 s1 i0 a r14))]) (by kernel_rfl) (ai h0 trivial)
theorem f60_s0_tf (l0:List ByteArray)(s1:ByteArray)(X:Ext)(call:Caller)(lf i0:Nat)(a:ByteArray)(r14:List AV)
 (h0:decide ((↑i0:Int)<(↑l0.length:Int))=true)
 (h1:kiq 22 [] (sQ l0) (i6 (↑i0:Int)) (st a::r14))
 (h2:(ByteArray.toList s1 == ByteArray.toList a)=false)
 (e0:(↑(i0 + 1):Int)=w6 ((↑i0:Int) + 1)):∃ Sx,vexec Tryd.prog X call lf 0 noFg (loopN Tryd.f60 0) (f60_F0 l0 s1 i0)=some (Ex.normal,Sx)∧forget f60_D0 Sx=(f60_F0 l0 s1 (i0 + 1)) :=
  ⟨stOf 19 [4,17] [(0,sQ l0),(1,st s1),(5,i6 (↑i0:Int)),(6,sQ l0),(7,i6 (↑l0.length:Int)),(8,i6 (w6 ((↑i0:Int) + 1))),(9,bo true),(10,i6 (↑i0:Int)),(11,st s1),(12,sQ l0),(13,i6 (↑i0:Int)),(14,AV.eaddr (st a::r14)),(15,st a),(16,bo false),(18,i6 (w6 ((↑i0:Int) + 1)))] [],around_sound (ans:=[(1,Ans.b true),(10,Ans.v (AV.eaddr (st a::r14))),(12,Ans.b false)]) (by kernel_rfl) (ai h0 (ai h1 (ai h2 trivial))),by unfold f60_F0; rw [e0]; show _=_; kernel_rfl⟩
def f60_S2 (l0:List ByteArray)(s1:ByteArray)(i0:Nat):St :=
  stOf 19 [4,5,10,11,12,13,14,15,16,17,18] [(0,sQ l0),(1,st s1),(6,sQ l0),(7,i6 (↑l0.length:Int)),(8,i6 (↑i0:Int)),(9,bo false)] []
theorem f60_r0_f (l0:List ByteArray)(s1:ByteArray)(X:Ext)(call:Caller)(lf i0:Nat)
 (h0:decide ((↑i0:Int)<(↑l0.length:Int))=false):vexec Tryd.prog X call lf 0 noFg (loopN Tryd.f60 0) (f60_F0 l0 s1 i0)=some (Ex.exit 0,(f60_S2 l0 s1 i0)) :=
  around_sound (ans:=[(1,Ans.b false)]) (by kernel_rfl) (ai h0 trivial)
theorem f60_plf (l0:List ByteArray)(s1:ByteArray)(X:Ext)(call:Caller)(lf i0:Nat)
 (h0:vexec Tryd.prog X call lf 0 noFg (Code.loop (loopN Tryd.f60 0)) (f60_S0 l0 s1)=some (Ex.exit 0,(f60_S2 l0 s1 i0))):vbody Tryd.prog X call lf noFg Tryd.f60 (codeOf Tryd.f60) [strsV l0,st s1] [] 0=some (i6 (-1),[]) :=
  along_sound (ans:=[(6,Ans.l (Ex.exit 0) (f60_S2 l0 s1 i0))]) (by kernel_rfl) (ai h0 trivial)
def f60_o0 (l0:List ByteArray)(s1:ByteArray)(i0:Nat)(a:ByteArray):Nat :=
  (match decide ((↑i0:Int)<(↑l0.length:Int)) with
  | true=>(match (ByteArray.toList s1 == ByteArray.toList a) with
    | true=>1
    | false=>0)
  | false=>2)
theorem f60_B0 (l0:List ByteArray)(s1:ByteArray)(X:Ext)(call:Caller)(lf i0:Nat)(a:ByteArray)(r14:List AV)
 (g0:decide ((↑i0:Int)<(↑l0.length:Int))=true→kiq 22 [] (sQ l0) (i6 (↑i0:Int)) (st a::r14))
 (e0:decide ((↑i0:Int)<(↑l0.length:Int))=true→(↑(i0 + 1):Int)=w6 ((↑i0:Int) + 1)) :
    (f60_o0 l0 s1 i0 a=0→∃ Sx,vexec Tryd.prog X call lf 0 noFg (loopN Tryd.f60 0) (f60_F0 l0 s1 i0)=some (Ex.normal,Sx)∧forget f60_D0 Sx=(f60_F0 l0 s1 (i0 + 1)))∧(f60_o0 l0 s1 i0 a=1→vexec Tryd.prog X call lf 0 noFg (loopN Tryd.f60 0) (f60_F0 l0 s1 i0)=some (Ex.ret,(f60_S1 l0 s1 i0 a r14)))∧(f60_o0 l0 s1 i0 a=2→vexec Tryd.prog X call lf 0 noFg (loopN Tryd.f60 0) (f60_F0 l0 s1 i0)=some (Ex.exit 0,(f60_S2 l0 s1 i0))):=by
  unfold f60_o0
  cases c0:decide ((↑i0:Int)<(↑l0.length:Int)) with
  | true =>
    cases c1:(ByteArray.toList s1 == ByteArray.toList a) with
    | true =>
      exact ⟨fun h=>nq h,fun _=>f60_r0_tt l0 s1 X call lf i0 a r14 c0 (g0 c0) c1,fun h=>nq h⟩
    | false =>
      exact ⟨fun _=>f60_s0_tf l0 s1 X call lf i0 a r14 c0 (g0 c0) c1 (e0 c0),fun h=>nq h,fun h=>nq h⟩
  | false =>
    exact ⟨fun h=>nq h,fun h=>nq h,fun _=>f60_r0_f l0 s1 X call lf i0 c0⟩
theorem f60_X0 (l0:List ByteArray)(s1:ByteArray)(X:Ext)(call:Caller)(lf i0:Nat)(a:ByteArray)(r14:List AV)
 (g0:decide ((↑i0:Int)<(↑l0.length:Int))=true→kiq 22 [] (sQ l0) (i6 (↑i0:Int)) (st a::r14)) :
    (f60_o0 l0 s1 i0 a=1→vexec Tryd.prog X call lf 0 noFg (loopN Tryd.f60 0) (f60_F0 l0 s1 i0)=some (Ex.ret,(f60_S1 l0 s1 i0 a r14)))∧(f60_o0 l0 s1 i0 a=2→vexec Tryd.prog X call lf 0 noFg (loopN Tryd.f60 0) (f60_F0 l0 s1 i0)=some (Ex.exit 0,(f60_S2 l0 s1 i0))):=by
  unfold f60_o0
  cases c0:decide ((↑i0:Int)<(↑l0.length:Int)) with
  | true =>
    cases c1:(ByteArray.toList s1 == ByteArray.toList a) with
    | true =>
      exact ⟨fun _=>f60_r0_tt l0 s1 X call lf i0 a r14 c0 (g0 c0) c1,fun h=>nq h⟩
    | false =>
      exact ⟨fun h=>nq h,fun h=>nq h⟩
  | false =>
    exact ⟨fun h=>nq h,fun _=>f60_r0_f l0 s1 X call lf i0 c0⟩
theorem f60_M (l0:List ByteArray)(s1:ByteArray)(X:Ext)(call:Caller)(lf n:Nat)(a:Nat→ByteArray)(r14:Nat→List AV)
 (hn:n<lf)
 (g0:∀ i0,i0 ≤ n→decide ((↑i0:Int)<(↑l0.length:Int))=true→kiq 22 [] (sQ l0) (i6 (↑i0:Int)) (st (a i0)::(r14 i0)))
 (e0:∀ i0,i0<n→decide ((↑i0:Int)<(↑l0.length:Int))=true→(↑(i0 + 1):Int)=w6 ((↑i0:Int) + 1))
 (hz:∀ j,j<n→f60_o0 l0 s1 j (a j)=0) :
    (f60_o0 l0 s1 n (a n)=1→vbody Tryd.prog X call lf noFg Tryd.f60 (codeOf Tryd.f60) [strsV l0,st s1] [] 0=some (i6 (↑n:Int),[]))∧(f60_o0 l0 s1 n (a n)=2→vbody Tryd.prog X call lf noFg Tryd.f60 (codeOf Tryd.f60) [strsV l0,st s1] [] 0=some (i6 (-1),[])):=by
  have key:∀ j,j<n→_:=fun j hj=>(f60_B0 l0 s1 X call lf j (a j) (r14 j) (g0 j (Nat.le_of_lt hj)) (e0 j hj)).1 (hz j hj)
  have kn:=f60_X0 l0 s1 X call lf n (a n) (r14 n) (g0 n (Nat.le_refl n))
  exact ⟨fun hk=>f60_pltt l0 s1 X call lf n (a n) (r14 n) (f60_L0 l0 s1 X call lf n _ _ hn key (kn.1 hk) (by simp)),
    fun hk=>f60_plf l0 s1 X call lf n (f60_L0 l0 s1 X call lf n _ _ hn key (kn.2 hk) (by simp))⟩
theorem f45_pt (l0:List ByteArray)(s1:ByteArray)(X:Ext)(call:Caller)(lf:Nat)(n7:Int)
 (h0:cvq X call false 60 [sQ l0,st s1] [] (i6 n7))
 (h1:decide (n7 ≥ 0)=true):vbody Tryd.prog X call lf noFg Tryd.f45 (codeOf Tryd.f45) [strsV l0,st s1] [] 0=some (bo true,[]) :=
  along_sound (ans:=[(5,Ans.v (i6 n7)),(6,Ans.b true)]) (by kernel_rfl) (ai h0 (ai h1 trivial))
theorem f45_pf (l0:List ByteArray)(s1:ByteArray)(X:Ext)(call:Caller)(lf:Nat)(n7:Int)
 (h0:cvq X call false 60 [sQ l0,st s1] [] (i6 n7))
 (h1:decide (n7 ≥ 0)=false):vbody Tryd.prog X call lf noFg Tryd.f45 (codeOf Tryd.f45) [strsV l0,st s1] [] 0=some (bo false,[]) :=
  along_sound (ans:=[(5,Ans.v (i6 n7)),(6,Ans.b false)]) (by kernel_rfl) (ai h0 (ai h1 trivial))
def f45_q0 (n7:Int):Nat :=
  (match decide (n7 ≥ 0) with
  | true=>0
  | false=>1)
theorem f45_P0 (l0:List ByteArray)(s1:ByteArray)(X:Ext)(call:Caller)(lf:Nat)(n7:Int)
 (g0:cvq X call false 60 [sQ l0,st s1] [] (i6 n7)) :
    (f45_q0 n7=0→vbody Tryd.prog X call lf noFg Tryd.f45 (codeOf Tryd.f45) [strsV l0,st s1] [] 0=some (bo true,[]))∧(f45_q0 n7=1→vbody Tryd.prog X call lf noFg Tryd.f45 (codeOf Tryd.f45) [strsV l0,st s1] [] 0=some (bo false,[])):=by
  unfold f45_q0
  cases c0:decide (n7 ≥ 0) with
  | true =>
    exact ⟨fun _=>f45_pt l0 s1 X call lf n7 g0 c0,fun h=>nq h⟩
  | false =>
    exact ⟨fun h=>nq h,fun _=>f45_pf l0 s1 X call lf n7 g0 c0⟩
theorem f23_pt (x0:Sgn)(s1:ByteArray)(X:Ext)(call:Caller)(lf:Nat)
 (h0:cvq X call false 44 [st s1] [Ob.cells (gQ x0)] (bo true)):vbody Tryd.prog X call lf noFg Tryd.f23 (codeOf Tryd.f23) [AV.agg (sgnC x0),st s1] [] 0=some (bo true,[Ob.cells (gQ x0)]) :=
  along_sound (ans:=[(5,Ans.v (bo true))]) (by kernel_rfl) (ai h0 trivial)
theorem f23_pft (x0:Sgn)(s1:ByteArray)(X:Ext)(call:Caller)(lf:Nat)
 (h0:cvq X call false 44 [st s1] [Ob.cells (gQ x0)] (bo false))
 (h1:cvq X call false 45 [sQ x0.sorts,st s1] [Ob.cells (gQ x0)] (bo true)):vbody Tryd.prog X call lf noFg Tryd.f23 (codeOf Tryd.f23) [AV.agg (sgnC x0),st s1] [] 0=some (bo true,[Ob.cells (gQ x0)]) :=
  along_sound (ans:=[(5,Ans.v (bo false)),(14,Ans.v (bo true))]) (by kernel_rfl) (ai h0 (ai h1 trivial))
theorem f23_pff (x0:Sgn)(s1:ByteArray)(X:Ext)(call:Caller)(lf:Nat)
 (h0:cvq X call false 44 [st s1] [Ob.cells (gQ x0)] (bo false))
 (h1:cvq X call false 45 [sQ x0.sorts,st s1] [Ob.cells (gQ x0)] (bo false)):vbody Tryd.prog X call lf noFg Tryd.f23 (codeOf Tryd.f23) [AV.agg (sgnC x0),st s1] [] 0=some (bo false,[Ob.cells (gQ x0)]) :=
  along_sound (ans:=[(5,Ans.v (bo false)),(14,Ans.v (bo false))]) (by kernel_rfl) (ai h0 (ai h1 trivial))
def f23_q0 (b0 b1:Bool):Nat :=
  (match b0 with
  | true=>0
  | false=>(match b1 with
    | true=>0
    | false=>1))
theorem f23_P0 (x0:Sgn)(s1:ByteArray)(X:Ext)(call:Caller)(lf:Nat)(b0 b1:Bool)
 (g0:cvq X call false 44 [st s1] [Ob.cells (gQ x0)] (bo b0))
 (g1:b0=false→cvq X call false 45 [sQ x0.sorts,st s1] [Ob.cells (gQ x0)] (bo b1)) :
    (f23_q0 b0 b1=0→vbody Tryd.prog X call lf noFg Tryd.f23 (codeOf Tryd.f23) [AV.agg (sgnC x0),st s1] [] 0=some (bo true,[Ob.cells (gQ x0)]))∧(f23_q0 b0 b1=1→vbody Tryd.prog X call lf noFg Tryd.f23 (codeOf Tryd.f23) [AV.agg (sgnC x0),st s1] [] 0=some (bo false,[Ob.cells (gQ x0)])):=by
  unfold f23_q0
  cases c0:b0 with
  | true =>
    exact ⟨fun _=>f23_pt x0 s1 X call lf (by rw [c0] at g0; exact g0),fun h=>nq h⟩
  | false =>
    cases c1:b1 with
    | true =>
      exact ⟨fun _=>f23_pft x0 s1 X call lf (by rw [c0] at g0; exact g0) (by have:=(g1 c0); rw [c1] at this; exact this),fun h=>nq h⟩
    | false =>
      exact ⟨fun h=>nq h,fun _=>f23_pff x0 s1 X call lf (by rw [c0] at g0; exact g0) (by have:=(g1 c0); rw [c1] at this; exact this)⟩
theorem f24_pt (x0:Sgn)(s1:ByteArray)(X:Ext)(call:Caller)(lf:Nat)
 (h0:(ByteArray.toList s1 == ByteArray.toList (ByteArray.mk #[116,105,109,101]))=true):vbody Tryd.prog X call lf noFg Tryd.f24 (codeOf Tryd.f24) [AV.agg (sgnC x0),st s1] [] 0=some (bo true,[Ob.cells (gQ x0)]) :=
  along_sound (ans:=[(5,Ans.b true)]) (by kernel_rfl) (ai h0 trivial)
theorem f24_pft (x0:Sgn)(s1:ByteArray)(X:Ext)(call:Caller)(lf:Nat)
 (h0:(ByteArray.toList s1 == ByteArray.toList (ByteArray.mk #[116,105,109,101]))=false)
 (h1:(ByteArray.toList s1 == ByteArray.toList (ByteArray.mk #[110,117,109,98,101,114]))=true):vbody Tryd.prog X call lf noFg Tryd.f24 (codeOf Tryd.f24) [AV.agg (sgnC x0),st s1] [] 0=some (bo true,[Ob.cells (gQ x0)]) :=
  along_sound (ans:=[(5,Ans.b false),(10,Ans.b true)]) (by kernel_rfl) (ai h0 (ai h1 trivial))
theorem f24_pfft (x0:Sgn)(s1:ByteArray)(X:Ext)(call:Caller)(lf:Nat)
 (h0:(ByteArray.toList s1 == ByteArray.toList (ByteArray.mk #[116,105,109,101]))=false)
 (h1:(ByteArray.toList s1 == ByteArray.toList (ByteArray.mk #[110,117,109,98,101,114]))=false)
 (h2:cvq X call false 35 [sQ x0.sorts,st s1] [Ob.cells (gQ x0)] (bo true)):vbody Tryd.prog X call lf noFg Tryd.f24 (codeOf Tryd.f24) [AV.agg (sgnC x0),st s1] [] 0=some (bo true,[Ob.cells (gQ x0)]) :=
  along_sound (ans:=[(5,Ans.b false),(10,Ans.b false),(20,Ans.v (bo true))]) (by kernel_rfl) (ai h0 (ai h1 (ai h2 trivial)))
theorem f24_pfff (x0:Sgn)(s1:ByteArray)(X:Ext)(call:Caller)(lf:Nat)
 (h0:(ByteArray.toList s1 == ByteArray.toList (ByteArray.mk #[116,105,109,101]))=false)
 (h1:(ByteArray.toList s1 == ByteArray.toList (ByteArray.mk #[110,117,109,98,101,114]))=false)
 (h2:cvq X call false 35 [sQ x0.sorts,st s1] [Ob.cells (gQ x0)] (bo false)):vbody Tryd.prog X call lf noFg Tryd.f24 (codeOf Tryd.f24) [AV.agg (sgnC x0),st s1] [] 0=some (bo false,[Ob.cells (gQ x0)]) :=
  along_sound (ans:=[(5,Ans.b false),(10,Ans.b false),(20,Ans.v (bo false))]) (by kernel_rfl) (ai h0 (ai h1 (ai h2 trivial)))
def f24_q0 (s1:ByteArray)(b0:Bool):Nat :=
  (match (ByteArray.toList s1 == ByteArray.toList (ByteArray.mk #[116,105,109,101])) with
  | true=>0
  | false=>(match (ByteArray.toList s1 == ByteArray.toList (ByteArray.mk #[110,117,109,98,101,114])) with
    | true=>0
    | false=>(match b0 with
      | true=>0
      | false=>1)))
theorem f24_P0 (x0:Sgn)(s1:ByteArray)(X:Ext)(call:Caller)(lf:Nat)(b0:Bool)
 (g0:(ByteArray.toList s1 == ByteArray.toList (ByteArray.mk #[116,105,109,101]))=false→(ByteArray.toList s1 == ByteArray.toList (ByteArray.mk #[110,117,109,98,101,114]))=false→cvq X call false 35 [sQ x0.sorts,st s1] [Ob.cells (gQ x0)] (bo b0)) :
    (f24_q0 s1 b0=0→vbody Tryd.prog X call lf noFg Tryd.f24 (codeOf Tryd.f24) [AV.agg (sgnC x0),st s1] [] 0=some (bo true,[Ob.cells (gQ x0)]))∧(f24_q0 s1 b0=1→vbody Tryd.prog X call lf noFg Tryd.f24 (codeOf Tryd.f24) [AV.agg (sgnC x0),st s1] [] 0=some (bo false,[Ob.cells (gQ x0)])):=by
  unfold f24_q0
  cases c0:(ByteArray.toList s1 == ByteArray.toList (ByteArray.mk #[116,105,109,101])) with
  | true =>
    exact ⟨fun _=>f24_pt x0 s1 X call lf c0,fun h=>nq h⟩
  | false =>
    cases c1:(ByteArray.toList s1 == ByteArray.toList (ByteArray.mk #[110,117,109,98,101,114])) with
    | true =>
      exact ⟨fun _=>f24_pft x0 s1 X call lf c0 c1,fun h=>nq h⟩
    | false =>
      cases c2:b0 with
      | true =>
        exact ⟨fun _=>f24_pfft x0 s1 X call lf c0 c1 (by have:=(g0 c0 c1); rw [c2] at this; exact this),fun h=>nq h⟩
      | false =>
        exact ⟨fun h=>nq h,fun _=>f24_pfff x0 s1 X call lf c0 c1 (by have:=(g0 c0 c1); rw [c2] at this; exact this)⟩
end Go.Proofs.Sig
end
/- Signature: places in rows; rows that grow; what lengths a machine bears. -/
section
open Go Go.Vm Go.Proofs
namespace Go.Proofs.Sig
abbrev big:Nat:=140737488355328
theorem w6_id {n:Int} (h0 : -9223372036854775808 ≤ n) (h1:n ≤ 9223372036854775807):w6 n=n:=by
  rw [w6,IntKind.wrap_i64]
  omega
/-- A counter's step. -/
theorem up {i n:Nat} (h:i < n) (hn:n ≤ big):(↑(i + 1):Int)=w6 ((↑i:Int) + 1):=by
  have h2:n ≤ 140737488355328:=hn
  rw [w6_id (by omega) (by omega)]
  omega
theorem at_rows {t e:TypeId} {σ:List Ob} {lk:LK} {n k:Nat} {cs:List AV} {i:Nat} (hu:Tryd.prog.underlying t=some (.slice e)) (he:Tryd.prog.cellsOf e=k) (hi:(Tryd.prog.info? e).isSome=true) (h:i < n) :
    keep σ (indexAddrv Tryd.prog t σ (.list lk n k cs) (i6 (↑i:Int)))=some (.eaddr (cs.drop (i * k)),σ):=by
  unfold indexAddrv
  rw [hu]
  simp only
  rw [if_pos ⟨by omega,by omega,he.symm,hi⟩]
  simp [keep]
theorem flat_drop {α:Type} {c:α→List AV} {k:Nat} (hc:∀ x,(c x).length=k):∀ (l:List α) (i:Nat) (h:i < l.length),(l.flatMap c).drop (i * k)=c l[i] ++ (l.drop (i + 1)).flatMap c
  | x::l,0,_=>by simp
  | x :: l, i + 1, h => by
    rw [List.flatMap_cons,Nat.succ_mul,Nat.add_comm,← List.drop_drop,List.drop_left' (hc x)]
    simpa using flat_drop hc l i (by simpa using h)
  | [],i,h=>by simp at h
theorem flat_len {α:Type} {c:α→List AV} {k:Nat} (hc:∀ x,(c x).length=k):∀ (l:List α),(l.flatMap c).length=l.length * k
  | []=>by simp
  | x::l=>by rw [List.flatMap_cons,List.length_append,hc,flat_len hc l,List.length_cons,Nat.succ_mul,Nat.add_comm]
def emp:ByteArray:=⟨#[]⟩
def d0C:Cst:=⟨emp,emp⟩
def d0P:Prd:=⟨emp,[]⟩
abbrev nS (l:List ByteArray) (i:Nat):ByteArray:=l.getD i emp
abbrev nC (L:List Cst) (i:Nat):Cst:=L.getD i d0C
abbrev nP (L:List Prd) (i:Nat):Prd:=L.getD i d0P
theorem getD_lt {α:Type} {l:List α} {i:Nat} {d:α} (h:i < l.length):l.getD i d=l[i]:=by
  rw [List.getD_eq_getElem?_getD,List.getElem?_eq_getElem h]; rfl
def tS (l:List ByteArray) (i:Nat):List AV:=(l.drop (i + 1)).map .str
def tC (l:List Cst) (i:Nat):List AV:=(l.drop (i + 1)).flatMap cstC
def tP (l:List Prd) (i:Nat):List AV:=(l.drop (i + 1)).flatMap prdC
theorem cstC_len (f:Cst):(cstC f).length=2:=rfl
theorem prdC_len (f:Prd):(prdC f).length=2:=rfl
section
variable {σ:List Ob} {lk:LK}
theorem at_cst {F:List Cst} {i:Nat} (h:i < F.length):keep σ (indexAddrv Tryd.prog 23 σ (.list lk F.length 2 (F.flatMap cstC)) (i6 (↑i:Int)))=some (.eaddr (st (nC F i).name::st (nC F i).sort::tC F i),σ):=by
  rw [at_rows Tryd.underlying23 (by kernel_rfl) (by kernel_rfl) h,flat_drop cstC_len F i h,nC,getD_lt h]
  rfl
theorem at_prd {F:List Prd} {i:Nat} (h:i < F.length):keep σ (indexAddrv Tryd.prog 24 σ (.list lk F.length 2 (F.flatMap prdC)) (i6 (↑i:Int)))=some (.eaddr (st (nP F i).name::strsV (nP F i).args::tP F i),σ):=by
  rw [at_rows Tryd.underlying24 (by kernel_rfl) (by kernel_rfl) h,flat_drop prdC_len F i h,nP,getD_lt h]
  rfl
theorem at_strs {l:List ByteArray} {i:Nat} (h:i < l.length):keep σ (indexAddrv Tryd.prog 22 σ (.list lk l.length 1 (l.map .str)) (i6 (↑i:Int)))=some (.eaddr (st (nS l i)::tS l i),σ):=by
  rw [at_rows (lk:=lk) (σ:=σ) (n:=l.length) (cs:=l.map .str) (i:=i) Tryd.underlying22 (k:=1) (by kernel_rfl) (by kernel_rfl) h,Nat.mul_one]
  have : (l.map AV.str).drop i = st (nS l i) :: tS l i := by
    rw [← List.map_drop,List.drop_eq_getElem_cons h,List.map_cons,nS,getD_lt h]
    rfl
  rw [this]
/-- The byte at a place. -/
def byteN (s:ByteArray) (i:Nat):Nat:=(s.data.getD i 0).toNat
theorem at_byte {s:ByteArray} {i:Nat} (h:i < s.size):keep σ (indexv Tryd.prog 9 (st s) (i6 (↑i:Int)))=some (.int .u8 (↑(byteN s i):Int),σ):=by
  have h' : i < s.data.size:=h
  unfold indexv
  rw [Tryd.underlying9]
  simp only
  rw [if_pos (by omega)]
  have e : s.data[(↑i : Int).toNat]? = some s.data[i] := by
    rw [Int.toNat_natCast,Array.getElem?_eq_getElem h']
  rw [e]
  simp only [keep,byteN,Array.getD,h',dite_true]
  rfl
end
mutual
theorem thaw_id {σ:List Ob}:∀ (v:AV),AV.owns v=[]→AV.thaw σ v=some v:=by
  intro v h
  match v with
  | .own id n=>simp [AV.owns] at h
  | .list k n sz cs =>
    simp only [AV.owns] at h
    simp only [AV.thaw,thawAll_id cs h]
  | .agg cs =>
    simp only [AV.owns] at h
    simp only [AV.thaw,thawAll_id cs h]
  | .tup cs =>
    simp only [AV.owns] at h
    simp only [AV.thaw,thawAll_id cs h]
  | .int _ _ | .bool _ | .str _ | .pnil | .mnil | .fnil | .inil | .undef | .any | .raw _ | .ptag _ | .ref _ _ | .eref _ _ _ | .map _ | .eaddr _ | .clo _ _ | .iface _ _=>rfl
theorem thawAll_id {σ:List Ob}:∀ (vs:List AV),AV.ownsAll vs=[]→AV.thawAll σ vs=some vs:=by
  intro vs h
  match vs with
  | []=>rfl
  | v :: vs =>
    simp only [AV.ownsAll,List.append_eq_nil_iff] at h
    simp only [AV.thawAll,thaw_id v h.1,thawAll_id vs h.2]
end
/-- Results without a row of the call's own. -/
theorem vend1_plain {σ:List Ob} {rs:List AV} (h:AV.ownsAll rs=[]):vend1 [] 0 σ rs=some (unfr (oneOf rs),σ):=by
  unfold vend1
  rw [thawAll_id rs h,h]
  simp only [freezeIds,Option.some.injEq,Prod.mk.injEq,and_true]
  unfold resOf
  split
  · simp [AV.ownsAll,AV.owns] at h
  · rfl
theorem eqB_iff {x y:ByteArray}:(x.toList == y.toList)=true ↔ x=y:=by
  rw [beq_iff_eq,ByteArray.toList_eq,ByteArray.toList_eq]
  constructor
  · intro h
    cases x; cases y
    simpa using h
  · rintro rfl; rfl
theorem eqB_ne {x y:ByteArray}:(x.toList == y.toList)=false ↔ x ≠ y:=by
  rw [← Bool.not_eq_true,eqB_iff]
theorem vend1_any {σ1 σ:List Ob} {rs:List AV} (h:AV.ownsAll rs=[]):vend1 σ1 0 σ rs=some (unfr (oneOf rs),σ):=by
  unfold vend1
  rw [thawAll_id rs h,h]
  simp only [freezeIds,Option.some.injEq,Prod.mk.injEq,and_true]
  cases σ1 with
  | cons=>rfl
  | nil => cases rs with
    | nil=>rfl
    | cons v vs=>cases v <;> first | rfl | (simp [AV.ownsAll,AV.owns] at h)
section
variable [Fixed] {α:Type}
/-- A type of rows, and how its elements lie. -/
structure RowT (A:Cod α) (t e:TypeId) (kb:Nat):Prop where
  und:Tryd.prog.underlying t=some (.slice e)
  cells:Tryd.prog.cellsOf e=A.k
  zero:∃ z,zerov Tryd.prog e=some z∧z.cells.length=A.k
  bytes:Tryd.prog.bytesOf e=kb
  nob:isByte Tryd.prog e=false
def grV (v0:AV) (id n:Nat):AV:=if n=0 then v0 else .own id n
def grS (A:Cod α) (σ0:List Ob) (l:List α):List Ob:=if l.length=0 then σ0 else σ0 ++ [.arr l.length A.k (l.flatMap A.enc)]
theorem appended_row {A:Cod α} {σ:List Ob} {lk:LK} (m:List α):appended σ A.k (.list lk m.length A.k (m.flatMap A.enc))=some (m.length,m.flatMap A.enc):=by
  simp only [appended]
  by_cases h:m.length=0
  · have : m = [] := List.eq_nil_of_length_eq_zero h
    subst this
    rfl
  · rw [if_neg h,if_pos trivial]
theorem gr_stepR {A:Cod α} {t e:TypeId} {kb:Nat} (h:RowT A t e kb) {lk:LK} {sz0:Nat} (hk:lk = .nil ∨ lk = .clip) {σ0:List Ob} {ro:Nat} (hro:ro ≤ σ0.length) {l m:List α} {x:AV}
    (hx:appended (grS A σ0 l) A.k x=some (m.length,m.flatMap A.enc)) (hb:(l.length + m.length) * (kb + 1) ≤ big) :
    appendv Tryd.prog t (grS A σ0 l) ro (grV (.list lk 0 sz0 []) σ0.length l.length) x=some (grV (.list lk 0 sz0 []) σ0.length (l ++ m).length,grS A σ0 (l ++ m)):=by
  obtain ⟨z,hz,hzl⟩:=h.zero
  have hb:(l.length + m.length) * (kb + 1) ≤ 140737488355328:=hb
  by_cases hl:l.length=0
  · have hl' : l = [] := List.eq_nil_of_length_eq_zero hl
    subst hl'
    unfold appendv
    rw [h.und]
    have hno : ∀ (n : Nat) (cs : List AV), newOb Tryd.prog e n A.k cs = .arr n A.k cs := fun n cs => by
      unfold newOb
      rw [h.nob]
      rfl
    simp only [h.cells,hx,hz,h.bytes]
    rw [if_pos ⟨Cod.flat_owns m,hzl⟩]
    simp only [hno,grV,grS,List.length_nil,if_true,List.nil_append]
    rw [if_pos ⟨hk,.inl trivial,rfl,by simpa using hb⟩]
    by_cases hm:m.length=0
    · rw [if_pos hm,if_pos hm,if_pos hm]
    · rw [if_neg hm,if_neg hm,if_neg hm,Nat.zero_add]
  · have hlm : ¬ (l ++ m).length = 0 := by rw [List.length_append]; omega
    have ho : (grS A σ0 l)[σ0.length]? = some (.arr l.length (Tryd.prog.cellsOf e) (l.flatMap A.enc)) := by
      rw [grS,if_neg hl,h.cells]; simp
    have hv:grV (.list lk 0 sz0 []) σ0.length l.length = .own σ0.length l.length:=if_neg hl
    have hx' : appended (grS A σ0 l) (Tryd.prog.cellsOf e) x=some (m.length,m.flatMap A.enc):=by rw [h.cells]; exact hx
    rw [hv,grV,if_neg hlm]
    by_cases hm:m.length=0
    · have hm' : m = [] := List.eq_nil_of_length_eq_zero hm
      subst hm'
      rw [grow_none h.und hz (by rw [hzl,h.cells]) ho hro hx' rfl (by rw [h.bytes]; simpa using hb)]
      simp
    · rw [grow_own h.und hz (by rw [hzl, h.cells]) ho hro hx' (Cod.flat_owns m) hm (by rw [h.bytes]; exact hb)]
      rw [List.length_append,h.cells]
      simp only [grS,if_neg hl]
      rw [if_neg (by rw [List.length_append]; omega)]
      rw [setOb_last,List.flatMap_append,List.length_append]
theorem gr_step {A:Cod α} {t e:TypeId} {kb:Nat} (h:RowT A t e kb) {lk:LK} {sz0:Nat} (hk:lk = .nil ∨ lk = .clip) {σ0:List Ob} {l m:List α} {x:AV}
    (hx:appended (grS A σ0 l) A.k x=some (m.length,m.flatMap A.enc)) (hb:(l.length + m.length) * (kb + 1) ≤ big) :
    appendv Tryd.prog t (grS A σ0 l) 0 (grV (.list lk 0 sz0 []) σ0.length l.length) x=some (grV (.list lk 0 sz0 []) σ0.length (l ++ m).length,grS A σ0 (l ++ m)) :=
  gr_stepR h hk (Nat.zero_le _) hx hb
/-- The row at the function's end. -/
theorem gr_end {A:Cod α} {lk:LK} {sz0:Nat} {σ1 σ0:List Ob} (l:List α):∃ (r:AV) (σ' : List Ob),vend1 σ1 0 (grS A σ0 l) [grV (.list lk 0 sz0 []) σ0.length l.length]=some (r,σ0 ++ σ')∧A.list.dec [r]=some l∧AV.owns r=[]:=by
  by_cases hl:l.length=0
  · have hl' : l = [] := List.eq_nil_of_length_eq_zero hl
    subst hl'
    refine ⟨unfr (.list lk 0 sz0 []),[],?_,?_,?_⟩
    · simp only [grV, grS, List.length_nil, if_true, List.append_nil]
      exact vend1_any rfl
    · cases lk <;> rfl
    · cases lk <;> rfl
  · have hg : grS A σ0 l = σ0 ++ [.arr l.length A.k (l.flatMap A.enc)] := if_neg hl
    have hv:grV (.list lk 0 sz0 []) σ0.length l.length = .own σ0.length l.length:=if_neg hl
    have ho:(σ0 ++ [Ob.arr l.length A.k (l.flatMap A.enc)])[σ0.length]? = some (.arr l.length A.k (l.flatMap A.enc)):=by simp
    have ht : AV.thawAll (σ0 ++ [Ob.arr l.length A.k (l.flatMap A.enc)]) [.own σ0.length l.length] = some [.list .ro l.length A.k (l.flatMap A.enc)] := by
      simp only [AV.thawAll,AV.thaw,ho,if_true]
    have hf : freezeIds 0 (σ0 ++ [Ob.arr l.length A.k (l.flatMap A.enc)]) (AV.ownsAll [.own σ0.length l.length]) = some (σ0 ++ [.fro l.length A.k (l.flatMap A.enc)]) := by
      simp only [AV.ownsAll,AV.owns,List.append_nil,List.nil_append,List.cons_append,freezeIds,freezeId,ho,Nat.zero_le,if_true,setOb_last]
    have hd : ∀ k, A.list.dec [.list k l.length A.k (l.flatMap A.enc)] = some l := by
      intro k
      show (if l.length=0 then _ else if A.k=A.k then A.many l.length (l.flatMap A.enc) else none)=some l
      rw [if_neg hl,if_pos rfl,Cod.many_de]
    have hw:AV.ownsAll (l.flatMap A.enc)=[]:=Cod.flat_owns l
    rw [hg,hv]
    unfold vend1
    rw [ht,hf]
    simp only
    refine ⟨_,_,rfl,?_,?_⟩
    · unfold resOf
      split
      · rename_i h1 h2
        simp only [List.cons.injEq,AV.own.injEq,AV.list.injEq] at h1 h2
        obtain ⟨⟨e1,e2⟩,e3⟩:=h1
        obtain ⟨⟨-,-,e4,e5⟩,e6⟩:=h2
        subst e1 e2 e3 e4 e5 e6
        rw [ho]
        simp only [AV.ownsAll,if_true,oneOf]
        exact hd _
      · exact hd _
    · unfold resOf
      split
      · rename_i h1 h2
        simp only [List.cons.injEq,AV.own.injEq,AV.list.injEq] at h1 h2
        obtain ⟨⟨e1,e2⟩,e3⟩:=h1
        obtain ⟨⟨-,-,e4,e5⟩,e6⟩:=h2
        subst e1 e2 e3 e4 e5 e6
        rw [ho]
        simp only [AV.ownsAll,if_true,oneOf,AV.owns]
        exact hw
      · simp only [oneOf, unfr, unfr1, AV.owns]
        exact hw
end
end Go.Proofs.Sig
end
/- Signature: symbols that are found, lists that are equal, walked (printed) -/
section
open Go Go.Vm Go.Proofs
namespace Go.Proofs.Sig
def fg19:Nat→List Nat
  | 5003=>[1]
  | _=>[]
def f19_F0 (x0:Sgn)(s1:ByteArray)(i0:Nat):St :=
  stOf 22 [4,5,7,12,13,14,15,16,17,18,19,20,21] [(0,AV.agg (gQ x0)),(1,st s1),(2,AV.ref 0 0),(8,AV.ref 0 1),(9,cQ x0.consts),(10,i6 (↑x0.consts.length:Int)),(11,i6 (↑i0:Int))] [Ob.cells (gQ x0)]
def f19_S0 (x0:Sgn)(s1:ByteArray):St :=
  stOf 22 [] [(0,AV.agg (gQ x0)),(1,st s1),(2,AV.ref 0 0),(4,st (ByteArray.mk #[])),(5,bo false),(8,AV.ref 0 1),(9,cQ x0.consts),(10,i6 (↑x0.consts.length:Int)),(11,i6 0)] [Ob.cells (gQ x0)]
abbrev f19_D0:List Nat:=[21,5,4,20,19,18,17,16,15,7,14,13,12]
theorem f19_L0 (x0:Sgn)(s1:ByteArray)(X:Ext)(call:Caller)(lf n:Nat)(x:Ex) (S' : St)
 (hn:n<lf)
 (hs:∀ j,j<n→∃ Sx,vexec Tryd.prog X call lf 0 fg19 (loopN Tryd.f19 0) (f19_F0 x0 s1 j)=some (Ex.normal,Sx)∧forget f19_D0 Sx=(f19_F0 x0 s1 (j + 1)))
 (he:vexec Tryd.prog X call lf 0 fg19 (loopN Tryd.f19 0) (f19_F0 x0 s1 n)=some (x,S'))
 (hx:x ≠ Ex.normal):vexec Tryd.prog X call lf 0 fg19 (Go.Code.loop (loopN Tryd.f19 0)) (f19_S0 x0 s1)=some (x,S') :=
  loop_runK (by kernel_rfl) (fun j=>(f19_F0 x0 s1 j)) n hn (by show forget f19_D0 (f19_S0 x0 s1)=(f19_F0 x0 s1 0); unfold f19_F0; show _=_; kernel_rfl) hs he hx
def f19_S1 (x0:Sgn)(s1:ByteArray)(i0:Nat)(a b:ByteArray)(r13:List AV):St :=
  stOf 22 [21] [(0,AV.agg (gQ x0)),(1,st s1),(2,AV.ref 0 0),(4,st b),(5,bo true),(7,AV.eaddr [st a,st b]),(8,AV.ref 0 1),(9,cQ x0.consts),(10,i6 (↑x0.consts.length:Int)),(11,i6 (↑i0:Int)),(12,bo true),(13,AV.eaddr (st a::st b::r13)),(14,AV.agg [st a,st b]),(15,AV.eaddr [st a,st b]),(16,st a),(17,st s1),(18,bo true),(19,AV.eaddr [st b]),(20,st b)] [Ob.cells (gQ x0)]
theorem f19_r0_tt (x0:Sgn)(s1:ByteArray)(X:Ext)(call:Caller)(lf i0:Nat)(a c:ByteArray)(r13:List AV)
 (h0:decide ((↑i0:Int)<(↑x0.consts.length:Int))=true)
 (h1:kiq 23 [Ob.cells (gQ x0)] (cQ x0.consts) (i6 (↑i0:Int)) (st a::st c::r13))
 (h2:(ByteArray.toList a == ByteArray.toList s1)=true):vexec Tryd.prog X call lf 0 fg19 (loopN Tryd.f19 0) (f19_F0 x0 s1 i0)=some (Ex.ret,(f19_S1 x0 s1 i0 a c r13)) :=
  around_sound (ans:=[(1,Ans.b true),(4,Ans.v (AV.eaddr (st a::st c::r13))),(10,Ans.b true)]) (by kernel_rfl) (ai h0 (ai h1 (ai h2 trivial)))
theorem f19_pltt (x0:Sgn)(s1:ByteArray)(X:Ext)(call:Caller)(lf i0:Nat)(a b:ByteArray)(r13:List AV)
 (h0:vexec Tryd.prog X call lf 0 fg19 (Code.loop (loopN Tryd.f19 0)) (f19_S0 x0 s1)=some (Ex.ret,(f19_S1 x0 s1 i0 a b r13))):vbody Tryd.prog X call lf fg19 Tryd.f19 (codeOf Tryd.f19) [AV.agg (sgnC x0),st s1] [] 0=some (AV.tup [st b,bo true],[Ob.cells (gQ x0)]) :=
  along_sound (ans:=[(9,Ans.l Ex.ret (f19_S1 x0 s1 i0 a b r13))]) (by kernel_rfl) (ai h0 trivial)
def f19_S2 (x0:Sgn)(s1:ByteArray)(i0:Nat)(a b:ByteArray)(r13:List AV):St :=
  stOf 22 [4,5,19,20] [(0,AV.agg (gQ x0)),(1,st s1),(2,AV.ref 0 0),(7,AV.eaddr [st a,st b]),(8,AV.ref 0 1),(9,cQ x0.consts),(10,i6 (↑x0.consts.length:Int)),(11,i6 (w6 ((↑i0:Int) + 1))),(12,bo true),(13,AV.eaddr (st a::st b::r13)),(14,AV.agg [st a,st b]),(15,AV.eaddr [st a,st b]),(16,st a),(17,st s1),(18,bo false),(21,i6 (w6 ((↑i0:Int) + 1)))] [Ob.cells (gQ x0)]
theorem f19_s0_tf (x0:Sgn)(s1:ByteArray)(X:Ext)(call:Caller)(lf i0:Nat)(a c:ByteArray)(r13:List AV)
 (h0:decide ((↑i0:Int)<(↑x0.consts.length:Int))=true)
 (h1:kiq 23 [Ob.cells (gQ x0)] (cQ x0.consts) (i6 (↑i0:Int)) (st a::st c::r13))
 (h2:(ByteArray.toList a == ByteArray.toList s1)=false)
 (e0:(↑(i0 + 1):Int)=w6 ((↑i0:Int) + 1)):∃ Sx,vexec Tryd.prog X call lf 0 fg19 (loopN Tryd.f19 0) (f19_F0 x0 s1 i0)=some (Ex.normal,Sx)∧forget f19_D0 Sx=(f19_F0 x0 s1 (i0 + 1)) :=
  ⟨(f19_S2 x0 s1 i0 a c r13),around_sound (ans:=[(1,Ans.b true),(4,Ans.v (AV.eaddr (st a::st c::r13))),(10,Ans.b false)]) (by kernel_rfl) (ai h0 (ai h1 (ai h2 trivial))),by unfold f19_F0; rw [e0]; show _=_; kernel_rfl⟩
def f19_S3 (x0:Sgn)(s1:ByteArray)(i0:Nat):St :=
  stOf 22 [4,5,7,13,14,15,16,17,18,19,20,21] [(0,AV.agg (gQ x0)),(1,st s1),(2,AV.ref 0 0),(8,AV.ref 0 1),(9,cQ x0.consts),(10,i6 (↑x0.consts.length:Int)),(11,i6 (↑i0:Int)),(12,bo false)] [Ob.cells (gQ x0)]
theorem f19_r0_f (x0:Sgn)(s1:ByteArray)(X:Ext)(call:Caller)(lf i0:Nat)
 (h0:decide ((↑i0:Int)<(↑x0.consts.length:Int))=false):vexec Tryd.prog X call lf 0 fg19 (loopN Tryd.f19 0) (f19_F0 x0 s1 i0)=some (Ex.exit 0,(f19_S3 x0 s1 i0)) :=
  around_sound (ans:=[(1,Ans.b false)]) (by kernel_rfl) (ai h0 trivial)
theorem f19_plf (x0:Sgn)(s1:ByteArray)(X:Ext)(call:Caller)(lf i0:Nat)
 (h0:vexec Tryd.prog X call lf 0 fg19 (Code.loop (loopN Tryd.f19 0)) (f19_S0 x0 s1)=some (Ex.exit 0,(f19_S3 x0 s1 i0))):vbody Tryd.prog X call lf fg19 Tryd.f19 (codeOf Tryd.f19) [AV.agg (sgnC x0),st s1] [] 0=some (AV.tup [st (ByteArray.mk #[]),bo false],[Ob.cells (gQ x0)]) :=
  along_sound (ans:=[(9,Ans.l (Ex.exit 0) (f19_S3 x0 s1 i0))]) (by kernel_rfl) (ai h0 trivial)
def f19_o0 (x0:Sgn)(s1:ByteArray)(i0:Nat)(a:ByteArray):Nat :=
  (match decide ((↑i0:Int)<(↑x0.consts.length:Int)) with
  | true=>(match (ByteArray.toList a == ByteArray.toList s1) with
    | true=>1
    | false=>0)
  | false=>2)
theorem f19_B0 (x0:Sgn)(s1:ByteArray)(X:Ext)(call:Caller)(lf i0:Nat)(a b:ByteArray)(r13:List AV)
 (g0:decide ((↑i0:Int)<(↑x0.consts.length:Int))=true→kiq 23 [Ob.cells (gQ x0)] (cQ x0.consts) (i6 (↑i0:Int)) (st a::st b::r13))
 (e0:decide ((↑i0:Int)<(↑x0.consts.length:Int))=true→(↑(i0 + 1):Int)=w6 ((↑i0:Int) + 1)) :
    (f19_o0 x0 s1 i0 a=0→∃ Sx,vexec Tryd.prog X call lf 0 fg19 (loopN Tryd.f19 0) (f19_F0 x0 s1 i0)=some (Ex.normal,Sx)∧forget f19_D0 Sx=(f19_F0 x0 s1 (i0 + 1)))∧(f19_o0 x0 s1 i0 a=1→vexec Tryd.prog X call lf 0 fg19 (loopN Tryd.f19 0) (f19_F0 x0 s1 i0)=some (Ex.ret,(f19_S1 x0 s1 i0 a b r13)))∧(f19_o0 x0 s1 i0 a=2→vexec Tryd.prog X call lf 0 fg19 (loopN Tryd.f19 0) (f19_F0 x0 s1 i0)=some (Ex.exit 0,(f19_S3 x0 s1 i0))):=by
  unfold f19_o0
  cases c0:decide ((↑i0:Int)<(↑x0.consts.length:Int)) with
  | true =>
    cases c1:(ByteArray.toList a == ByteArray.toList s1) with
    | true =>
      exact ⟨fun h=>nq h,fun _=>f19_r0_tt x0 s1 X call lf i0 a b r13 c0 (g0 c0) c1,fun h=>nq h⟩
    | false =>
      exact ⟨fun _=>f19_s0_tf x0 s1 X call lf i0 a b r13 c0 (g0 c0) c1 (e0 c0),fun h=>nq h,fun h=>nq h⟩
  | false =>
    exact ⟨fun h=>nq h,fun h=>nq h,fun _=>f19_r0_f x0 s1 X call lf i0 c0⟩
theorem f19_X0 (x0:Sgn)(s1:ByteArray)(X:Ext)(call:Caller)(lf i0:Nat)(a b:ByteArray)(r13:List AV)
 (g0:decide ((↑i0:Int)<(↑x0.consts.length:Int))=true→kiq 23 [Ob.cells (gQ x0)] (cQ x0.consts) (i6 (↑i0:Int)) (st a::st b::r13)) :
    (f19_o0 x0 s1 i0 a=1→vexec Tryd.prog X call lf 0 fg19 (loopN Tryd.f19 0) (f19_F0 x0 s1 i0)=some (Ex.ret,(f19_S1 x0 s1 i0 a b r13)))∧(f19_o0 x0 s1 i0 a=2→vexec Tryd.prog X call lf 0 fg19 (loopN Tryd.f19 0) (f19_F0 x0 s1 i0)=some (Ex.exit 0,(f19_S3 x0 s1 i0))):=by
  unfold f19_o0
  cases c0:decide ((↑i0:Int)<(↑x0.consts.length:Int)) with
  | true =>
    cases c1:(ByteArray.toList a == ByteArray.toList s1) with
    | true =>
      exact ⟨fun _=>f19_r0_tt x0 s1 X call lf i0 a b r13 c0 (g0 c0) c1,fun h=>nq h⟩
    | false =>
      exact ⟨fun h=>nq h,fun h=>nq h⟩
  | false =>
    exact ⟨fun h=>nq h,fun _=>f19_r0_f x0 s1 X call lf i0 c0⟩
theorem f19_M (x0:Sgn)(s1:ByteArray)(X:Ext)(call:Caller)(lf n:Nat)(a b:Nat→ByteArray)(r13:Nat→List AV)
 (hn:n<lf)
 (g0:∀ i0,i0 ≤ n→decide ((↑i0:Int)<(↑x0.consts.length:Int))=true→kiq 23 [Ob.cells (gQ x0)] (cQ x0.consts) (i6 (↑i0:Int)) (st (a i0)::st (b i0)::(r13 i0)))
 (e0:∀ i0,i0<n→decide ((↑i0:Int)<(↑x0.consts.length:Int))=true→(↑(i0 + 1):Int)=w6 ((↑i0:Int) + 1))
 (hz:∀ j,j<n→f19_o0 x0 s1 j (a j)=0) :
    (f19_o0 x0 s1 n (a n)=1→vbody Tryd.prog X call lf fg19 Tryd.f19 (codeOf Tryd.f19) [AV.agg (sgnC x0),st s1] [] 0=some (AV.tup [st (b n),bo true],[Ob.cells (gQ x0)]))∧(f19_o0 x0 s1 n (a n)=2→vbody Tryd.prog X call lf fg19 Tryd.f19 (codeOf Tryd.f19) [AV.agg (sgnC x0),st s1] [] 0=some (AV.tup [st (ByteArray.mk #[]),bo false],[Ob.cells (gQ x0)])):=by
  have key:∀ j,j<n→_:=fun j hj=>(f19_B0 x0 s1 X call lf j (a j) (b j) (r13 j) (g0 j (Nat.le_of_lt hj)) (e0 j hj)).1 (hz j hj)
  have kn:=f19_X0 x0 s1 X call lf n (a n) (b n) (r13 n) (g0 n (Nat.le_refl n))
  exact ⟨fun hk=>f19_pltt x0 s1 X call lf n (a n) (b n) (r13 n) (f19_L0 x0 s1 X call lf n _ _ hn key (kn.1 hk) (by simp)),
    fun hk=>f19_plf x0 s1 X call lf n (f19_L0 x0 s1 X call lf n _ _ hn key (kn.2 hk) (by simp))⟩
def fg20:Nat→List Nat
  | 5003=>[1]
  | _=>[]
def f20_F0 (x0:Sgn)(s1:ByteArray)(i0:Nat):St :=
  stOf 22 [4,5,7,12,13,14,15,16,17,18,19,20,21] [(0,AV.agg (gQ x0)),(1,st s1),(2,AV.ref 0 0),(8,AV.ref 0 1),(9,cQ x0.consts),(10,i6 (↑x0.consts.length:Int)),(11,i6 (↑i0:Int))] [Ob.cells (gQ x0)]
theorem f20_L0 (x0:Sgn)(s1:ByteArray)(X:Ext)(call:Caller)(lf n:Nat)(x:Ex) (S' : St)
 (hn:n<lf)
 (hs:∀ j,j<n→∃ Sx,vexec Tryd.prog X call lf 0 fg20 (loopN Tryd.f20 0) (f20_F0 x0 s1 j)=some (Ex.normal,Sx)∧forget f19_D0 Sx=(f20_F0 x0 s1 (j + 1)))
 (he:vexec Tryd.prog X call lf 0 fg20 (loopN Tryd.f20 0) (f20_F0 x0 s1 n)=some (x,S'))
 (hx:x ≠ Ex.normal):vexec Tryd.prog X call lf 0 fg20 (Go.Code.loop (loopN Tryd.f20 0)) (f19_S0 x0 s1)=some (x,S') :=
  loop_runK (by kernel_rfl) (fun j=>(f20_F0 x0 s1 j)) n hn (by show forget f19_D0 (f19_S0 x0 s1)=(f20_F0 x0 s1 0); unfold f20_F0; show _=_; kernel_rfl) hs he hx
theorem f20_r0_tt (x0:Sgn)(s1:ByteArray)(X:Ext)(call:Caller)(lf i0:Nat)(a c:ByteArray)(r13:List AV)
 (h0:decide ((↑i0:Int)<(↑x0.consts.length:Int))=true)
 (h1:kiq 23 [Ob.cells (gQ x0)] (cQ x0.consts) (i6 (↑i0:Int)) (st a::st c::r13))
 (h2:(ByteArray.toList a == ByteArray.toList s1)=true):vexec Tryd.prog X call lf 0 fg20 (loopN Tryd.f20 0) (f20_F0 x0 s1 i0)=some (Ex.ret,(f19_S1 x0 s1 i0 a c r13)) :=
  around_sound (ans:=[(1,Ans.b true),(4,Ans.v (AV.eaddr (st a::st c::r13))),(10,Ans.b true)]) (by kernel_rfl) (ai h0 (ai h1 (ai h2 trivial)))
theorem f20_pltt (x0:Sgn)(s1:ByteArray)(X:Ext)(call:Caller)(lf i0:Nat)(a b:ByteArray)(r13:List AV)
 (h0:vexec Tryd.prog X call lf 0 fg20 (Code.loop (loopN Tryd.f20 0)) (f19_S0 x0 s1)=some (Ex.ret,(f19_S1 x0 s1 i0 a b r13))):vbody Tryd.prog X call lf fg20 Tryd.f20 (codeOf Tryd.f20) [AV.agg (sgnC x0),st s1] [] 0=some (AV.tup [st b,bo true],[Ob.cells (gQ x0)]) :=
  along_sound (ans:=[(9,Ans.l Ex.ret (f19_S1 x0 s1 i0 a b r13))]) (by kernel_rfl) (ai h0 trivial)
theorem f20_s0_tf (x0:Sgn)(s1:ByteArray)(X:Ext)(call:Caller)(lf i0:Nat)(a c:ByteArray)(r13:List AV)
 (h0:decide ((↑i0:Int)<(↑x0.consts.length:Int))=true)
 (h1:kiq 23 [Ob.cells (gQ x0)] (cQ x0.consts) (i6 (↑i0:Int)) (st a::st c::r13))
 (h2:(ByteArray.toList a == ByteArray.toList s1)=false)
 (e0:(↑(i0 + 1):Int)=w6 ((↑i0:Int) + 1)):∃ Sx,vexec Tryd.prog X call lf 0 fg20 (loopN Tryd.f20 0) (f20_F0 x0 s1 i0)=some (Ex.normal,Sx)∧forget f19_D0 Sx=(f20_F0 x0 s1 (i0 + 1)) :=
  ⟨(f19_S2 x0 s1 i0 a c r13),around_sound (ans:=[(1,Ans.b true),(4,Ans.v (AV.eaddr (st a::st c::r13))),(10,Ans.b false)]) (by kernel_rfl) (ai h0 (ai h1 (ai h2 trivial))),by unfold f20_F0; rw [e0]; show _=_; kernel_rfl⟩
theorem f20_r0_f (x0:Sgn)(s1:ByteArray)(X:Ext)(call:Caller)(lf i0:Nat)
 (h0:decide ((↑i0:Int)<(↑x0.consts.length:Int))=false):vexec Tryd.prog X call lf 0 fg20 (loopN Tryd.f20 0) (f20_F0 x0 s1 i0)=some (Ex.exit 0,(f19_S3 x0 s1 i0)) :=
  around_sound (ans:=[(1,Ans.b false)]) (by kernel_rfl) (ai h0 trivial)
theorem f20_plf (x0:Sgn)(s1:ByteArray)(X:Ext)(call:Caller)(lf i0:Nat)
 (h0:vexec Tryd.prog X call lf 0 fg20 (Code.loop (loopN Tryd.f20 0)) (f19_S0 x0 s1)=some (Ex.exit 0,(f19_S3 x0 s1 i0))):vbody Tryd.prog X call lf fg20 Tryd.f20 (codeOf Tryd.f20) [AV.agg (sgnC x0),st s1] [] 0=some (AV.tup [st (ByteArray.mk #[]),bo false],[Ob.cells (gQ x0)]) :=
  along_sound (ans:=[(9,Ans.l (Ex.exit 0) (f19_S3 x0 s1 i0))]) (by kernel_rfl) (ai h0 trivial)
def f20_o0 (x0:Sgn)(s1:ByteArray)(i0:Nat)(a:ByteArray):Nat :=
  (match decide ((↑i0:Int)<(↑x0.consts.length:Int)) with
  | true=>(match (ByteArray.toList a == ByteArray.toList s1) with
    | true=>1
    | false=>0)
  | false=>2)
theorem f20_B0 (x0:Sgn)(s1:ByteArray)(X:Ext)(call:Caller)(lf i0:Nat)(a b:ByteArray)(r13:List AV)
 (g0:decide ((↑i0:Int)<(↑x0.consts.length:Int))=true→kiq 23 [Ob.cells (gQ x0)] (cQ x0.consts) (i6 (↑i0:Int)) (st a::st b::r13))
 (e0:decide ((↑i0:Int)<(↑x0.consts.length:Int))=true→(↑(i0 + 1):Int)=w6 ((↑i0:Int) + 1)) :
    (f20_o0 x0 s1 i0 a=0→∃ Sx,vexec Tryd.prog X call lf 0 fg20 (loopN Tryd.f20 0) (f20_F0 x0 s1 i0)=some (Ex.normal,Sx)∧forget f19_D0 Sx=(f20_F0 x0 s1 (i0 + 1)))∧(f20_o0 x0 s1 i0 a=1→vexec Tryd.prog X call lf 0 fg20 (loopN Tryd.f20 0) (f20_F0 x0 s1 i0)=some (Ex.ret,(f19_S1 x0 s1 i0 a b r13)))∧(f20_o0 x0 s1 i0 a=2→vexec Tryd.prog X call lf 0 fg20 (loopN Tryd.f20 0) (f20_F0 x0 s1 i0)=some (Ex.exit 0,(f19_S3 x0 s1 i0))):=by
  unfold f20_o0
  cases c0:decide ((↑i0:Int)<(↑x0.consts.length:Int)) with
  | true =>
    cases c1:(ByteArray.toList a == ByteArray.toList s1) with
    | true =>
      exact ⟨fun h=>nq h,fun _=>f20_r0_tt x0 s1 X call lf i0 a b r13 c0 (g0 c0) c1,fun h=>nq h⟩
    | false =>
      exact ⟨fun _=>f20_s0_tf x0 s1 X call lf i0 a b r13 c0 (g0 c0) c1 (e0 c0),fun h=>nq h,fun h=>nq h⟩
  | false =>
    exact ⟨fun h=>nq h,fun h=>nq h,fun _=>f20_r0_f x0 s1 X call lf i0 c0⟩
theorem f20_X0 (x0:Sgn)(s1:ByteArray)(X:Ext)(call:Caller)(lf i0:Nat)(a b:ByteArray)(r13:List AV)
 (g0:decide ((↑i0:Int)<(↑x0.consts.length:Int))=true→kiq 23 [Ob.cells (gQ x0)] (cQ x0.consts) (i6 (↑i0:Int)) (st a::st b::r13)) :
    (f20_o0 x0 s1 i0 a=1→vexec Tryd.prog X call lf 0 fg20 (loopN Tryd.f20 0) (f20_F0 x0 s1 i0)=some (Ex.ret,(f19_S1 x0 s1 i0 a b r13)))∧(f20_o0 x0 s1 i0 a=2→vexec Tryd.prog X call lf 0 fg20 (loopN Tryd.f20 0) (f20_F0 x0 s1 i0)=some (Ex.exit 0,(f19_S3 x0 s1 i0))):=by
  unfold f20_o0
  cases c0:decide ((↑i0:Int)<(↑x0.consts.length:Int)) with
  | true =>
    cases c1:(ByteArray.toList a == ByteArray.toList s1) with
    | true =>
      exact ⟨fun _=>f20_r0_tt x0 s1 X call lf i0 a b r13 c0 (g0 c0) c1,fun h=>nq h⟩
    | false =>
      exact ⟨fun h=>nq h,fun h=>nq h⟩
  | false =>
    exact ⟨fun h=>nq h,fun _=>f20_r0_f x0 s1 X call lf i0 c0⟩
theorem f20_M (x0:Sgn)(s1:ByteArray)(X:Ext)(call:Caller)(lf n:Nat)(a b:Nat→ByteArray)(r13:Nat→List AV)
 (hn:n<lf)
 (g0:∀ i0,i0 ≤ n→decide ((↑i0:Int)<(↑x0.consts.length:Int))=true→kiq 23 [Ob.cells (gQ x0)] (cQ x0.consts) (i6 (↑i0:Int)) (st (a i0)::st (b i0)::(r13 i0)))
 (e0:∀ i0,i0<n→decide ((↑i0:Int)<(↑x0.consts.length:Int))=true→(↑(i0 + 1):Int)=w6 ((↑i0:Int) + 1))
 (hz:∀ j,j<n→f20_o0 x0 s1 j (a j)=0) :
    (f20_o0 x0 s1 n (a n)=1→vbody Tryd.prog X call lf fg20 Tryd.f20 (codeOf Tryd.f20) [AV.agg (sgnC x0),st s1] [] 0=some (AV.tup [st (b n),bo true],[Ob.cells (gQ x0)]))∧(f20_o0 x0 s1 n (a n)=2→vbody Tryd.prog X call lf fg20 Tryd.f20 (codeOf Tryd.f20) [AV.agg (sgnC x0),st s1] [] 0=some (AV.tup [st (ByteArray.mk #[]),bo false],[Ob.cells (gQ x0)])):=by
  have key:∀ j,j<n→_:=fun j hj=>(f20_B0 x0 s1 X call lf j (a j) (b j) (r13 j) (g0 j (Nat.le_of_lt hj)) (e0 j hj)).1 (hz j hj)
  have kn:=f20_X0 x0 s1 X call lf n (a n) (b n) (r13 n) (g0 n (Nat.le_refl n))
  exact ⟨fun hk=>f20_pltt x0 s1 X call lf n (a n) (b n) (r13 n) (f20_L0 x0 s1 X call lf n _ _ hn key (kn.1 hk) (by simp)),
    fun hk=>f20_plf x0 s1 X call lf n (f20_L0 x0 s1 X call lf n _ _ hn key (kn.2 hk) (by simp))⟩
end Go.Proofs.Sig
end
/- Signature: names, lists of strings, symbols that are found. -/
section
open Go Go.Vm Go.Proofs
namespace Go.Proofs.Sig
theorem first_fail {p:Nat→Prop}:∀ (n:Nat),(∀ i,i < n→p i) ∨ ∃ k,k < n ∧ ¬ p k∧∀ i,i < k→p i
  | 0 => .inl fun i h=>absurd h (by omega)
  | n + 1 => by
    rcases first_fail (p:=p) n with h | ⟨k,h1,h2,h3⟩
    · by_cases hp : p n
      · refine .inl fun i hi => ?_
        by_cases e:i=n
        · subst e; exact hp
        · exact h i (by omega)
      · exact .inr ⟨n,by omega,hp,h⟩
    · exact .inr ⟨k,by omega,h2,h3⟩
def empB (s:ByteArray):Bool:=s.toList == (ByteArray.mk #[]).toList
/-- A byte that fits at its place. -/
def pN (i c:Nat):Bool:=decide (97 ≤ c∧c ≤ 122 ∨ ¬ i=0∧(48 ≤ c∧c ≤ 57 ∨ c=45))
def nameB (s:ByteArray):Bool:=((List.range s.size).all fun i=>pN i (byteN s i)) && !empB s
theorem emp_iff {s:ByteArray}:empB s=true ↔ s.size=0:=by
  unfold empB
  rw [beq_iff_eq,ByteArray.toList_eq,ByteArray.toList_eq]
  simp only [ByteArray.size]
  cases s with
  | mk d=>simp [List.eq_nil_iff_length_eq_zero]
theorem allN_true {s:ByteArray} (h:∀ i,i < s.size→pN i (byteN s i)=true):((List.range s.size).all fun i=>pN i (byteN s i))=true:=by
  simpa [List.all_eq_true] using h
theorem allN_false {s:ByteArray} {k:Nat} (hk:k < s.size) (h : ¬ pN k (byteN s k)=true):((List.range s.size).all fun i=>pN i (byteN s i))=false:=by
  rw [Bool.eq_false_iff]
  intro h2
  rw [List.all_eq_true] at h2
  exact h (h2 k (List.mem_range.2 hk))
section
variable {s:ByteArray} {X:Ext} {call:Caller} {lf:Nat}
theorem o66 (s:ByteArray) (i c:Nat):(i < s.size→pN i c=true→f66_o0 s i c=0)∧(i < s.size → ¬ pN i c=true→f66_o0 s i c=1 ∨ f66_o0 s i c=2 ∨ f66_o0 s i c=3 ∨ f66_o0 s i c=4 ∨ f66_o0 s i c=5 ∨ f66_o0 s i c=6)∧(¬ i < s.size→f66_o0 s i c=7):=by
  unfold f66_o0 pN
  have e1:((↑i:Int) == 0)=decide (i=0):=by rw [Bool.eq_iff_iff]; simp
  have e2:((↑c:Int) != 45)=decide (¬ c=45):=by rw [Bool.eq_iff_iff]; simp; omega
  simp only [decide_eq_true_eq,e1,e2]
  refine ⟨fun h1 h2 => ?_,fun h1 h2 => ?_,fun h1 => ?_⟩
  all_goals (repeat' split)
  all_goals simp_all
  all_goals omega
theorem o34 (s:ByteArray) (i c:Nat):(i < s.size→pN i c=true→f34_o0 s i c c c c c=0)∧(i < s.size → ¬ pN i c=true→f34_o0 s i c c c c c=1 ∨ f34_o0 s i c c c c c=2 ∨ f34_o0 s i c c c c c=3 ∨ f34_o0 s i c c c c c=4 ∨ f34_o0 s i c c c c c=5 ∨ f34_o0 s i c c c c c=6)∧(¬ i < s.size→f34_o0 s i c c c c c=7):=by
  unfold f34_o0 pN
  have e1:((↑i:Int) == 0)=decide (i=0):=by rw [Bool.eq_iff_iff]; simp
  have e2:((↑c:Int) != 45)=decide (¬ c=45):=by rw [Bool.eq_iff_iff]; simp; omega
  simp only [decide_eq_true_eq,e1,e2]
  refine ⟨fun h1 h2 => ?_,fun h1 h2 => ?_,fun h1 => ?_⟩
  all_goals (repeat' split)
  all_goals simp_all
  all_goals omega
/-- signature.name. -/
theorem name66 (hs:s.size ≤ big) (hlf:s.size < lf):vbody Tryd.prog X call lf noFg Tryd.f66 (codeOf Tryd.f66) [st s] [] 0=some (bo (nameB s),[]):=by
  have hb:s.size ≤ 140737488355328:=hs
  rcases first_fail (p:=fun i=>pN i (byteN s i)=true) s.size with hall | ⟨k,hk,hbad,hbef⟩
  · have M := f66_M s X call lf s.size (fun i => byteN s i) hlf (fun i _ h => at_byte (by simpa using h)) (fun i h _ => up h hs) (fun j hj => (o66 s j _).1 hj (hall j hj))
    have ho:=(o66 s s.size (byteN s s.size)).2.2 (by omega)
    unfold nameB
    rw [allN_true hall,Bool.true_and]
    cases he:(!empB s) with
    | true=>exact M.2.2.2.2.2.2.1 ho he
    | false=>exact M.2.2.2.2.2.2.2 ho he
  · have M := f66_M s X call lf k (fun i => byteN s i) (by omega) (fun i _ h => at_byte (by simpa using h)) (fun i h _ => up h (by omega)) (fun j hj => (o66 s j _).1 (by omega) (hbef j hj))
    unfold nameB
    rw [allN_false hk hbad,Bool.false_and]
    rcases (o66 s k (byteN s k)).2.1 hk hbad with h | h | h | h | h | h
    · exact M.1 h
    · exact M.2.1 h
    · exact M.2.2.1 h
    · exact M.2.2.2.1 h
    · exact M.2.2.2.2.1 h
    · exact M.2.2.2.2.2.1 h
/-- ref21.Name. -/
theorem name34 (hs:s.size ≤ big) (hlf:s.size < lf):vbody Tryd.prog X call lf noFg Tryd.f34 (codeOf Tryd.f34) [st s] [] 0=some (bo (nameB s),[]):=by
  have hb:s.size ≤ 140737488355328:=hs
  rcases first_fail (p:=fun i=>pN i (byteN s i)=true) s.size with hall | ⟨k,hk,hbad,hbef⟩
  · have M := f34_M s X call lf s.size (fun i => byteN s i) (fun i => byteN s i) (fun i => byteN s i) (fun i => byteN s i) (fun i => byteN s i) hlf (fun i _ h => at_byte (by simpa using h)) (fun i _ h _ => at_byte (by simpa using h)) (fun i _ h _ _ _ => at_byte (by simpa using h)) (fun i _ h _ _ _ _ => at_byte (by simpa using h)) (fun i _ h _ _ _ _ _ => at_byte (by simpa using h)) (fun i _ h _ _ => at_byte (by simpa using h)) (fun i _ h _ _ _ => at_byte (by simpa using h)) (fun i _ h _ _ _ _ => at_byte (by simpa using h)) (fun i h _ => up h hs) (fun j hj => (o34 s j _).1 hj (hall j hj))
    have ho:=(o34 s s.size (byteN s s.size)).2.2 (by omega)
    unfold nameB
    rw [allN_true hall,Bool.true_and]
    cases he:(!empB s) with
    | true =>
      have : ¬ s.size=0:=fun e=>by rw [emp_iff.2 e] at he; cases he
      exact M.2.2.2.2.2.2.1 ho (decide_eq_true (by omega))
    | false =>
      have:s.size=0:=emp_iff.1 (by simpa using he)
      exact M.2.2.2.2.2.2.2 ho (decide_eq_false (by omega))
  · have M := f34_M s X call lf k (fun i => byteN s i) (fun i => byteN s i) (fun i => byteN s i) (fun i => byteN s i) (fun i => byteN s i) (by omega) (fun i _ h => at_byte (by simpa using h)) (fun i _ h _ => at_byte (by simpa using h)) (fun i _ h _ _ _ => at_byte (by simpa using h)) (fun i _ h _ _ _ _ => at_byte (by simpa using h)) (fun i _ h _ _ _ _ _ => at_byte (by simpa using h)) (fun i _ h _ _ => at_byte (by simpa using h)) (fun i _ h _ _ _ => at_byte (by simpa using h)) (fun i _ h _ _ _ _ => at_byte (by simpa using h)) (fun i h _ => up h (by omega)) (fun j hj => (o34 s j _).1 (by omega) (hbef j hj))
    unfold nameB
    rw [allN_false hk hbad,Bool.false_and]
    rcases (o34 s k (byteN s k)).2.1 hk hbad with h | h | h | h | h | h
    · exact M.1 h
    · exact M.2.1 h
    · exact M.2.2.1 h
    · exact M.2.2.2.1 h
    · exact M.2.2.2.2.1 h
    · exact M.2.2.2.2.2.1 h
/-- A sort that is built in. -/
def bltB (s:ByteArray):Bool:=s.toList == (ByteArray.mk #[116,105,109,101]).toList || s.toList == (ByteArray.mk #[110,117,109,98,101,114]).toList
theorem builtin44:vbody Tryd.prog X call lf noFg Tryd.f44 (codeOf Tryd.f44) [st s] [] 0=some (bo (bltB s),[]):=by
  have M:=f44_P0 s X call lf
  unfold bltB
  cases h1:(s.toList == (ByteArray.mk #[116,105,109,101]).toList) with
  | true=>exact M.1 (by unfold f44_q0; rw [h1])
  | false =>
    cases h2:(s.toList == (ByteArray.mk #[110,117,109,98,101,114]).toList) with
    | true=>exact M.1 (by unfold f44_q0; rw [h1,h2])
    | false=>exact M.2 (by unfold f44_q0; rw [h1,h2])
/-- A string of a list. -/
def inB (l:List ByteArray) (s:ByteArray):Bool:=l.any fun x=>decide (x=s)
theorem inB_iff {l:List ByteArray}:inB l s=true ↔ s ∈ l:=by
  unfold inB
  rw [List.any_eq_true]
  constructor
  · rintro ⟨x, h1, h2⟩
    rw [← of_decide_eq_true h2]; exact h1
  · intro h
    exact ⟨s,h,decide_eq_true rfl⟩
theorem inB_false {l:List ByteArray}:inB l s=false ↔ s ∉ l:=by
  rw [← inB_iff,Bool.not_eq_true]
/-- ref21.In. -/
theorem in35 {l:List ByteArray} (hl:l.length ≤ big) (hlf:l.length < lf):vbody Tryd.prog X call lf noFg Tryd.f35 (codeOf Tryd.f35) [strsV l,st s] [] 0=some (bo (inB l s),[]):=by
  have ho : ∀ i, (i < l.length → ¬ nS l i = s → f35_o0 l s i (nS l i) = 0) ∧ (i < l.length → nS l i = s → f35_o0 l s i (nS l i) = 1) ∧ (¬ i < l.length → f35_o0 l s i (nS l i) = 2) := by
    intro i
    unfold f35_o0
    refine ⟨fun h1 h2 => ?_,fun h1 h2 => ?_,fun h1 => ?_⟩
    · rw [decide_eq_true (by omega),eqB_ne.2 h2]
    · rw [decide_eq_true (by omega),eqB_iff.2 h2]
    · rw [decide_eq_false (by omega)]
  rcases first_fail (p:=fun i => ¬ nS l i=s) l.length with hall | ⟨k,hk,hbad,hbef⟩
  · have M := f35_M l s X call lf l.length (fun i => nS l i) (fun i => tS l i) hlf (fun i _ h => at_strs (by simpa using h)) (fun i h _ => up h hl) (fun j hj => (ho j).1 hj (hall j hj))
    rw [inB_false.2 (fun h => by
      obtain ⟨i,hi,e⟩:=List.getElem_of_mem h
      exact hall i hi (by rw [nS,getD_lt hi]; exact e))]
    exact M.2 ((ho _).2.2 (by omega))
  · have M := f35_M l s X call lf k (fun i => nS l i) (fun i => tS l i) (by omega) (fun i _ h => at_strs (by simpa using h)) (fun i h _ => up h (by omega)) (fun j hj => (ho j).1 (by omega) (hbef j hj))
    have hb:nS l k=s:=Classical.not_not.1 hbad
    rw [inB_iff.2 (by rw [← hb,nS,getD_lt hk]; exact List.getElem_mem hk)]
    exact M.1 ((ho k).2.1 hk hb)
def idxS (l:List ByteArray) (s:ByteArray):Int:=match l.findIdx? (fun x=>decide (x=s)) with
  | some i=>i
  | none => -1
theorem idxS_ge {l:List ByteArray} {s:ByteArray}:decide (idxS l s ≥ 0)=inB l s:=by
  unfold idxS
  cases h:l.findIdx? (fun x=>decide (x=s)) with
  | none =>
    rw [decide_eq_false (by simp)]
    rw [inB_false.2 (fun hm=>by have:=List.findIdx?_eq_none_iff.1 h s hm; simp at this)]
  | some i =>
    obtain ⟨hi,h1,_⟩:=List.findIdx?_eq_some_iff_getElem.1 h
    rw [decide_eq_true (by simp),inB_iff.2 (by have:=of_decide_eq_true h1; rw [← this]; exact List.getElem_mem hi)]
/-- slices.Index. -/
theorem index60 {l:List ByteArray} (hl:l.length ≤ big) (hlf:l.length < lf):vbody Tryd.prog X call lf noFg Tryd.f60 (codeOf Tryd.f60) [strsV l,st s] [] 0=some (i6 (idxS l s),[]):=by
  have ho : ∀ i, (i < l.length → ¬ nS l i = s → f60_o0 l s i (nS l i) = 0) ∧ (i < l.length → nS l i = s → f60_o0 l s i (nS l i) = 1) ∧ (¬ i < l.length → f60_o0 l s i (nS l i) = 2) := by
    intro i
    unfold f60_o0
    refine ⟨fun h1 h2 => ?_,fun h1 h2 => ?_,fun h1 => ?_⟩
    · rw [decide_eq_true (by omega),eqB_ne.2 (fun e=>h2 e.symm)]
    · rw [decide_eq_true (by omega),eqB_iff.2 h2.symm]
    · rw [decide_eq_false (by omega)]
  unfold idxS
  rcases first_fail (p:=fun i => ¬ nS l i=s) l.length with hall | ⟨k,hk,hbad,hbef⟩
  · have M := f60_M l s X call lf l.length (fun i => nS l i) (fun i => tS l i) hlf (fun i _ h => at_strs (by simpa using h)) (fun i h _ => up h hl) (fun j hj => (ho j).1 hj (hall j hj))
    rw [List.findIdx?_eq_none_iff.2 fun x hx => by
      obtain ⟨i,hi,e⟩:=List.getElem_of_mem hx
      exact decide_eq_false fun e2=>hall i hi (by rw [nS,getD_lt hi,e,e2])]
    exact M.2 ((ho _).2.2 (by omega))
  · have M := f60_M l s X call lf k (fun i => nS l i) (fun i => tS l i) (by omega) (fun i _ h => at_strs (by simpa using h)) (fun i h _ => up h (by omega)) (fun j hj => (ho j).1 (by omega) (hbef j hj))
    have hb:nS l k=s:=Classical.not_not.1 hbad
    rw [List.findIdx?_eq_some_iff_getElem.2 ⟨hk, by rw [nS, getD_lt hk] at hb; exact decide_eq_true hb, fun j hj => by
      have:=hbef j hj
      rw [nS,getD_lt (show j < l.length by omega)] at this
      simpa using this⟩]
    exact M.1 ((ho k).2.1 hk hb)
/-- slices.Contains. -/
theorem contains45 {l:List ByteArray} (h60:callv X call false 60 [strsV l,st s] [] 0=some (i6 (idxS l s),[])):vbody Tryd.prog X call lf noFg Tryd.f45 (codeOf Tryd.f45) [strsV l,st s] [] 0=some (bo (inB l s),[]):=by
  have M:=f45_P0 l s X call lf (idxS l s) h60
  rw [← idxS_ge]
  unfold f45_q0 at M
  cases h:decide (idxS l s ≥ 0) with
  | true=>rw [h] at M; exact M.1 rfl
  | false=>rw [h] at M; exact M.2 rfl
/-- A sort of a signature, or built in. -/
def hasSortB (x:Sgn) (s:ByteArray):Bool:=bltB s || inB x.sorts s
theorem hasSort23 {x:Sgn} (h44:∀ σ,callv X call false 44 [st s] σ 0=some (bo (bltB s),σ)) (h45:∀ σ,callv X call false 45 [strsV x.sorts,st s] σ 0=some (bo (inB x.sorts s),σ)):∃ σ',vbody Tryd.prog X call lf noFg Tryd.f23 (codeOf Tryd.f23) [.agg (sgnC x),st s] [] 0=some (bo (hasSortB x s),σ'):=by
  have M:=f23_P0 x s X call lf (bltB s) (inB x.sorts s) (h44 _) (fun _=>h45 _)
  unfold f23_q0 at M
  unfold hasSortB
  cases h:bltB s with
  | true=>rw [h] at M; exact ⟨_,M.1 rfl⟩
  | false =>
    rw [h] at M
    cases h2:inB x.sorts s with
    | true=>rw [h2] at M; exact ⟨_,M.1 rfl⟩
    | false=>rw [h2] at M; exact ⟨_,M.2 rfl⟩
theorem hasSort24 {x:Sgn} (h35:∀ σ,callv X call false 35 [strsV x.sorts,st s] σ 0=some (bo (inB x.sorts s),σ)):∃ σ',vbody Tryd.prog X call lf noFg Tryd.f24 (codeOf Tryd.f24) [.agg (sgnC x),st s] [] 0=some (bo (hasSortB x s),σ'):=by
  have M:=f24_P0 x s X call lf (inB x.sorts s) (fun _ _=>h35 _)
  unfold f24_q0 at M
  unfold hasSortB bltB
  cases h1:(s.toList == (ByteArray.mk #[116,105,109,101]).toList) with
  | true=>rw [h1] at M; exact ⟨_,M.1 rfl⟩
  | false =>
    cases h2:(s.toList == (ByteArray.mk #[110,117,109,98,101,114]).toList) with
    | true=>rw [h1,h2] at M; exact ⟨_,M.1 rfl⟩
    | false =>
      rw [h1,h2] at M
      cases h3:inB x.sorts s with
      | true=>rw [h3] at M; exact ⟨_,M.1 rfl⟩
      | false=>rw [h3] at M; exact ⟨_,M.2 rfl⟩
end
end Go.Proofs.Sig
end
/- Signature: declare, walked (printed) -/
section
open Go Go.Vm Go.Proofs
namespace Go.Proofs.Sig
theorem f57_pt (z3:List (AV × AV))(s1:ByteArray)(x2:Dcl)(X:Ext)(call:Caller)(lf:Nat)(a:ByteArray)(c:AV)(d:Bool)
 (h0:kpq [Ob.mapo z3,Ob.cells [st x2.kind,sQ x2.sorts]] (lookupv Tryd.prog 49 [Ob.mapo z3,Ob.cells [st x2.kind,sQ x2.sorts]] (AV.map 0) (st s1) true) (AV.tup [AV.agg [st a,c],bo d]))
 (h1:d=true):vbody Tryd.prog X call lf noFg Tryd.f57 (codeOf Tryd.f57) [AV.map 0,st s1,AV.agg (dclC x2)] [Ob.mapo z3] 0=some (bo false,[Ob.mapo z3,Ob.cells [st x2.kind,sQ x2.sorts],Ob.cells [st a,c]]) :=
  along_sound (ans:=[(6,Ans.v (AV.tup [AV.agg [st a,c],bo d])),(9,Ans.b true)]) (by kernel_rfl) (ai h0 (ai h1 trivial))
theorem f57_pftt (z3:List (AV × AV))(s1:ByteArray)(x2:Dcl)(X:Ext)(call:Caller)(lf:Nat)(a:ByteArray)(c:AV)(d:Bool)
 (h0:kpq [Ob.mapo z3,Ob.cells [st x2.kind,sQ x2.sorts]] (lookupv Tryd.prog 49 [Ob.mapo z3,Ob.cells [st x2.kind,sQ x2.sorts]] (AV.map 0) (st s1) true) (AV.tup [AV.agg [st a,c],bo d]))
 (h1:d=false)
 (h2:cvq X call false 66 [st s1] [Ob.mapo z3,Ob.cells [st x2.kind,sQ x2.sorts],Ob.cells [st a,c]] (bo true))
 (h3:cvq X call false 44 [st s1] [Ob.mapo z3,Ob.cells [st x2.kind,sQ x2.sorts],Ob.cells [st a,c]] (bo true)):vbody Tryd.prog X call lf noFg Tryd.f57 (codeOf Tryd.f57) [AV.map 0,st s1,AV.agg (dclC x2)] [Ob.mapo z3] 0=some (bo false,[Ob.mapo z3,Ob.cells [st x2.kind,sQ x2.sorts],Ob.cells [st a,c]]) :=
  along_sound (ans:=[(6,Ans.v (AV.tup [AV.agg [st a,c],bo d])),(9,Ans.b false),(19,Ans.v (bo true)),(27,Ans.v (bo true))]) (by kernel_rfl) (ai h0 (ai h1 (ai h2 (ai h3 trivial))))
theorem f57_pftft (z3:List (AV × AV))(s1:ByteArray)(x2:Dcl)(X:Ext)(call:Caller)(lf:Nat)(a:ByteArray)(c:AV)(d:Bool)
 (h0:kpq [Ob.mapo z3,Ob.cells [st x2.kind,sQ x2.sorts]] (lookupv Tryd.prog 49 [Ob.mapo z3,Ob.cells [st x2.kind,sQ x2.sorts]] (AV.map 0) (st s1) true) (AV.tup [AV.agg [st a,c],bo d]))
 (h1:d=false)
 (h2:cvq X call false 66 [st s1] [Ob.mapo z3,Ob.cells [st x2.kind,sQ x2.sorts],Ob.cells [st a,c]] (bo true))
 (h3:cvq X call false 44 [st s1] [Ob.mapo z3,Ob.cells [st x2.kind,sQ x2.sorts],Ob.cells [st a,c]] (bo false))
 (h4:((↑z3.length:Int) == 256)=true):vbody Tryd.prog X call lf noFg Tryd.f57 (codeOf Tryd.f57) [AV.map 0,st s1,AV.agg (dclC x2)] [Ob.mapo z3] 0=some (bo false,[Ob.mapo z3,Ob.cells [st x2.kind,sQ x2.sorts],Ob.cells [st a,c]]) :=
  along_sound (ans:=[(6,Ans.v (AV.tup [AV.agg [st a,c],bo d])),(9,Ans.b false),(19,Ans.v (bo true)),(27,Ans.v (bo false)),(35,Ans.b true)]) (by kernel_rfl) (ai h0 (ai h1 (ai h2 (ai h3 (ai h4 trivial)))))
def f57_F0 (z3:List (AV × AV))(s1:ByteArray)(x2:Dcl)(a:ByteArray)(b:AV)(c:Bool)(i0:Nat):St :=
  stOf 73 [6,10,36,37,38,39,40,41,42,43,44,45,46,47,48,49,50,51,52,53,54] [(0,AV.map 0),(1,st s1),(2,AV.agg [st x2.kind,sQ x2.sorts]),(5,AV.ref 1 0),(7,AV.ref 2 0),(8,bo false),(11,AV.tup [AV.agg [st a,b],bo c]),(12,AV.map 0),(13,st s1),(14,AV.tup [AV.agg [st a,b],bo c]),(15,AV.agg [st a,b]),(16,bo false),(17,bo false),(18,bo false),(19,st s1),(20,bo true),(21,bo false),(22,bo false),(23,bo false),(24,st s1),(25,bo false),(26,bo false),(27,bo false),(28,AV.map 0),(29,i6 (↑z3.length:Int)),(30,bo false),(31,bo false),(32,AV.ref 1 1),(33,sQ x2.sorts),(34,i6 (↑x2.sorts.length:Int)),(35,i6 (↑i0:Int))] [Ob.mapo z3,Ob.cells [st x2.kind,sQ x2.sorts],Ob.cells [st a,b]]
def f57_S0 (z3:List (AV × AV))(s1:ByteArray)(x2:Dcl)(a:ByteArray)(b:AV)(c:Bool):St :=
  stOf 73 [] [(0,AV.map 0),(1,st s1),(2,AV.agg [st x2.kind,sQ x2.sorts]),(5,AV.ref 1 0),(6,bo false),(7,AV.ref 2 0),(8,bo false),(11,AV.tup [AV.agg [st a,b],bo c]),(12,AV.map 0),(13,st s1),(14,AV.tup [AV.agg [st a,b],bo c]),(15,AV.agg [st a,b]),(16,bo false),(17,bo false),(18,bo false),(19,st s1),(20,bo true),(21,bo false),(22,bo false),(23,bo false),(24,st s1),(25,bo false),(26,bo false),(27,bo false),(28,AV.map 0),(29,i6 (↑z3.length:Int)),(30,bo false),(31,bo false),(32,AV.ref 1 1),(33,sQ x2.sorts),(34,i6 (↑x2.sorts.length:Int)),(35,i6 0)] [Ob.mapo z3,Ob.cells [st x2.kind,sQ x2.sorts],Ob.cells [st a,b]]
abbrev f57_D0:List Nat:=[54,6,53,52,51,50,49,48,47,46,45,44,43,42,41,40,39,10,38,37,36]
theorem f57_L0 (z3:List (AV × AV))(s1:ByteArray)(x2:Dcl)(a:ByteArray)(b:AV)(c:Bool)(X:Ext)(call:Caller)(lf n:Nat)(x:Ex) (S' : St)
 (hn:n<lf)
 (hs:∀ j,j<n→∃ Sx,vexec Tryd.prog X call lf 0 noFg (loopN Tryd.f57 0) (f57_F0 z3 s1 x2 a b c j)=some (Ex.normal,Sx)∧forget f57_D0 Sx=(f57_F0 z3 s1 x2 a b c (j + 1)))
 (he:vexec Tryd.prog X call lf 0 noFg (loopN Tryd.f57 0) (f57_F0 z3 s1 x2 a b c n)=some (x,S'))
 (hx:x ≠ Ex.normal):vexec Tryd.prog X call lf 0 noFg (Go.Code.loop (loopN Tryd.f57 0)) (f57_S0 z3 s1 x2 a b c)=some (x,S') :=
  loop_runK (by kernel_rfl) (fun j=>(f57_F0 z3 s1 x2 a b c j)) n hn (by show forget f57_D0 (f57_S0 z3 s1 x2 a b c)=(f57_F0 z3 s1 x2 a b c 0); unfold f57_F0; show _=_; kernel_rfl) hs he hx
def f57_S1 (z3:List (AV × AV))(s1:ByteArray)(x2:Dcl)(a:ByteArray)(b:AV)(c:Bool)(i0:Nat)(d:ByteArray)(r37:List AV)(e:ByteArray)(g:AV):St :=
  stOf 73 [54] [(0,AV.map 0),(1,st s1),(2,AV.agg [st x2.kind,sQ x2.sorts]),(5,AV.ref 1 0),(6,bo false),(7,AV.ref 2 0),(8,bo false),(10,st d),(11,AV.tup [AV.agg [st a,b],bo c]),(12,AV.map 0),(13,st s1),(14,AV.tup [AV.agg [st a,b],bo c]),(15,AV.agg [st a,b]),(16,bo false),(17,bo false),(18,bo false),(19,st s1),(20,bo true),(21,bo false),(22,bo false),(23,bo false),(24,st s1),(25,bo false),(26,bo false),(27,bo false),(28,AV.map 0),(29,i6 (↑z3.length:Int)),(30,bo false),(31,bo false),(32,AV.ref 1 1),(33,sQ x2.sorts),(34,i6 (↑x2.sorts.length:Int)),(35,i6 (↑i0:Int)),(36,bo true),(37,AV.eaddr (st d::r37)),(38,st d),(39,AV.map 0),(40,st d),(41,AV.agg [st e,g]),(42,st e),(43,bo true),(44,bo true),(45,AV.ref 1 0),(46,st x2.kind),(47,bo true),(48,bo true),(52,bo true),(53,bo true)] [Ob.mapo z3,Ob.cells [st x2.kind,sQ x2.sorts],Ob.cells [st a,b]]
theorem f57_r0_ttt (z3:List (AV × AV))(s1:ByteArray)(x2:Dcl)(X:Ext)(call:Caller)(lf:Nat)(a:ByteArray)(c:AV)(d:Bool)(i0:Nat)(e:ByteArray)(r37:List AV)(g:ByteArray)(h:AV)
 (h0:decide ((↑i0:Int)<(↑x2.sorts.length:Int))=true)
 (h1:kiq 22 [Ob.mapo z3,Ob.cells [st x2.kind,sQ x2.sorts],Ob.cells [st a,c]] (sQ x2.sorts) (i6 (↑i0:Int)) (st e::r37))
 (h2:kpq [Ob.mapo z3,Ob.cells [st x2.kind,sQ x2.sorts],Ob.cells [st a,c]] (lookupv Tryd.prog 49 [Ob.mapo z3,Ob.cells [st x2.kind,sQ x2.sorts],Ob.cells [st a,c]] (AV.map 0) (st e) false) (AV.agg [st g,h]))
 (h3:(!ByteArray.toList g == ByteArray.toList (ByteArray.mk #[115,111,114,116]))=true)
 (h4:(ByteArray.toList x2.kind == ByteArray.toList (ByteArray.mk #[99,111,110,115,116,97,110,116]))=true):vexec Tryd.prog X call lf 0 noFg (loopN Tryd.f57 0) (f57_F0 z3 s1 x2 a c d i0)=some (Ex.ret,(f57_S1 z3 s1 x2 a c d i0 e r37 g h)) :=
  around_sound (ans:=[(1,Ans.b true),(4,Ans.v (AV.eaddr (st e::r37))),(10,Ans.v (AV.agg [st g,h])),(12,Ans.b true),(19,Ans.b true)]) (by kernel_rfl) (ai h0 (ai h1 (ai h2 (ai h3 (ai h4 trivial)))))
theorem f57_pftfflttt (z3:List (AV × AV))(s1:ByteArray)(x2:Dcl)(X:Ext)(call:Caller)(lf:Nat)(a:ByteArray)(c:AV)(d:Bool)(i0:Nat)(e:ByteArray)(r37:List AV)(g:ByteArray)(h:AV)
 (h0:kpq [Ob.mapo z3,Ob.cells [st x2.kind,sQ x2.sorts]] (lookupv Tryd.prog 49 [Ob.mapo z3,Ob.cells [st x2.kind,sQ x2.sorts]] (AV.map 0) (st s1) true) (AV.tup [AV.agg [st a,c],bo d]))
 (h1:d=false)
 (h2:cvq X call false 66 [st s1] [Ob.mapo z3,Ob.cells [st x2.kind,sQ x2.sorts],Ob.cells [st a,c]] (bo true))
 (h3:cvq X call false 44 [st s1] [Ob.mapo z3,Ob.cells [st x2.kind,sQ x2.sorts],Ob.cells [st a,c]] (bo false))
 (h4:((↑z3.length:Int) == 256)=false)
 (h5:vexec Tryd.prog X call lf 0 noFg (Code.loop (loopN Tryd.f57 0)) (f57_S0 z3 s1 x2 a c d)=some (Ex.ret,(f57_S1 z3 s1 x2 a c d i0 e r37 g h))):vbody Tryd.prog X call lf noFg Tryd.f57 (codeOf Tryd.f57) [AV.map 0,st s1,AV.agg (dclC x2)] [Ob.mapo z3] 0=some (bo false,[Ob.mapo z3,Ob.cells [st x2.kind,sQ x2.sorts],Ob.cells [st a,c]]) :=
  along_sound (ans:=[(6,Ans.v (AV.tup [AV.agg [st a,c],bo d])),(9,Ans.b false),(19,Ans.v (bo true)),(27,Ans.v (bo false)),(35,Ans.b false),(43,Ans.l Ex.ret (f57_S1 z3 s1 x2 a c d i0 e r37 g h))]) (by kernel_rfl) (ai h0 (ai h1 (ai h2 (ai h3 (ai h4 (ai h5 trivial))))))
theorem f57_s0_ttft (z3:List (AV × AV))(s1:ByteArray)(x2:Dcl)(X:Ext)(call:Caller)(lf:Nat)(a:ByteArray)(c:AV)(d:Bool)(i0:Nat)(e:ByteArray)(r37:List AV)(g:ByteArray)(h:AV)
 (h0:decide ((↑i0:Int)<(↑x2.sorts.length:Int))=true)
 (h1:kiq 22 [Ob.mapo z3,Ob.cells [st x2.kind,sQ x2.sorts],Ob.cells [st a,c]] (sQ x2.sorts) (i6 (↑i0:Int)) (st e::r37))
 (h2:kpq [Ob.mapo z3,Ob.cells [st x2.kind,sQ x2.sorts],Ob.cells [st a,c]] (lookupv Tryd.prog 49 [Ob.mapo z3,Ob.cells [st x2.kind,sQ x2.sorts],Ob.cells [st a,c]] (AV.map 0) (st e) false) (AV.agg [st g,h]))
 (h3:(!ByteArray.toList g == ByteArray.toList (ByteArray.mk #[115,111,114,116]))=true)
 (h4:(ByteArray.toList x2.kind == ByteArray.toList (ByteArray.mk #[99,111,110,115,116,97,110,116]))=false)
 (h5:cvq X call false 44 [st e] [Ob.mapo z3,Ob.cells [st x2.kind,sQ x2.sorts],Ob.cells [st a,c]] (bo true))
 (e0:(↑(i0 + 1):Int)=w6 ((↑i0:Int) + 1)):∃ Sx,vexec Tryd.prog X call lf 0 noFg (loopN Tryd.f57 0) (f57_F0 z3 s1 x2 a c d i0)=some (Ex.normal,Sx)∧forget f57_D0 Sx=(f57_F0 z3 s1 x2 a c d (i0 + 1)) :=
  ⟨stOf 73 [6] [(0,AV.map 0),(1,st s1),(2,AV.agg [st x2.kind,sQ x2.sorts]),(5,AV.ref 1 0),(7,AV.ref 2 0),(8,bo false),(10,st e),(11,AV.tup [AV.agg [st a,c],bo d]),(12,AV.map 0),(13,st s1),(14,AV.tup [AV.agg [st a,c],bo d]),(15,AV.agg [st a,c]),(16,bo false),(17,bo false),(18,bo false),(19,st s1),(20,bo true),(21,bo false),(22,bo false),(23,bo false),(24,st s1),(25,bo false),(26,bo false),(27,bo false),(28,AV.map 0),(29,i6 (↑z3.length:Int)),(30,bo false),(31,bo false),(32,AV.ref 1 1),(33,sQ x2.sorts),(34,i6 (↑x2.sorts.length:Int)),(35,i6 (w6 ((↑i0:Int) + 1))),(36,bo true),(37,AV.eaddr (st e::r37)),(38,st e),(39,AV.map 0),(40,st e),(41,AV.agg [st g,h]),(42,st g),(43,bo true),(44,bo true),(45,AV.ref 1 0),(46,st x2.kind),(47,bo false),(48,bo false),(49,st e),(50,bo true),(51,bo false),(52,bo false),(53,bo false),(54,i6 (w6 ((↑i0:Int) + 1)))] [Ob.mapo z3,Ob.cells [st x2.kind,sQ x2.sorts],Ob.cells [st a,c]],around_sound (ans:=[(1,Ans.b true),(4,Ans.v (AV.eaddr (st e::r37))),(10,Ans.v (AV.agg [st g,h])),(12,Ans.b true),(19,Ans.b false),(25,Ans.v (bo true))]) (by kernel_rfl) (ai h0 (ai h1 (ai h2 (ai h3 (ai h4 (ai h5 trivial)))))),by unfold f57_F0; rw [e0]; show _=_; kernel_rfl⟩
def f57_S2 (z3:List (AV × AV))(s1:ByteArray)(x2:Dcl)(a:ByteArray)(b:AV)(c:Bool)(i0:Nat)(d:ByteArray)(r37:List AV)(e:ByteArray)(g:AV):St :=
  stOf 73 [54] [(0,AV.map 0),(1,st s1),(2,AV.agg [st x2.kind,sQ x2.sorts]),(5,AV.ref 1 0),(6,bo false),(7,AV.ref 2 0),(8,bo false),(10,st d),(11,AV.tup [AV.agg [st a,b],bo c]),(12,AV.map 0),(13,st s1),(14,AV.tup [AV.agg [st a,b],bo c]),(15,AV.agg [st a,b]),(16,bo false),(17,bo false),(18,bo false),(19,st s1),(20,bo true),(21,bo false),(22,bo false),(23,bo false),(24,st s1),(25,bo false),(26,bo false),(27,bo false),(28,AV.map 0),(29,i6 (↑z3.length:Int)),(30,bo false),(31,bo false),(32,AV.ref 1 1),(33,sQ x2.sorts),(34,i6 (↑x2.sorts.length:Int)),(35,i6 (↑i0:Int)),(36,bo true),(37,AV.eaddr (st d::r37)),(38,st d),(39,AV.map 0),(40,st d),(41,AV.agg [st e,g]),(42,st e),(43,bo true),(44,bo true),(45,AV.ref 1 0),(46,st x2.kind),(47,bo false),(48,bo false),(49,st d),(50,bo false),(51,bo true),(52,bo true),(53,bo true)] [Ob.mapo z3,Ob.cells [st x2.kind,sQ x2.sorts],Ob.cells [st a,b]]
theorem f57_r0_ttff (z3:List (AV × AV))(s1:ByteArray)(x2:Dcl)(X:Ext)(call:Caller)(lf:Nat)(a:ByteArray)(c:AV)(d:Bool)(i0:Nat)(e:ByteArray)(r37:List AV)(g:ByteArray)(h:AV)
 (h0:decide ((↑i0:Int)<(↑x2.sorts.length:Int))=true)
 (h1:kiq 22 [Ob.mapo z3,Ob.cells [st x2.kind,sQ x2.sorts],Ob.cells [st a,c]] (sQ x2.sorts) (i6 (↑i0:Int)) (st e::r37))
 (h2:kpq [Ob.mapo z3,Ob.cells [st x2.kind,sQ x2.sorts],Ob.cells [st a,c]] (lookupv Tryd.prog 49 [Ob.mapo z3,Ob.cells [st x2.kind,sQ x2.sorts],Ob.cells [st a,c]] (AV.map 0) (st e) false) (AV.agg [st g,h]))
 (h3:(!ByteArray.toList g == ByteArray.toList (ByteArray.mk #[115,111,114,116]))=true)
 (h4:(ByteArray.toList x2.kind == ByteArray.toList (ByteArray.mk #[99,111,110,115,116,97,110,116]))=false)
 (h5:cvq X call false 44 [st e] [Ob.mapo z3,Ob.cells [st x2.kind,sQ x2.sorts],Ob.cells [st a,c]] (bo false)):vexec Tryd.prog X call lf 0 noFg (loopN Tryd.f57 0) (f57_F0 z3 s1 x2 a c d i0)=some (Ex.ret,(f57_S2 z3 s1 x2 a c d i0 e r37 g h)) :=
  around_sound (ans:=[(1,Ans.b true),(4,Ans.v (AV.eaddr (st e::r37))),(10,Ans.v (AV.agg [st g,h])),(12,Ans.b true),(19,Ans.b false),(25,Ans.v (bo false))]) (by kernel_rfl) (ai h0 (ai h1 (ai h2 (ai h3 (ai h4 (ai h5 trivial))))))
theorem f57_pftfflttff (z3:List (AV × AV))(s1:ByteArray)(x2:Dcl)(X:Ext)(call:Caller)(lf:Nat)(a:ByteArray)(c:AV)(d:Bool)(i0:Nat)(e:ByteArray)(r37:List AV)(g:ByteArray)(h:AV)
 (h0:kpq [Ob.mapo z3,Ob.cells [st x2.kind,sQ x2.sorts]] (lookupv Tryd.prog 49 [Ob.mapo z3,Ob.cells [st x2.kind,sQ x2.sorts]] (AV.map 0) (st s1) true) (AV.tup [AV.agg [st a,c],bo d]))
 (h1:d=false)
 (h2:cvq X call false 66 [st s1] [Ob.mapo z3,Ob.cells [st x2.kind,sQ x2.sorts],Ob.cells [st a,c]] (bo true))
 (h3:cvq X call false 44 [st s1] [Ob.mapo z3,Ob.cells [st x2.kind,sQ x2.sorts],Ob.cells [st a,c]] (bo false))
 (h4:((↑z3.length:Int) == 256)=false)
 (h5:vexec Tryd.prog X call lf 0 noFg (Code.loop (loopN Tryd.f57 0)) (f57_S0 z3 s1 x2 a c d)=some (Ex.ret,(f57_S2 z3 s1 x2 a c d i0 e r37 g h))):vbody Tryd.prog X call lf noFg Tryd.f57 (codeOf Tryd.f57) [AV.map 0,st s1,AV.agg (dclC x2)] [Ob.mapo z3] 0=some (bo false,[Ob.mapo z3,Ob.cells [st x2.kind,sQ x2.sorts],Ob.cells [st a,c]]) :=
  along_sound (ans:=[(6,Ans.v (AV.tup [AV.agg [st a,c],bo d])),(9,Ans.b false),(19,Ans.v (bo true)),(27,Ans.v (bo false)),(35,Ans.b false),(43,Ans.l Ex.ret (f57_S2 z3 s1 x2 a c d i0 e r37 g h))]) (by kernel_rfl) (ai h0 (ai h1 (ai h2 (ai h3 (ai h4 (ai h5 trivial))))))
theorem f57_s0_tf (z3:List (AV × AV))(s1:ByteArray)(x2:Dcl)(X:Ext)(call:Caller)(lf:Nat)(a:ByteArray)(c:AV)(d:Bool)(i0:Nat)(e:ByteArray)(r37:List AV)(g:ByteArray)(h:AV)
 (h0:decide ((↑i0:Int)<(↑x2.sorts.length:Int))=true)
 (h1:kiq 22 [Ob.mapo z3,Ob.cells [st x2.kind,sQ x2.sorts],Ob.cells [st a,c]] (sQ x2.sorts) (i6 (↑i0:Int)) (st e::r37))
 (h2:kpq [Ob.mapo z3,Ob.cells [st x2.kind,sQ x2.sorts],Ob.cells [st a,c]] (lookupv Tryd.prog 49 [Ob.mapo z3,Ob.cells [st x2.kind,sQ x2.sorts],Ob.cells [st a,c]] (AV.map 0) (st e) false) (AV.agg [st g,h]))
 (h3:(!ByteArray.toList g == ByteArray.toList (ByteArray.mk #[115,111,114,116]))=false)
 (e0:(↑(i0 + 1):Int)=w6 ((↑i0:Int) + 1)):∃ Sx,vexec Tryd.prog X call lf 0 noFg (loopN Tryd.f57 0) (f57_F0 z3 s1 x2 a c d i0)=some (Ex.normal,Sx)∧forget f57_D0 Sx=(f57_F0 z3 s1 x2 a c d (i0 + 1)) :=
  ⟨stOf 73 [6] [(0,AV.map 0),(1,st s1),(2,AV.agg [st x2.kind,sQ x2.sorts]),(5,AV.ref 1 0),(7,AV.ref 2 0),(8,bo false),(10,st e),(11,AV.tup [AV.agg [st a,c],bo d]),(12,AV.map 0),(13,st s1),(14,AV.tup [AV.agg [st a,c],bo d]),(15,AV.agg [st a,c]),(16,bo false),(17,bo false),(18,bo false),(19,st s1),(20,bo true),(21,bo false),(22,bo false),(23,bo false),(24,st s1),(25,bo false),(26,bo false),(27,bo false),(28,AV.map 0),(29,i6 (↑z3.length:Int)),(30,bo false),(31,bo false),(32,AV.ref 1 1),(33,sQ x2.sorts),(34,i6 (↑x2.sorts.length:Int)),(35,i6 (w6 ((↑i0:Int) + 1))),(36,bo true),(37,AV.eaddr (st e::r37)),(38,st e),(39,AV.map 0),(40,st e),(41,AV.agg [st g,h]),(42,st g),(43,bo false),(44,bo false),(53,bo false),(54,i6 (w6 ((↑i0:Int) + 1)))] [Ob.mapo z3,Ob.cells [st x2.kind,sQ x2.sorts],Ob.cells [st a,c]],around_sound (ans:=[(1,Ans.b true),(4,Ans.v (AV.eaddr (st e::r37))),(10,Ans.v (AV.agg [st g,h])),(12,Ans.b false)]) (by kernel_rfl) (ai h0 (ai h1 (ai h2 (ai h3 trivial)))),by unfold f57_F0; rw [e0]; show _=_; kernel_rfl⟩
def f57_S3 (z3:List (AV × AV))(s1:ByteArray)(x2:Dcl)(a:ByteArray)(b:AV)(c:Bool)(i0:Nat):St :=
  stOf 73 [6,10,37,38,39,40,41,42,43,44,45,46,47,48,49,50,51,52,53,54] [(0,AV.map 0),(1,st s1),(2,AV.agg [st x2.kind,sQ x2.sorts]),(5,AV.ref 1 0),(7,AV.ref 2 0),(8,bo false),(11,AV.tup [AV.agg [st a,b],bo c]),(12,AV.map 0),(13,st s1),(14,AV.tup [AV.agg [st a,b],bo c]),(15,AV.agg [st a,b]),(16,bo false),(17,bo false),(18,bo false),(19,st s1),(20,bo true),(21,bo false),(22,bo false),(23,bo false),(24,st s1),(25,bo false),(26,bo false),(27,bo false),(28,AV.map 0),(29,i6 (↑z3.length:Int)),(30,bo false),(31,bo false),(32,AV.ref 1 1),(33,sQ x2.sorts),(34,i6 (↑x2.sorts.length:Int)),(35,i6 (↑i0:Int)),(36,bo false)] [Ob.mapo z3,Ob.cells [st x2.kind,sQ x2.sorts],Ob.cells [st a,b]]
theorem f57_r0_f (z3:List (AV × AV))(s1:ByteArray)(x2:Dcl)(X:Ext)(call:Caller)(lf:Nat)(a:ByteArray)(c:AV)(d:Bool)(i0:Nat)
 (h0:decide ((↑i0:Int)<(↑x2.sorts.length:Int))=false):vexec Tryd.prog X call lf 0 noFg (loopN Tryd.f57 0) (f57_F0 z3 s1 x2 a c d i0)=some (Ex.exit 0,(f57_S3 z3 s1 x2 a c d i0)) :=
  around_sound (ans:=[(1,Ans.b false)]) (by kernel_rfl) (ai h0 trivial)
theorem f57_pftfflftt (z3:List (AV × AV))(s1:ByteArray)(x2:Dcl)(X:Ext)(call:Caller)(lf:Nat)(a:ByteArray)(c:AV)(d:Bool)(i0:Nat)
 (h0:kpq [Ob.mapo z3,Ob.cells [st x2.kind,sQ x2.sorts]] (lookupv Tryd.prog 49 [Ob.mapo z3,Ob.cells [st x2.kind,sQ x2.sorts]] (AV.map 0) (st s1) true) (AV.tup [AV.agg [st a,c],bo d]))
 (h1:d=false)
 (h2:cvq X call false 66 [st s1] [Ob.mapo z3,Ob.cells [st x2.kind,sQ x2.sorts],Ob.cells [st a,c]] (bo true))
 (h3:cvq X call false 44 [st s1] [Ob.mapo z3,Ob.cells [st x2.kind,sQ x2.sorts],Ob.cells [st a,c]] (bo false))
 (h4:((↑z3.length:Int) == 256)=false)
 (h5:vexec Tryd.prog X call lf 0 noFg (Code.loop (loopN Tryd.f57 0)) (f57_S0 z3 s1 x2 a c d)=some (Ex.exit 0,(f57_S3 z3 s1 x2 a c d i0)))
 (h6:(ByteArray.toList x2.kind == ByteArray.toList (ByteArray.mk #[112,114,101,100,105,99,97,116,101]))=true)
 (h7:decide ((↑x2.sorts.length:Int)<1)=true):vbody Tryd.prog X call lf noFg Tryd.f57 (codeOf Tryd.f57) [AV.map 0,st s1,AV.agg (dclC x2)] [Ob.mapo z3] 0=some (bo false,[Ob.mapo z3,Ob.cells [st x2.kind,sQ x2.sorts],Ob.cells [st a,c]]) :=
  along_sound (ans:=[(6,Ans.v (AV.tup [AV.agg [st a,c],bo d])),(9,Ans.b false),(19,Ans.v (bo true)),(27,Ans.v (bo false)),(35,Ans.b false),(43,Ans.l (Ex.exit 0) (f57_S3 z3 s1 x2 a c d i0)),(47,Ans.b true),(56,Ans.b true)]) (by kernel_rfl) (ai h0 (ai h1 (ai h2 (ai h3 (ai h4 (ai h5 (ai h6 (ai h7 trivial))))))))
theorem f57_pftfflftft (z3:List (AV × AV))(s1:ByteArray)(x2:Dcl)(X:Ext)(call:Caller)(lf:Nat)(a:ByteArray)(c:AV)(d:Bool)(i0:Nat)
 (h0:kpq [Ob.mapo z3,Ob.cells [st x2.kind,sQ x2.sorts]] (lookupv Tryd.prog 49 [Ob.mapo z3,Ob.cells [st x2.kind,sQ x2.sorts]] (AV.map 0) (st s1) true) (AV.tup [AV.agg [st a,c],bo d]))
 (h1:d=false)
 (h2:cvq X call false 66 [st s1] [Ob.mapo z3,Ob.cells [st x2.kind,sQ x2.sorts],Ob.cells [st a,c]] (bo true))
 (h3:cvq X call false 44 [st s1] [Ob.mapo z3,Ob.cells [st x2.kind,sQ x2.sorts],Ob.cells [st a,c]] (bo false))
 (h4:((↑z3.length:Int) == 256)=false)
 (h5:vexec Tryd.prog X call lf 0 noFg (Code.loop (loopN Tryd.f57 0)) (f57_S0 z3 s1 x2 a c d)=some (Ex.exit 0,(f57_S3 z3 s1 x2 a c d i0)))
 (h6:(ByteArray.toList x2.kind == ByteArray.toList (ByteArray.mk #[112,114,101,100,105,99,97,116,101]))=true)
 (h7:decide ((↑x2.sorts.length:Int)<1)=false)
 (h8:decide ((↑x2.sorts.length:Int)>3)=true):vbody Tryd.prog X call lf noFg Tryd.f57 (codeOf Tryd.f57) [AV.map 0,st s1,AV.agg (dclC x2)] [Ob.mapo z3] 0=some (bo false,[Ob.mapo z3,Ob.cells [st x2.kind,sQ x2.sorts],Ob.cells [st a,c]]) :=
  along_sound (ans:=[(6,Ans.v (AV.tup [AV.agg [st a,c],bo d])),(9,Ans.b false),(19,Ans.v (bo true)),(27,Ans.v (bo false)),(35,Ans.b false),(43,Ans.l (Ex.exit 0) (f57_S3 z3 s1 x2 a c d i0)),(47,Ans.b true),(56,Ans.b false),(66,Ans.b true)]) (by kernel_rfl) (ai h0 (ai h1 (ai h2 (ai h3 (ai h4 (ai h5 (ai h6 (ai h7 (ai h8 trivial)))))))))
theorem f57_pftfflftff (z3:List (AV × AV))(s1:ByteArray)(x2:Dcl)(X:Ext)(call:Caller)(lf:Nat)(a:ByteArray)(d:AV)(e:Bool)(i0:Nat)(sq75:List Ob)
 (h0:kpq [Ob.mapo z3,Ob.cells [st x2.kind,sQ x2.sorts]] (lookupv Tryd.prog 49 [Ob.mapo z3,Ob.cells [st x2.kind,sQ x2.sorts]] (AV.map 0) (st s1) true) (AV.tup [AV.agg [st a,d],bo e]))
 (h1:e=false)
 (h2:cvq X call false 66 [st s1] [Ob.mapo z3,Ob.cells [st x2.kind,sQ x2.sorts],Ob.cells [st a,d]] (bo true))
 (h3:cvq X call false 44 [st s1] [Ob.mapo z3,Ob.cells [st x2.kind,sQ x2.sorts],Ob.cells [st a,d]] (bo false))
 (h4:((↑z3.length:Int) == 256)=false)
 (h5:vexec Tryd.prog X call lf 0 noFg (Code.loop (loopN Tryd.f57 0)) (f57_S0 z3 s1 x2 a d e)=some (Ex.exit 0,(f57_S3 z3 s1 x2 a d e i0)))
 (h6:(ByteArray.toList x2.kind == ByteArray.toList (ByteArray.mk #[112,114,101,100,105,99,97,116,101]))=true)
 (h7:decide ((↑x2.sorts.length:Int)<1)=false)
 (h8:decide ((↑x2.sorts.length:Int)>3)=false)
 (h9:unit1 (mapUpdatev Tryd.prog 49 [Ob.mapo z3,Ob.cells [st x2.kind,sQ x2.sorts],Ob.cells [st a,d]] 0 (AV.map 0) (st s1) (AV.agg [st x2.kind,sQ x2.sorts]))=some (AV.undef,sq75)):vbody Tryd.prog X call lf noFg Tryd.f57 (codeOf Tryd.f57) [AV.map 0,st s1,AV.agg (dclC x2)] [Ob.mapo z3] 0=some (bo true,sq75) :=
  along_sound (ans:=[(6,Ans.v (AV.tup [AV.agg [st a,d],bo e])),(9,Ans.b false),(19,Ans.v (bo true)),(27,Ans.v (bo false)),(35,Ans.b false),(43,Ans.l (Ex.exit 0) (f57_S3 z3 s1 x2 a d e i0)),(47,Ans.b true),(56,Ans.b false),(66,Ans.b false),(75,Ans.c AV.undef sq75)]) (by kernel_rfl) (ai h0 (ai h1 (ai h2 (ai h3 (ai h4 (ai h5 (ai h6 (ai h7 (ai h8 (ai h9 trivial))))))))))
theorem f57_pftfflff (z3:List (AV × AV))(s1:ByteArray)(x2:Dcl)(X:Ext)(call:Caller)(lf:Nat)(a:ByteArray)(d:AV)(e:Bool)(i0:Nat)(sq61:List Ob)
 (h0:kpq [Ob.mapo z3,Ob.cells [st x2.kind,sQ x2.sorts]] (lookupv Tryd.prog 49 [Ob.mapo z3,Ob.cells [st x2.kind,sQ x2.sorts]] (AV.map 0) (st s1) true) (AV.tup [AV.agg [st a,d],bo e]))
 (h1:e=false)
 (h2:cvq X call false 66 [st s1] [Ob.mapo z3,Ob.cells [st x2.kind,sQ x2.sorts],Ob.cells [st a,d]] (bo true))
 (h3:cvq X call false 44 [st s1] [Ob.mapo z3,Ob.cells [st x2.kind,sQ x2.sorts],Ob.cells [st a,d]] (bo false))
 (h4:((↑z3.length:Int) == 256)=false)
 (h5:vexec Tryd.prog X call lf 0 noFg (Code.loop (loopN Tryd.f57 0)) (f57_S0 z3 s1 x2 a d e)=some (Ex.exit 0,(f57_S3 z3 s1 x2 a d e i0)))
 (h6:(ByteArray.toList x2.kind == ByteArray.toList (ByteArray.mk #[112,114,101,100,105,99,97,116,101]))=false)
 (h7:unit1 (mapUpdatev Tryd.prog 49 [Ob.mapo z3,Ob.cells [st x2.kind,sQ x2.sorts],Ob.cells [st a,d]] 0 (AV.map 0) (st s1) (AV.agg [st x2.kind,sQ x2.sorts]))=some (AV.undef,sq61)):vbody Tryd.prog X call lf noFg Tryd.f57 (codeOf Tryd.f57) [AV.map 0,st s1,AV.agg (dclC x2)] [Ob.mapo z3] 0=some (bo true,sq61) :=
  along_sound (ans:=[(6,Ans.v (AV.tup [AV.agg [st a,d],bo e])),(9,Ans.b false),(19,Ans.v (bo true)),(27,Ans.v (bo false)),(35,Ans.b false),(43,Ans.l (Ex.exit 0) (f57_S3 z3 s1 x2 a d e i0)),(47,Ans.b false),(61,Ans.c AV.undef sq61)]) (by kernel_rfl) (ai h0 (ai h1 (ai h2 (ai h3 (ai h4 (ai h5 (ai h6 (ai h7 trivial))))))))
theorem f57_pff (z3:List (AV × AV))(s1:ByteArray)(x2:Dcl)(X:Ext)(call:Caller)(lf:Nat)(a:ByteArray)(c:AV)(d:Bool)
 (h0:kpq [Ob.mapo z3,Ob.cells [st x2.kind,sQ x2.sorts]] (lookupv Tryd.prog 49 [Ob.mapo z3,Ob.cells [st x2.kind,sQ x2.sorts]] (AV.map 0) (st s1) true) (AV.tup [AV.agg [st a,c],bo d]))
 (h1:d=false)
 (h2:cvq X call false 66 [st s1] [Ob.mapo z3,Ob.cells [st x2.kind,sQ x2.sorts],Ob.cells [st a,c]] (bo false)):vbody Tryd.prog X call lf noFg Tryd.f57 (codeOf Tryd.f57) [AV.map 0,st s1,AV.agg (dclC x2)] [Ob.mapo z3] 0=some (bo false,[Ob.mapo z3,Ob.cells [st x2.kind,sQ x2.sorts],Ob.cells [st a,c]]) :=
  along_sound (ans:=[(6,Ans.v (AV.tup [AV.agg [st a,c],bo d])),(9,Ans.b false),(19,Ans.v (bo false))]) (by kernel_rfl) (ai h0 (ai h1 (ai h2 trivial)))
def f57_q0 (z3:List (AV × AV))(a b0 b1:Bool):Nat :=
  (match a with
  | true=>0
  | false=>(match b0 with
    | true=>(match b1 with
      | true=>0
      | false=>(match ((↑z3.length:Int) == 256) with
        | true=>0
        | false=>999))
    | false=>0))
theorem f57_P0 (z3:List (AV × AV))(s1:ByteArray)(x2:Dcl)(X:Ext)(call:Caller)(lf:Nat)(a:ByteArray)(b:AV)(c b0 b1:Bool)
 (g0:kpq [Ob.mapo z3,Ob.cells [st x2.kind,sQ x2.sorts]] (lookupv Tryd.prog 49 [Ob.mapo z3,Ob.cells [st x2.kind,sQ x2.sorts]] (AV.map 0) (st s1) true) (AV.tup [AV.agg [st a,b],bo c]))
 (g1:c=false→cvq X call false 66 [st s1] [Ob.mapo z3,Ob.cells [st x2.kind,sQ x2.sorts],Ob.cells [st a,b]] (bo b0))
 (g2:c=false→b0=true→cvq X call false 44 [st s1] [Ob.mapo z3,Ob.cells [st x2.kind,sQ x2.sorts],Ob.cells [st a,b]] (bo b1)) :
    (f57_q0 z3 c b0 b1=0→vbody Tryd.prog X call lf noFg Tryd.f57 (codeOf Tryd.f57) [AV.map 0,st s1,AV.agg (dclC x2)] [Ob.mapo z3] 0=some (bo false,[Ob.mapo z3,Ob.cells [st x2.kind,sQ x2.sorts],Ob.cells [st a,b]])):=by
  refine (Bool.eq_false_or_eq_true (c)).elim (fun c0 => ?_) (fun c0 => ?_)
  ·
    have ho:f57_q0 z3 c b0 b1=0:=by
      unfold f57_q0
      simp only [c0]
    exact fun _=>f57_pt z3 s1 x2 X call lf a b c g0 c0
  ·
    refine (Bool.eq_false_or_eq_true (b0)).elim (fun c1 => ?_) (fun c1 => ?_)
    ·
      refine (Bool.eq_false_or_eq_true (b1)).elim (fun c2 => ?_) (fun c2 => ?_)
      ·
        have ho:f57_q0 z3 c b0 b1=0:=by
          unfold f57_q0
          simp only [c0,c1,c2]
        exact fun _=>f57_pftt z3 s1 x2 X call lf a b c g0 c0 (by have:=(g1 c0); rw [c1] at this; exact this) (by have:=(g2 c0 c1); rw [c2] at this; exact this)
      ·
        refine (Bool.eq_false_or_eq_true (((↑z3.length:Int) == 256))).elim (fun c3 => ?_) (fun c3 => ?_)
        ·
          have ho:f57_q0 z3 c b0 b1=0:=by
            unfold f57_q0
            simp only [c0,c1,c2,c3]
          exact fun _=>f57_pftft z3 s1 x2 X call lf a b c g0 c0 (by have:=(g1 c0); rw [c1] at this; exact this) (by have:=(g2 c0 c1); rw [c2] at this; exact this) c3
        ·
          have ho:f57_q0 z3 c b0 b1=999:=by
            unfold f57_q0
            simp only [c0,c1,c2,c3]
          exact fun h=>absurd (ho.symm.trans h) (by decide)
    ·
      have ho:f57_q0 z3 c b0 b1=0:=by
        unfold f57_q0
        simp only [c0,c1]
      exact fun _=>f57_pff z3 s1 x2 X call lf a b c g0 c0 (by have:=(g1 c0); rw [c1] at this; exact this)
def f57_o0 (x2:Dcl)(i0:Nat)(a:ByteArray)(b0:Bool):Nat :=
  (match decide ((↑i0:Int)<(↑x2.sorts.length:Int)) with
  | true=>(match (!ByteArray.toList a == ByteArray.toList (ByteArray.mk #[115,111,114,116])) with
    | true=>(match (ByteArray.toList x2.kind == ByteArray.toList (ByteArray.mk #[99,111,110,115,116,97,110,116])) with
      | true=>1
      | false=>(match b0 with
        | true=>0
        | false=>2))
    | false=>0)
  | false=>3)
theorem f57_B0 (z3:List (AV × AV))(s1:ByteArray)(x2:Dcl)(X:Ext)(call:Caller)(lf:Nat)(a:ByteArray)(b:AV)(c:Bool)(i0:Nat)(d:ByteArray)(r37:List AV)(e:ByteArray)(g:AV)(b0:Bool)
 (g0:decide ((↑i0:Int)<(↑x2.sorts.length:Int))=true→kiq 22 [Ob.mapo z3,Ob.cells [st x2.kind,sQ x2.sorts],Ob.cells [st a,b]] (sQ x2.sorts) (i6 (↑i0:Int)) (st d::r37))
 (g1:decide ((↑i0:Int)<(↑x2.sorts.length:Int))=true→kpq [Ob.mapo z3,Ob.cells [st x2.kind,sQ x2.sorts],Ob.cells [st a,b]] (lookupv Tryd.prog 49 [Ob.mapo z3,Ob.cells [st x2.kind,sQ x2.sorts],Ob.cells [st a,b]] (AV.map 0) (st d) false) (AV.agg [st e,g]))
 (g2:decide ((↑i0:Int)<(↑x2.sorts.length:Int))=true→(!ByteArray.toList e == ByteArray.toList (ByteArray.mk #[115,111,114,116]))=true→(ByteArray.toList x2.kind == ByteArray.toList (ByteArray.mk #[99,111,110,115,116,97,110,116]))=false→cvq X call false 44 [st d] [Ob.mapo z3,Ob.cells [st x2.kind,sQ x2.sorts],Ob.cells [st a,b]] (bo b0))
 (e0:decide ((↑i0:Int)<(↑x2.sorts.length:Int))=true→(↑(i0 + 1):Int)=w6 ((↑i0:Int) + 1)) :
    (f57_o0 x2 i0 e b0=0→∃ Sx,vexec Tryd.prog X call lf 0 noFg (loopN Tryd.f57 0) (f57_F0 z3 s1 x2 a b c i0)=some (Ex.normal,Sx)∧forget f57_D0 Sx=(f57_F0 z3 s1 x2 a b c (i0 + 1)))∧(f57_o0 x2 i0 e b0=1→vexec Tryd.prog X call lf 0 noFg (loopN Tryd.f57 0) (f57_F0 z3 s1 x2 a b c i0)=some (Ex.ret,(f57_S1 z3 s1 x2 a b c i0 d r37 e g)))∧(f57_o0 x2 i0 e b0=2→vexec Tryd.prog X call lf 0 noFg (loopN Tryd.f57 0) (f57_F0 z3 s1 x2 a b c i0)=some (Ex.ret,(f57_S2 z3 s1 x2 a b c i0 d r37 e g)))∧(f57_o0 x2 i0 e b0=3→vexec Tryd.prog X call lf 0 noFg (loopN Tryd.f57 0) (f57_F0 z3 s1 x2 a b c i0)=some (Ex.exit 0,(f57_S3 z3 s1 x2 a b c i0))):=by
  unfold f57_o0
  cases c0:decide ((↑i0:Int)<(↑x2.sorts.length:Int)) with
  | true =>
    cases c1:(!ByteArray.toList e == ByteArray.toList (ByteArray.mk #[115,111,114,116])) with
    | true =>
      cases c2:(ByteArray.toList x2.kind == ByteArray.toList (ByteArray.mk #[99,111,110,115,116,97,110,116])) with
      | true =>
        exact ⟨fun h=>nq h,fun _=>f57_r0_ttt z3 s1 x2 X call lf a b c i0 d r37 e g c0 (g0 c0) (g1 c0) c1 c2,fun h=>nq h,fun h=>nq h⟩
      | false =>
        cases c3:b0 with
        | true =>
          exact ⟨fun _=>f57_s0_ttft z3 s1 x2 X call lf a b c i0 d r37 e g c0 (g0 c0) (g1 c0) c1 c2 (by have:=(g2 c0 c1 c2); rw [c3] at this; exact this) (e0 c0),fun h=>nq h,fun h=>nq h,fun h=>nq h⟩
        | false =>
          exact ⟨fun h=>nq h,fun h=>nq h,fun _=>f57_r0_ttff z3 s1 x2 X call lf a b c i0 d r37 e g c0 (g0 c0) (g1 c0) c1 c2 (by have:=(g2 c0 c1 c2); rw [c3] at this; exact this),fun h=>nq h⟩
    | false =>
      exact ⟨fun _=>f57_s0_tf z3 s1 x2 X call lf a b c i0 d r37 e g c0 (g0 c0) (g1 c0) c1 (e0 c0),fun h=>nq h,fun h=>nq h,fun h=>nq h⟩
  | false =>
    exact ⟨fun h=>nq h,fun h=>nq h,fun h=>nq h,fun _=>f57_r0_f z3 s1 x2 X call lf a b c i0 c0⟩
theorem f57_X0 (z3:List (AV × AV))(s1:ByteArray)(x2:Dcl)(X:Ext)(call:Caller)(lf:Nat)(a:ByteArray)(b:AV)(c:Bool)(i0:Nat)(d:ByteArray)(r37:List AV)(e:ByteArray)(g:AV)(b0:Bool)
 (g0:decide ((↑i0:Int)<(↑x2.sorts.length:Int))=true→kiq 22 [Ob.mapo z3,Ob.cells [st x2.kind,sQ x2.sorts],Ob.cells [st a,b]] (sQ x2.sorts) (i6 (↑i0:Int)) (st d::r37))
 (g1:decide ((↑i0:Int)<(↑x2.sorts.length:Int))=true→kpq [Ob.mapo z3,Ob.cells [st x2.kind,sQ x2.sorts],Ob.cells [st a,b]] (lookupv Tryd.prog 49 [Ob.mapo z3,Ob.cells [st x2.kind,sQ x2.sorts],Ob.cells [st a,b]] (AV.map 0) (st d) false) (AV.agg [st e,g]))
 (g2:decide ((↑i0:Int)<(↑x2.sorts.length:Int))=true→(!ByteArray.toList e == ByteArray.toList (ByteArray.mk #[115,111,114,116]))=true→(ByteArray.toList x2.kind == ByteArray.toList (ByteArray.mk #[99,111,110,115,116,97,110,116]))=false→cvq X call false 44 [st d] [Ob.mapo z3,Ob.cells [st x2.kind,sQ x2.sorts],Ob.cells [st a,b]] (bo b0)) :
    (f57_o0 x2 i0 e b0=1→vexec Tryd.prog X call lf 0 noFg (loopN Tryd.f57 0) (f57_F0 z3 s1 x2 a b c i0)=some (Ex.ret,(f57_S1 z3 s1 x2 a b c i0 d r37 e g)))∧(f57_o0 x2 i0 e b0=2→vexec Tryd.prog X call lf 0 noFg (loopN Tryd.f57 0) (f57_F0 z3 s1 x2 a b c i0)=some (Ex.ret,(f57_S2 z3 s1 x2 a b c i0 d r37 e g)))∧(f57_o0 x2 i0 e b0=3→vexec Tryd.prog X call lf 0 noFg (loopN Tryd.f57 0) (f57_F0 z3 s1 x2 a b c i0)=some (Ex.exit 0,(f57_S3 z3 s1 x2 a b c i0))):=by
  unfold f57_o0
  cases c0:decide ((↑i0:Int)<(↑x2.sorts.length:Int)) with
  | true =>
    cases c1:(!ByteArray.toList e == ByteArray.toList (ByteArray.mk #[115,111,114,116])) with
    | true =>
      cases c2:(ByteArray.toList x2.kind == ByteArray.toList (ByteArray.mk #[99,111,110,115,116,97,110,116])) with
      | true =>
        exact ⟨fun _=>f57_r0_ttt z3 s1 x2 X call lf a b c i0 d r37 e g c0 (g0 c0) (g1 c0) c1 c2,fun h=>nq h,fun h=>nq h⟩
      | false =>
        cases c3:b0 with
        | true =>
          exact ⟨fun h=>nq h,fun h=>nq h,fun h=>nq h⟩
        | false =>
          exact ⟨fun h=>nq h,fun _=>f57_r0_ttff z3 s1 x2 X call lf a b c i0 d r37 e g c0 (g0 c0) (g1 c0) c1 c2 (by have:=(g2 c0 c1 c2); rw [c3] at this; exact this),fun h=>nq h⟩
    | false =>
      exact ⟨fun h=>nq h,fun h=>nq h,fun h=>nq h⟩
  | false =>
    exact ⟨fun h=>nq h,fun h=>nq h,fun _=>f57_r0_f z3 s1 x2 X call lf a b c i0 c0⟩
theorem f57_M (z3:List (AV × AV))(s1:ByteArray)(x2:Dcl)(a:ByteArray)(b:AV)(c:Bool)(X:Ext)(call:Caller)(lf n:Nat)(d:Nat→ByteArray)(r37:Nat→List AV)(e:Nat→ByteArray)(g:Nat→AV)(b0:Nat→Bool)
 (hn:n<lf)
 (g0:∀ i0,i0 ≤ n→decide ((↑i0:Int)<(↑x2.sorts.length:Int))=true→kiq 22 [Ob.mapo z3,Ob.cells [st x2.kind,sQ x2.sorts],Ob.cells [st a,b]] (sQ x2.sorts) (i6 (↑i0:Int)) (st (d i0)::(r37 i0)))
 (g1:∀ i0,i0 ≤ n→decide ((↑i0:Int)<(↑x2.sorts.length:Int))=true→kpq [Ob.mapo z3,Ob.cells [st x2.kind,sQ x2.sorts],Ob.cells [st a,b]] (lookupv Tryd.prog 49 [Ob.mapo z3,Ob.cells [st x2.kind,sQ x2.sorts],Ob.cells [st a,b]] (AV.map 0) (st (d i0)) false) (AV.agg [st (e i0),(g i0)]))
 (g2:∀ i0,i0 ≤ n→decide ((↑i0:Int)<(↑x2.sorts.length:Int))=true→(!ByteArray.toList (e i0) == ByteArray.toList (ByteArray.mk #[115,111,114,116]))=true→(ByteArray.toList x2.kind == ByteArray.toList (ByteArray.mk #[99,111,110,115,116,97,110,116]))=false→cvq X call false 44 [st (d i0)] [Ob.mapo z3,Ob.cells [st x2.kind,sQ x2.sorts],Ob.cells [st a,b]] (bo (b0 i0)))
 (e0:∀ i0,i0<n→decide ((↑i0:Int)<(↑x2.sorts.length:Int))=true→(↑(i0 + 1):Int)=w6 ((↑i0:Int) + 1))
 (hz:∀ j,j<n→f57_o0 x2 j (e j) (b0 j)=0) :
    (f57_o0 x2 n (e n) (b0 n)=1→kpq [Ob.mapo z3,Ob.cells [st x2.kind,sQ x2.sorts]] (lookupv Tryd.prog 49 [Ob.mapo z3,Ob.cells [st x2.kind,sQ x2.sorts]] (AV.map 0) (st s1) true) (AV.tup [AV.agg [st a,b],bo c])→c=false→cvq X call false 66 [st s1] [Ob.mapo z3,Ob.cells [st x2.kind,sQ x2.sorts],Ob.cells [st a,b]] (bo true)→cvq X call false 44 [st s1] [Ob.mapo z3,Ob.cells [st x2.kind,sQ x2.sorts],Ob.cells [st a,b]] (bo false)→((↑z3.length:Int) == 256)=false→vbody Tryd.prog X call lf noFg Tryd.f57 (codeOf Tryd.f57) [AV.map 0,st s1,AV.agg (dclC x2)] [Ob.mapo z3] 0=some (bo false,[Ob.mapo z3,Ob.cells [st x2.kind,sQ x2.sorts],Ob.cells [st a,b]]))∧(f57_o0 x2 n (e n) (b0 n)=2→kpq [Ob.mapo z3,Ob.cells [st x2.kind,sQ x2.sorts]] (lookupv Tryd.prog 49 [Ob.mapo z3,Ob.cells [st x2.kind,sQ x2.sorts]] (AV.map 0) (st s1) true) (AV.tup [AV.agg [st a,b],bo c])→c=false→cvq X call false 66 [st s1] [Ob.mapo z3,Ob.cells [st x2.kind,sQ x2.sorts],Ob.cells [st a,b]] (bo true)→cvq X call false 44 [st s1] [Ob.mapo z3,Ob.cells [st x2.kind,sQ x2.sorts],Ob.cells [st a,b]] (bo false)→((↑z3.length:Int) == 256)=false→vbody Tryd.prog X call lf noFg Tryd.f57 (codeOf Tryd.f57) [AV.map 0,st s1,AV.agg (dclC x2)] [Ob.mapo z3] 0=some (bo false,[Ob.mapo z3,Ob.cells [st x2.kind,sQ x2.sorts],Ob.cells [st a,b]]))∧(f57_o0 x2 n (e n) (b0 n)=3→kpq [Ob.mapo z3,Ob.cells [st x2.kind,sQ x2.sorts]] (lookupv Tryd.prog 49 [Ob.mapo z3,Ob.cells [st x2.kind,sQ x2.sorts]] (AV.map 0) (st s1) true) (AV.tup [AV.agg [st a,b],bo c])→c=false→cvq X call false 66 [st s1] [Ob.mapo z3,Ob.cells [st x2.kind,sQ x2.sorts],Ob.cells [st a,b]] (bo true)→cvq X call false 44 [st s1] [Ob.mapo z3,Ob.cells [st x2.kind,sQ x2.sorts],Ob.cells [st a,b]] (bo false)→((↑z3.length:Int) == 256)=false→(ByteArray.toList x2.kind == ByteArray.toList (ByteArray.mk #[112,114,101,100,105,99,97,116,101]))=true→decide ((↑x2.sorts.length:Int)<1)=true→vbody Tryd.prog X call lf noFg Tryd.f57 (codeOf Tryd.f57) [AV.map 0,st s1,AV.agg (dclC x2)] [Ob.mapo z3] 0=some (bo false,[Ob.mapo z3,Ob.cells [st x2.kind,sQ x2.sorts],Ob.cells [st a,b]]))∧(f57_o0 x2 n (e n) (b0 n)=3→kpq [Ob.mapo z3,Ob.cells [st x2.kind,sQ x2.sorts]] (lookupv Tryd.prog 49 [Ob.mapo z3,Ob.cells [st x2.kind,sQ x2.sorts]] (AV.map 0) (st s1) true) (AV.tup [AV.agg [st a,b],bo c])→c=false→cvq X call false 66 [st s1] [Ob.mapo z3,Ob.cells [st x2.kind,sQ x2.sorts],Ob.cells [st a,b]] (bo true)→cvq X call false 44 [st s1] [Ob.mapo z3,Ob.cells [st x2.kind,sQ x2.sorts],Ob.cells [st a,b]] (bo false)→((↑z3.length:Int) == 256)=false→(ByteArray.toList x2.kind == ByteArray.toList (ByteArray.mk #[112,114,101,100,105,99,97,116,101]))=true→decide ((↑x2.sorts.length:Int)<1)=false→decide ((↑x2.sorts.length:Int)>3)=true→vbody Tryd.prog X call lf noFg Tryd.f57 (codeOf Tryd.f57) [AV.map 0,st s1,AV.agg (dclC x2)] [Ob.mapo z3] 0=some (bo false,[Ob.mapo z3,Ob.cells [st x2.kind,sQ x2.sorts],Ob.cells [st a,b]]))∧(f57_o0 x2 n (e n) (b0 n)=3→∀ (sq75:List Ob),kpq [Ob.mapo z3,Ob.cells [st x2.kind,sQ x2.sorts]] (lookupv Tryd.prog 49 [Ob.mapo z3,Ob.cells [st x2.kind,sQ x2.sorts]] (AV.map 0) (st s1) true) (AV.tup [AV.agg [st a,b],bo c])→c=false→cvq X call false 66 [st s1] [Ob.mapo z3,Ob.cells [st x2.kind,sQ x2.sorts],Ob.cells [st a,b]] (bo true)→cvq X call false 44 [st s1] [Ob.mapo z3,Ob.cells [st x2.kind,sQ x2.sorts],Ob.cells [st a,b]] (bo false)→((↑z3.length:Int) == 256)=false→(ByteArray.toList x2.kind == ByteArray.toList (ByteArray.mk #[112,114,101,100,105,99,97,116,101]))=true→decide ((↑x2.sorts.length:Int)<1)=false→decide ((↑x2.sorts.length:Int)>3)=false→unit1 (mapUpdatev Tryd.prog 49 [Ob.mapo z3,Ob.cells [st x2.kind,sQ x2.sorts],Ob.cells [st a,b]] 0 (AV.map 0) (st s1) (AV.agg [st x2.kind,sQ x2.sorts]))=some (AV.undef,sq75)→vbody Tryd.prog X call lf noFg Tryd.f57 (codeOf Tryd.f57) [AV.map 0,st s1,AV.agg (dclC x2)] [Ob.mapo z3] 0=some (bo true,sq75))∧(f57_o0 x2 n (e n) (b0 n)=3→∀ (sq61:List Ob),kpq [Ob.mapo z3,Ob.cells [st x2.kind,sQ x2.sorts]] (lookupv Tryd.prog 49 [Ob.mapo z3,Ob.cells [st x2.kind,sQ x2.sorts]] (AV.map 0) (st s1) true) (AV.tup [AV.agg [st a,b],bo c])→c=false→cvq X call false 66 [st s1] [Ob.mapo z3,Ob.cells [st x2.kind,sQ x2.sorts],Ob.cells [st a,b]] (bo true)→cvq X call false 44 [st s1] [Ob.mapo z3,Ob.cells [st x2.kind,sQ x2.sorts],Ob.cells [st a,b]] (bo false)→((↑z3.length:Int) == 256)=false→(ByteArray.toList x2.kind == ByteArray.toList (ByteArray.mk #[112,114,101,100,105,99,97,116,101]))=false→unit1 (mapUpdatev Tryd.prog 49 [Ob.mapo z3,Ob.cells [st x2.kind,sQ x2.sorts],Ob.cells [st a,b]] 0 (AV.map 0) (st s1) (AV.agg [st x2.kind,sQ x2.sorts]))=some (AV.undef,sq61)→vbody Tryd.prog X call lf noFg Tryd.f57 (codeOf Tryd.f57) [AV.map 0,st s1,AV.agg (dclC x2)] [Ob.mapo z3] 0=some (bo true,sq61)):=by
  have key:∀ j,j<n→_:=fun j hj=>(f57_B0 z3 s1 x2 X call lf a b c j (d j) (r37 j) (e j) (g j) (b0 j) (g0 j (Nat.le_of_lt hj)) (g1 j (Nat.le_of_lt hj)) (g2 j (Nat.le_of_lt hj)) (e0 j hj)).1 (hz j hj)
  have kn:=f57_X0 z3 s1 x2 X call lf a b c n (d n) (r37 n) (e n) (g n) (b0 n) (g0 n (Nat.le_refl n)) (g1 n (Nat.le_refl n)) (g2 n (Nat.le_refl n))
  exact ⟨fun hk q0 q1 q2 q3 q4=>f57_pftfflttt z3 s1 x2 X call lf a b c n (d n) (r37 n) (e n) (g n) q0 q1 q2 q3 q4 (f57_L0 z3 s1 x2 a b c X call lf n _ _ hn key (kn.1 hk) (by simp)),
    fun hk q0 q1 q2 q3 q4=>f57_pftfflttff z3 s1 x2 X call lf a b c n (d n) (r37 n) (e n) (g n) q0 q1 q2 q3 q4 (f57_L0 z3 s1 x2 a b c X call lf n _ _ hn key (kn.2.1 hk) (by simp)),
    fun hk q0 q1 q2 q3 q4 q5 q6=>f57_pftfflftt z3 s1 x2 X call lf a b c n q0 q1 q2 q3 q4 (f57_L0 z3 s1 x2 a b c X call lf n _ _ hn key (kn.2.2 hk) (by simp)) q5 q6,
    fun hk q0 q1 q2 q3 q4 q5 q6 q7=>f57_pftfflftft z3 s1 x2 X call lf a b c n q0 q1 q2 q3 q4 (f57_L0 z3 s1 x2 a b c X call lf n _ _ hn key (kn.2.2 hk) (by simp)) q5 q6 q7,
    fun hk sq75 q0 q1 q2 q3 q4 q5 q6 q7 q8=>f57_pftfflftff z3 s1 x2 X call lf a b c n sq75 q0 q1 q2 q3 q4 (f57_L0 z3 s1 x2 a b c X call lf n _ _ hn key (kn.2.2 hk) (by simp)) q5 q6 q7 q8,
    fun hk sq61 q0 q1 q2 q3 q4 q5 q6=>f57_pftfflff z3 s1 x2 X call lf a b c n sq61 q0 q1 q2 q3 q4 (f57_L0 z3 s1 x2 a b c X call lf n _ _ hn key (kn.2.2 hk) (by simp)) q5 q6⟩
end Go.Proofs.Sig
end
/- Signature: a map of symbols; declare. -/
section
open Go Go.Vm Go.Proofs
namespace Go.Proofs.Sig
abbrev Syms:=List (ByteArray × Dcl)
def ent (p:ByteArray × Dcl):AV × AV:=(.str p.1,.agg (dclC p.2))
def mapE (m:Syms):List (AV × AV):=m.map ent
def lookD:Syms→ByteArray→Option Dcl
  | [],_=>none
  | p::m,k=>if k=p.1 then some p.2 else lookD m k
def knownB (m:Syms) (k:ByteArray):Bool:=(lookD m k).isSome
def kindD (m:Syms) (k:ByteArray):ByteArray:=match lookD m k with
  | some d=>d.kind
  | none=>emp
def sortsV (m:Syms) (k:ByteArray):AV:=match lookD m k with
  | some d=>strsV d.sorts
  | none => .list .nil 0 0 []
def eqB (a b:ByteArray):Bool:=a.toList == b.toList
def kSort:ByteArray:=ByteArray.mk #[115,111,114,116]
def kCon:ByteArray:=ByteArray.mk #[99,111,110,115,116,97,110,116]
def kPre:ByteArray:=ByteArray.mk #[112,114,101,100,105,99,97,116,101]
def sortOkB (m:Syms) (d:Dcl) (x:ByteArray):Bool:=eqB (kindD m x) kSort || (!(eqB d.kind kCon) && bltB x)
def arityB (d:Dcl):Bool := !(eqB d.kind kPre) || (decide (1 ≤ d.sorts.length) && decide (d.sorts.length ≤ 3))
def declB (m:Syms) (s:ByteArray) (d:Dcl):Bool := !(knownB m s) && nameB s && !bltB s && !(decide (m.length=256)) && d.sorts.all (sortOkB m d) && arityB d
def declM (m:Syms) (s:ByteArray) (d:Dcl):Syms:=if declB m s d then m ++ [(s,d)] else m
theorem mapE_len (m:Syms):(mapE m).length=m.length:=by simp [mapE]
theorem look_es (m:Syms) (k:ByteArray):lookupEs (.str k) (mapE m)=some ((lookD m k).map fun d => .agg (dclC d)):=by
  induction m with
  | nil=>rfl
  | cons p m ih =>
    simp only [mapE,List.map_cons,ent,lookupEs,lookD]
    split
    · rfl
    · exact ih
theorem put_es {m:Syms} {k:ByteArray} (d:Dcl) (h:knownB m k=false):putEs (.str k) (.agg (dclC d)) (mapE m)=some (mapE (m ++ [(k,d)])):=by
  induction m with
  | nil=>rfl
  | cons p m ih =>
    unfold knownB lookD at h
    by_cases e:k=p.1
    · rw [if_pos e] at h; cases h
    · rw [if_neg e] at h
      have:=ih h
      simp only [mapE] at this
      simp only [mapE,List.map_cons,List.cons_append,ent,putEs,lookupEs,if_neg e]
      rw [this]
theorem isKey_str (k:ByteArray):isKey .string (.str k)=true:=rfl
theorem look_ok {σ:List Ob} {id:Nat} {m:Syms} (h:σ[id]? = some (.mapo (mapE m))) (k:ByteArray):lookupv Tryd.prog 49 σ (.map id) (.str k) true=some (.tup [.agg [.str (kindD m k),sortsV m k],.bool (knownB m k)]):=by
  unfold lookupv
  rw [Tryd.underlying49]
  simp only
  rw [Tryd.underlying9]
  simp only [entriesOf,h,isKey_str,if_true,look_es,kindD,sortsV,knownB]
  cases lookD m k with
  | none =>
    have hz:zerov Tryd.prog 68=some (.agg [.str (ByteArray.mk #[]),.list .nil 0 0 []]):=by kernel_rfl
    simp only [Option.map_none,hz,Option.isSome_none,if_true]
    rfl
  | some d=>simp only [Option.map_some,Option.isSome_some,if_true,dclC]
theorem look_one {σ:List Ob} {id:Nat} {m:Syms} (h:σ[id]? = some (.mapo (mapE m))) (k:ByteArray):lookupv Tryd.prog 49 σ (.map id) (.str k) false=some (.agg [.str (kindD m k),sortsV m k]):=by
  unfold lookupv
  rw [Tryd.underlying49]
  simp only
  rw [Tryd.underlying9]
  simp only [entriesOf,h,isKey_str,if_true,look_es,kindD,sortsV]
  cases lookD m k with
  | none =>
    have hz:zerov Tryd.prog 68=some (.agg [.str (ByteArray.mk #[]),.list .nil 0 0 []]):=by kernel_rfl
    simp only [Option.map_none,hz,Bool.false_eq_true,if_false]
    rfl
  | some d=>simp only [Option.map_some,Bool.false_eq_true,if_false,dclC]
theorem put_map {σ:List Ob} {id ro:Nat} {m:Syms} {k:ByteArray} {d:Dcl} (hr:ro ≤ id) (h:σ[id]? = some (.mapo (mapE m))) (hk:knownB m k=false):mapUpdatev Tryd.prog 49 σ ro (.map id) (.str k) (.agg (dclC d))=some (setOb σ id (.mapo (mapE (m ++ [(k,d)])))):=by
  unfold mapUpdatev
  rw [Tryd.underlying49]
  simp only
  rw [Tryd.underlying9]
  simp only [h,isKey_str,hr,and_self,if_true,put_es d hk]
theorem o57 (d:Dcl) (i:Nat) (x:ByteArray) (m:Syms) (y:ByteArray) (hx:x=kindD m y):(i < d.sorts.length→sortOkB m d y=true→f57_o0 d i x (bltB y)=0)∧(i < d.sorts.length → ¬ sortOkB m d y=true→f57_o0 d i x (bltB y)=1 ∨ f57_o0 d i x (bltB y)=2)∧(¬ i < d.sorts.length→f57_o0 d i x (bltB y)=3):=by
  subst hx
  unfold f57_o0 sortOkB eqB kSort kCon
  refine ⟨fun h1 h2 => ?_,fun h1 h2 => ?_,fun h1 => ?_⟩
  · rw [decide_eq_true (by omega)]
    revert h2
    cases (kindD m y).toList == (ByteArray.mk #[115,111,114,116]).toList <;> cases d.kind.toList == (ByteArray.mk #[99,111,110,115,116,97,110,116]).toList <;> cases bltB y <;> simp
  · rw [decide_eq_true (by omega)]
    revert h2
    cases (kindD m y).toList == (ByteArray.mk #[115,111,114,116]).toList <;> cases d.kind.toList == (ByteArray.mk #[99,111,110,115,116,97,110,116]).toList <;> cases bltB y <;> simp
  · rw [decide_eq_false (by omega)]
section
variable {X:Ext} {call:Caller} {lf:Nat}
/-- signature.declare. -/
theorem decl57 {m:Syms} {s:ByteArray} {d:Dcl} (h66:∀ σ,callv X call false 66 [st s] σ 0=some (bo (nameB s),σ)) (h44:∀ x σ,callv X call false 44 [st x] σ 0=some (bo (bltB x),σ)) (hm:m.length ≤ big) (hs:d.sorts.length ≤ big) (hlf:d.sorts.length < lf) :
    ∃ σ',vbody Tryd.prog X call lf noFg Tryd.f57 (codeOf Tryd.f57) [.map 0,st s,.agg (dclC d)] [.mapo (mapE m)] 0=some (bo (declB m s d),σ')∧σ'[0]? = some (.mapo (mapE (declM m s d))):=by
  have hlook : ∀ σ, keep (Ob.mapo (mapE m) :: σ) (lookupv Tryd.prog 49 (Ob.mapo (mapE m) :: σ) (AV.map 0) (st s) true) = some (AV.tup [AV.agg [st (kindD m s), sortsV m s], bo (knownB m s)], Ob.mapo (mapE m) :: σ) := fun σ => by
    rw [look_ok (σ:=Ob.mapo (mapE m)::σ) (id:=0) rfl s]; rfl
  have hlook1 : ∀ σ x, keep (Ob.mapo (mapE m) :: σ) (lookupv Tryd.prog 49 (Ob.mapo (mapE m) :: σ) (AV.map 0) (st x) false) = some (AV.agg [st (kindD m x), sortsV m x], Ob.mapo (mapE m) :: σ) := fun σ x => by
    rw [look_one (σ:=Ob.mapo (mapE m)::σ) (id:=0) rfl x]; rfl
  have hml : ((↑(mapE m).length : Int) == 256) = decide (m.length = 256) := by
    rw [mapE_len,Bool.eq_iff_iff,beq_iff_eq,decide_eq_true_eq]; omega
  have P0:=f57_P0 (mapE m) s d X call lf (kindD m s) (sortsV m s) (knownB m s) (nameB s) (bltB s) (hlook _) (fun _=>h66 _) (fun _ _=>h44 _ _)
  unfold f57_q0 at P0
  rw [hml] at P0
  unfold declM declB
  cases h1:knownB m s with
  | true=>rw [h1] at P0; exact ⟨_,P0 rfl,rfl⟩
  | false =>
  cases h2:nameB s with
  | false=>rw [h1,h2] at P0; exact ⟨_,P0 rfl,rfl⟩
  | true =>
  cases h3:bltB s with
  | true=>rw [h1,h2,h3] at P0; exact ⟨_,P0 rfl,rfl⟩
  | false =>
  cases h4:decide (m.length=256) with
  | true=>rw [h1,h2,h3,h4] at P0; exact ⟨_,P0 rfl,rfl⟩
  | false =>
  have h66' : ∀ σ,callv X call false 66 [st s] σ 0=some (bo true,σ):=fun σ=>by have:=h66 σ; rwa [h2] at this
  have h44' : ∀ σ,callv X call false 44 [st s] σ 0=some (bo false,σ):=fun σ=>by have:=h44 s σ; rwa [h3] at this
  rw [h4] at hml
  have ho:=fun i=>o57 d i (kindD m (nS d.sorts i)) m (nS d.sorts i) rfl
  rcases first_fail (p:=fun i=>sortOkB m d (nS d.sorts i)=true) d.sorts.length with hall | ⟨k,hk,hbad,hbef⟩
  · have M := f57_M (mapE m) s d (kindD m s) (sortsV m s) (knownB m s) X call lf d.sorts.length (fun i => nS d.sorts i) (fun i => tS d.sorts i) (fun i => kindD m (nS d.sorts i)) (fun i => sortsV m (nS d.sorts i)) (fun i => bltB (nS d.sorts i)) hlf
      (fun i _ h=>at_strs (by simpa using h)) (fun i _ _=>hlook1 _ _) (fun i _ _ _ _=>h44 _ _) (fun i h _=>up h hs) (fun j hj=>(ho j).1 hj (hall j hj))
    have hal : d.sorts.all (sortOkB m d) = true := by
      rw [List.all_eq_true]
      intro x hx
      obtain ⟨i,hi,e⟩:=List.getElem_of_mem hx
      have:=hall i hi
      rwa [nS,getD_lt hi,e] at this
    rw [hal]
    have o3:=(ho d.sorts.length).2.2 (by omega)
    have hput:=put_map (σ:=[Ob.mapo (mapE m),Ob.cells (dclC d),Ob.cells [st (kindD m s),sortsV m s]]) (d:=d) (Nat.zero_le 0) rfl h1
    have hput' : unit1 (mapUpdatev Tryd.prog 49 [Ob.mapo (mapE m), Ob.cells (dclC d), Ob.cells [st (kindD m s), sortsV m s]] 0 (AV.map 0) (st s) (AV.agg (dclC d))) = some (AV.undef, [Ob.mapo (mapE (m ++ [(s, d)])), Ob.cells (dclC d), Ob.cells [st (kindD m s), sortsV m s]]) := by
      rw [hput]; rfl
    unfold arityB eqB kPre
    cases h5:d.kind.toList == (ByteArray.mk #[112,114,101,100,105,99,97,116,101]).toList with
    | false=>exact ⟨_,M.2.2.2.2.2 o3 _ (hlook _) h1 (h66' _) (h44' _) hml h5 hput',rfl⟩
    | true =>
    cases h6:decide (1 ≤ d.sorts.length) with
    | false=>exact ⟨_,M.2.2.1 o3 (hlook _) h1 (h66' _) (h44' _) hml h5 (decide_eq_true (by have:=of_decide_eq_false h6; omega)),rfl⟩
    | true =>
    cases h7:decide (d.sorts.length ≤ 3) with
    | false=>exact ⟨_,M.2.2.2.1 o3 (hlook _) h1 (h66' _) (h44' _) hml h5 (decide_eq_false (by have:=of_decide_eq_true h6; omega)) (decide_eq_true (by have:=of_decide_eq_false h7; omega)),rfl⟩
    | true=>exact ⟨_,M.2.2.2.2.1 o3 _ (hlook _) h1 (h66' _) (h44' _) hml h5 (decide_eq_false (by have:=of_decide_eq_true h6; omega)) (decide_eq_false (by have:=of_decide_eq_true h7; omega)) hput',rfl⟩
  · have M := f57_M (mapE m) s d (kindD m s) (sortsV m s) (knownB m s) X call lf k (fun i => nS d.sorts i) (fun i => tS d.sorts i) (fun i => kindD m (nS d.sorts i)) (fun i => sortsV m (nS d.sorts i)) (fun i => bltB (nS d.sorts i)) (by omega)
      (fun i _ h=>at_strs (by simpa using h)) (fun i _ _=>hlook1 _ _) (fun i _ _ _ _=>h44 _ _) (fun i h _=>up h (by omega)) (fun j hj=>(ho j).1 (by omega) (hbef j hj))
    have hal : d.sorts.all (sortOkB m d) = false := by
      rw [Bool.eq_false_iff]
      intro h
      rw [List.all_eq_true] at h
      exact hbad (h _ (by rw [nS,getD_lt hk]; exact List.getElem_mem hk))
    rw [hal]
    rcases (ho k).2.1 hk hbad with h | h
    · exact ⟨_,M.1 h (hlook _) h1 (h66' _) (h44' _) hml,rfl⟩
    · exact ⟨_,M.2.1 h (hlook _) h1 (h66' _) (h44' _) hml,rfl⟩
end
end Go.Proofs.Sig
end
/- Signature: symbols, walked (printed) -/
section
open Go Go.Vm Go.Proofs
namespace Go.Proofs.Sig
def fg32:Nat→List Nat
  | 5010=>[1]
  | 5016=>[1]
  | _=>[]
def f32_F0 (x0:Sgn)(z0:Nat→List (AV × AV))(i0:Nat):St :=
  stOf 59 [2,3,6,16,17,18,19,20,21,22,23,24] [(0,AV.agg (gQ x0)),(1,AV.ref 0 0),(4,AV.map 1),(11,AV.map 1),(12,AV.ref 0 0),(13,sQ x0.sorts),(14,i6 (↑x0.sorts.length:Int)),(15,i6 (↑i0:Int))] [Ob.cells (gQ x0),Ob.mapo (z0 i0)]
def f32_S0 (x0:Sgn):St :=
  stOf 59 [] [(0,AV.agg (gQ x0)),(1,AV.ref 0 0),(2,AV.mnil),(3,bo false),(4,AV.map 1),(11,AV.map 1),(12,AV.ref 0 0),(13,sQ x0.sorts),(14,i6 (↑x0.sorts.length:Int)),(15,i6 0)] [Ob.cells (gQ x0),Ob.mapo []]
abbrev f32_D0:List Nat:=[24,3,2,23,22,21,20,19,6,18,17,16]
theorem f32_L0 (x0:Sgn)(z0:Nat→List (AV × AV))(X:Ext)(call:Caller)(lf n:Nat)(x:Ex) (S' : St)
 (e0:[Ob.cells (gQ x0),Ob.mapo (z0 0)]=[Ob.cells (gQ x0),Ob.mapo []])
 (hn:n<lf)
 (hs:∀ j,j<n→∃ Sx,vexec Tryd.prog X call lf 0 fg32 (loopN Tryd.f32 0) (f32_F0 x0 z0 j)=some (Ex.normal,Sx)∧forget f32_D0 Sx=(f32_F0 x0 z0 (j + 1)))
 (he:vexec Tryd.prog X call lf 0 fg32 (loopN Tryd.f32 0) (f32_F0 x0 z0 n)=some (x,S'))
 (hx:x ≠ Ex.normal):vexec Tryd.prog X call lf 0 fg32 (Go.Code.loop (loopN Tryd.f32 0)) (f32_S0 x0)=some (x,S') :=
  loop_runK (by kernel_rfl) (fun j=>(f32_F0 x0 z0 j)) n hn (by show forget f32_D0 (f32_S0 x0)=(f32_F0 x0 z0 0); unfold f32_F0; rw [e0]; show _=_; kernel_rfl) hs he hx
def f32_S1 (x0:Sgn)(i0:Nat)(a:ByteArray)(r17:List AV)(s22:List Ob)(b22:Bool):St :=
  stOf 59 [24] [(0,AV.agg (gQ x0)),(1,AV.ref 0 0),(2,AV.mnil),(3,bo false),(4,AV.map 1),(6,st a),(11,AV.map 1),(12,AV.ref 0 0),(13,sQ x0.sorts),(14,i6 (↑x0.sorts.length:Int)),(15,i6 (↑i0:Int)),(16,bo true),(17,AV.eaddr (st a::r17)),(18,st a),(19,AV.map 1),(20,st a),(21,AV.agg [st (ByteArray.mk #[115,111,114,116]),AV.list LK.nil 0 0 []]),(22,bo b22),(23,bo true)] s22
theorem f32_r0_tt (x0:Sgn)(z0:Nat→List (AV × AV))(X:Ext)(call:Caller)(lf i0:Nat)(a:ByteArray)(r17:List AV)(s22:List Ob)(b22:Bool)
 (h0:decide ((↑i0:Int)<(↑x0.sorts.length:Int))=true)
 (h1:kiq 22 [Ob.cells (gQ x0),Ob.mapo (z0 i0)] (sQ x0.sorts) (i6 (↑i0:Int)) (st a::r17))
 (h2:callv X call false 57 [AV.map 1,st a,AV.agg [st (ByteArray.mk #[115,111,114,116]),AV.list LK.nil 0 0 []]] [Ob.cells (gQ x0),Ob.mapo (z0 i0)] 0=some (bo b22,s22))
 (h3:(!b22)=true):vexec Tryd.prog X call lf 0 fg32 (loopN Tryd.f32 0) (f32_F0 x0 z0 i0)=some (Ex.ret,(f32_S1 x0 i0 a r17 s22 b22)) :=
  around_sound (ans:=[(1,Ans.b true),(4,Ans.v (AV.eaddr (st a::r17))),(11,Ans.c (bo b22) s22),(12,Ans.b true)]) (by kernel_rfl) (ai h0 (ai h1 (ai h2 (ai h3 trivial))))
theorem f32_pltt (x0:Sgn)(X:Ext)(call:Caller)(lf i0:Nat)(a:ByteArray)(r17:List AV)(s22:List Ob)(b22:Bool)
 (h0:vexec Tryd.prog X call lf 0 fg32 (Code.loop (loopN Tryd.f32 0)) (f32_S0 x0)=some (Ex.ret,(f32_S1 x0 i0 a r17 s22 b22))):vbody Tryd.prog X call lf fg32 Tryd.f32 (codeOf Tryd.f32) [AV.agg (sgnC x0)] [] 0=some (AV.tup [AV.mnil,bo false],s22) :=
  along_sound (ans:=[(12,Ans.l Ex.ret (f32_S1 x0 i0 a r17 s22 b22))]) (by kernel_rfl) (ai h0 trivial)
theorem f32_s0_tf (x0:Sgn)(z0:Nat→List (AV × AV))(X:Ext)(call:Caller)(lf i0:Nat)(a:ByteArray)(r17:List AV)(s22:List Ob)(b22:Bool)
 (h0:decide ((↑i0:Int)<(↑x0.sorts.length:Int))=true)
 (h1:kiq 22 [Ob.cells (gQ x0),Ob.mapo (z0 i0)] (sQ x0.sorts) (i6 (↑i0:Int)) (st a::r17))
 (h2:callv X call false 57 [AV.map 1,st a,AV.agg [st (ByteArray.mk #[115,111,114,116]),AV.list LK.nil 0 0 []]] [Ob.cells (gQ x0),Ob.mapo (z0 i0)] 0=some (bo b22,s22))
 (h3:(!b22)=false)
 (e0:(↑(i0 + 1):Int)=w6 ((↑i0:Int) + 1))
 (e1:[Ob.cells (gQ x0),Ob.mapo (z0 (i0 + 1))]=s22):∃ Sx,vexec Tryd.prog X call lf 0 fg32 (loopN Tryd.f32 0) (f32_F0 x0 z0 i0)=some (Ex.normal,Sx)∧forget f32_D0 Sx=(f32_F0 x0 z0 (i0 + 1)) :=
  ⟨stOf 59 [2,3] [(0,AV.agg (gQ x0)),(1,AV.ref 0 0),(4,AV.map 1),(6,st a),(11,AV.map 1),(12,AV.ref 0 0),(13,sQ x0.sorts),(14,i6 (↑x0.sorts.length:Int)),(15,i6 (w6 ((↑i0:Int) + 1))),(16,bo true),(17,AV.eaddr (st a::r17)),(18,st a),(19,AV.map 1),(20,st a),(21,AV.agg [st (ByteArray.mk #[115,111,114,116]),AV.list LK.nil 0 0 []]),(22,bo b22),(23,bo false),(24,i6 (w6 ((↑i0:Int) + 1)))] s22,around_sound (ans:=[(1,Ans.b true),(4,Ans.v (AV.eaddr (st a::r17))),(11,Ans.c (bo b22) s22),(12,Ans.b false)]) (by kernel_rfl) (ai h0 (ai h1 (ai h2 (ai h3 trivial)))),by unfold f32_F0; rw [e0,e1]; show _=_; kernel_rfl⟩
def f32_S2 (x0:Sgn)(z0:Nat→List (AV × AV))(i0:Nat):St :=
  stOf 59 [2,3,6,17,18,19,20,21,22,23,24] [(0,AV.agg (gQ x0)),(1,AV.ref 0 0),(4,AV.map 1),(11,AV.map 1),(12,AV.ref 0 0),(13,sQ x0.sorts),(14,i6 (↑x0.sorts.length:Int)),(15,i6 (↑i0:Int)),(16,bo false)] [Ob.cells (gQ x0),Ob.mapo (z0 i0)]
theorem f32_r0_f (x0:Sgn)(z0:Nat→List (AV × AV))(X:Ext)(call:Caller)(lf i0:Nat)
 (h0:decide ((↑i0:Int)<(↑x0.sorts.length:Int))=false):vexec Tryd.prog X call lf 0 fg32 (loopN Tryd.f32 0) (f32_F0 x0 z0 i0)=some (Ex.exit 0,(f32_S2 x0 z0 i0)) :=
  around_sound (ans:=[(1,Ans.b false)]) (by kernel_rfl) (ai h0 trivial)
def f32_F1 (x0:Sgn)(z1:Nat→List (AV × AV))(i0 i1:Nat):St :=
  stOf 59 [2,3,6,8,17,18,19,20,21,22,23,24,29,30,31,32,33,34,35,36,37,38,39,40,41] [(0,AV.agg (gQ x0)),(1,AV.ref 0 0),(4,AV.map 1),(11,AV.map 1),(12,AV.ref 0 0),(13,sQ x0.sorts),(14,i6 (↑x0.sorts.length:Int)),(15,i6 (↑i0:Int)),(16,bo false),(25,AV.ref 0 1),(26,cQ x0.consts),(27,i6 (↑x0.consts.length:Int)),(28,i6 (↑i1:Int))] [Ob.cells (gQ x0),Ob.mapo (z1 i1)]
def f32_S3 (x0:Sgn)(z0:Nat→List (AV × AV))(i0:Nat):St :=
  stOf 59 [2,3,6,17,18,19,20,21,22,23,24] [(0,AV.agg (gQ x0)),(1,AV.ref 0 0),(4,AV.map 1),(11,AV.map 1),(12,AV.ref 0 0),(13,sQ x0.sorts),(14,i6 (↑x0.sorts.length:Int)),(15,i6 (↑i0:Int)),(16,bo false),(25,AV.ref 0 1),(26,cQ x0.consts),(27,i6 (↑x0.consts.length:Int)),(28,i6 0)] [Ob.cells (gQ x0),Ob.mapo (z0 i0)]
abbrev f32_D1:List Nat:=[41,3,2,40,39,38,37,36,35,34,33,32,8,31,30,29]
theorem f32_L1 (x0:Sgn)(z0 z1:Nat→List (AV × AV))(i0:Nat)(X:Ext)(call:Caller)(lf n:Nat)(x:Ex) (S' : St)
 (e0:[Ob.cells (gQ x0),Ob.mapo (z1 0)]=[Ob.cells (gQ x0),Ob.mapo (z0 i0)])
 (hn:n<lf)
 (hs:∀ j,j<n→∃ Sx,vexec Tryd.prog X call lf 0 fg32 (loopN Tryd.f32 1) (f32_F1 x0 z1 i0 j)=some (Ex.normal,Sx)∧forget f32_D1 Sx=(f32_F1 x0 z1 i0 (j + 1)))
 (he:vexec Tryd.prog X call lf 0 fg32 (loopN Tryd.f32 1) (f32_F1 x0 z1 i0 n)=some (x,S'))
 (hx:x ≠ Ex.normal):vexec Tryd.prog X call lf 0 fg32 (Go.Code.loop (loopN Tryd.f32 1)) (f32_S3 x0 z0 i0)=some (x,S') :=
  loop_runK (by kernel_rfl) (fun j=>(f32_F1 x0 z1 i0 j)) n hn (by show forget f32_D1 (f32_S3 x0 z0 i0)=(f32_F1 x0 z1 i0 0); unfold f32_F1; rw [e0]; show _=_; kernel_rfl) hs he hx
def f32_S4 (x0:Sgn)(i0 i1:Nat)(a b:ByteArray)(r30:List AV)(s39:List Ob)(b39:Bool):St :=
  stOf 59 [6,17,18,19,20,21,22,23,24,41] [(0,AV.agg (gQ x0)),(1,AV.ref 0 0),(2,AV.mnil),(3,bo false),(4,AV.map 1),(8,AV.eaddr [st a,st b]),(11,AV.map 1),(12,AV.ref 0 0),(13,sQ x0.sorts),(14,i6 (↑x0.sorts.length:Int)),(15,i6 (↑i0:Int)),(16,bo false),(25,AV.ref 0 1),(26,cQ x0.consts),(27,i6 (↑x0.consts.length:Int)),(28,i6 (↑i1:Int)),(29,bo true),(30,AV.eaddr (st a::st b::r30)),(31,AV.agg [st a,st b]),(32,AV.map 1),(33,AV.eaddr [st a,st b]),(34,st a),(35,AV.eaddr [st b]),(36,st b),(37,AV.list LK.clip 1 1 [st b]),(38,AV.agg [st (ByteArray.mk #[99,111,110,115,116,97,110,116]),AV.list LK.clip 1 1 [st b]]),(39,bo b39),(40,bo true)] s39
theorem f32_r1_tt (x0:Sgn)(z1:Nat→List (AV × AV))(X:Ext)(call:Caller)(lf i0 i1:Nat)(a d:ByteArray)(r30:List AV)(s39:List Ob)(b39:Bool)
 (h0:decide ((↑i1:Int)<(↑x0.consts.length:Int))=true)
 (h1:kiq 23 [Ob.cells (gQ x0),Ob.mapo (z1 i1)] (cQ x0.consts) (i6 (↑i1:Int)) (st a::st d::r30))
 (h2:callv X call false 57 [AV.map 1,st a,AV.agg [st (ByteArray.mk #[99,111,110,115,116,97,110,116]),AV.list LK.clip 1 1 [st d]]] [Ob.cells (gQ x0),Ob.mapo (z1 i1)] 0=some (bo b39,s39))
 (h3:(!b39)=true):vexec Tryd.prog X call lf 0 fg32 (loopN Tryd.f32 1) (f32_F1 x0 z1 i0 i1)=some (Ex.ret,(f32_S4 x0 i0 i1 a d r30 s39 b39)) :=
  around_sound (ans:=[(1,Ans.b true),(4,Ans.v (AV.eaddr (st a::st d::r30))),(14,Ans.c (bo b39) s39),(15,Ans.b true)]) (by kernel_rfl) (ai h0 (ai h1 (ai h2 (ai h3 trivial))))
theorem f32_plfltt (x0:Sgn)(z0:Nat→List (AV × AV))(X:Ext)(call:Caller)(lf i0 i1:Nat)(a b:ByteArray)(r30:List AV)(s39:List Ob)(b39:Bool)
 (h0:vexec Tryd.prog X call lf 0 fg32 (Code.loop (loopN Tryd.f32 0)) (f32_S0 x0)=some (Ex.exit 0,(f32_S2 x0 z0 i0)))
 (h1:vexec Tryd.prog X call lf 0 fg32 (Code.loop (loopN Tryd.f32 1)) (f32_S3 x0 z0 i0)=some (Ex.ret,(f32_S4 x0 i0 i1 a b r30 s39 b39))):vbody Tryd.prog X call lf fg32 Tryd.f32 (codeOf Tryd.f32) [AV.agg (sgnC x0)] [] 0=some (AV.tup [AV.mnil,bo false],s39) :=
  along_sound (ans:=[(12,Ans.l (Ex.exit 0) (f32_S2 x0 z0 i0)),(18,Ans.l Ex.ret (f32_S4 x0 i0 i1 a b r30 s39 b39))]) (by kernel_rfl) (ai h0 (ai h1 trivial))
theorem f32_s1_tf (x0:Sgn)(z1:Nat→List (AV × AV))(X:Ext)(call:Caller)(lf i0 i1:Nat)(a d:ByteArray)(r30:List AV)(s39:List Ob)(b39:Bool)
 (h0:decide ((↑i1:Int)<(↑x0.consts.length:Int))=true)
 (h1:kiq 23 [Ob.cells (gQ x0),Ob.mapo (z1 i1)] (cQ x0.consts) (i6 (↑i1:Int)) (st a::st d::r30))
 (h2:callv X call false 57 [AV.map 1,st a,AV.agg [st (ByteArray.mk #[99,111,110,115,116,97,110,116]),AV.list LK.clip 1 1 [st d]]] [Ob.cells (gQ x0),Ob.mapo (z1 i1)] 0=some (bo b39,s39))
 (h3:(!b39)=false)
 (e0:(↑(i1 + 1):Int)=w6 ((↑i1:Int) + 1))
 (e1:[Ob.cells (gQ x0),Ob.mapo (z1 (i1 + 1))]=s39):∃ Sx,vexec Tryd.prog X call lf 0 fg32 (loopN Tryd.f32 1) (f32_F1 x0 z1 i0 i1)=some (Ex.normal,Sx)∧forget f32_D1 Sx=(f32_F1 x0 z1 i0 (i1 + 1)) :=
  ⟨stOf 59 [2,3,6,17,18,19,20,21,22,23,24] [(0,AV.agg (gQ x0)),(1,AV.ref 0 0),(4,AV.map 1),(8,AV.eaddr [st a,st d]),(11,AV.map 1),(12,AV.ref 0 0),(13,sQ x0.sorts),(14,i6 (↑x0.sorts.length:Int)),(15,i6 (↑i0:Int)),(16,bo false),(25,AV.ref 0 1),(26,cQ x0.consts),(27,i6 (↑x0.consts.length:Int)),(28,i6 (w6 ((↑i1:Int) + 1))),(29,bo true),(30,AV.eaddr (st a::st d::r30)),(31,AV.agg [st a,st d]),(32,AV.map 1),(33,AV.eaddr [st a,st d]),(34,st a),(35,AV.eaddr [st d]),(36,st d),(37,AV.list LK.clip 1 1 [st d]),(38,AV.agg [st (ByteArray.mk #[99,111,110,115,116,97,110,116]),AV.list LK.clip 1 1 [st d]]),(39,bo b39),(40,bo false),(41,i6 (w6 ((↑i1:Int) + 1)))] s39,around_sound (ans:=[(1,Ans.b true),(4,Ans.v (AV.eaddr (st a::st d::r30))),(14,Ans.c (bo b39) s39),(15,Ans.b false)]) (by kernel_rfl) (ai h0 (ai h1 (ai h2 (ai h3 trivial)))),by unfold f32_F1; rw [e0,e1]; show _=_; kernel_rfl⟩
def f32_S5 (x0:Sgn)(z1:Nat→List (AV × AV))(i0 i1:Nat):St :=
  stOf 59 [2,3,6,8,17,18,19,20,21,22,23,24,30,31,32,33,34,35,36,37,38,39,40,41] [(0,AV.agg (gQ x0)),(1,AV.ref 0 0),(4,AV.map 1),(11,AV.map 1),(12,AV.ref 0 0),(13,sQ x0.sorts),(14,i6 (↑x0.sorts.length:Int)),(15,i6 (↑i0:Int)),(16,bo false),(25,AV.ref 0 1),(26,cQ x0.consts),(27,i6 (↑x0.consts.length:Int)),(28,i6 (↑i1:Int)),(29,bo false)] [Ob.cells (gQ x0),Ob.mapo (z1 i1)]
theorem f32_r1_f (x0:Sgn)(z1:Nat→List (AV × AV))(X:Ext)(call:Caller)(lf i0 i1:Nat)
 (h0:decide ((↑i1:Int)<(↑x0.consts.length:Int))=false):vexec Tryd.prog X call lf 0 fg32 (loopN Tryd.f32 1) (f32_F1 x0 z1 i0 i1)=some (Ex.exit 2,(f32_S5 x0 z1 i0 i1)) :=
  around_sound (ans:=[(1,Ans.b false)]) (by kernel_rfl) (ai h0 trivial)
def f32_F2 (x0:Sgn)(z2:Nat→List (AV × AV))(i0 i1 i2:Nat):St :=
  stOf 59 [2,3,6,8,10,17,18,19,20,21,22,23,24,30,31,32,33,34,35,36,37,38,39,40,41,46,47,48,49,50,51,52,53,54,55,56,57] [(0,AV.agg (gQ x0)),(1,AV.ref 0 0),(4,AV.map 1),(11,AV.map 1),(12,AV.ref 0 0),(13,sQ x0.sorts),(14,i6 (↑x0.sorts.length:Int)),(15,i6 (↑i0:Int)),(16,bo false),(25,AV.ref 0 1),(26,cQ x0.consts),(27,i6 (↑x0.consts.length:Int)),(28,i6 (↑i1:Int)),(29,bo false),(42,AV.ref 0 2),(43,pQ x0.preds),(44,i6 (↑x0.preds.length:Int)),(45,i6 (↑i2:Int))] [Ob.cells (gQ x0),Ob.mapo (z2 i2)]
def f32_S6 (x0:Sgn)(z1:Nat→List (AV × AV))(i0 i1:Nat):St :=
  stOf 59 [2,3,6,8,17,18,19,20,21,22,23,24,30,31,32,33,34,35,36,37,38,39,40,41] [(0,AV.agg (gQ x0)),(1,AV.ref 0 0),(4,AV.map 1),(11,AV.map 1),(12,AV.ref 0 0),(13,sQ x0.sorts),(14,i6 (↑x0.sorts.length:Int)),(15,i6 (↑i0:Int)),(16,bo false),(25,AV.ref 0 1),(26,cQ x0.consts),(27,i6 (↑x0.consts.length:Int)),(28,i6 (↑i1:Int)),(29,bo false),(42,AV.ref 0 2),(43,pQ x0.preds),(44,i6 (↑x0.preds.length:Int)),(45,i6 0)] [Ob.cells (gQ x0),Ob.mapo (z1 i1)]
abbrev f32_D2:List Nat:=[57,3,2,56,55,54,53,52,51,50,49,10,48,47,46]
theorem f32_L2 (x0:Sgn)(z1 z2:Nat→List (AV × AV))(i0 i1:Nat)(X:Ext)(call:Caller)(lf n:Nat)(x:Ex) (S' : St)
 (e0:[Ob.cells (gQ x0),Ob.mapo (z2 0)]=[Ob.cells (gQ x0),Ob.mapo (z1 i1)])
 (hn:n<lf)
 (hs:∀ j,j<n→∃ Sx,vexec Tryd.prog X call lf 0 fg32 (loopN Tryd.f32 2) (f32_F2 x0 z2 i0 i1 j)=some (Ex.normal,Sx)∧forget f32_D2 Sx=(f32_F2 x0 z2 i0 i1 (j + 1)))
 (he:vexec Tryd.prog X call lf 0 fg32 (loopN Tryd.f32 2) (f32_F2 x0 z2 i0 i1 n)=some (x,S'))
 (hx:x ≠ Ex.normal):vexec Tryd.prog X call lf 0 fg32 (Go.Code.loop (loopN Tryd.f32 2)) (f32_S6 x0 z1 i0 i1)=some (x,S') :=
  loop_runK (by kernel_rfl) (fun j=>(f32_F2 x0 z2 i0 i1 j)) n hn (by show forget f32_D2 (f32_S6 x0 z1 i0 i1)=(f32_F2 x0 z2 i0 i1 0); unfold f32_F2; rw [e0]; show _=_; kernel_rfl) hs he hx
def f32_S7 (x0:Sgn)(i0 i1 i2:Nat)(a:ByteArray)(b:List ByteArray)(r47:List AV)(s55:List Ob)(b55:Bool):St :=
  stOf 59 [6,8,17,18,19,20,21,22,23,24,30,31,32,33,34,35,36,37,38,39,40,41,57] [(0,AV.agg (gQ x0)),(1,AV.ref 0 0),(2,AV.mnil),(3,bo false),(4,AV.map 1),(10,AV.eaddr [st a,sQ b]),(11,AV.map 1),(12,AV.ref 0 0),(13,sQ x0.sorts),(14,i6 (↑x0.sorts.length:Int)),(15,i6 (↑i0:Int)),(16,bo false),(25,AV.ref 0 1),(26,cQ x0.consts),(27,i6 (↑x0.consts.length:Int)),(28,i6 (↑i1:Int)),(29,bo false),(42,AV.ref 0 2),(43,pQ x0.preds),(44,i6 (↑x0.preds.length:Int)),(45,i6 (↑i2:Int)),(46,bo true),(47,AV.eaddr (st a::sQ b::r47)),(48,AV.agg [st a,sQ b]),(49,AV.map 1),(50,AV.eaddr [st a,sQ b]),(51,st a),(52,AV.eaddr [sQ b]),(53,sQ b),(54,AV.agg [st (ByteArray.mk #[112,114,101,100,105,99,97,116,101]),sQ b]),(55,bo b55),(56,bo true)] s55
theorem f32_r2_tt (x0:Sgn)(z2:Nat→List (AV × AV))(X:Ext)(call:Caller)(lf i0 i1 i2:Nat)(a:ByteArray)(d:List ByteArray)(r47:List AV)(s55:List Ob)(b55:Bool)
 (h0:decide ((↑i2:Int)<(↑x0.preds.length:Int))=true)
 (h1:kiq 24 [Ob.cells (gQ x0),Ob.mapo (z2 i2)] (pQ x0.preds) (i6 (↑i2:Int)) (st a::sQ d::r47))
 (h2:callv X call false 57 [AV.map 1,st a,AV.agg [st (ByteArray.mk #[112,114,101,100,105,99,97,116,101]),sQ d]] [Ob.cells (gQ x0),Ob.mapo (z2 i2)] 0=some (bo b55,s55))
 (h3:(!b55)=true):vexec Tryd.prog X call lf 0 fg32 (loopN Tryd.f32 2) (f32_F2 x0 z2 i0 i1 i2)=some (Ex.ret,(f32_S7 x0 i0 i1 i2 a d r47 s55 b55)) :=
  around_sound (ans:=[(1,Ans.b true),(4,Ans.v (AV.eaddr (st a::sQ d::r47))),(13,Ans.c (bo b55) s55),(14,Ans.b true)]) (by kernel_rfl) (ai h0 (ai h1 (ai h2 (ai h3 trivial))))
theorem f32_plflfltt (x0:Sgn)(z0 z1:Nat→List (AV × AV))(X:Ext)(call:Caller)(lf i0 i1 i2:Nat)(a:ByteArray)(b:List ByteArray)(r47:List AV)(s55:List Ob)(b55:Bool)
 (h0:vexec Tryd.prog X call lf 0 fg32 (Code.loop (loopN Tryd.f32 0)) (f32_S0 x0)=some (Ex.exit 0,(f32_S2 x0 z0 i0)))
 (h1:vexec Tryd.prog X call lf 0 fg32 (Code.loop (loopN Tryd.f32 1)) (f32_S3 x0 z0 i0)=some (Ex.exit 2,(f32_S5 x0 z1 i0 i1)))
 (h2:vexec Tryd.prog X call lf 0 fg32 (Code.loop (loopN Tryd.f32 2)) (f32_S6 x0 z1 i0 i1)=some (Ex.ret,(f32_S7 x0 i0 i1 i2 a b r47 s55 b55))):vbody Tryd.prog X call lf fg32 Tryd.f32 (codeOf Tryd.f32) [AV.agg (sgnC x0)] [] 0=some (AV.tup [AV.mnil,bo false],s55) :=
  along_sound (ans:=[(12,Ans.l (Ex.exit 0) (f32_S2 x0 z0 i0)),(18,Ans.l (Ex.exit 2) (f32_S5 x0 z1 i0 i1)),(24,Ans.l Ex.ret (f32_S7 x0 i0 i1 i2 a b r47 s55 b55))]) (by kernel_rfl) (ai h0 (ai h1 (ai h2 trivial)))
theorem f32_s2_tf (x0:Sgn)(z2:Nat→List (AV × AV))(X:Ext)(call:Caller)(lf i0 i1 i2:Nat)(a:ByteArray)(d:List ByteArray)(r47:List AV)(s55:List Ob)(b55:Bool)
 (h0:decide ((↑i2:Int)<(↑x0.preds.length:Int))=true)
 (h1:kiq 24 [Ob.cells (gQ x0),Ob.mapo (z2 i2)] (pQ x0.preds) (i6 (↑i2:Int)) (st a::sQ d::r47))
 (h2:callv X call false 57 [AV.map 1,st a,AV.agg [st (ByteArray.mk #[112,114,101,100,105,99,97,116,101]),sQ d]] [Ob.cells (gQ x0),Ob.mapo (z2 i2)] 0=some (bo b55,s55))
 (h3:(!b55)=false)
 (e0:(↑(i2 + 1):Int)=w6 ((↑i2:Int) + 1))
 (e1:[Ob.cells (gQ x0),Ob.mapo (z2 (i2 + 1))]=s55):∃ Sx,vexec Tryd.prog X call lf 0 fg32 (loopN Tryd.f32 2) (f32_F2 x0 z2 i0 i1 i2)=some (Ex.normal,Sx)∧forget f32_D2 Sx=(f32_F2 x0 z2 i0 i1 (i2 + 1)) :=
  ⟨stOf 59 [2,3,6,8,17,18,19,20,21,22,23,24,30,31,32,33,34,35,36,37,38,39,40,41] [(0,AV.agg (gQ x0)),(1,AV.ref 0 0),(4,AV.map 1),(10,AV.eaddr [st a,sQ d]),(11,AV.map 1),(12,AV.ref 0 0),(13,sQ x0.sorts),(14,i6 (↑x0.sorts.length:Int)),(15,i6 (↑i0:Int)),(16,bo false),(25,AV.ref 0 1),(26,cQ x0.consts),(27,i6 (↑x0.consts.length:Int)),(28,i6 (↑i1:Int)),(29,bo false),(42,AV.ref 0 2),(43,pQ x0.preds),(44,i6 (↑x0.preds.length:Int)),(45,i6 (w6 ((↑i2:Int) + 1))),(46,bo true),(47,AV.eaddr (st a::sQ d::r47)),(48,AV.agg [st a,sQ d]),(49,AV.map 1),(50,AV.eaddr [st a,sQ d]),(51,st a),(52,AV.eaddr [sQ d]),(53,sQ d),(54,AV.agg [st (ByteArray.mk #[112,114,101,100,105,99,97,116,101]),sQ d]),(55,bo b55),(56,bo false),(57,i6 (w6 ((↑i2:Int) + 1)))] s55,around_sound (ans:=[(1,Ans.b true),(4,Ans.v (AV.eaddr (st a::sQ d::r47))),(13,Ans.c (bo b55) s55),(14,Ans.b false)]) (by kernel_rfl) (ai h0 (ai h1 (ai h2 (ai h3 trivial)))),by unfold f32_F2; rw [e0,e1]; show _=_; kernel_rfl⟩
def f32_S8 (x0:Sgn)(z2:Nat→List (AV × AV))(i0 i1 i2:Nat):St :=
  stOf 59 [2,3,6,8,10,17,18,19,20,21,22,23,24,30,31,32,33,34,35,36,37,38,39,40,41,47,48,49,50,51,52,53,54,55,56,57] [(0,AV.agg (gQ x0)),(1,AV.ref 0 0),(4,AV.map 1),(11,AV.map 1),(12,AV.ref 0 0),(13,sQ x0.sorts),(14,i6 (↑x0.sorts.length:Int)),(15,i6 (↑i0:Int)),(16,bo false),(25,AV.ref 0 1),(26,cQ x0.consts),(27,i6 (↑x0.consts.length:Int)),(28,i6 (↑i1:Int)),(29,bo false),(42,AV.ref 0 2),(43,pQ x0.preds),(44,i6 (↑x0.preds.length:Int)),(45,i6 (↑i2:Int)),(46,bo false)] [Ob.cells (gQ x0),Ob.mapo (z2 i2)]
theorem f32_r2_f (x0:Sgn)(z2:Nat→List (AV × AV))(X:Ext)(call:Caller)(lf i0 i1 i2:Nat)
 (h0:decide ((↑i2:Int)<(↑x0.preds.length:Int))=false):vexec Tryd.prog X call lf 0 fg32 (loopN Tryd.f32 2) (f32_F2 x0 z2 i0 i1 i2)=some (Ex.exit 4,(f32_S8 x0 z2 i0 i1 i2)) :=
  around_sound (ans:=[(1,Ans.b false)]) (by kernel_rfl) (ai h0 trivial)
theorem f32_plflflf (x0:Sgn)(z0 z1 z2:Nat→List (AV × AV))(X:Ext)(call:Caller)(lf i0 i1 i2:Nat)
 (h0:vexec Tryd.prog X call lf 0 fg32 (Code.loop (loopN Tryd.f32 0)) (f32_S0 x0)=some (Ex.exit 0,(f32_S2 x0 z0 i0)))
 (h1:vexec Tryd.prog X call lf 0 fg32 (Code.loop (loopN Tryd.f32 1)) (f32_S3 x0 z0 i0)=some (Ex.exit 2,(f32_S5 x0 z1 i0 i1)))
 (h2:vexec Tryd.prog X call lf 0 fg32 (Code.loop (loopN Tryd.f32 2)) (f32_S6 x0 z1 i0 i1)=some (Ex.exit 4,(f32_S8 x0 z2 i0 i1 i2))):vbody Tryd.prog X call lf fg32 Tryd.f32 (codeOf Tryd.f32) [AV.agg (sgnC x0)] [] 0=some (AV.tup [AV.map 1,bo true],[Ob.cells (gQ x0),Ob.mapo (z2 i2)]) :=
  along_sound (ans:=[(12,Ans.l (Ex.exit 0) (f32_S2 x0 z0 i0)),(18,Ans.l (Ex.exit 2) (f32_S5 x0 z1 i0 i1)),(24,Ans.l (Ex.exit 4) (f32_S8 x0 z2 i0 i1 i2))]) (by kernel_rfl) (ai h0 (ai h1 (ai h2 trivial)))
def f32_o0 (x0:Sgn)(i0:Nat)(b22:Bool):Nat :=
  (match decide ((↑i0:Int)<(↑x0.sorts.length:Int)) with
  | true=>(match (!b22) with
    | true=>1
    | false=>0)
  | false=>2)
theorem f32_B0 (x0:Sgn)(z0:Nat→List (AV × AV))(X:Ext)(call:Caller)(lf i0:Nat)(a:ByteArray)(r17:List AV)(s22:List Ob)(b22:Bool)
 (g0:decide ((↑i0:Int)<(↑x0.sorts.length:Int))=true→kiq 22 [Ob.cells (gQ x0),Ob.mapo (z0 i0)] (sQ x0.sorts) (i6 (↑i0:Int)) (st a::r17))
 (g1:decide ((↑i0:Int)<(↑x0.sorts.length:Int))=true→callv X call false 57 [AV.map 1,st a,AV.agg [st (ByteArray.mk #[115,111,114,116]),AV.list LK.nil 0 0 []]] [Ob.cells (gQ x0),Ob.mapo (z0 i0)] 0=some (bo b22,s22))
 (e0:decide ((↑i0:Int)<(↑x0.sorts.length:Int))=true→(↑(i0 + 1):Int)=w6 ((↑i0:Int) + 1))
 (e1:decide ((↑i0:Int)<(↑x0.sorts.length:Int))=true→[Ob.cells (gQ x0),Ob.mapo (z0 (i0 + 1))]=s22) :
    (f32_o0 x0 i0 b22=0→∃ Sx,vexec Tryd.prog X call lf 0 fg32 (loopN Tryd.f32 0) (f32_F0 x0 z0 i0)=some (Ex.normal,Sx)∧forget f32_D0 Sx=(f32_F0 x0 z0 (i0 + 1)))∧(f32_o0 x0 i0 b22=1→vexec Tryd.prog X call lf 0 fg32 (loopN Tryd.f32 0) (f32_F0 x0 z0 i0)=some (Ex.ret,(f32_S1 x0 i0 a r17 s22 b22)))∧(f32_o0 x0 i0 b22=2→vexec Tryd.prog X call lf 0 fg32 (loopN Tryd.f32 0) (f32_F0 x0 z0 i0)=some (Ex.exit 0,(f32_S2 x0 z0 i0))):=by
  unfold f32_o0
  cases c0:decide ((↑i0:Int)<(↑x0.sorts.length:Int)) with
  | true =>
    cases c1:(!b22) with
    | true =>
      exact ⟨fun h=>nq h,fun _=>f32_r0_tt x0 z0 X call lf i0 a r17 s22 b22 c0 (g0 c0) (g1 c0) c1,fun h=>nq h⟩
    | false =>
      exact ⟨fun _=>f32_s0_tf x0 z0 X call lf i0 a r17 s22 b22 c0 (g0 c0) (g1 c0) c1 (e0 c0) (e1 c0),fun h=>nq h,fun h=>nq h⟩
  | false =>
    exact ⟨fun h=>nq h,fun h=>nq h,fun _=>f32_r0_f x0 z0 X call lf i0 c0⟩
def f32_o1 (x0:Sgn)(i1:Nat)(b39:Bool):Nat :=
  (match decide ((↑i1:Int)<(↑x0.consts.length:Int)) with
  | true=>(match (!b39) with
    | true=>1
    | false=>0)
  | false=>2)
theorem f32_B1 (x0:Sgn)(z1:Nat→List (AV × AV))(X:Ext)(call:Caller)(lf i0 i1:Nat)(a b:ByteArray)(r30:List AV)(s39:List Ob)(b39:Bool)
 (g0:decide ((↑i1:Int)<(↑x0.consts.length:Int))=true→kiq 23 [Ob.cells (gQ x0),Ob.mapo (z1 i1)] (cQ x0.consts) (i6 (↑i1:Int)) (st a::st b::r30))
 (g1:decide ((↑i1:Int)<(↑x0.consts.length:Int))=true→callv X call false 57 [AV.map 1,st a,AV.agg [st (ByteArray.mk #[99,111,110,115,116,97,110,116]),AV.list LK.clip 1 1 [st b]]] [Ob.cells (gQ x0),Ob.mapo (z1 i1)] 0=some (bo b39,s39))
 (e0:decide ((↑i1:Int)<(↑x0.consts.length:Int))=true→(↑(i1 + 1):Int)=w6 ((↑i1:Int) + 1))
 (e1:decide ((↑i1:Int)<(↑x0.consts.length:Int))=true→[Ob.cells (gQ x0),Ob.mapo (z1 (i1 + 1))]=s39) :
    (f32_o1 x0 i1 b39=0→∃ Sx,vexec Tryd.prog X call lf 0 fg32 (loopN Tryd.f32 1) (f32_F1 x0 z1 i0 i1)=some (Ex.normal,Sx)∧forget f32_D1 Sx=(f32_F1 x0 z1 i0 (i1 + 1)))∧(f32_o1 x0 i1 b39=1→vexec Tryd.prog X call lf 0 fg32 (loopN Tryd.f32 1) (f32_F1 x0 z1 i0 i1)=some (Ex.ret,(f32_S4 x0 i0 i1 a b r30 s39 b39)))∧(f32_o1 x0 i1 b39=2→vexec Tryd.prog X call lf 0 fg32 (loopN Tryd.f32 1) (f32_F1 x0 z1 i0 i1)=some (Ex.exit 2,(f32_S5 x0 z1 i0 i1))):=by
  unfold f32_o1
  cases c0:decide ((↑i1:Int)<(↑x0.consts.length:Int)) with
  | true =>
    cases c1:(!b39) with
    | true =>
      exact ⟨fun h=>nq h,fun _=>f32_r1_tt x0 z1 X call lf i0 i1 a b r30 s39 b39 c0 (g0 c0) (g1 c0) c1,fun h=>nq h⟩
    | false =>
      exact ⟨fun _=>f32_s1_tf x0 z1 X call lf i0 i1 a b r30 s39 b39 c0 (g0 c0) (g1 c0) c1 (e0 c0) (e1 c0),fun h=>nq h,fun h=>nq h⟩
  | false =>
    exact ⟨fun h=>nq h,fun h=>nq h,fun _=>f32_r1_f x0 z1 X call lf i0 i1 c0⟩
def f32_o2 (x0:Sgn)(i2:Nat)(b55:Bool):Nat :=
  (match decide ((↑i2:Int)<(↑x0.preds.length:Int)) with
  | true=>(match (!b55) with
    | true=>1
    | false=>0)
  | false=>2)
theorem f32_B2 (x0:Sgn)(z2:Nat→List (AV × AV))(X:Ext)(call:Caller)(lf i0 i1 i2:Nat)(a:ByteArray)(b:List ByteArray)(r47:List AV)(s55:List Ob)(b55:Bool)
 (g0:decide ((↑i2:Int)<(↑x0.preds.length:Int))=true→kiq 24 [Ob.cells (gQ x0),Ob.mapo (z2 i2)] (pQ x0.preds) (i6 (↑i2:Int)) (st a::sQ b::r47))
 (g1:decide ((↑i2:Int)<(↑x0.preds.length:Int))=true→callv X call false 57 [AV.map 1,st a,AV.agg [st (ByteArray.mk #[112,114,101,100,105,99,97,116,101]),sQ b]] [Ob.cells (gQ x0),Ob.mapo (z2 i2)] 0=some (bo b55,s55))
 (e0:decide ((↑i2:Int)<(↑x0.preds.length:Int))=true→(↑(i2 + 1):Int)=w6 ((↑i2:Int) + 1))
 (e1:decide ((↑i2:Int)<(↑x0.preds.length:Int))=true→[Ob.cells (gQ x0),Ob.mapo (z2 (i2 + 1))]=s55) :
    (f32_o2 x0 i2 b55=0→∃ Sx,vexec Tryd.prog X call lf 0 fg32 (loopN Tryd.f32 2) (f32_F2 x0 z2 i0 i1 i2)=some (Ex.normal,Sx)∧forget f32_D2 Sx=(f32_F2 x0 z2 i0 i1 (i2 + 1)))∧(f32_o2 x0 i2 b55=1→vexec Tryd.prog X call lf 0 fg32 (loopN Tryd.f32 2) (f32_F2 x0 z2 i0 i1 i2)=some (Ex.ret,(f32_S7 x0 i0 i1 i2 a b r47 s55 b55)))∧(f32_o2 x0 i2 b55=2→vexec Tryd.prog X call lf 0 fg32 (loopN Tryd.f32 2) (f32_F2 x0 z2 i0 i1 i2)=some (Ex.exit 4,(f32_S8 x0 z2 i0 i1 i2))):=by
  unfold f32_o2
  cases c0:decide ((↑i2:Int)<(↑x0.preds.length:Int)) with
  | true =>
    cases c1:(!b55) with
    | true =>
      exact ⟨fun h=>nq h,fun _=>f32_r2_tt x0 z2 X call lf i0 i1 i2 a b r47 s55 b55 c0 (g0 c0) (g1 c0) c1,fun h=>nq h⟩
    | false =>
      exact ⟨fun _=>f32_s2_tf x0 z2 X call lf i0 i1 i2 a b r47 s55 b55 c0 (g0 c0) (g1 c0) c1 (e0 c0) (e1 c0),fun h=>nq h,fun h=>nq h⟩
  | false =>
    exact ⟨fun h=>nq h,fun h=>nq h,fun _=>f32_r2_f x0 z2 X call lf i0 i1 i2 c0⟩
theorem f14_pt (x0:Sgn)(v7:AV)(b7:Bool)(s7:List Ob)(X:Ext)(call:Caller)(lf:Nat)
 (h0:callv X call false 32 [AV.agg (gQ x0)] [Ob.cells (gQ x0)] 0=some (AV.tup [v7,bo b7],s7))
 (h1:b7=true):vbody Tryd.prog X call lf noFg Tryd.f14 (codeOf Tryd.f14) [AV.agg (sgnC x0)] [] 0=some (bo true,s7) :=
  along_sound (ans:=[(5,Ans.c (AV.tup [v7,bo b7]) s7),(8,Ans.b true)]) (by kernel_rfl) (ai h0 (ai h1 trivial))
theorem f14_pf (x0:Sgn)(v7:AV)(b7:Bool)(s7:List Ob)(X:Ext)(call:Caller)(lf:Nat)
 (h0:callv X call false 32 [AV.agg (gQ x0)] [Ob.cells (gQ x0)] 0=some (AV.tup [v7,bo b7],s7))
 (h1:b7=false):vbody Tryd.prog X call lf noFg Tryd.f14 (codeOf Tryd.f14) [AV.agg (sgnC x0)] [] 0=some (bo false,s7) :=
  along_sound (ans:=[(5,Ans.c (AV.tup [v7,bo b7]) s7),(8,Ans.b false)]) (by kernel_rfl) (ai h0 (ai h1 trivial))
def f14_q0 (b7:Bool):Nat :=
  (match b7 with
  | true=>0
  | false=>1)
theorem f14_P0 (x0:Sgn)(v7:AV)(b7:Bool)(s7:List Ob)(X:Ext)(call:Caller)(lf:Nat)
 (g0:callv X call false 32 [AV.agg (gQ x0)] [Ob.cells (gQ x0)] 0=some (AV.tup [v7,bo b7],s7)) :
    (f14_q0 b7=0→vbody Tryd.prog X call lf noFg Tryd.f14 (codeOf Tryd.f14) [AV.agg (sgnC x0)] [] 0=some (bo true,s7))∧(f14_q0 b7=1→vbody Tryd.prog X call lf noFg Tryd.f14 (codeOf Tryd.f14) [AV.agg (sgnC x0)] [] 0=some (bo false,s7)):=by
  refine (Bool.eq_false_or_eq_true (b7)).elim (fun c0 => ?_) (fun c0 => ?_)
  ·
    have ho:f14_q0 b7=0:=by
      unfold f14_q0
      simp only [c0]
    exact ⟨fun _=>f14_pt x0 v7 b7 s7 X call lf g0 c0,fun h=>absurd (ho.symm.trans h) (by decide)⟩
  ·
    have ho:f14_q0 b7=1:=by
      unfold f14_q0
      simp only [c0]
    exact ⟨fun h=>absurd (ho.symm.trans h) (by decide),fun _=>f14_pf x0 v7 b7 s7 X call lf g0 c0⟩
end Go.Proofs.Sig
end
/- Signature: the symbols of a signature; Valid. -/
section
open Go Go.Vm Go.Proofs
namespace Go.Proofs.Sig
def sortsD (x:Sgn):Syms:=x.sorts.map fun s=>(s,⟨kSort,[]⟩)
def consD (x:Sgn):Syms:=x.consts.map fun c=>(c.name,⟨kCon,[c.sort]⟩)
def predD (x:Sgn):Syms:=x.preds.map fun p=>(p.name,⟨kPre,p.args⟩)
def declsOf (x:Sgn):Syms:=sortsD x ++ (consD x ++ predD x)
def d0D:ByteArray × Dcl:=(emp,⟨emp,[]⟩)
abbrev nD (l:Syms) (i:Nat):ByteArray × Dcl:=l.getD i d0D
def okAt (l:Syms) (i:Nat):Bool:=declB (l.take i) (nD l i).1 (nD l i).2
/-- All symbols can be declared, one behind the other. -/
def validB (x:Sgn):Bool:=(List.range (declsOf x).length).all (okAt (declsOf x))
/-- Lengths that a machine bears by far. -/
def okG (x:Sgn):Bool:=decide (x.sorts.length ≤ 1000000) && decide (x.consts.length ≤ 1000000) && decide (x.preds.length ≤ 1000000) && (x.sorts.all fun s=>decide (s.size ≤ 1000000)) && (x.consts.all fun c=>decide (c.name.size ≤ 1000000) && decide (c.sort.size ≤ 1000000)) &&
  (x.preds.all fun p=>decide (p.name.size ≤ 1000000) && decide (p.args.length ≤ 1000000) && p.args.all fun a=>decide (a.size ≤ 1000000))
theorem le_big {n:Nat} (h:n ≤ 10000000):n ≤ big:=Nat.le_trans h (by decide)
structure OkG (x:Sgn):Prop where
  ns:x.sorts.length ≤ 1000000
  nc:x.consts.length ≤ 1000000
  np:x.preds.length ≤ 1000000
  s:∀ s ∈ x.sorts,s.size ≤ 1000000
  c:∀ c ∈ x.consts,c.name.size ≤ 1000000∧c.sort.size ≤ 1000000
  p:∀ p ∈ x.preds,p.name.size ≤ 1000000∧p.args.length ≤ 1000000∧∀ a ∈ p.args,a.size ≤ 1000000
theorem okG_iff {x:Sgn}:okG x=true ↔ OkG x:=by
  unfold okG
  simp only [Bool.and_eq_true,decide_eq_true_eq,List.all_eq_true]
  constructor
  · rintro ⟨⟨⟨⟨⟨h1, h2⟩, h3⟩, h4⟩, h5⟩, h6⟩
    exact ⟨h1,h2,h3,h4,h5,fun p hp=>⟨(h6 p hp).1.1,(h6 p hp).1.2,(h6 p hp).2⟩⟩
  · rintro ⟨h1, h2, h3, h4, h5, h6⟩
    exact ⟨⟨⟨⟨⟨h1,h2⟩,h3⟩,h4⟩,h5⟩,fun p hp=>⟨⟨(h6 p hp).1,(h6 p hp).2.1⟩,(h6 p hp).2.2⟩⟩
theorem nD_lt {l:Syms} {i:Nat} (h:i < l.length):nD l i=l[i]:=getD_lt h
theorem decls_len (x:Sgn):(declsOf x).length=x.sorts.length + (x.consts.length + x.preds.length):=by simp [declsOf,sortsD,consD,predD]
theorem nD_sort {x:Sgn} {i:Nat} (h:i < x.sorts.length):nD (declsOf x) i=(nS x.sorts i,⟨kSort,[]⟩):=by
  rw [nD_lt (by rw [decls_len]; omega),nS,getD_lt h]
  simp only [declsOf]
  rw [List.getElem_append_left (by simpa [sortsD] using h)]
  simp [sortsD]
theorem nD_con {x:Sgn} {i:Nat} (h:i < x.consts.length):nD (declsOf x) (x.sorts.length + i)=((nC x.consts i).name,⟨kCon,[(nC x.consts i).sort]⟩):=by
  rw [nD_lt (by rw [decls_len]; omega),nC,getD_lt h]
  simp only [declsOf]
  rw [List.getElem_append_right (by simp [sortsD])]
  have e:x.sorts.length + i - (sortsD x).length=i:=by simp [sortsD]
  simp only [e]
  rw [List.getElem_append_left (by simpa [consD] using h)]
  simp [consD]
theorem nD_pre {x:Sgn} {i:Nat} (h:i < x.preds.length):nD (declsOf x) (x.sorts.length + x.consts.length + i)=((nP x.preds i).name,⟨kPre,(nP x.preds i).args⟩):=by
  rw [nD_lt (by rw [decls_len]; omega),nP,getD_lt h]
  simp only [declsOf]
  rw [List.getElem_append_right (by simp [sortsD]; omega)]
  have e:x.sorts.length + x.consts.length + i - (sortsD x).length=x.consts.length + i:=by simp [sortsD]; omega
  simp only [e]
  rw [List.getElem_append_right (by simp [consD])]
  have e:x.consts.length + i - (consD x).length=i:=by simp [consD]
  simp only [e]
  simp [predD]
theorem take_ok1 {l:Syms} {i:Nat} (h:i < l.length) (hk:okAt l i=true):declM (l.take i) (nD l i).1 (nD l i).2=l.take (i + 1):=by
  unfold declM
  unfold okAt at hk
  rw [if_pos hk,List.take_succ_eq_append_getElem h,nD_lt h]
abbrev stX (x:Sgn) (m:Syms):List Ob:=[Ob.cells (sgnC x),Ob.mapo (mapE m)]
variable [Fixed]
theorem dec_sort:aD.dec (.agg [st kSort,.list .nil 0 0 []])=some ⟨kSort,[]⟩:=by kernel_rfl
theorem dec_con (s:ByteArray):aD.dec (.agg [st kCon,.list .clip 1 1 [st s]])=some ⟨kCon,[s]⟩:=by kernel_rfl
theorem dec_pre (l:List ByteArray):aD.dec (.agg [st kPre,strsV l])=some ⟨kPre,l⟩:=by
  have:=aD.de ⟨kPre,l⟩
  rwa [aD_enc] at this
section
variable {X:Ext} {call:Caller} {lf:Nat} {x:Sgn}
/-- What is asked of the call of declare. -/
def H57 (X:Ext) (call:Caller):Prop:=∀ (σ:List Ob) (id:Nat) (m:Syms) (s:ByteArray) (v:AV) (d:Dcl),aD.dec v=some d→AV.owns v=[]→σ[id]? = some (.mapo (mapE m))→m.length ≤ 10000000→s.size ≤ 10000000→d.sorts.length ≤ 10000000 →
  callv X call false 57 [.map id,st s,v] σ 0=some (bo (declB m s d),setOb σ id (.mapo (mapE (declM m s d))))
theorem symbols32 (hk:okG x=true) (h57:H57 X call) (hlf:1000000 < lf) :
    (validB x=true→vbody Tryd.prog X call lf fg32 Tryd.f32 (codeOf Tryd.f32) [.agg (sgnC x)] [] 0=some (.tup [.map 1,bo true],stX x (declsOf x))) ∧
    (validB x=false→∃ σ',vbody Tryd.prog X call lf fg32 Tryd.f32 (codeOf Tryd.f32) [.agg (sgnC x)] [] 0=some (.tup [.mnil,bo false],σ')):=by
  obtain ⟨hns,hnc,hnp,hss,hcc,hpp⟩:=okG_iff.1 hk
  have hDl:=decls_len x
  generalize hD:declsOf x=D at hDl
  have hb57 : ∀ i s v d, aD.dec v = some d → AV.owns v = [] → s.size ≤ 10000000 → d.sorts.length ≤ 10000000 → callv X call false 57 [.map 1, st s, v] (stX x (D.take i)) 0 = some (bo (declB (D.take i) s d), stX x (declM (D.take i) s d)) := by
    intro i s v d h1 h2 h3 h4
    exact h57 (stX x (D.take i)) 1 (D.take i) s v d h1 h2 rfl (by rw [List.length_take]; omega) h3 h4
  -- a round of each loop
  have hs1 : ∀ i, i < x.sorts.length → (nS x.sorts i).size ≤ 10000000 := fun i h => by
    rw [nS,getD_lt h]
    have:=hss _ (List.getElem_mem h); omega
  have hs2 : ∀ i, i < x.consts.length → (nC x.consts i).name.size ≤ 10000000 := fun i h => by
    rw [nC,getD_lt h]
    have:=(hcc _ (List.getElem_mem h)).1; omega
  have hs3 : ∀ i, i < x.preds.length → (nP x.preds i).name.size ≤ 10000000 ∧ (nP x.preds i).args.length ≤ 10000000 := fun i h => by
    rw [nP,getD_lt h]
    have:=hpp _ (List.getElem_mem h)
    omega
  have c1 : ∀ i, i < x.sorts.length → callv X call false 57 [.map 1, st (nS x.sorts i), .agg [st kSort, .list .nil 0 0 []]] (stX x (D.take i)) 0 = some (bo (okAt D i), stX x (declM (D.take i) (nD D i).1 (nD D i).2)) := by
    intro i h
    have e:=nD_sort h
    rw [hD] at e
    rw [hb57 i (nS x.sorts i) _ _ dec_sort rfl (hs1 i h) (Nat.zero_le _)]
    unfold okAt
    rw [e]
  have c2 : ∀ i, i < x.consts.length → callv X call false 57 [.map 1, st (nC x.consts i).name, .agg [st kCon, .list .clip 1 1 [st (nC x.consts i).sort]]] (stX x (D.take (x.sorts.length + i))) 0 = some (bo (okAt D (x.sorts.length + i)), stX x (declM (D.take (x.sorts.length + i)) (nD D (x.sorts.length + i)).1 (nD D (x.sorts.length + i)).2)) := by
    intro i h
    have e:=nD_con h
    rw [hD] at e
    rw [hb57 (x.sorts.length + i) _ _ _ (dec_con _) rfl (hs2 i h) (by simp)]
    unfold okAt
    rw [e]
  have c3 : ∀ i, i < x.preds.length → callv X call false 57 [.map 1, st (nP x.preds i).name, .agg [st kPre, strsV (nP x.preds i).args]] (stX x (D.take (x.sorts.length + x.consts.length + i))) 0 = some (bo (okAt D (x.sorts.length + x.consts.length + i)), stX x (declM (D.take (x.sorts.length + x.consts.length + i)) (nD D (x.sorts.length + x.consts.length + i)).1 (nD D (x.sorts.length + x.consts.length + i)).2)) := by
    intro i h
    have e:=nD_pre h
    rw [hD] at e
    rw [hb57 (x.sorts.length + x.consts.length + i) _ _ _ (dec_pre _) (by simp [AV.owns,AV.ownsAll,strsV,owns_strs]) (hs3 i h).1 (hs3 i h).2]
    unfold okAt
    rw [e]
  let z0:Nat→List (AV × AV):=fun i=>mapE (D.take i)
  let z1:Nat→List (AV × AV):=fun i=>mapE (D.take (x.sorts.length + i))
  let z2:Nat→List (AV × AV):=fun i=>mapE (D.take (x.sorts.length + x.consts.length + i))
  have o0 : ∀ i b, (i < x.sorts.length → b = true → f32_o0 x i b = 0) ∧ (i = x.sorts.length → f32_o0 x i b = 2) := by
    intro i b
    unfold f32_o0
    refine ⟨fun h1 h2 => ?_,fun h1 => ?_⟩
    · rw [decide_eq_true (by omega),h2]; rfl
    · rw [decide_eq_false (by omega)]
  have o1 : ∀ i b, (i < x.consts.length → b = true → f32_o1 x i b = 0) ∧ (i = x.consts.length → f32_o1 x i b = 2) := by
    intro i b
    unfold f32_o1
    refine ⟨fun h1 h2 => ?_,fun h1 => ?_⟩
    · rw [decide_eq_true (by omega),h2]; rfl
    · rw [decide_eq_false (by omega)]
  have o2 : ∀ i b, (i < x.preds.length → b = true → f32_o2 x i b = 0) ∧ (i = x.preds.length → f32_o2 x i b = 2) := by
    intro i b
    unfold f32_o2
    refine ⟨fun h1 h2 => ?_,fun h1 => ?_⟩
    · rw [decide_eq_true (by omega),h2]; rfl
    · rw [decide_eq_false (by omega)]
  have B0 : ∀ i, i ≤ x.sorts.length → (i < x.sorts.length → okAt D i = true) → _ := fun i hi hok => f32_B0 x z0 X call lf i (nS x.sorts i) (tS x.sorts i) (stX x (declM (D.take i) (nD D i).1 (nD D i).2)) (okAt D i)
    (fun h=>at_strs (by simpa using h)) (fun h=>c1 i (by simpa using h)) (fun h=>up (n:=x.sorts.length) (by simpa using h) (le_big (by omega)))
    (fun h => by
      have h' : i < x.sorts.length:=by simpa using h
      rw [take_ok1 (by omega) (hok h')]; rfl)
  have B1 : ∀ i j, j ≤ x.consts.length → (j < x.consts.length → okAt D (x.sorts.length + j) = true) → _ := fun i j hj hok => f32_B1 x z1 X call lf i j (nC x.consts j).name (nC x.consts j).sort (tC x.consts j) (stX x (declM (D.take (x.sorts.length + j)) (nD D (x.sorts.length + j)).1 (nD D (x.sorts.length + j)).2)) (okAt D (x.sorts.length + j))
    (fun h=>at_cst (by simpa using h)) (fun h=>c2 j (by simpa using h)) (fun h=>up (n:=x.consts.length) (by simpa using h) (le_big (by omega)))
    (fun h => by
      have h' : j < x.consts.length:=by simpa using h
      rw [take_ok1 (by omega) (hok h')]; rfl)
  have B2 : ∀ i j k, k ≤ x.preds.length → (k < x.preds.length → okAt D (x.sorts.length + x.consts.length + k) = true) → _ := fun i j k hk hok => f32_B2 x z2 X call lf i j k (nP x.preds k).name (nP x.preds k).args (tP x.preds k) (stX x (declM (D.take (x.sorts.length + x.consts.length + k)) (nD D (x.sorts.length + x.consts.length + k)).1 (nD D (x.sorts.length + x.consts.length + k)).2)) (okAt D (x.sorts.length + x.consts.length + k))
    (fun h=>at_prd (by simpa using h)) (fun h=>c3 k (by simpa using h)) (fun h=>up (n:=x.preds.length) (by simpa using h) (le_big (by omega)))
    (fun h => by
      have h' : k < x.preds.length:=by simpa using h
      rw [take_ok1 (by omega) (hok h')]; rfl)
  have L0:(∀ i,i < x.sorts.length→okAt D i=true)→_:=fun hall=>f32_L0 x z0 X call lf x.sorts.length _ _ (by show _=_; rfl) (by omega) (fun j hj=>(B0 j (by omega) (hall j)).1 ((o0 j _).1 hj (hall j hj))) ((B0 x.sorts.length (Nat.le_refl _) (fun h=>absurd h (by omega))).2.2 ((o0 _ _).2 rfl)) (by simp)
  have L1:∀ i0,z0 i0=z1 0→(∀ i,i < x.consts.length→okAt D (x.sorts.length + i)=true)→_:=fun i0 he hall=>f32_L1 x z0 z1 i0 X call lf x.consts.length _ _ (by rw [he]) (by omega) (fun j hj=>(B1 i0 j (by omega) (hall j)).1 ((o1 j _).1 hj (hall j hj))) ((B1 i0 x.consts.length (Nat.le_refl _) (fun h=>absurd h (by omega))).2.2 ((o1 _ _).2 rfl)) (by simp)
  have L2:∀ i0 i1,z1 i1=z2 0→(∀ i,i < x.preds.length→okAt D (x.sorts.length + x.consts.length + i)=true)→_:=fun i0 i1 he hall=>f32_L2 x z1 z2 i0 i1 X call lf x.preds.length _ _ (by rw [he]) (by omega) (fun j hj=>(B2 i0 i1 j (by omega) (hall j)).1 ((o2 j _).1 hj (hall j hj))) ((B2 i0 i1 x.preds.length (Nat.le_refl _) (fun h=>absurd h (by omega))).2.2 ((o2 _ _).2 rfl)) (by simp)
  have e01:z0 x.sorts.length=z1 0:=by simp [z0,z1]
  have e12:z1 x.consts.length=z2 0:=by simp [z1,z2]
  have hall_of : ∀ _ : Nat, validB x = true → ∀ i, i < D.length → okAt D i = true := by
    intro _ h i hi
    unfold validB at h
    rw [hD,List.all_eq_true] at h
    exact h i (List.mem_range.2 hi)
  constructor
  · intro hv
    have hall:=hall_of 0 hv
    have l0:=L0 fun i hi=>hall i (by omega)
    have l1:=L1 x.sorts.length e01 fun i hi=>hall _ (by omega)
    have l2:=L2 x.sorts.length x.consts.length e12 fun i hi=>hall _ (by omega)
    have:=f32_plflflf x z0 z1 z2 X call lf x.sorts.length x.consts.length x.preds.length l0 l1 l2
    have e : z2 x.preds.length = mapE D := by
      show mapE (D.take _)=_
      rw [List.take_of_length_le (by omega)]
    rw [e] at this
    exact this
  · intro hv
    have : ∃ k, k < D.length ∧ ¬ okAt D k = true ∧ ∀ i, i < k → okAt D i = true := by
      rcases first_fail (p:=fun i=>okAt D i=true) D.length with h | h
      · exfalso
        unfold validB at hv
        rw [hD] at hv
        rw [List.all_eq_true.2 fun i hi=>h i (List.mem_range.1 hi)] at hv
        cases hv
      · exact h
    obtain ⟨k,hk,hbad,hbef⟩:=this
    have hbad:okAt D k=false:=by simpa using hbad
    rcases Nat.lt_or_ge k x.sorts.length with h1 | h1
    · have r := f32_r0_tt x z0 X call lf k (nS x.sorts k) (tS x.sorts k) _ (okAt D k) (decide_eq_true (by omega)) (at_strs h1) (c1 k h1) (by rw [hbad]; rfl)
      have l0:=f32_L0 x z0 X call lf k _ _ (by show _=_; rfl) (by omega) (fun j hj=>(B0 j (by omega) (fun _=>hbef j hj)).1 ((o0 j _).1 (by omega) (hbef j hj))) r (by simp)
      exact ⟨_,f32_pltt x X call lf k _ _ _ _ l0⟩
    · have l0 := L0 fun i hi => hbef i (by omega)
      rcases Nat.lt_or_ge k (x.sorts.length + x.consts.length) with h2 | h2
      · obtain ⟨j, rfl⟩ : ∃ j, k = x.sorts.length + j := ⟨k - x.sorts.length, by omega⟩
        have hj:j < x.consts.length:=by omega
        have r:=f32_r1_tt x z1 X call lf x.sorts.length j (nC x.consts j).name (nC x.consts j).sort (tC x.consts j) _ (okAt D (x.sorts.length + j)) (decide_eq_true (by omega)) (at_cst hj) (c2 j hj) (by rw [hbad]; rfl)
        have l1:=f32_L1 x z0 z1 x.sorts.length X call lf j _ _ (by rw [e01]) (by omega) (fun i hi=>(B1 _ i (by omega) (fun _=>hbef _ (by omega))).1 ((o1 i _).1 (by omega) (hbef _ (by omega)))) r (by simp)
        exact ⟨_,f32_plfltt x z0 X call lf x.sorts.length j _ _ _ _ _ l0 l1⟩
      · have l1 := L1 x.sorts.length e01 fun i hi => hbef _ (by omega)
        obtain ⟨j,rfl⟩:∃ j,k=x.sorts.length + x.consts.length + j:=⟨k - x.sorts.length - x.consts.length,by omega⟩
        have hj:j < x.preds.length:=by omega
        have r:=f32_r2_tt x z2 X call lf x.sorts.length x.consts.length j (nP x.preds j).name (nP x.preds j).args (tP x.preds j) _ (okAt D (x.sorts.length + x.consts.length + j)) (decide_eq_true (by omega)) (at_prd hj) (c3 j hj) (by rw [hbad]; rfl)
        have l2:=f32_L2 x z1 z2 x.sorts.length x.consts.length X call lf j _ _ (by rw [e12]) (by omega) (fun i hi=>(B2 _ _ i (by omega) (fun _=>hbef _ (by omega))).1 ((o2 i _).1 (by omega) (hbef _ (by omega)))) r (by simp)
        exact ⟨_,f32_plflfltt x z0 z1 X call lf x.sorts.length x.consts.length j _ _ _ _ _ l0 l1 l2⟩
end
end Go.Proofs.Sig
end
