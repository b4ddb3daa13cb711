/- Part 6 of the texts of this claim: the evaluator, and what it says of the program's functions. -/
import Derived.Test.YtogacbdboplbfaaGreatDoorValidD
import Derived.Test.YtogacbdboplbfaaGreatDoorValidE
import Derived.WalkKit
import Derived.Lib.Walk
import Derived.Lib.SliceRun
import Derived.Test.YtogacbdboplbfaaGreatDoorValidB
import Derived.Test.YtogacbdboplbfaaGreatDoorValidC
import Derived.KernelRfl
import Derived.Test.YtogacbdboplbfaaGreatDoorTie
import Derived.Test.YtogacbdboplbfaaGreatDoorCards
import Derived.Lib.LaidU8T
import Derived.Lib.LaidIn
import Derived.Lay
import Derived.SevenTiedAt
import Derived.HandedShaped
import Derived.Shelf.Vars
set_option linter.unusedSectionVars false
set_option linter.unusedVariables false
set_option linter.unusedSimpArgs false
set_option linter.constructorNameAsVariable false
/- Lexicon: IndexFunc over strings (printed) -/
section
open Go Go.Vm Go.Proofs
namespace Go.Proofs.Lex
def f109_F0 (L0:List ByteArray) (G1:Nat) (i0:Nat):St :=
  stOf 19 [4,5,9,10,11,12,13,14,15,16,17,18] [(0,lro (List.length L0) 1 (List.map st L0)),(1,AV.clo G1 []),(6,lro (List.length L0) 1 (List.map st L0)),(7,i6 (↑(List.length L0):Int)),(8,i6 (↑i0:Int))] []
def f109_S0 (L0:List ByteArray) (G1:Nat):St :=
  stOf 19 [] [(0,lro (List.length L0) 1 (List.map st L0)),(1,AV.clo G1 []),(4,i6 0),(6,lro (List.length L0) 1 (List.map st L0)),(7,i6 (↑(List.length L0):Int)),(8,i6 0)] []
abbrev f109_D0:List Nat:=[18,4,17,16,15,14,13,12,11,5,10,9]
theorem f109_L0 (L0:List ByteArray) (G1:Nat) (X:Ext) (call:Caller) (lf:Nat) (n:Nat) (x:Ex) (S' : St)
  (hn:n < lf)
  (hs:∀ j,j < n→∃ S1,vexec Tryz.prog X call lf 0 noFg (loopN Tryz.f72 0) (f109_F0 L0 G1 j)=some (Ex.normal,S1)∧forget f109_D0 S1=(f109_F0 L0 G1 (j + 1)))
  (he:vexec Tryz.prog X call lf 0 noFg (loopN Tryz.f72 0) (f109_F0 L0 G1 n)=some (x,S'))
  (hx:x ≠ Ex.normal):vexec Tryz.prog X call lf 0 noFg (Go.Code.loop (loopN Tryz.f72 0)) (f109_S0 L0 G1)=some (x,S') :=
  loop_runK (by kernel_rfl) (fun j=>(f109_F0 L0 G1 j)) n hn (by show forget f109_D0 (f109_S0 L0 G1)=(f109_F0 L0 G1 0); unfold f109_F0; show _=_; kernel_rfl) hs he hx
def f109_S1 (L0:List ByteArray) (G1:Nat) (i0:Nat) (x14_0:ByteArray) (r14:List AV):St :=
  stOf 19 [18] [(0,lro (List.length L0) 1 (List.map st L0)),(1,AV.clo G1 []),(4,i6 (↑i0:Int)),(5,i6 (↑i0:Int)),(6,lro (List.length L0) 1 (List.map st L0)),(7,i6 (↑(List.length L0):Int)),(8,i6 (↑i0:Int)),(9,bo true),(10,i6 (↑i0:Int)),(11,AV.clo G1 []),(12,lro (List.length L0) 1 (List.map st L0)),(13,i6 (↑i0:Int)),(14,AV.eaddr (st x14_0::r14)),(15,st x14_0),(16,bo true),(17,i6 (↑i0:Int))] []
theorem f109_r0_tt (L0:List ByteArray) (G1:Nat) (X:Ext) (call:Caller) (lf:Nat) (i0:Nat) (x14_0:ByteArray) (r14:List AV)
  (h0:decide ((↑i0:Int) < (↑(List.length L0):Int))=true)
  (h1:keep [] (indexAddrv Tryz.prog 39 [] (lro (List.length L0) 1 (List.map st L0)) (i6 (↑i0:Int)))=some (AV.eaddr (st x14_0::r14),[]))
  (h2:callv X call false G1 [st x14_0] [] 0=some (bo true,[])):vexec Tryz.prog X call lf 0 noFg (loopN Tryz.f72 0) (f109_F0 L0 G1 i0)=some (Ex.ret,(f109_S1 L0 G1 i0 x14_0 r14)) :=
  around_sound (ans:=[(1,Ans.b true),(10,Ans.v (AV.eaddr (st x14_0::r14))),(12,Ans.v (bo true))]) (by kernel_rfl) (ai h0 (ai h1 (ai h2 trivial)))
theorem f109_pltt (L0:List ByteArray) (G1:Nat) (X:Ext) (call:Caller) (lf:Nat) (i0:Nat) (x14_0:ByteArray) (r14:List AV)
  (h0:vexec Tryz.prog X call lf 0 noFg (Code.loop (loopN Tryz.f72 0)) (f109_S0 L0 G1)=some (Ex.ret,(f109_S1 L0 G1 i0 x14_0 r14))):vbody Tryz.prog X call lf noFg Tryz.f72 (codeOf Tryz.f72) [strs L0,AV.clo G1 []] [] 0=some (i6 (↑i0:Int),[]) :=
  along_sound (ans:=[(6,Ans.l Ex.ret (f109_S1 L0 G1 i0 x14_0 r14))]) (by kernel_rfl) (ai h0 trivial)
theorem f109_s0_tf (L0:List ByteArray) (G1:Nat) (X:Ext) (call:Caller) (lf:Nat) (i0:Nat) (x14_0:ByteArray) (r14:List AV)
  (h0:decide ((↑i0:Int) < (↑(List.length L0):Int))=true)
  (h1:keep [] (indexAddrv Tryz.prog 39 [] (lro (List.length L0) 1 (List.map st L0)) (i6 (↑i0:Int)))=some (AV.eaddr (st x14_0::r14),[]))
  (h2:callv X call false G1 [st x14_0] [] 0=some (bo false,[]))
  (e0:(↑(i0 + 1):Int)=w6 ((↑i0:Int) + 1)):∃ S1,vexec Tryz.prog X call lf 0 noFg (loopN Tryz.f72 0) (f109_F0 L0 G1 i0)=some (Ex.normal,S1)∧forget f109_D0 S1=(f109_F0 L0 G1 (i0 + 1)) :=
  ⟨stOf 19 [4,17] [(0,lro (List.length L0) 1 (List.map st L0)),(1,AV.clo G1 []),(5,i6 (↑i0:Int)),(6,lro (List.length L0) 1 (List.map st L0)),(7,i6 (↑(List.length L0):Int)),(8,i6 (w6 ((↑i0:Int) + 1))),(9,bo true),(10,i6 (↑i0:Int)),(11,AV.clo G1 []),(12,lro (List.length L0) 1 (List.map st L0)),(13,i6 (↑i0:Int)),(14,AV.eaddr (st x14_0::r14)),(15,st x14_0),(16,bo false),(18,i6 (w6 ((↑i0:Int) + 1)))] [],around_sound (ans:=[(1,Ans.b true),(10,Ans.v (AV.eaddr (st x14_0::r14))),(12,Ans.v (bo false))]) (by kernel_rfl) (ai h0 (ai h1 (ai h2 trivial))),by unfold f109_F0; rw [e0]; show _=_; kernel_rfl⟩
def f109_S2 (L0:List ByteArray) (G1:Nat) (i0:Nat):St :=
  stOf 19 [4,5,10,11,12,13,14,15,16,17,18] [(0,lro (List.length L0) 1 (List.map st L0)),(1,AV.clo G1 []),(6,lro (List.length L0) 1 (List.map st L0)),(7,i6 (↑(List.length L0):Int)),(8,i6 (↑i0:Int)),(9,bo false)] []
theorem f109_r0_f (L0:List ByteArray) (G1:Nat) (X:Ext) (call:Caller) (lf:Nat) (i0:Nat)
  (h0:decide ((↑i0:Int) < (↑(List.length L0):Int))=false):vexec Tryz.prog X call lf 0 noFg (loopN Tryz.f72 0) (f109_F0 L0 G1 i0)=some (Ex.exit 0,(f109_S2 L0 G1 i0)) :=
  around_sound (ans:=[(1,Ans.b false)]) (by kernel_rfl) (ai h0 trivial)
theorem f109_plf (L0:List ByteArray) (G1:Nat) (X:Ext) (call:Caller) (lf:Nat) (i0:Nat)
  (h0:vexec Tryz.prog X call lf 0 noFg (Code.loop (loopN Tryz.f72 0)) (f109_S0 L0 G1)=some (Ex.exit 0,(f109_S2 L0 G1 i0))):vbody Tryz.prog X call lf noFg Tryz.f72 (codeOf Tryz.f72) [strs L0,AV.clo G1 []] [] 0=some (i6 (-1),[]) :=
  along_sound (ans:=[(6,Ans.l (Ex.exit 0) (f109_S2 L0 G1 i0))]) (by kernel_rfl) (ai h0 trivial)
def f109_o0 (L0:List ByteArray) (i0:Nat) (b0:Bool):Nat :=
  (match decide ((↑i0:Int) < (↑(List.length L0):Int)) with
  | true => (match b0 with
    | true=>1
    | false=>0)
  | false=>2)
theorem f109_B0 (L0:List ByteArray) (G1:Nat) (X:Ext) (call:Caller) (lf:Nat) (i0:Nat) (x14_0:ByteArray) (r14:List AV) (b0:Bool)
  (g0:decide ((↑i0:Int) < (↑(List.length L0):Int))=true→keep [] (indexAddrv Tryz.prog 39 [] (lro (List.length L0) 1 (List.map st L0)) (i6 (↑i0:Int)))=some (AV.eaddr (st x14_0::r14),[]))
  (g1:decide ((↑i0:Int) < (↑(List.length L0):Int))=true→callv X call false G1 [st x14_0] [] 0=some (bo b0,[]))
  (e0 : decide ((↑i0 : Int) < (↑(List.length L0) : Int)) = true → (↑(i0 + 1) : Int) = w6 ((↑i0 : Int) + 1)) :
    (f109_o0 L0 i0 b0=0→∃ S1,vexec Tryz.prog X call lf 0 noFg (loopN Tryz.f72 0) (f109_F0 L0 G1 i0)=some (Ex.normal,S1)∧forget f109_D0 S1=(f109_F0 L0 G1 (i0 + 1)))∧(f109_o0 L0 i0 b0=1→vexec Tryz.prog X call lf 0 noFg (loopN Tryz.f72 0) (f109_F0 L0 G1 i0)=some (Ex.ret,(f109_S1 L0 G1 i0 x14_0 r14)))∧(f109_o0 L0 i0 b0=2→vexec Tryz.prog X call lf 0 noFg (loopN Tryz.f72 0) (f109_F0 L0 G1 i0)=some (Ex.exit 0,(f109_S2 L0 G1 i0))):=by
  unfold f109_o0
  cases c0:decide ((↑i0:Int) < (↑(List.length L0):Int)) with
  | true =>
    cases c1:b0 with
    | true =>
      exact ⟨fun h=>nq h,fun _=>f109_r0_tt L0 G1 X call lf i0 x14_0 r14 c0 (g0 c0) (by have:=(g1 c0); rw [c1] at this; exact this),fun h=>nq h⟩
    | false =>
      exact ⟨fun _=>f109_s0_tf L0 G1 X call lf i0 x14_0 r14 c0 (g0 c0) (by have:=(g1 c0); rw [c1] at this; exact this) (e0 c0),fun h=>nq h,fun h=>nq h⟩
  | false =>
    exact ⟨fun h=>nq h,fun h=>nq h,fun _=>f109_r0_f L0 G1 X call lf i0 c0⟩
theorem f109_X0 (L0:List ByteArray) (G1:Nat) (X:Ext) (call:Caller) (lf:Nat) (i0:Nat) (x14_0:ByteArray) (r14:List AV) (b0:Bool)
  (g0:decide ((↑i0:Int) < (↑(List.length L0):Int))=true→keep [] (indexAddrv Tryz.prog 39 [] (lro (List.length L0) 1 (List.map st L0)) (i6 (↑i0:Int)))=some (AV.eaddr (st x14_0::r14),[]))
  (g1 : decide ((↑i0 : Int) < (↑(List.length L0) : Int)) = true → callv X call false G1 [st x14_0] [] 0 = some (bo b0, [])) :
    (f109_o0 L0 i0 b0=1→vexec Tryz.prog X call lf 0 noFg (loopN Tryz.f72 0) (f109_F0 L0 G1 i0)=some (Ex.ret,(f109_S1 L0 G1 i0 x14_0 r14)))∧(f109_o0 L0 i0 b0=2→vexec Tryz.prog X call lf 0 noFg (loopN Tryz.f72 0) (f109_F0 L0 G1 i0)=some (Ex.exit 0,(f109_S2 L0 G1 i0))):=by
  unfold f109_o0
  cases c0:decide ((↑i0:Int) < (↑(List.length L0):Int)) with
  | true =>
    cases c1:b0 with
    | true =>
      exact ⟨fun _=>f109_r0_tt L0 G1 X call lf i0 x14_0 r14 c0 (g0 c0) (by have:=(g1 c0); rw [c1] at this; exact this),fun h=>nq h⟩
    | false =>
      exact ⟨fun h=>nq h,fun h=>nq h⟩
  | false =>
    exact ⟨fun h=>nq h,fun _=>f109_r0_f L0 G1 X call lf i0 c0⟩
theorem f109_M (L0:List ByteArray) (G1:Nat) (X:Ext) (call:Caller) (lf:Nat) (n:Nat) (x14_0:Nat→ByteArray) (r14:Nat→List AV) (b0:Nat→Bool)
  (hn:n < lf)
  (g0:∀ i0,i0 ≤ n→decide ((↑i0:Int) < (↑(List.length L0):Int))=true→keep [] (indexAddrv Tryz.prog 39 [] (lro (List.length L0) 1 (List.map st L0)) (i6 (↑i0:Int)))=some (AV.eaddr (st (x14_0 i0)::(r14 i0)),[]))
  (g1:∀ i0,i0 ≤ n→decide ((↑i0:Int) < (↑(List.length L0):Int))=true→callv X call false G1 [st (x14_0 i0)] [] 0=some (bo (b0 i0),[]))
  (e0:∀ i0,i0 < n→decide ((↑i0:Int) < (↑(List.length L0):Int))=true→(↑(i0 + 1):Int)=w6 ((↑i0:Int) + 1))
  (hz : ∀ j, j < n → f109_o0 L0 j (b0 j) = 0) :
    (f109_o0 L0 n (b0 n)=1→vbody Tryz.prog X call lf noFg Tryz.f72 (codeOf Tryz.f72) [strs L0,AV.clo G1 []] [] 0=some (i6 (↑n:Int),[]))∧(f109_o0 L0 n (b0 n)=2→vbody Tryz.prog X call lf noFg Tryz.f72 (codeOf Tryz.f72) [strs L0,AV.clo G1 []] [] 0=some (i6 (-1),[])):=by
  have key:∀ j,j < n→_:=fun j hj=>(f109_B0 L0 G1 X call lf j (x14_0 j) (r14 j) (b0 j) (g0 j (Nat.le_of_lt hj)) (g1 j (Nat.le_of_lt hj)) (e0 j hj)).1 (hz j hj)
  have kn:=f109_X0 L0 G1 X call lf n (x14_0 n) (r14 n) (b0 n) (g0 n (Nat.le_refl n)) (g1 n (Nat.le_refl n))
  exact ⟨fun hk => f109_pltt L0 G1 X call lf n (x14_0 n) (r14 n) (f109_L0 L0 G1 X call lf n _ _ hn key (kn.1 hk) (by simp)),
    fun hk=>f109_plf L0 G1 X call lf n (f109_L0 L0 G1 X call lf n _ _ hn key (kn.2 hk) (by simp))⟩
end Go.Proofs.Lex
end
/- Lexicon: dashed, undashed; the first empty string of a list. -/
section
open Go Go.Vm Go.Proofs
namespace Go.Proofs.Lex
/-- The place of the first empty string. -/
def idxE (l:List ByteArray):Int:=match l.findIdx? (fun s=>decide (s=emp)) with
  | some i=>i
  | none => -1
theorem idxE_none {l:List ByteArray} (h:∀ s ∈ l,s ≠ emp):idxE l = -1:=by
  unfold idxE
  rw [List.findIdx?_eq_none_iff.2 fun x hx=>by simpa using h x hx]
theorem idxE_some {l:List ByteArray} {k:Nat} (hk:k < l.length) (hp:nS l k=emp) (hb:∀ i,i < k→nS l i ≠ emp):idxE l=k:=by
  unfold idxE
  have : l.findIdx? (fun s => decide (s = emp)) = some k := by
    rw [List.findIdx?_eq_some_iff_getElem]
    refine ⟨hk,?_,fun j hj => ?_⟩
    · have := hp
      rw [nS,getD_lt hk] at this
      simpa using this
    · have := hb j hj
      rw [nS,getD_lt (by omega)] at this
      simpa using this
  rw [this]
section
variable {X:Ext} {call:Caller} {lf:Nat}
theorem walk77 (s:ByteArray):vbody Tryz.prog X call lf noFg Tryz.f52 (codeOf Tryz.f52) [st s] [] 0=some (bo (decide (s=emp)),[]):=by
  by_cases e:s=emp
  · rw [decide_eq_true e]
    exact (f77_P0 s X call lf).1 (by unfold f77_q0; rw [show (s.toList == (ByteArray.mk #[]).toList)=true from eqB_iff.2 e])
  · rw [decide_eq_false e]
    exact (f77_P0 s X call lf).2 (by unfold f77_q0; rw [show (s.toList == (ByteArray.mk #[]).toList)=false from eqB_ne.2 e])
theorem walk109 {l:List ByteArray} (hl:l.length ≤ big) (hlf:l.length < lf) (hg:∀ s,callv X call false 52 [st s] [] 0=some (bo (decide (s=emp)),[])) :
    vbody Tryz.prog X call lf noFg Tryz.f72 (codeOf Tryz.f72) [Go.Vm.strs l,.clo 52 []] [] 0=some (i6 (idxE l),[]):=by
  have ho : ∀ i, (i < l.length → nS l i ≠ emp → f109_o0 l i (decide (nS l i = emp)) = 0) ∧ (i < l.length → nS l i = emp → f109_o0 l i (decide (nS l i = emp)) = 1) ∧ (¬ i < l.length → f109_o0 l i (decide (nS l i = emp)) = 2) := by
    intro i
    unfold f109_o0
    refine ⟨fun h1 h2 => ?_,fun h1 h2 => ?_,fun h1 => ?_⟩
    · rw [decide_eq_true (by omega),decide_eq_false h2]
    · rw [decide_eq_true (by omega),decide_eq_true h2]
    · rw [decide_eq_false (by omega)]
  rcases first_fail (p:=fun i=>nS l i ≠ emp) l.length with hall | ⟨k,hk,hbad,hbef⟩
  · have M := f109_M l 52 X call lf l.length (fun i => nS l i) (fun i => tS l i) (fun i => decide (nS l i = emp)) hlf (fun i _ h => at_strs (by simpa using h)) (fun i _ h => hg _) (fun i h _ => up h hl) (fun j hj => (ho j).1 hj (hall j hj))
    rw [idxE_none fun s hs => by
      obtain ⟨i,hi,rfl⟩:=List.getElem_of_mem hs
      have:=hall i hi
      rwa [nS,getD_lt hi] at this]
    exact M.2 ((ho _).2.2 (by omega))
  · have hp : nS l k = emp := by simpa using hbad
    have M:=f109_M l 52 X call lf k (fun i=>nS l i) (fun i=>tS l i) (fun i=>decide (nS l i=emp)) (by omega) (fun i _ h=>at_strs (by simpa using h)) (fun i _ h=>hg _) (fun i h _=>up (n:=l.length) (by omega) hl) (fun j hj=>(ho j).1 (by omega) (hbef j hj))
    rw [idxE_some hk hp hbef]
    exact M.1 ((ho k).2.1 hk hp)
end
section
variable [Fixed] {X:Ext}
theorem call77 (hX:ExtOk Tryz.prog X) (hL:XL X) (s:ByteArray):CallAt Tryz.prog 52 [aS.enc s] [] 0 (aB.enc (decide (s=emp))) [] :=
  run_res (B:=aB) hX (callerOf_ok (SpecOk.none' (P:=Tryz.prog))) (hL.dom 52 rfl rfl) Tryz.func52 (by kernel_rfl) (walk77 (lf:=0) s) (aB.de _)
theorem call109 (hX:ExtOk Tryz.prog X) (hL:XL X) {l:List ByteArray} (hl:l.length ≤ big):CallAt Tryz.prog 72 [Go.Vm.strs l,.clo 52 []] [] 0 (aI.enc (idxE l)) []:=by
  have hT : SpecOk Tryz.prog (Go.Vm.Spec.on (fun _ _ => none) 52 (sp1 aS fun s => some (aB.enc (decide (s = emp))))) := SpecOk.on1 SpecOk.none' fun s r h => by
    simp only [Option.some.injEq] at h
    subst h
    exact call77 hX hL s
  obtain ⟨a1,a2,a3⟩:=hL.ok 52 rfl
  exact run_res (B := aI) hX (callerOf_ok hT) (hL.dom 72 rfl rfl) Tryz.func72 (by kernel_rfl) (walk109 (lf := l.length + 1) hl (by omega) fun s => call_on (B := aB) (y := decide (s = emp)) a1 a2 a3 rfl (by
    show sp1 aS (fun s=>some (aB.enc (decide (s=emp)))) [aS.enc s]=_
    rw [sp1_at (aS.de _)])) (aI.de _)
def dashS (s:ByteArray):ByteArray:=if s=emp then ⟨#[45]⟩ else s
def undashS (s:ByteArray):ByteArray:=if s=⟨#[45]⟩ then emp else s
theorem call47 (hX:ExtOk Tryz.prog X) (hL:XL X) (s:ByteArray):CallAt Tryz.prog 32 [aS.enc s] [] 0 (aS.enc (dashS s)) []:=by
  refine run_res (B:=aS) (lf:=0) (fg:=noFg) (σ' := []) (r:=st (dashS s)) hX (callerOf_ok (SpecOk.none' (P:=Tryz.prog))) (hL.dom 32 rfl rfl) Tryz.func32 (by kernel_rfl) ?_ (aS.de _)
  unfold dashS
  by_cases e:s=emp
  · rw [if_pos e]
    exact (f47_P0 s X _ 0).1 (by unfold f47_q0; rw [show (s.toList == (ByteArray.mk #[]).toList)=true from eqB_iff.2 e])
  · rw [if_neg e]
    exact (f47_P0 s X _ 0).2 (by unfold f47_q0; rw [show (s.toList == (ByteArray.mk #[]).toList)=false from eqB_ne.2 e])
theorem call56 (hX:ExtOk Tryz.prog X) (hL:XL X) (s:ByteArray):CallAt Tryz.prog 24 [aS.enc s] [] 0 (aS.enc (undashS s)) []:=by
  refine run_res (B:=aS) (lf:=0) (fg:=noFg) (σ' := []) (r:=st (undashS s)) hX (callerOf_ok (SpecOk.none' (P:=Tryz.prog))) (hL.dom 24 rfl rfl) Tryz.func24 (by kernel_rfl) ?_ (aS.de _)
  unfold undashS
  by_cases e:s=⟨#[45]⟩
  · rw [if_pos e]
    exact (f56_P0 s X _ 0).1 (by unfold f56_q0; rw [show (s.toList == (ByteArray.mk #[45]).toList)=true from eqB_iff.2 e])
  · rw [if_neg e]
    exact (f56_P0 s X _ 0).2 (by unfold f56_q0; rw [show (s.toList == (ByteArray.mk #[45]).toList)=false from eqB_ne.2 e])
end
end Go.Proofs.Lex
end
/- Lexicon: join: the parts that are not empty, where the last alone may be. -/
section
set_option linter.unusedVariables false
open Go Go.Vm Go.Proofs
open Go.RowKit
namespace Go.Proofs.Lex
section
variable [Fixed] {X:Ext}
def C00:Ctx:=⟨[],fun _=>0,fun _=>0,fun _=>False⟩
theorem C00_ok {C:Ctx} {w:World} (hs:SOk C w):SOk C00 w :=
  ⟨fun id o h=>by simp [C00] at h,fun i j oi oj h=>by simp [C00] at h,fun id o h=>by simp [C00] at h,fun id o h=>by simp [C00] at h,fun b h=>h.elim,fun b X hX=>⟨(hs.fx b X hX).1,fun id o h=>by simp [C00] at h⟩⟩
/-- The world behind a call that makes memory alone. -/
structure More (w w' : World):Prop where
  os:w'.os=w.os
  tape:w'.tape=w.tape
  output:w'.output=w.output
  size:w.heap.size ≤ w'.heap.size
  blk:∀ x,x < w.heap.size→w'.heap[x]? = w.heap[x]?
theorem more_of {w w' : World} {C' : Ctx} (hg:Grow 0 C00 w C' w'):More w w' :=
  ⟨hg.os,hg.tape,hg.output,hg.size,fun x hx=>hg.blk x hx fun id o _ h=>by simp [C00] at h⟩
theorem strs_at {w:World} {b:Nat} {l:List ByteArray} (hb:w.heap[b]? = some (.cells (l.map Value.string).toArray 9 (0,0))) (hl:l.length ≤ big):Rep C00 w (Go.Vm.strs l) (.slice (some ⟨b,0,none⟩) l.length l.length):=by
  unfold Go.Vm.strs
  simp only [Rep]
  refine ⟨by simp,one_strs _,some ⟨b,0,none⟩,l.length,rfl,Nat.le_refl _,?_,by simp,by simp,fun _ => ?_⟩
  · have : l.length ≤ 140737488355328 := hl
    show _ ≤ maxLen
    unfold maxLen
    omega
  · refine ⟨b, 0, l.map Value.string, rfl, (Array.getElem?_eq_some_iff.1 hb).1, ?_, ?_, plainA.all C00 _ l⟩
    · rintro (h | ⟨id, o, h, _⟩)
      · exact h
      · simp [C00] at h
    · intro i x hi
      rw [Lib.cell_of_heap hb]
      simpa using hi
theorem idx_calls (hX:ExtOk Tryz.prog X) (hL:XL X) {C:Ctx} {w:World} (hs:SOk C w) {b:Nat} {l:List ByteArray} (hb:w.heap[b]? = some (.cells (l.map Value.string).toArray 9 (0,0))) (hl:l.length ≤ big) :
    Calls Tryz.prog 72 #[.slice (some ⟨b,0,none⟩) l.length l.length,.func (.func 52) #[] #[]] w fun e w' => e = .returned (.int .i64 (idxE l))∧More w w' := by
  have h := (call109 hX hL hl).2 C00 w [.slice (some ⟨b, 0, none⟩) l.length l.length, .func (.func 52) #[] #[]] rfl (C00_ok hs) (Nat.le_refl _) (by
    simp only [RepAll,and_true]
    refine ⟨strs_at hb hl,?_⟩
    simp only [Rep]
    exact ⟨[],rfl,by simp only [RepAll]⟩)
  refine Calls.mono h ?_
  rintro e w' ⟨u,C',rfl,_,_,hg,hr,_⟩
  have hr:Rep C' w' (.int .i64 (idxE l)) u:=hr
  simp only [Rep] at hr
  subst hr
  exact ⟨rfl,more_of hg⟩
theorem idx5_none {a c d e t:ByteArray} (ha:a ≠ emp) (hc:c ≠ emp) (hd:d ≠ emp) (he:e ≠ emp) (ht:t ≠ emp):idxE [a,c,d,e,t] = -1 :=
  idxE_none (by simp [ha,hc,hd,he,ht])
theorem idx5_four {a c d e:ByteArray} (ha:a ≠ emp) (hc:c ≠ emp) (hd:d ≠ emp) (he:e ≠ emp):idxE [a,c,d,e,emp]=4 :=
  idxE_some (k := 4) (by simp) rfl (fun i hi => by
    match i,hi with
    | 0,_=>exact ha
    | 1,_=>exact hc
    | 2,_=>exact hd
    | 3,_=>exact he)
theorem del76_full (hX:ExtOk Tryz.prog X) (hL:XL X) {C:Ctx} {w:World} (hs:SOk C w) {b:Nat} {a c d e t:ByteArray} (hb:w.heap[b]? = some (.cells ([a,c,d,e,t].map Value.string).toArray 9 (0,0)))
    (ha:a ≠ emp) (hc:c ≠ emp) (hd:d ≠ emp) (he:e ≠ emp) (ht:t ≠ emp) :
    Calls Tryz.prog 51 #[.slice (some ⟨b,0,none⟩) 5 5,.func (.func 52) #[] #[]] w fun x w' => x = .returned (.slice (some ⟨b,0,none⟩) 5 5)∧More w w' := by
  have hi:=idx_calls hX hL hs hb (show 5 ≤ big by decide)
  rw [idx5_none ha hc hd he ht] at hi
  have hi' : Calls Tryz.prog 72 #[.slice (some ⟨b,0,none⟩) 5 5,.func (.func 52) #[] #[]] w fun e w' => e = .returned (.int .i64 (-1))∧More w w' := hi
  clear hi hX hL hs ha hc hd he ht hb
  go_enter Tryz.func51,Tryz.ntmps51
  go_wp2_with (go_at_call 72; refine hi'.mono ?_; rintro e w1 ⟨rfl,h1⟩)
  go_ret
  exact ⟨rfl,h1⟩
theorem More.trans {w1 w2 w3:World} (h:More w1 w2) (k:More w2 w3):More w1 w3 :=
  ⟨k.os.trans h.os,k.tape.trans h.tape,k.output.trans h.output,Nat.le_trans h.size k.size,fun x hx=>(k.blk x (Nat.lt_of_lt_of_le hx h.size)).trans (h.blk x hx)⟩
theorem More.drew {w1 w2:World} (h:More w1 w2):More w1 w2.drew:=⟨h.os,h.tape,h.output,h.size,h.blk⟩
/-- What lies there, laid there again. -/
theorem put_same {w:World} {b:Nat} {us:Array Value} {e:TypeId} {k:Nat} {v:Value} (hb:w.heap[b]? = some (.cells us e (0,0))) (hk:us[k]? = some v):More w (w.setCell ⟨b,k,none⟩ v):=by
  refine ⟨rfl,rfl,rfl,by simp [World.setCell],fun x hx => ?_⟩
  by_cases h:x=b
  · subst h
    simp only [World.setCell,Array.getElem?_modify,if_true,hb,Option.map_some]
    obtain ⟨hlt,rfl⟩:=Array.getElem?_eq_some_iff.1 hk
    congr 2
    show us.setIfInBounds k us[k]=us
    apply Array.ext (by simp)
    intro i h1 h2
    rw [Array.getElem_setIfInBounds h2]
    split
    · rename_i h
      subst h
      rfl
    · rfl
  · exact Below.heap_setCell _ _ _ _ h
theorem del76_last (hX:ExtOk Tryz.prog X) (hL:XL X) {C:Ctx} {w:World} (hs:SOk C w) {b:Nat} {a c d e:ByteArray} (hb:w.heap[b]? = some (.cells ([a,c,d,e,emp].map Value.string).toArray 9 (0,0)))
    (ha:a ≠ emp) (hc:c ≠ emp) (hd:d ≠ emp) (he:e ≠ emp) :
    Calls Tryz.prog 51 #[.slice (some ⟨b,0,none⟩) 5 5,.func (.func 52) #[] #[]] w fun x w' => x = .returned (.slice (some ⟨b,0,none⟩) 4 5)∧More w w' := by
  have hi:=idx_calls hX hL hs hb (show 5 ≤ big by decide)
  rw [idx5_four ha hc hd he] at hi
  have hi' : Calls Tryz.prog 72 #[.slice (some ⟨b,0,none⟩) 5 5,.func (.func 52) #[] #[]] w fun e w' => e = .returned (.int .i64 4)∧More w w' := hi
  have hlt:=(Array.getElem?_eq_some_iff.1 hb).1
  have hcl : ∀ (w1 : World), More w w1 → ∀ ty, (Builtin.clear_ #[39] ty #[.slice (some ⟨b, 4, none⟩) 1 1]).run Tryz.prog w1 = .ok (.tuple #[]) (w1.setCell ⟨b, 4, none⟩ (.string emp)) ∧ More w (w1.setCell ⟨b, 4, none⟩ (.string emp)) := by
    intro w1 h1 ty
    have hb1:=(h1.blk b hlt).trans hb
    refine ⟨?_,h1.trans (put_same hb1 rfl)⟩
    have := Lib.run_clear_slice (P := Tryz.prog) w1 39 9 ty (.string emp) Tryz.underlying39 (fun w => by kernel_rfl) rfl rfl b 4 1 1 (by omega) (fun j hj => by
      have:j=0:=by omega
      subst this
      rw [Lib.cell_of_heap hb1]
      rfl) (fun j hj=>Lib.frozen_of_heap hb1 _)
    rw [this]
    rfl
  clear hi hX hL hs ha hc hd he hb
  go_enter Tryz.func51,Tryz.ntmps51
  go_wp2_with (go_at_call 72; refine hi'.mono ?_; rintro e w1 ⟨rfl,h1⟩)
  go_loop [5,6] (fun x y=>x = .int .i64 4∧y = .int .i64 5) (fun _ _=>0)
  case atStart=>exact ⟨rfl,rfl⟩
  case round =>
    obtain ⟨rfl,rfl⟩:=hrel
    obtain ⟨e1,h2⟩:=hcl w1 h1 0
    go_wp2
    go_ret
    exact ⟨rfl,h2⟩
abbrev blank:ByteArray:=⟨#[32]⟩
/-- The parts of a line that are there. -/
def partsL (a c d e t:ByteArray):List ByteArray:=if t=emp then [a,c,d,e] else [a,c,d,e,t]
theorem join_calls {w w1:World} (h:More w w1) {b n:Nat} {us:List Value} {e:TypeId} {l:List ByteArray} (hb:w.heap[b]? = some (.cells us.toArray e (0,0))) (hn:0 < l.length) (hl:l.length ≤ 5) (hu:∀ (j:Nat) x,l[j]? = some x→us[j]? = some (.string x)) (hj:(joinB l blank).length ≤ 140737488355328) :
    Calls Tryz.prog 23 #[.slice (some ⟨b,0,none⟩) l.length 5,.string blank] w1 fun e w' => e = .returned (.string ⟨(joinB l blank).toArray⟩)∧More w w' := by
  have hlt:=(Array.getElem?_eq_some_iff.1 hb).1
  have hb1:=(h.blk b hlt).trans hb
  refine Calls.mono (Any.strings_Join Tryz.laysJoin Tryz.joinExtra b 0 5 l blank w1 (fun j x hx => ?_) (Nat.lt_of_lt_of_le hlt h.size) (by omega) hl hj) ?_
  · rw [Lib.cell_of_heap hb1, Nat.zero_add]
    simpa using hu j x hx
  · rintro e w' ⟨rfl, hb⟩
    exact ⟨rfl,h.trans ⟨hb.os,hb.tape,hb.output,hb.size,fun x hx=>hb.block x hx⟩⟩
theorem join46 (hX:ExtOk Tryz.prog X) (hL:XL X) {C:Ctx} {w:World} (hs:SOk C w) {b:Nat} {a c d e t:ByteArray} (hb:w.heap[b]? = some (.cells ([a,c,d,e,t].map Value.string).toArray 9 (0,0)))
    (ha:a ≠ emp) (hc:c ≠ emp) (hd:d ≠ emp) (he:e ≠ emp) (hj:(joinB (partsL a c d e t) blank).length ≤ 140737488355328) :
    Calls Tryz.prog 31 #[.slice (some ⟨b,0,none⟩) 5 5] w fun x w' => x = .returned (.string ⟨(joinB (partsL a c d e t) blank).toArray⟩)∧More w w' := by
  by_cases ht:t=emp
  · subst ht
    have hp:partsL a c d e emp=[a,c,d,e]:=if_pos rfl
    rw [hp] at hj ⊢
    have h1:=del76_last hX hL hs hb ha hc hd he
    have h2 : ∀ w1, More w w1 → Calls Tryz.prog 23 #[.slice (some ⟨b, 0, none⟩) 4 5, .string blank] w1 fun e' w' => e' = .returned (.string ⟨(joinB [a, c, d, e] blank).toArray⟩) ∧ More w w' := fun w1 hm =>
      join_calls (n := 0) (l := [a, c, d, e]) hm hb (by simp) (by simp) (fun j x hx => by
        match j,hx with
        | 0,hx=>simpa using hx
        | 1,hx=>simpa using hx
        | 2,hx=>simpa using hx
        | 3,hx=>simpa using hx
        | n + 4,hx=>simp at hx) hj
    clear hX hL hs ha hc hd he hj hb hp
    generalize hJ:(joinB [a,c,d,e] blank).toArray=J at h2 ⊢
    clear hJ
    go_enter Tryz.func31,Tryz.ntmps31
    go_wp2_with (first | (go_at_call 51; refine h1.mono ?_; rintro e w1 ⟨rfl,hm1⟩) | (go_at_call 23; refine (h2 _ hm1).mono ?_; rintro e w2 ⟨rfl,hm2⟩))
    go_ret
    exact ⟨rfl,hm2⟩
  · have hp : partsL a c d e t = [a, c, d, e, t] := if_neg ht
    rw [hp] at hj ⊢
    have h1:=del76_full hX hL hs hb ha hc hd he ht
    have h2 : ∀ w1, More w w1 → Calls Tryz.prog 23 #[.slice (some ⟨b, 0, none⟩) 5 5, .string blank] w1 fun e' w' => e' = .returned (.string ⟨(joinB [a, c, d, e, t] blank).toArray⟩) ∧ More w w' := fun w1 hm =>
      join_calls (n := 0) (l := [a, c, d, e, t]) hm hb (by simp) (by simp) (fun j x hx => by
        rw [List.getElem?_map,hx]; rfl) hj
    clear hX hL hs ha hc hd he ht hj hb hp
    generalize hJ:(joinB [a,c,d,e,t] blank).toArray=J at h2 ⊢
    clear hJ
    go_enter Tryz.func31,Tryz.ntmps31
    go_wp2_with (first | (go_at_call 51; refine h1.mono ?_; rintro e w1 ⟨rfl,hm1⟩) | (go_at_call 23; refine (h2 _ hm1).mono ?_; rintro e w2 ⟨rfl,hm2⟩))
    go_ret
    exact ⟨rfl,hm2⟩
end
end Go.Proofs.Lex
end
/- Lexicon: names and records, as specifications. -/
section
open Go Go.Vm Go.Proofs
namespace Go.Proofs.Lex
/-- A function of one argument, where it is told. -/
def s1 [Fixed] {α β:Type} (A:Arg α) (B:Arg β) (g:α→β) (ok:α→Prop) [DecidablePred ok]:List AV→Option AV:=sp1 A fun x=>if ok x then some (B.enc (g x)) else none
section
variable [Fixed] {α β:Type} {A:Arg α} {B:Arg β} {g:α→β} {ok:α→Prop} [DecidablePred ok]
theorem s1_at {x:α} (h:ok x):s1 A B g ok [A.enc x]=some (B.enc (g x)):=by
  unfold s1
  rw [sp1_at (A.de _),if_pos h]
theorem SpecOk.s1 {T:Go.Vm.Spec} (hT:SpecOk Tryz.prog T) {f:FuncId} (h:∀ x,ok x→CallAt Tryz.prog f [A.enc x] [] 0 (B.enc (g x)) []):SpecOk Tryz.prog (T.on f (s1 A B g ok)):=by
  refine SpecOk.on1 hT fun x r hr => ?_
  split at hr
  · rename_i hx
    simp only [Option.some.injEq] at hr
    subst hr
    exact h x hx
  · cases hr
end
/-- Features that a machine can bear. -/
abbrev okF (F:List Feat):Prop:=F.length ≤ big∧∀ f ∈ F,f.name.size ≤ big∧f.value.size ≤ big
section
variable [Fixed] {X:Ext}
abbrev okS (s:ByteArray):Prop:=s.size ≤ big
theorem call43 (hX:ExtOk Tryz.prog X) (hL:XL X) {s:ByteArray} (h:okS s):CallAt Tryz.prog 15 [aS.enc s] [] 0 (aB.enc (nameL s)) [] :=
  run_res (B:=aB) hX (callerOf_ok (SpecOk.none' (P:=Tryz.prog))) (hL.dom 15 rfl rfl) Tryz.func15 (by kernel_rfl) (name43 (lf:=s.size + 1) h (by omega)) (aB.de _)
theorem call49 (hX:ExtOk Tryz.prog X) (hL:XL X) {s:ByteArray} (h:okS s):CallAt Tryz.prog 41 [aS.enc s] [] 0 (aB.enc (nameL s)) [] :=
  run_res (B:=aB) hX (callerOf_ok (SpecOk.none' (P:=Tryz.prog))) (hL.dom 41 rfl rfl) Tryz.func41 (by kernel_rfl) (name49 (lf:=s.size + 1) h (by omega)) (aB.de _)
theorem call75 (hX:ExtOk Tryz.prog X) (hL:XL X) {s:ByteArray} (h:okS s):CallAt Tryz.prog 38 [aS.enc s] [] 0 (aB.enc (nameF s)) [] :=
  run_res (B:=aB) hX (callerOf_ok (SpecOk.none' (P:=Tryz.prog))) (hL.dom 38 rfl rfl) Tryz.func38 (by kernel_rfl) (name75 (lf:=s.size + 1) h (by omega)) (aB.de _)
theorem call81 (hX:ExtOk Tryz.prog X) (hL:XL X) {s:ByteArray} (h:okS s):CallAt Tryz.prog 58 [aS.enc s] [] 0 (aB.enc (nameF s)) [] :=
  run_res (B:=aB) hX (callerOf_ok (SpecOk.none' (P:=Tryz.prog))) (hL.dom 58 rfl rfl) Tryz.func58 (by kernel_rfl) (name81 (lf:=s.size + 1) h (by omega)) (aB.de _)
theorem call82 (hX:ExtOk Tryz.prog X) (hL:XL X) {F:List Feat} (h:F.length ≤ big):CallAt Tryz.prog 59 [aFs.enc F] [] 0 (aB.enc (ascF F)) []:=by
  obtain ⟨σ,hv⟩:=rec82 (X:=X) (call:=callerOf fun _ _=>none) (lf:=F.length + 1) h (by omega)
  exact run_res (B:=aB) hX (callerOf_ok (SpecOk.none' (P:=Tryz.prog))) (hL.dom 59 rfl rfl) Tryz.func59 (by kernel_rfl) hv (aB.de _)
def U0:Go.Vm.Spec:=(Go.Vm.Spec.on (fun _ _=>none) 15 (s1 aS aB nameL okS)).on 38 (s1 aS aB nameF okS)
theorem U0_ok (hX:ExtOk Tryz.prog X) (hL:XL X):SpecOk Tryz.prog U0 :=
  SpecOk.s1 (SpecOk.s1 SpecOk.none' fun _ h=>call43 hX hL h) fun _ h=>call75 hX hL h
/-- What the reference's Valid asks. -/
def U0R:Go.Vm.Spec:=(Go.Vm.Spec.on (fun _ _=>none) 58 (s1 aS aB nameF okS)).on 59 (s1 aFs aB ascF fun F=>F.length ≤ big)
theorem U0R_ok (hX:ExtOk Tryz.prog X) (hL:XL X):SpecOk Tryz.prog U0R :=
  SpecOk.s1 (SpecOk.s1 SpecOk.none' fun _ h=>call81 hX hL h) fun _ h=>call82 hX hL h
theorem okF_nth {F:List Feat} (h:okF F) {i:Nat} (hi:i < F.length):okS (nF F i).name∧okS (nF F i).value:=by
  have:=h.2 (nF F i) (by rw [nF,getD_lt hi]; exact List.getElem_mem hi)
  exact this
theorem call45 (hX:ExtOk Tryz.prog X) (hL:XL X) {F:List Feat} (h:okF F):CallAt Tryz.prog 17 [aFs.enc F] [] 0 (aB.enc (validF F)) []:=by
  have hC:=callerOf_ok (U0_ok hX hL)
  obtain ⟨a1,a2,a3⟩:=hL.ok 38 rfl
  have hc : ∀ s, okS s → ∀ σ, callv X (callerOf U0) true 38 [st s] σ 0 = some (bo (nameF s), σ) := fun s hs σ =>
    call_on (B:=aB) (T:=U0) (y:=nameF s) (vs:=[aS.enc s]) a1 a2 a3 rfl (s1_at (A:=aS) (B:=aB) (g:=nameF) (ok:=okS) hs)
  obtain ⟨σ,hv⟩:=valid45 (X:=X) (call:=callerOf U0) (lf:=F.length + 1) h.1 (by omega) fun i hi σ=>⟨hc _ (okF_nth h hi).1 σ,hc _ (okF_nth h hi).2 σ⟩
  exact run_res (B:=aB) hX hC (hL.dom 17 rfl rfl) Tryz.func17 (by kernel_rfl) hv (aB.de _)
theorem call50 (hX:ExtOk Tryz.prog X) (hL:XL X) {F:List Feat} (h:okF F):CallAt Tryz.prog 43 [aFs.enc F] [] 0 (aB.enc (validF F)) []:=by
  have hC:=callerOf_ok (U0R_ok hX hL)
  obtain ⟨a1,a2,a3⟩:=hL.ok 58 rfl
  obtain ⟨b1,b2,b3⟩:=hL.ok 59 rfl
  have hc : ∀ s, okS s → ∀ σ, callv X (callerOf U0R) false 58 [st s] σ 0 = some (bo (nameF s), σ) := fun s hs σ =>
    call_on (B:=aB) (T:=U0R) (y:=nameF s) (vs:=[aS.enc s]) a1 a2 a3 rfl (s1_at (A:=aS) (B:=aB) (g:=nameF) (ok:=okS) hs)
  have hd : ∀ σ, callv X (callerOf U0R) false 59 [featsV F] σ 0 = some (bo (ascF F), σ) := fun σ =>
    call_on (B:=aB) (T:=U0R) (y:=ascF F) (vs:=[aFs.enc F]) b1 b2 b3 (by simp only [AV.ltAll,aFs.lt,Bool.and_self]) (s1_at (A:=aFs) (B:=aB) (g:=ascF) (ok:=fun F=>F.length ≤ big) h.1)
  obtain ⟨σ,hv⟩:=valid50 (X:=X) (call:=callerOf U0R) (lf:=F.length + 1) h.1 (by omega) (fun i hi σ=>⟨hc _ (okF_nth h hi).1 σ,hc _ (okF_nth h hi).2 σ⟩) hd
  exact run_res (B:=aB) hX hC (hL.dom 43 rfl rfl) Tryz.func43 (by kernel_rfl) hv (aB.de _)
/-- Texts that a machine can bear. -/
abbrev okT (F:List Feat):Prop:=F.length ≤ big∧(textF F).length * 2 ≤ big
def textS (F:List Feat):ByteArray:=⟨(textF F).toArray⟩
def U1:Go.Vm.Spec:=(((U0.on 17 (s1 aFs aB validF okF)).on 32 (s1 aS aS dashS fun _=>True)).on 24 (s1 aS aS undashS fun _=>True)).on 33 (s1 aFs aS textS okT)
theorem U1_ok (hX:ExtOk Tryz.prog X) (hL:XL X):SpecOk Tryz.prog U1 :=
  SpecOk.s1 (SpecOk.s1 (SpecOk.s1 (SpecOk.s1 (U0_ok hX hL) fun _ h=>call45 hX hL h) fun s _=>call47 hX hL s) fun s _=>call56 hX hL s) fun _ h=>call48 hX hL h.1 h.2
end
end Go.Proofs.Lex
end
/- Lexicon: Line (printed) -/
section
open Go Go.Vm Go.Proofs
namespace Go.Proofs.Lex
/-- Line, cut: its last region without the call of join. -/
def cutF (fn:Func):Func := { fn with body:=some (.seq (regN fn 0) (.seq (regN fn 1) (.seq (.region 3 ((opsF fn 3).extract 0 13) true) .ret))) }
def f21c_S0 (x1:Lexm):St :=
  stOf 60 [] [(0,AV.agg [st (Lexm.id x1),st (Lexm.cat x1),st (Lexm.stem x1),st (Lexm.par x1),lro (List.length (Lexm.feats x1)) 2 (List.flatMap featC (Lexm.feats x1))]),(1,AV.ref 0 0),(2,st (ByteArray.mk #[]))] [Ob.cells [st (Lexm.id x1),st (Lexm.cat x1),st (Lexm.stem x1),st (Lexm.par x1),lro (List.length (Lexm.feats x1)) 2 (List.flatMap featC (Lexm.feats x1))]]
theorem f21c_g1_fft (x1:Lexm) (X:Ext) (call:Caller) (lf:Nat)
  (h0:callv X call false 15 [st (Lexm.id x1)] [Ob.cells [st (Lexm.id x1),st (Lexm.cat x1),st (Lexm.stem x1),st (Lexm.par x1),lro (List.length (Lexm.feats x1)) 2 (List.flatMap featC (Lexm.feats x1))]] 0=some (bo true,[Ob.cells [st (Lexm.id x1),st (Lexm.cat x1),st (Lexm.stem x1),st (Lexm.par x1),lro (List.length (Lexm.feats x1)) 2 (List.flatMap featC (Lexm.feats x1))]]))
  (h1:callv X call false 15 [st (Lexm.cat x1)] [Ob.cells [st (Lexm.id x1),st (Lexm.cat x1),st (Lexm.stem x1),st (Lexm.par x1),lro (List.length (Lexm.feats x1)) 2 (List.flatMap featC (Lexm.feats x1))]] 0=some (bo true,[Ob.cells [st (Lexm.id x1),st (Lexm.cat x1),st (Lexm.stem x1),st (Lexm.par x1),lro (List.length (Lexm.feats x1)) 2 (List.flatMap featC (Lexm.feats x1))]]))
  (h2:(ByteArray.toList (Lexm.stem x1) == ByteArray.toList (ByteArray.mk #[45]))=false)
  (h3:callv X call false 30 [st (Lexm.stem x1),st (ByteArray.mk #[32,10])] [Ob.cells [st (Lexm.id x1),st (Lexm.cat x1),st (Lexm.stem x1),st (Lexm.par x1),lro (List.length (Lexm.feats x1)) 2 (List.flatMap featC (Lexm.feats x1))]] 0=some (bo false,[Ob.cells [st (Lexm.id x1),st (Lexm.cat x1),st (Lexm.stem x1),st (Lexm.par x1),lro (List.length (Lexm.feats x1)) 2 (List.flatMap featC (Lexm.feats x1))]]))
  (h4:(ByteArray.toList (Lexm.par x1) == ByteArray.toList (ByteArray.mk #[45]))=false)
  (h5:(!ByteArray.toList (Lexm.par x1) == ByteArray.toList (ByteArray.mk #[]))=true)
  (h6:callv X call false 15 [st (Lexm.par x1)] [Ob.cells [st (Lexm.id x1),st (Lexm.cat x1),st (Lexm.stem x1),st (Lexm.par x1),lro (List.length (Lexm.feats x1)) 2 (List.flatMap featC (Lexm.feats x1))]] 0=some (bo true,[Ob.cells [st (Lexm.id x1),st (Lexm.cat x1),st (Lexm.stem x1),st (Lexm.par x1),lro (List.length (Lexm.feats x1)) 2 (List.flatMap featC (Lexm.feats x1))]]))
  (h7:callv X call false 17 [lro (List.length (Lexm.feats x1)) 2 (List.flatMap featC (Lexm.feats x1))] [Ob.cells [st (Lexm.id x1),st (Lexm.cat x1),st (Lexm.stem x1),st (Lexm.par x1),lro (List.length (Lexm.feats x1)) 2 (List.flatMap featC (Lexm.feats x1))]] 0=some (bo true,[Ob.cells [st (Lexm.id x1),st (Lexm.cat x1),st (Lexm.stem x1),st (Lexm.par x1),lro (List.length (Lexm.feats x1)) 2 (List.flatMap featC (Lexm.feats x1))]])):vexec Tryz.prog X call lf 0 noFg (regN (cutF Tryz.f12) 1) (f21c_S0 x1)=some (Ex.normal,stOf 60 [] [(0,AV.agg [st (Lexm.id x1),st (Lexm.cat x1),st (Lexm.stem x1),st (Lexm.par x1),lro (List.length (Lexm.feats x1)) 2 (List.flatMap featC (Lexm.feats x1))]),(1,AV.ref 0 0),(2,st (ByteArray.mk #[])),(3,AV.ref 0 0),(4,st (Lexm.id x1)),(5,bo true),(6,bo false),(7,bo false),(8,AV.ref 0 1),(9,st (Lexm.cat x1)),(10,bo true),(11,bo false),(12,bo false),(13,bo false),(14,AV.ref 0 2),(15,st (Lexm.stem x1)),(16,bo false),(17,bo false),(18,bo false),(19,AV.ref 0 2),(20,st (Lexm.stem x1)),(21,bo false),(22,bo false),(23,bo false),(24,AV.ref 0 3),(25,st (Lexm.par x1)),(26,bo false),(27,bo false),(28,bo false),(29,AV.ref 0 3),(30,st (Lexm.par x1)),(31,bo true),(32,bo true),(33,AV.ref 0 3),(34,st (Lexm.par x1)),(35,bo true),(36,bo false),(37,bo false),(38,bo false),(39,bo false),(40,AV.ref 0 4),(41,lro (List.length (Lexm.feats x1)) 2 (List.flatMap featC (Lexm.feats x1))),(42,bo true),(43,bo false),(44,bo false)] [Ob.cells [st (Lexm.id x1),st (Lexm.cat x1),st (Lexm.stem x1),st (Lexm.par x1),lro (List.length (Lexm.feats x1)) 2 (List.flatMap featC (Lexm.feats x1))]]) :=
  around_sound (ans:=[(3,Ans.v (bo true)),(11,Ans.v (bo true)),(21,Ans.b false),(29,Ans.v (bo false)),(37,Ans.b false),(45,Ans.b true),(53,Ans.v (bo true)),(65,Ans.v (bo true))]) (by kernel_rfl) (ai h0 (ai h1 (ai h2 (ai h3 (ai h4 (ai h5 (ai h6 (ai h7 trivial))))))))
theorem f21c_g1_fff (x1:Lexm) (X:Ext) (call:Caller) (lf:Nat)
  (h0:callv X call false 15 [st (Lexm.id x1)] [Ob.cells [st (Lexm.id x1),st (Lexm.cat x1),st (Lexm.stem x1),st (Lexm.par x1),lro (List.length (Lexm.feats x1)) 2 (List.flatMap featC (Lexm.feats x1))]] 0=some (bo true,[Ob.cells [st (Lexm.id x1),st (Lexm.cat x1),st (Lexm.stem x1),st (Lexm.par x1),lro (List.length (Lexm.feats x1)) 2 (List.flatMap featC (Lexm.feats x1))]]))
  (h1:callv X call false 15 [st (Lexm.cat x1)] [Ob.cells [st (Lexm.id x1),st (Lexm.cat x1),st (Lexm.stem x1),st (Lexm.par x1),lro (List.length (Lexm.feats x1)) 2 (List.flatMap featC (Lexm.feats x1))]] 0=some (bo true,[Ob.cells [st (Lexm.id x1),st (Lexm.cat x1),st (Lexm.stem x1),st (Lexm.par x1),lro (List.length (Lexm.feats x1)) 2 (List.flatMap featC (Lexm.feats x1))]]))
  (h2:(ByteArray.toList (Lexm.stem x1) == ByteArray.toList (ByteArray.mk #[45]))=false)
  (h3:callv X call false 30 [st (Lexm.stem x1),st (ByteArray.mk #[32,10])] [Ob.cells [st (Lexm.id x1),st (Lexm.cat x1),st (Lexm.stem x1),st (Lexm.par x1),lro (List.length (Lexm.feats x1)) 2 (List.flatMap featC (Lexm.feats x1))]] 0=some (bo false,[Ob.cells [st (Lexm.id x1),st (Lexm.cat x1),st (Lexm.stem x1),st (Lexm.par x1),lro (List.length (Lexm.feats x1)) 2 (List.flatMap featC (Lexm.feats x1))]]))
  (h4:(ByteArray.toList (Lexm.par x1) == ByteArray.toList (ByteArray.mk #[45]))=false)
  (h5:(!ByteArray.toList (Lexm.par x1) == ByteArray.toList (ByteArray.mk #[]))=false)
  (h6:callv X call false 17 [lro (List.length (Lexm.feats x1)) 2 (List.flatMap featC (Lexm.feats x1))] [Ob.cells [st (Lexm.id x1),st (Lexm.cat x1),st (Lexm.stem x1),st (Lexm.par x1),lro (List.length (Lexm.feats x1)) 2 (List.flatMap featC (Lexm.feats x1))]] 0=some (bo true,[Ob.cells [st (Lexm.id x1),st (Lexm.cat x1),st (Lexm.stem x1),st (Lexm.par x1),lro (List.length (Lexm.feats x1)) 2 (List.flatMap featC (Lexm.feats x1))]])):vexec Tryz.prog X call lf 0 noFg (regN (cutF Tryz.f12) 1) (f21c_S0 x1)=some (Ex.normal,stOf 60 [] [(0,AV.agg [st (Lexm.id x1),st (Lexm.cat x1),st (Lexm.stem x1),st (Lexm.par x1),lro (List.length (Lexm.feats x1)) 2 (List.flatMap featC (Lexm.feats x1))]),(1,AV.ref 0 0),(2,st (ByteArray.mk #[])),(3,AV.ref 0 0),(4,st (Lexm.id x1)),(5,bo true),(6,bo false),(7,bo false),(8,AV.ref 0 1),(9,st (Lexm.cat x1)),(10,bo true),(11,bo false),(12,bo false),(13,bo false),(14,AV.ref 0 2),(15,st (Lexm.stem x1)),(16,bo false),(17,bo false),(18,bo false),(19,AV.ref 0 2),(20,st (Lexm.stem x1)),(21,bo false),(22,bo false),(23,bo false),(24,AV.ref 0 3),(25,st (Lexm.par x1)),(26,bo false),(27,bo false),(28,bo false),(29,AV.ref 0 3),(30,st (Lexm.par x1)),(31,bo false),(32,bo false),(37,bo false),(38,bo false),(39,bo false),(40,AV.ref 0 4),(41,lro (List.length (Lexm.feats x1)) 2 (List.flatMap featC (Lexm.feats x1))),(42,bo true),(43,bo false),(44,bo false)] [Ob.cells [st (Lexm.id x1),st (Lexm.cat x1),st (Lexm.stem x1),st (Lexm.par x1),lro (List.length (Lexm.feats x1)) 2 (List.flatMap featC (Lexm.feats x1))]]) :=
  around_sound (ans:=[(3,Ans.v (bo true)),(11,Ans.v (bo true)),(21,Ans.b false),(29,Ans.v (bo false)),(37,Ans.b false),(45,Ans.b false),(61,Ans.v (bo true))]) (by kernel_rfl) (ai h0 (ai h1 (ai h2 (ai h3 (ai h4 (ai h5 (ai h6 trivial)))))))
def f21c_S1 (x1:Lexm):St :=
  stOf 60 [3,4,5,6,7,8,9,10,11,12,13,14,15,16,17,18,19,20,21,22,23,24,25,26,27,28,29,30,31,32,33,34,35,36,37,38,39,40,41,42,43] [(0,AV.agg [st (Lexm.id x1),st (Lexm.cat x1),st (Lexm.stem x1),st (Lexm.par x1),lro (List.length (Lexm.feats x1)) 2 (List.flatMap featC (Lexm.feats x1))]),(1,AV.ref 0 0),(2,st (ByteArray.mk #[])),(44,bo false)] [Ob.cells [st (Lexm.id x1),st (Lexm.cat x1),st (Lexm.stem x1),st (Lexm.par x1),lro (List.length (Lexm.feats x1)) 2 (List.flatMap featC (Lexm.feats x1))]]
theorem f21c_g3_ (x1:Lexm) (X:Ext) (call:Caller) (lf:Nat) (x51:ByteArray) (x54:ByteArray) (x57:ByteArray)
  (h0:callv X call true 32 [st (Lexm.stem x1)] [Ob.cells [st (Lexm.id x1),st (Lexm.cat x1),st (Lexm.stem x1),st (Lexm.par x1),lro (List.length (Lexm.feats x1)) 2 (List.flatMap featC (Lexm.feats x1))]] 0=some (st x51,[Ob.cells [st (Lexm.id x1),st (Lexm.cat x1),st (Lexm.stem x1),st (Lexm.par x1),lro (List.length (Lexm.feats x1)) 2 (List.flatMap featC (Lexm.feats x1))]]))
  (h1:callv X call true 32 [st (Lexm.par x1)] [Ob.cells [st (Lexm.id x1),st (Lexm.cat x1),st (Lexm.stem x1),st (Lexm.par x1),lro (List.length (Lexm.feats x1)) 2 (List.flatMap featC (Lexm.feats x1))]] 0=some (st x54,[Ob.cells [st (Lexm.id x1),st (Lexm.cat x1),st (Lexm.stem x1),st (Lexm.par x1),lro (List.length (Lexm.feats x1)) 2 (List.flatMap featC (Lexm.feats x1))]]))
  (h2:callv X call true 33 [lro (List.length (Lexm.feats x1)) 2 (List.flatMap featC (Lexm.feats x1))] [Ob.cells [st (Lexm.id x1),st (Lexm.cat x1),st (Lexm.stem x1),st (Lexm.par x1),lro (List.length (Lexm.feats x1)) 2 (List.flatMap featC (Lexm.feats x1))]] 0=some (st x57,[Ob.cells [st (Lexm.id x1),st (Lexm.cat x1),st (Lexm.stem x1),st (Lexm.par x1),lro (List.length (Lexm.feats x1)) 2 (List.flatMap featC (Lexm.feats x1))]])):vexec Tryz.prog X call lf 0 noFg (regN (cutF Tryz.f12) 3) (f21c_S1 x1)=some (Ex.normal,stOf 60 [3,4,5,6,7,8,9,10,11,12,13,14,15,16,17,18,19,20,21,22,23,24,25,26,27,28,29,30,31,32,33,34,35,36,37,38,39,40,41,42,43] [(0,AV.agg [st (Lexm.id x1),st (Lexm.cat x1),st (Lexm.stem x1),st (Lexm.par x1),lro (List.length (Lexm.feats x1)) 2 (List.flatMap featC (Lexm.feats x1))]),(1,AV.ref 0 0),(2,st (ByteArray.mk #[])),(44,bo false),(45,AV.ref 0 0),(46,st (Lexm.id x1)),(47,AV.ref 0 1),(48,st (Lexm.cat x1)),(49,AV.ref 0 2),(50,st (Lexm.stem x1)),(51,st x51),(52,AV.ref 0 3),(53,st (Lexm.par x1)),(54,st x54),(55,AV.ref 0 4),(56,lro (List.length (Lexm.feats x1)) 2 (List.flatMap featC (Lexm.feats x1))),(57,st x57)] [Ob.cells [st (Lexm.id x1),st (Lexm.cat x1),st (Lexm.stem x1),st (Lexm.par x1),lro (List.length (Lexm.feats x1)) 2 (List.flatMap featC (Lexm.feats x1))]]) :=
  around_sound (ans:=[(7,Ans.v (st x51)),(10,Ans.v (st x54)),(13,Ans.v (st x57))]) (by kernel_rfl) (ai h0 (ai h1 (ai h2 trivial)))
theorem f21_pttt (x1:Lexm) (X:Ext) (call:Caller) (lf:Nat)
  (h0:callv X call false 15 [st (Lexm.id x1)] [Ob.cells [st (Lexm.id x1),st (Lexm.cat x1),st (Lexm.stem x1),st (Lexm.par x1),lro (List.length (Lexm.feats x1)) 2 (List.flatMap featC (Lexm.feats x1))]] 0=some (bo true,[Ob.cells [st (Lexm.id x1),st (Lexm.cat x1),st (Lexm.stem x1),st (Lexm.par x1),lro (List.length (Lexm.feats x1)) 2 (List.flatMap featC (Lexm.feats x1))]]))
  (h1:callv X call false 15 [st (Lexm.cat x1)] [Ob.cells [st (Lexm.id x1),st (Lexm.cat x1),st (Lexm.stem x1),st (Lexm.par x1),lro (List.length (Lexm.feats x1)) 2 (List.flatMap featC (Lexm.feats x1))]] 0=some (bo true,[Ob.cells [st (Lexm.id x1),st (Lexm.cat x1),st (Lexm.stem x1),st (Lexm.par x1),lro (List.length (Lexm.feats x1)) 2 (List.flatMap featC (Lexm.feats x1))]]))
  (h2:(ByteArray.toList (Lexm.stem x1) == ByteArray.toList (ByteArray.mk #[45]))=true):vbody Tryz.prog X call lf noFg Tryz.f12 (codeOf Tryz.f12) [AV.agg (lexC x1)] [] 0=some (st (ByteArray.mk #[]),[Ob.cells [st (Lexm.id x1),st (Lexm.cat x1),st (Lexm.stem x1),st (Lexm.par x1),lro (List.length (Lexm.feats x1)) 2 (List.flatMap featC (Lexm.feats x1))]]) :=
  along_sound (ans:=[(6,Ans.v (bo true)),(14,Ans.v (bo true)),(24,Ans.b true)]) (by kernel_rfl) (ai h0 (ai h1 (ai h2 trivial)))
theorem f21_pttft (x1:Lexm) (X:Ext) (call:Caller) (lf:Nat)
  (h0:callv X call false 15 [st (Lexm.id x1)] [Ob.cells [st (Lexm.id x1),st (Lexm.cat x1),st (Lexm.stem x1),st (Lexm.par x1),lro (List.length (Lexm.feats x1)) 2 (List.flatMap featC (Lexm.feats x1))]] 0=some (bo true,[Ob.cells [st (Lexm.id x1),st (Lexm.cat x1),st (Lexm.stem x1),st (Lexm.par x1),lro (List.length (Lexm.feats x1)) 2 (List.flatMap featC (Lexm.feats x1))]]))
  (h1:callv X call false 15 [st (Lexm.cat x1)] [Ob.cells [st (Lexm.id x1),st (Lexm.cat x1),st (Lexm.stem x1),st (Lexm.par x1),lro (List.length (Lexm.feats x1)) 2 (List.flatMap featC (Lexm.feats x1))]] 0=some (bo true,[Ob.cells [st (Lexm.id x1),st (Lexm.cat x1),st (Lexm.stem x1),st (Lexm.par x1),lro (List.length (Lexm.feats x1)) 2 (List.flatMap featC (Lexm.feats x1))]]))
  (h2:(ByteArray.toList (Lexm.stem x1) == ByteArray.toList (ByteArray.mk #[45]))=false)
  (h3:callv X call false 30 [st (Lexm.stem x1),st (ByteArray.mk #[32,10])] [Ob.cells [st (Lexm.id x1),st (Lexm.cat x1),st (Lexm.stem x1),st (Lexm.par x1),lro (List.length (Lexm.feats x1)) 2 (List.flatMap featC (Lexm.feats x1))]] 0=some (bo true,[Ob.cells [st (Lexm.id x1),st (Lexm.cat x1),st (Lexm.stem x1),st (Lexm.par x1),lro (List.length (Lexm.feats x1)) 2 (List.flatMap featC (Lexm.feats x1))]])):vbody Tryz.prog X call lf noFg Tryz.f12 (codeOf Tryz.f12) [AV.agg (lexC x1)] [] 0=some (st (ByteArray.mk #[]),[Ob.cells [st (Lexm.id x1),st (Lexm.cat x1),st (Lexm.stem x1),st (Lexm.par x1),lro (List.length (Lexm.feats x1)) 2 (List.flatMap featC (Lexm.feats x1))]]) :=
  along_sound (ans:=[(6,Ans.v (bo true)),(14,Ans.v (bo true)),(24,Ans.b false),(32,Ans.v (bo true))]) (by kernel_rfl) (ai h0 (ai h1 (ai h2 (ai h3 trivial))))
theorem f21_pttfft (x1:Lexm) (X:Ext) (call:Caller) (lf:Nat)
  (h0:callv X call false 15 [st (Lexm.id x1)] [Ob.cells [st (Lexm.id x1),st (Lexm.cat x1),st (Lexm.stem x1),st (Lexm.par x1),lro (List.length (Lexm.feats x1)) 2 (List.flatMap featC (Lexm.feats x1))]] 0=some (bo true,[Ob.cells [st (Lexm.id x1),st (Lexm.cat x1),st (Lexm.stem x1),st (Lexm.par x1),lro (List.length (Lexm.feats x1)) 2 (List.flatMap featC (Lexm.feats x1))]]))
  (h1:callv X call false 15 [st (Lexm.cat x1)] [Ob.cells [st (Lexm.id x1),st (Lexm.cat x1),st (Lexm.stem x1),st (Lexm.par x1),lro (List.length (Lexm.feats x1)) 2 (List.flatMap featC (Lexm.feats x1))]] 0=some (bo true,[Ob.cells [st (Lexm.id x1),st (Lexm.cat x1),st (Lexm.stem x1),st (Lexm.par x1),lro (List.length (Lexm.feats x1)) 2 (List.flatMap featC (Lexm.feats x1))]]))
  (h2:(ByteArray.toList (Lexm.stem x1) == ByteArray.toList (ByteArray.mk #[45]))=false)
  (h3:callv X call false 30 [st (Lexm.stem x1),st (ByteArray.mk #[32,10])] [Ob.cells [st (Lexm.id x1),st (Lexm.cat x1),st (Lexm.stem x1),st (Lexm.par x1),lro (List.length (Lexm.feats x1)) 2 (List.flatMap featC (Lexm.feats x1))]] 0=some (bo false,[Ob.cells [st (Lexm.id x1),st (Lexm.cat x1),st (Lexm.stem x1),st (Lexm.par x1),lro (List.length (Lexm.feats x1)) 2 (List.flatMap featC (Lexm.feats x1))]]))
  (h4:(ByteArray.toList (Lexm.par x1) == ByteArray.toList (ByteArray.mk #[45]))=true):vbody Tryz.prog X call lf noFg Tryz.f12 (codeOf Tryz.f12) [AV.agg (lexC x1)] [] 0=some (st (ByteArray.mk #[]),[Ob.cells [st (Lexm.id x1),st (Lexm.cat x1),st (Lexm.stem x1),st (Lexm.par x1),lro (List.length (Lexm.feats x1)) 2 (List.flatMap featC (Lexm.feats x1))]]) :=
  along_sound (ans:=[(6,Ans.v (bo true)),(14,Ans.v (bo true)),(24,Ans.b false),(32,Ans.v (bo false)),(40,Ans.b true)]) (by kernel_rfl) (ai h0 (ai h1 (ai h2 (ai h3 (ai h4 trivial)))))
theorem f21_pttfffttt (x1:Lexm) (X:Ext) (call:Caller) (lf:Nat) (x51:ByteArray) (x54:ByteArray) (x57:ByteArray) (x59:ByteArray)
  (h0:callv X call false 15 [st (Lexm.id x1)] [Ob.cells [st (Lexm.id x1),st (Lexm.cat x1),st (Lexm.stem x1),st (Lexm.par x1),lro (List.length (Lexm.feats x1)) 2 (List.flatMap featC (Lexm.feats x1))]] 0=some (bo true,[Ob.cells [st (Lexm.id x1),st (Lexm.cat x1),st (Lexm.stem x1),st (Lexm.par x1),lro (List.length (Lexm.feats x1)) 2 (List.flatMap featC (Lexm.feats x1))]]))
  (h1:callv X call false 15 [st (Lexm.cat x1)] [Ob.cells [st (Lexm.id x1),st (Lexm.cat x1),st (Lexm.stem x1),st (Lexm.par x1),lro (List.length (Lexm.feats x1)) 2 (List.flatMap featC (Lexm.feats x1))]] 0=some (bo true,[Ob.cells [st (Lexm.id x1),st (Lexm.cat x1),st (Lexm.stem x1),st (Lexm.par x1),lro (List.length (Lexm.feats x1)) 2 (List.flatMap featC (Lexm.feats x1))]]))
  (h2:(ByteArray.toList (Lexm.stem x1) == ByteArray.toList (ByteArray.mk #[45]))=false)
  (h3:callv X call false 30 [st (Lexm.stem x1),st (ByteArray.mk #[32,10])] [Ob.cells [st (Lexm.id x1),st (Lexm.cat x1),st (Lexm.stem x1),st (Lexm.par x1),lro (List.length (Lexm.feats x1)) 2 (List.flatMap featC (Lexm.feats x1))]] 0=some (bo false,[Ob.cells [st (Lexm.id x1),st (Lexm.cat x1),st (Lexm.stem x1),st (Lexm.par x1),lro (List.length (Lexm.feats x1)) 2 (List.flatMap featC (Lexm.feats x1))]]))
  (h4:(ByteArray.toList (Lexm.par x1) == ByteArray.toList (ByteArray.mk #[45]))=false)
  (h5:(!ByteArray.toList (Lexm.par x1) == ByteArray.toList (ByteArray.mk #[]))=true)
  (h6:callv X call false 15 [st (Lexm.par x1)] [Ob.cells [st (Lexm.id x1),st (Lexm.cat x1),st (Lexm.stem x1),st (Lexm.par x1),lro (List.length (Lexm.feats x1)) 2 (List.flatMap featC (Lexm.feats x1))]] 0=some (bo true,[Ob.cells [st (Lexm.id x1),st (Lexm.cat x1),st (Lexm.stem x1),st (Lexm.par x1),lro (List.length (Lexm.feats x1)) 2 (List.flatMap featC (Lexm.feats x1))]]))
  (h7:callv X call false 17 [lro (List.length (Lexm.feats x1)) 2 (List.flatMap featC (Lexm.feats x1))] [Ob.cells [st (Lexm.id x1),st (Lexm.cat x1),st (Lexm.stem x1),st (Lexm.par x1),lro (List.length (Lexm.feats x1)) 2 (List.flatMap featC (Lexm.feats x1))]] 0=some (bo true,[Ob.cells [st (Lexm.id x1),st (Lexm.cat x1),st (Lexm.stem x1),st (Lexm.par x1),lro (List.length (Lexm.feats x1)) 2 (List.flatMap featC (Lexm.feats x1))]]))
  (h8:callv X call true 32 [st (Lexm.stem x1)] [Ob.cells [st (Lexm.id x1),st (Lexm.cat x1),st (Lexm.stem x1),st (Lexm.par x1),lro (List.length (Lexm.feats x1)) 2 (List.flatMap featC (Lexm.feats x1))]] 0=some (st x51,[Ob.cells [st (Lexm.id x1),st (Lexm.cat x1),st (Lexm.stem x1),st (Lexm.par x1),lro (List.length (Lexm.feats x1)) 2 (List.flatMap featC (Lexm.feats x1))]]))
  (h9:callv X call true 32 [st (Lexm.par x1)] [Ob.cells [st (Lexm.id x1),st (Lexm.cat x1),st (Lexm.stem x1),st (Lexm.par x1),lro (List.length (Lexm.feats x1)) 2 (List.flatMap featC (Lexm.feats x1))]] 0=some (st x54,[Ob.cells [st (Lexm.id x1),st (Lexm.cat x1),st (Lexm.stem x1),st (Lexm.par x1),lro (List.length (Lexm.feats x1)) 2 (List.flatMap featC (Lexm.feats x1))]]))
  (h10:callv X call true 33 [lro (List.length (Lexm.feats x1)) 2 (List.flatMap featC (Lexm.feats x1))] [Ob.cells [st (Lexm.id x1),st (Lexm.cat x1),st (Lexm.stem x1),st (Lexm.par x1),lro (List.length (Lexm.feats x1)) 2 (List.flatMap featC (Lexm.feats x1))]] 0=some (st x57,[Ob.cells [st (Lexm.id x1),st (Lexm.cat x1),st (Lexm.stem x1),st (Lexm.par x1),lro (List.length (Lexm.feats x1)) 2 (List.flatMap featC (Lexm.feats x1))]]))
  (h11:callv X call true 31 [AV.list LK.clip 5 1 [st (Lexm.id x1),st (Lexm.cat x1),st x51,st x54,st x57]] [Ob.cells [st (Lexm.id x1),st (Lexm.cat x1),st (Lexm.stem x1),st (Lexm.par x1),lro (List.length (Lexm.feats x1)) 2 (List.flatMap featC (Lexm.feats x1))]] 0=some (st x59,[Ob.cells [st (Lexm.id x1),st (Lexm.cat x1),st (Lexm.stem x1),st (Lexm.par x1),lro (List.length (Lexm.feats x1)) 2 (List.flatMap featC (Lexm.feats x1))]])):vbody Tryz.prog X call lf noFg Tryz.f12 (codeOf Tryz.f12) [AV.agg (lexC x1)] [] 0=some (st x59,[Ob.cells [st (Lexm.id x1),st (Lexm.cat x1),st (Lexm.stem x1),st (Lexm.par x1),lro (List.length (Lexm.feats x1)) 2 (List.flatMap featC (Lexm.feats x1))]]) :=
  along_sound (ans:=[(6,Ans.v (bo true)),(14,Ans.v (bo true)),(24,Ans.b false),(32,Ans.v (bo false)),(40,Ans.b false),(48,Ans.b true),(56,Ans.v (bo true)),(68,Ans.v (bo true)),(80,Ans.v (st x51)),(83,Ans.v (st x54)),(86,Ans.v (st x57)),(88,Ans.v (st x59))]) (by kernel_rfl) (ai h0 (ai h1 (ai h2 (ai h3 (ai h4 (ai h5 (ai h6 (ai h7 (ai h8 (ai h9 (ai h10 (ai h11 trivial))))))))))))
theorem f21_pttfffttf (x1:Lexm) (X:Ext) (call:Caller) (lf:Nat)
  (h0:callv X call false 15 [st (Lexm.id x1)] [Ob.cells [st (Lexm.id x1),st (Lexm.cat x1),st (Lexm.stem x1),st (Lexm.par x1),lro (List.length (Lexm.feats x1)) 2 (List.flatMap featC (Lexm.feats x1))]] 0=some (bo true,[Ob.cells [st (Lexm.id x1),st (Lexm.cat x1),st (Lexm.stem x1),st (Lexm.par x1),lro (List.length (Lexm.feats x1)) 2 (List.flatMap featC (Lexm.feats x1))]]))
  (h1:callv X call false 15 [st (Lexm.cat x1)] [Ob.cells [st (Lexm.id x1),st (Lexm.cat x1),st (Lexm.stem x1),st (Lexm.par x1),lro (List.length (Lexm.feats x1)) 2 (List.flatMap featC (Lexm.feats x1))]] 0=some (bo true,[Ob.cells [st (Lexm.id x1),st (Lexm.cat x1),st (Lexm.stem x1),st (Lexm.par x1),lro (List.length (Lexm.feats x1)) 2 (List.flatMap featC (Lexm.feats x1))]]))
  (h2:(ByteArray.toList (Lexm.stem x1) == ByteArray.toList (ByteArray.mk #[45]))=false)
  (h3:callv X call false 30 [st (Lexm.stem x1),st (ByteArray.mk #[32,10])] [Ob.cells [st (Lexm.id x1),st (Lexm.cat x1),st (Lexm.stem x1),st (Lexm.par x1),lro (List.length (Lexm.feats x1)) 2 (List.flatMap featC (Lexm.feats x1))]] 0=some (bo false,[Ob.cells [st (Lexm.id x1),st (Lexm.cat x1),st (Lexm.stem x1),st (Lexm.par x1),lro (List.length (Lexm.feats x1)) 2 (List.flatMap featC (Lexm.feats x1))]]))
  (h4:(ByteArray.toList (Lexm.par x1) == ByteArray.toList (ByteArray.mk #[45]))=false)
  (h5:(!ByteArray.toList (Lexm.par x1) == ByteArray.toList (ByteArray.mk #[]))=true)
  (h6:callv X call false 15 [st (Lexm.par x1)] [Ob.cells [st (Lexm.id x1),st (Lexm.cat x1),st (Lexm.stem x1),st (Lexm.par x1),lro (List.length (Lexm.feats x1)) 2 (List.flatMap featC (Lexm.feats x1))]] 0=some (bo true,[Ob.cells [st (Lexm.id x1),st (Lexm.cat x1),st (Lexm.stem x1),st (Lexm.par x1),lro (List.length (Lexm.feats x1)) 2 (List.flatMap featC (Lexm.feats x1))]]))
  (h7:callv X call false 17 [lro (List.length (Lexm.feats x1)) 2 (List.flatMap featC (Lexm.feats x1))] [Ob.cells [st (Lexm.id x1),st (Lexm.cat x1),st (Lexm.stem x1),st (Lexm.par x1),lro (List.length (Lexm.feats x1)) 2 (List.flatMap featC (Lexm.feats x1))]] 0=some (bo false,[Ob.cells [st (Lexm.id x1),st (Lexm.cat x1),st (Lexm.stem x1),st (Lexm.par x1),lro (List.length (Lexm.feats x1)) 2 (List.flatMap featC (Lexm.feats x1))]])):vbody Tryz.prog X call lf noFg Tryz.f12 (codeOf Tryz.f12) [AV.agg (lexC x1)] [] 0=some (st (ByteArray.mk #[]),[Ob.cells [st (Lexm.id x1),st (Lexm.cat x1),st (Lexm.stem x1),st (Lexm.par x1),lro (List.length (Lexm.feats x1)) 2 (List.flatMap featC (Lexm.feats x1))]]) :=
  along_sound (ans:=[(6,Ans.v (bo true)),(14,Ans.v (bo true)),(24,Ans.b false),(32,Ans.v (bo false)),(40,Ans.b false),(48,Ans.b true),(56,Ans.v (bo true)),(68,Ans.v (bo false))]) (by kernel_rfl) (ai h0 (ai h1 (ai h2 (ai h3 (ai h4 (ai h5 (ai h6 (ai h7 trivial))))))))
theorem f21_pttffftf (x1:Lexm) (X:Ext) (call:Caller) (lf:Nat)
  (h0:callv X call false 15 [st (Lexm.id x1)] [Ob.cells [st (Lexm.id x1),st (Lexm.cat x1),st (Lexm.stem x1),st (Lexm.par x1),lro (List.length (Lexm.feats x1)) 2 (List.flatMap featC (Lexm.feats x1))]] 0=some (bo true,[Ob.cells [st (Lexm.id x1),st (Lexm.cat x1),st (Lexm.stem x1),st (Lexm.par x1),lro (List.length (Lexm.feats x1)) 2 (List.flatMap featC (Lexm.feats x1))]]))
  (h1:callv X call false 15 [st (Lexm.cat x1)] [Ob.cells [st (Lexm.id x1),st (Lexm.cat x1),st (Lexm.stem x1),st (Lexm.par x1),lro (List.length (Lexm.feats x1)) 2 (List.flatMap featC (Lexm.feats x1))]] 0=some (bo true,[Ob.cells [st (Lexm.id x1),st (Lexm.cat x1),st (Lexm.stem x1),st (Lexm.par x1),lro (List.length (Lexm.feats x1)) 2 (List.flatMap featC (Lexm.feats x1))]]))
  (h2:(ByteArray.toList (Lexm.stem x1) == ByteArray.toList (ByteArray.mk #[45]))=false)
  (h3:callv X call false 30 [st (Lexm.stem x1),st (ByteArray.mk #[32,10])] [Ob.cells [st (Lexm.id x1),st (Lexm.cat x1),st (Lexm.stem x1),st (Lexm.par x1),lro (List.length (Lexm.feats x1)) 2 (List.flatMap featC (Lexm.feats x1))]] 0=some (bo false,[Ob.cells [st (Lexm.id x1),st (Lexm.cat x1),st (Lexm.stem x1),st (Lexm.par x1),lro (List.length (Lexm.feats x1)) 2 (List.flatMap featC (Lexm.feats x1))]]))
  (h4:(ByteArray.toList (Lexm.par x1) == ByteArray.toList (ByteArray.mk #[45]))=false)
  (h5:(!ByteArray.toList (Lexm.par x1) == ByteArray.toList (ByteArray.mk #[]))=true)
  (h6:callv X call false 15 [st (Lexm.par x1)] [Ob.cells [st (Lexm.id x1),st (Lexm.cat x1),st (Lexm.stem x1),st (Lexm.par x1),lro (List.length (Lexm.feats x1)) 2 (List.flatMap featC (Lexm.feats x1))]] 0=some (bo false,[Ob.cells [st (Lexm.id x1),st (Lexm.cat x1),st (Lexm.stem x1),st (Lexm.par x1),lro (List.length (Lexm.feats x1)) 2 (List.flatMap featC (Lexm.feats x1))]])):vbody Tryz.prog X call lf noFg Tryz.f12 (codeOf Tryz.f12) [AV.agg (lexC x1)] [] 0=some (st (ByteArray.mk #[]),[Ob.cells [st (Lexm.id x1),st (Lexm.cat x1),st (Lexm.stem x1),st (Lexm.par x1),lro (List.length (Lexm.feats x1)) 2 (List.flatMap featC (Lexm.feats x1))]]) :=
  along_sound (ans:=[(6,Ans.v (bo true)),(14,Ans.v (bo true)),(24,Ans.b false),(32,Ans.v (bo false)),(40,Ans.b false),(48,Ans.b true),(56,Ans.v (bo false))]) (by kernel_rfl) (ai h0 (ai h1 (ai h2 (ai h3 (ai h4 (ai h5 (ai h6 trivial)))))))
theorem f21_pttfffft (x1:Lexm) (X:Ext) (call:Caller) (lf:Nat) (x51:ByteArray) (x54:ByteArray) (x57:ByteArray) (x59:ByteArray)
  (h0:callv X call false 15 [st (Lexm.id x1)] [Ob.cells [st (Lexm.id x1),st (Lexm.cat x1),st (Lexm.stem x1),st (Lexm.par x1),lro (List.length (Lexm.feats x1)) 2 (List.flatMap featC (Lexm.feats x1))]] 0=some (bo true,[Ob.cells [st (Lexm.id x1),st (Lexm.cat x1),st (Lexm.stem x1),st (Lexm.par x1),lro (List.length (Lexm.feats x1)) 2 (List.flatMap featC (Lexm.feats x1))]]))
  (h1:callv X call false 15 [st (Lexm.cat x1)] [Ob.cells [st (Lexm.id x1),st (Lexm.cat x1),st (Lexm.stem x1),st (Lexm.par x1),lro (List.length (Lexm.feats x1)) 2 (List.flatMap featC (Lexm.feats x1))]] 0=some (bo true,[Ob.cells [st (Lexm.id x1),st (Lexm.cat x1),st (Lexm.stem x1),st (Lexm.par x1),lro (List.length (Lexm.feats x1)) 2 (List.flatMap featC (Lexm.feats x1))]]))
  (h2:(ByteArray.toList (Lexm.stem x1) == ByteArray.toList (ByteArray.mk #[45]))=false)
  (h3:callv X call false 30 [st (Lexm.stem x1),st (ByteArray.mk #[32,10])] [Ob.cells [st (Lexm.id x1),st (Lexm.cat x1),st (Lexm.stem x1),st (Lexm.par x1),lro (List.length (Lexm.feats x1)) 2 (List.flatMap featC (Lexm.feats x1))]] 0=some (bo false,[Ob.cells [st (Lexm.id x1),st (Lexm.cat x1),st (Lexm.stem x1),st (Lexm.par x1),lro (List.length (Lexm.feats x1)) 2 (List.flatMap featC (Lexm.feats x1))]]))
  (h4:(ByteArray.toList (Lexm.par x1) == ByteArray.toList (ByteArray.mk #[45]))=false)
  (h5:(!ByteArray.toList (Lexm.par x1) == ByteArray.toList (ByteArray.mk #[]))=false)
  (h6:callv X call false 17 [lro (List.length (Lexm.feats x1)) 2 (List.flatMap featC (Lexm.feats x1))] [Ob.cells [st (Lexm.id x1),st (Lexm.cat x1),st (Lexm.stem x1),st (Lexm.par x1),lro (List.length (Lexm.feats x1)) 2 (List.flatMap featC (Lexm.feats x1))]] 0=some (bo true,[Ob.cells [st (Lexm.id x1),st (Lexm.cat x1),st (Lexm.stem x1),st (Lexm.par x1),lro (List.length (Lexm.feats x1)) 2 (List.flatMap featC (Lexm.feats x1))]]))
  (h7:callv X call true 32 [st (Lexm.stem x1)] [Ob.cells [st (Lexm.id x1),st (Lexm.cat x1),st (Lexm.stem x1),st (Lexm.par x1),lro (List.length (Lexm.feats x1)) 2 (List.flatMap featC (Lexm.feats x1))]] 0=some (st x51,[Ob.cells [st (Lexm.id x1),st (Lexm.cat x1),st (Lexm.stem x1),st (Lexm.par x1),lro (List.length (Lexm.feats x1)) 2 (List.flatMap featC (Lexm.feats x1))]]))
  (h8:callv X call true 32 [st (Lexm.par x1)] [Ob.cells [st (Lexm.id x1),st (Lexm.cat x1),st (Lexm.stem x1),st (Lexm.par x1),lro (List.length (Lexm.feats x1)) 2 (List.flatMap featC (Lexm.feats x1))]] 0=some (st x54,[Ob.cells [st (Lexm.id x1),st (Lexm.cat x1),st (Lexm.stem x1),st (Lexm.par x1),lro (List.length (Lexm.feats x1)) 2 (List.flatMap featC (Lexm.feats x1))]]))
  (h9:callv X call true 33 [lro (List.length (Lexm.feats x1)) 2 (List.flatMap featC (Lexm.feats x1))] [Ob.cells [st (Lexm.id x1),st (Lexm.cat x1),st (Lexm.stem x1),st (Lexm.par x1),lro (List.length (Lexm.feats x1)) 2 (List.flatMap featC (Lexm.feats x1))]] 0=some (st x57,[Ob.cells [st (Lexm.id x1),st (Lexm.cat x1),st (Lexm.stem x1),st (Lexm.par x1),lro (List.length (Lexm.feats x1)) 2 (List.flatMap featC (Lexm.feats x1))]]))
  (h10:callv X call true 31 [AV.list LK.clip 5 1 [st (Lexm.id x1),st (Lexm.cat x1),st x51,st x54,st x57]] [Ob.cells [st (Lexm.id x1),st (Lexm.cat x1),st (Lexm.stem x1),st (Lexm.par x1),lro (List.length (Lexm.feats x1)) 2 (List.flatMap featC (Lexm.feats x1))]] 0=some (st x59,[Ob.cells [st (Lexm.id x1),st (Lexm.cat x1),st (Lexm.stem x1),st (Lexm.par x1),lro (List.length (Lexm.feats x1)) 2 (List.flatMap featC (Lexm.feats x1))]])):vbody Tryz.prog X call lf noFg Tryz.f12 (codeOf Tryz.f12) [AV.agg (lexC x1)] [] 0=some (st x59,[Ob.cells [st (Lexm.id x1),st (Lexm.cat x1),st (Lexm.stem x1),st (Lexm.par x1),lro (List.length (Lexm.feats x1)) 2 (List.flatMap featC (Lexm.feats x1))]]) :=
  along_sound (ans:=[(6,Ans.v (bo true)),(14,Ans.v (bo true)),(24,Ans.b false),(32,Ans.v (bo false)),(40,Ans.b false),(48,Ans.b false),(64,Ans.v (bo true)),(76,Ans.v (st x51)),(79,Ans.v (st x54)),(82,Ans.v (st x57)),(84,Ans.v (st x59))]) (by kernel_rfl) (ai h0 (ai h1 (ai h2 (ai h3 (ai h4 (ai h5 (ai h6 (ai h7 (ai h8 (ai h9 (ai h10 trivial)))))))))))
theorem f21_pttfffff (x1:Lexm) (X:Ext) (call:Caller) (lf:Nat)
  (h0:callv X call false 15 [st (Lexm.id x1)] [Ob.cells [st (Lexm.id x1),st (Lexm.cat x1),st (Lexm.stem x1),st (Lexm.par x1),lro (List.length (Lexm.feats x1)) 2 (List.flatMap featC (Lexm.feats x1))]] 0=some (bo true,[Ob.cells [st (Lexm.id x1),st (Lexm.cat x1),st (Lexm.stem x1),st (Lexm.par x1),lro (List.length (Lexm.feats x1)) 2 (List.flatMap featC (Lexm.feats x1))]]))
  (h1:callv X call false 15 [st (Lexm.cat x1)] [Ob.cells [st (Lexm.id x1),st (Lexm.cat x1),st (Lexm.stem x1),st (Lexm.par x1),lro (List.length (Lexm.feats x1)) 2 (List.flatMap featC (Lexm.feats x1))]] 0=some (bo true,[Ob.cells [st (Lexm.id x1),st (Lexm.cat x1),st (Lexm.stem x1),st (Lexm.par x1),lro (List.length (Lexm.feats x1)) 2 (List.flatMap featC (Lexm.feats x1))]]))
  (h2:(ByteArray.toList (Lexm.stem x1) == ByteArray.toList (ByteArray.mk #[45]))=false)
  (h3:callv X call false 30 [st (Lexm.stem x1),st (ByteArray.mk #[32,10])] [Ob.cells [st (Lexm.id x1),st (Lexm.cat x1),st (Lexm.stem x1),st (Lexm.par x1),lro (List.length (Lexm.feats x1)) 2 (List.flatMap featC (Lexm.feats x1))]] 0=some (bo false,[Ob.cells [st (Lexm.id x1),st (Lexm.cat x1),st (Lexm.stem x1),st (Lexm.par x1),lro (List.length (Lexm.feats x1)) 2 (List.flatMap featC (Lexm.feats x1))]]))
  (h4:(ByteArray.toList (Lexm.par x1) == ByteArray.toList (ByteArray.mk #[45]))=false)
  (h5:(!ByteArray.toList (Lexm.par x1) == ByteArray.toList (ByteArray.mk #[]))=false)
  (h6:callv X call false 17 [lro (List.length (Lexm.feats x1)) 2 (List.flatMap featC (Lexm.feats x1))] [Ob.cells [st (Lexm.id x1),st (Lexm.cat x1),st (Lexm.stem x1),st (Lexm.par x1),lro (List.length (Lexm.feats x1)) 2 (List.flatMap featC (Lexm.feats x1))]] 0=some (bo false,[Ob.cells [st (Lexm.id x1),st (Lexm.cat x1),st (Lexm.stem x1),st (Lexm.par x1),lro (List.length (Lexm.feats x1)) 2 (List.flatMap featC (Lexm.feats x1))]])):vbody Tryz.prog X call lf noFg Tryz.f12 (codeOf Tryz.f12) [AV.agg (lexC x1)] [] 0=some (st (ByteArray.mk #[]),[Ob.cells [st (Lexm.id x1),st (Lexm.cat x1),st (Lexm.stem x1),st (Lexm.par x1),lro (List.length (Lexm.feats x1)) 2 (List.flatMap featC (Lexm.feats x1))]]) :=
  along_sound (ans:=[(6,Ans.v (bo true)),(14,Ans.v (bo true)),(24,Ans.b false),(32,Ans.v (bo false)),(40,Ans.b false),(48,Ans.b false),(64,Ans.v (bo false))]) (by kernel_rfl) (ai h0 (ai h1 (ai h2 (ai h3 (ai h4 (ai h5 (ai h6 trivial)))))))
theorem f21_ptf (x1:Lexm) (X:Ext) (call:Caller) (lf:Nat)
  (h0:callv X call false 15 [st (Lexm.id x1)] [Ob.cells [st (Lexm.id x1),st (Lexm.cat x1),st (Lexm.stem x1),st (Lexm.par x1),lro (List.length (Lexm.feats x1)) 2 (List.flatMap featC (Lexm.feats x1))]] 0=some (bo true,[Ob.cells [st (Lexm.id x1),st (Lexm.cat x1),st (Lexm.stem x1),st (Lexm.par x1),lro (List.length (Lexm.feats x1)) 2 (List.flatMap featC (Lexm.feats x1))]]))
  (h1:callv X call false 15 [st (Lexm.cat x1)] [Ob.cells [st (Lexm.id x1),st (Lexm.cat x1),st (Lexm.stem x1),st (Lexm.par x1),lro (List.length (Lexm.feats x1)) 2 (List.flatMap featC (Lexm.feats x1))]] 0=some (bo false,[Ob.cells [st (Lexm.id x1),st (Lexm.cat x1),st (Lexm.stem x1),st (Lexm.par x1),lro (List.length (Lexm.feats x1)) 2 (List.flatMap featC (Lexm.feats x1))]])):vbody Tryz.prog X call lf noFg Tryz.f12 (codeOf Tryz.f12) [AV.agg (lexC x1)] [] 0=some (st (ByteArray.mk #[]),[Ob.cells [st (Lexm.id x1),st (Lexm.cat x1),st (Lexm.stem x1),st (Lexm.par x1),lro (List.length (Lexm.feats x1)) 2 (List.flatMap featC (Lexm.feats x1))]]) :=
  along_sound (ans:=[(6,Ans.v (bo true)),(14,Ans.v (bo false))]) (by kernel_rfl) (ai h0 (ai h1 trivial))
theorem f21_pf (x1:Lexm) (X:Ext) (call:Caller) (lf:Nat)
  (h0:callv X call false 15 [st (Lexm.id x1)] [Ob.cells [st (Lexm.id x1),st (Lexm.cat x1),st (Lexm.stem x1),st (Lexm.par x1),lro (List.length (Lexm.feats x1)) 2 (List.flatMap featC (Lexm.feats x1))]] 0=some (bo false,[Ob.cells [st (Lexm.id x1),st (Lexm.cat x1),st (Lexm.stem x1),st (Lexm.par x1),lro (List.length (Lexm.feats x1)) 2 (List.flatMap featC (Lexm.feats x1))]])):vbody Tryz.prog X call lf noFg Tryz.f12 (codeOf Tryz.f12) [AV.agg (lexC x1)] [] 0=some (st (ByteArray.mk #[]),[Ob.cells [st (Lexm.id x1),st (Lexm.cat x1),st (Lexm.stem x1),st (Lexm.par x1),lro (List.length (Lexm.feats x1)) 2 (List.flatMap featC (Lexm.feats x1))]]) :=
  along_sound (ans:=[(6,Ans.v (bo false))]) (by kernel_rfl) (ai h0 trivial)
def f21_q0 (x1:Lexm) (b0:Bool) (b1:Bool) (b2:Bool) (b3:Bool) (b4:Bool) (b5:Bool):Nat :=
  (match b0 with
  | true => (match b1 with
    | true => (match (ByteArray.toList (Lexm.stem x1) == ByteArray.toList (ByteArray.mk #[45])) with
      | true=>0
      | false => (match b2 with
        | true=>0
        | false => (match (ByteArray.toList (Lexm.par x1) == ByteArray.toList (ByteArray.mk #[45])) with
          | true=>0
          | false => (match (!ByteArray.toList (Lexm.par x1) == ByteArray.toList (ByteArray.mk #[])) with
            | true => (match b3 with
              | true => (match b4 with
                | true=>1
                | false=>0)
              | false=>0)
            | false => (match b5 with
              | true=>1
              | false=>0)))))
    | false=>0)
  | false=>0)
theorem f21_P0 (x1:Lexm) (X:Ext) (call:Caller) (lf:Nat) (x51:ByteArray) (x54:ByteArray) (x57:ByteArray) (x59:ByteArray) (b0:Bool) (b1:Bool) (b2:Bool) (b3:Bool) (b4:Bool) (b5:Bool)
  (g0:callv X call false 15 [st (Lexm.id x1)] [Ob.cells [st (Lexm.id x1),st (Lexm.cat x1),st (Lexm.stem x1),st (Lexm.par x1),lro (List.length (Lexm.feats x1)) 2 (List.flatMap featC (Lexm.feats x1))]] 0=some (bo b0,[Ob.cells [st (Lexm.id x1),st (Lexm.cat x1),st (Lexm.stem x1),st (Lexm.par x1),lro (List.length (Lexm.feats x1)) 2 (List.flatMap featC (Lexm.feats x1))]]))
  (g1:b0=true→callv X call false 15 [st (Lexm.cat x1)] [Ob.cells [st (Lexm.id x1),st (Lexm.cat x1),st (Lexm.stem x1),st (Lexm.par x1),lro (List.length (Lexm.feats x1)) 2 (List.flatMap featC (Lexm.feats x1))]] 0=some (bo b1,[Ob.cells [st (Lexm.id x1),st (Lexm.cat x1),st (Lexm.stem x1),st (Lexm.par x1),lro (List.length (Lexm.feats x1)) 2 (List.flatMap featC (Lexm.feats x1))]]))
  (g2:b0=true→b1=true→(ByteArray.toList (Lexm.stem x1) == ByteArray.toList (ByteArray.mk #[45]))=false→callv X call false 30 [st (Lexm.stem x1),st (ByteArray.mk #[32,10])] [Ob.cells [st (Lexm.id x1),st (Lexm.cat x1),st (Lexm.stem x1),st (Lexm.par x1),lro (List.length (Lexm.feats x1)) 2 (List.flatMap featC (Lexm.feats x1))]] 0=some (bo b2,[Ob.cells [st (Lexm.id x1),st (Lexm.cat x1),st (Lexm.stem x1),st (Lexm.par x1),lro (List.length (Lexm.feats x1)) 2 (List.flatMap featC (Lexm.feats x1))]]))
  (g3:b0=true→b1=true→(ByteArray.toList (Lexm.stem x1) == ByteArray.toList (ByteArray.mk #[45]))=false→b2=false→(ByteArray.toList (Lexm.par x1) == ByteArray.toList (ByteArray.mk #[45]))=false→(!ByteArray.toList (Lexm.par x1) == ByteArray.toList (ByteArray.mk #[]))=true→callv X call false 15 [st (Lexm.par x1)] [Ob.cells [st (Lexm.id x1),st (Lexm.cat x1),st (Lexm.stem x1),st (Lexm.par x1),lro (List.length (Lexm.feats x1)) 2 (List.flatMap featC (Lexm.feats x1))]] 0=some (bo b3,[Ob.cells [st (Lexm.id x1),st (Lexm.cat x1),st (Lexm.stem x1),st (Lexm.par x1),lro (List.length (Lexm.feats x1)) 2 (List.flatMap featC (Lexm.feats x1))]]))
  (g4:b0=true→b1=true→(ByteArray.toList (Lexm.stem x1) == ByteArray.toList (ByteArray.mk #[45]))=false→b2=false→(ByteArray.toList (Lexm.par x1) == ByteArray.toList (ByteArray.mk #[45]))=false→(!ByteArray.toList (Lexm.par x1) == ByteArray.toList (ByteArray.mk #[]))=true→b3=true→callv X call false 17 [lro (List.length (Lexm.feats x1)) 2 (List.flatMap featC (Lexm.feats x1))] [Ob.cells [st (Lexm.id x1),st (Lexm.cat x1),st (Lexm.stem x1),st (Lexm.par x1),lro (List.length (Lexm.feats x1)) 2 (List.flatMap featC (Lexm.feats x1))]] 0=some (bo b4,[Ob.cells [st (Lexm.id x1),st (Lexm.cat x1),st (Lexm.stem x1),st (Lexm.par x1),lro (List.length (Lexm.feats x1)) 2 (List.flatMap featC (Lexm.feats x1))]]))
  (g5:b0=true→b1=true→(ByteArray.toList (Lexm.stem x1) == ByteArray.toList (ByteArray.mk #[45]))=false→b2=false→(ByteArray.toList (Lexm.par x1) == ByteArray.toList (ByteArray.mk #[45]))=false→(!ByteArray.toList (Lexm.par x1) == ByteArray.toList (ByteArray.mk #[]))=true→b3=true→b4=true→callv X call true 32 [st (Lexm.stem x1)] [Ob.cells [st (Lexm.id x1),st (Lexm.cat x1),st (Lexm.stem x1),st (Lexm.par x1),lro (List.length (Lexm.feats x1)) 2 (List.flatMap featC (Lexm.feats x1))]] 0=some (st x51,[Ob.cells [st (Lexm.id x1),st (Lexm.cat x1),st (Lexm.stem x1),st (Lexm.par x1),lro (List.length (Lexm.feats x1)) 2 (List.flatMap featC (Lexm.feats x1))]]))
  (g6:b0=true→b1=true→(ByteArray.toList (Lexm.stem x1) == ByteArray.toList (ByteArray.mk #[45]))=false→b2=false→(ByteArray.toList (Lexm.par x1) == ByteArray.toList (ByteArray.mk #[45]))=false→(!ByteArray.toList (Lexm.par x1) == ByteArray.toList (ByteArray.mk #[]))=true→b3=true→b4=true→callv X call true 32 [st (Lexm.par x1)] [Ob.cells [st (Lexm.id x1),st (Lexm.cat x1),st (Lexm.stem x1),st (Lexm.par x1),lro (List.length (Lexm.feats x1)) 2 (List.flatMap featC (Lexm.feats x1))]] 0=some (st x54,[Ob.cells [st (Lexm.id x1),st (Lexm.cat x1),st (Lexm.stem x1),st (Lexm.par x1),lro (List.length (Lexm.feats x1)) 2 (List.flatMap featC (Lexm.feats x1))]]))
  (g7:b0=true→b1=true→(ByteArray.toList (Lexm.stem x1) == ByteArray.toList (ByteArray.mk #[45]))=false→b2=false→(ByteArray.toList (Lexm.par x1) == ByteArray.toList (ByteArray.mk #[45]))=false→(!ByteArray.toList (Lexm.par x1) == ByteArray.toList (ByteArray.mk #[]))=true→b3=true→b4=true→callv X call true 33 [lro (List.length (Lexm.feats x1)) 2 (List.flatMap featC (Lexm.feats x1))] [Ob.cells [st (Lexm.id x1),st (Lexm.cat x1),st (Lexm.stem x1),st (Lexm.par x1),lro (List.length (Lexm.feats x1)) 2 (List.flatMap featC (Lexm.feats x1))]] 0=some (st x57,[Ob.cells [st (Lexm.id x1),st (Lexm.cat x1),st (Lexm.stem x1),st (Lexm.par x1),lro (List.length (Lexm.feats x1)) 2 (List.flatMap featC (Lexm.feats x1))]]))
  (g8:b0=true→b1=true→(ByteArray.toList (Lexm.stem x1) == ByteArray.toList (ByteArray.mk #[45]))=false→b2=false→(ByteArray.toList (Lexm.par x1) == ByteArray.toList (ByteArray.mk #[45]))=false→(!ByteArray.toList (Lexm.par x1) == ByteArray.toList (ByteArray.mk #[]))=true→b3=true→b4=true→callv X call true 31 [AV.list LK.clip 5 1 [st (Lexm.id x1),st (Lexm.cat x1),st x51,st x54,st x57]] [Ob.cells [st (Lexm.id x1),st (Lexm.cat x1),st (Lexm.stem x1),st (Lexm.par x1),lro (List.length (Lexm.feats x1)) 2 (List.flatMap featC (Lexm.feats x1))]] 0=some (st x59,[Ob.cells [st (Lexm.id x1),st (Lexm.cat x1),st (Lexm.stem x1),st (Lexm.par x1),lro (List.length (Lexm.feats x1)) 2 (List.flatMap featC (Lexm.feats x1))]]))
  (g9:b0=true→b1=true→(ByteArray.toList (Lexm.stem x1) == ByteArray.toList (ByteArray.mk #[45]))=false→b2=false→(ByteArray.toList (Lexm.par x1) == ByteArray.toList (ByteArray.mk #[45]))=false→(!ByteArray.toList (Lexm.par x1) == ByteArray.toList (ByteArray.mk #[]))=false→callv X call false 17 [lro (List.length (Lexm.feats x1)) 2 (List.flatMap featC (Lexm.feats x1))] [Ob.cells [st (Lexm.id x1),st (Lexm.cat x1),st (Lexm.stem x1),st (Lexm.par x1),lro (List.length (Lexm.feats x1)) 2 (List.flatMap featC (Lexm.feats x1))]] 0=some (bo b5,[Ob.cells [st (Lexm.id x1),st (Lexm.cat x1),st (Lexm.stem x1),st (Lexm.par x1),lro (List.length (Lexm.feats x1)) 2 (List.flatMap featC (Lexm.feats x1))]]))
  (g10:b0=true→b1=true→(ByteArray.toList (Lexm.stem x1) == ByteArray.toList (ByteArray.mk #[45]))=false→b2=false→(ByteArray.toList (Lexm.par x1) == ByteArray.toList (ByteArray.mk #[45]))=false→(!ByteArray.toList (Lexm.par x1) == ByteArray.toList (ByteArray.mk #[]))=false→b5=true→callv X call true 32 [st (Lexm.stem x1)] [Ob.cells [st (Lexm.id x1),st (Lexm.cat x1),st (Lexm.stem x1),st (Lexm.par x1),lro (List.length (Lexm.feats x1)) 2 (List.flatMap featC (Lexm.feats x1))]] 0=some (st x51,[Ob.cells [st (Lexm.id x1),st (Lexm.cat x1),st (Lexm.stem x1),st (Lexm.par x1),lro (List.length (Lexm.feats x1)) 2 (List.flatMap featC (Lexm.feats x1))]]))
  (g11:b0=true→b1=true→(ByteArray.toList (Lexm.stem x1) == ByteArray.toList (ByteArray.mk #[45]))=false→b2=false→(ByteArray.toList (Lexm.par x1) == ByteArray.toList (ByteArray.mk #[45]))=false→(!ByteArray.toList (Lexm.par x1) == ByteArray.toList (ByteArray.mk #[]))=false→b5=true→callv X call true 32 [st (Lexm.par x1)] [Ob.cells [st (Lexm.id x1),st (Lexm.cat x1),st (Lexm.stem x1),st (Lexm.par x1),lro (List.length (Lexm.feats x1)) 2 (List.flatMap featC (Lexm.feats x1))]] 0=some (st x54,[Ob.cells [st (Lexm.id x1),st (Lexm.cat x1),st (Lexm.stem x1),st (Lexm.par x1),lro (List.length (Lexm.feats x1)) 2 (List.flatMap featC (Lexm.feats x1))]]))
  (g12:b0=true→b1=true→(ByteArray.toList (Lexm.stem x1) == ByteArray.toList (ByteArray.mk #[45]))=false→b2=false→(ByteArray.toList (Lexm.par x1) == ByteArray.toList (ByteArray.mk #[45]))=false→(!ByteArray.toList (Lexm.par x1) == ByteArray.toList (ByteArray.mk #[]))=false→b5=true→callv X call true 33 [lro (List.length (Lexm.feats x1)) 2 (List.flatMap featC (Lexm.feats x1))] [Ob.cells [st (Lexm.id x1),st (Lexm.cat x1),st (Lexm.stem x1),st (Lexm.par x1),lro (List.length (Lexm.feats x1)) 2 (List.flatMap featC (Lexm.feats x1))]] 0=some (st x57,[Ob.cells [st (Lexm.id x1),st (Lexm.cat x1),st (Lexm.stem x1),st (Lexm.par x1),lro (List.length (Lexm.feats x1)) 2 (List.flatMap featC (Lexm.feats x1))]]))
  (g13 : b0 = true → b1 = true → (ByteArray.toList (Lexm.stem x1) == ByteArray.toList (ByteArray.mk #[45])) = false → b2 = false → (ByteArray.toList (Lexm.par x1) == ByteArray.toList (ByteArray.mk #[45])) = false → (!ByteArray.toList (Lexm.par x1) == ByteArray.toList (ByteArray.mk #[])) = false → b5 = true → callv X call true 31 [AV.list LK.clip 5 1 [st (Lexm.id x1), st (Lexm.cat x1), st x51, st x54, st x57]] [Ob.cells [st (Lexm.id x1), st (Lexm.cat x1), st (Lexm.stem x1), st (Lexm.par x1), lro (List.length (Lexm.feats x1)) 2 (List.flatMap featC (Lexm.feats x1))]] 0 = some (st x59, [Ob.cells [st (Lexm.id x1), st (Lexm.cat x1), st (Lexm.stem x1), st (Lexm.par x1), lro (List.length (Lexm.feats x1)) 2 (List.flatMap featC (Lexm.feats x1))]])) :
    (f21_q0 x1 b0 b1 b2 b3 b4 b5=0→vbody Tryz.prog X call lf noFg Tryz.f12 (codeOf Tryz.f12) [AV.agg (lexC x1)] [] 0=some (st (ByteArray.mk #[]),[Ob.cells [st (Lexm.id x1),st (Lexm.cat x1),st (Lexm.stem x1),st (Lexm.par x1),lro (List.length (Lexm.feats x1)) 2 (List.flatMap featC (Lexm.feats x1))]]))∧(f21_q0 x1 b0 b1 b2 b3 b4 b5=1→vbody Tryz.prog X call lf noFg Tryz.f12 (codeOf Tryz.f12) [AV.agg (lexC x1)] [] 0=some (st x59,[Ob.cells [st (Lexm.id x1),st (Lexm.cat x1),st (Lexm.stem x1),st (Lexm.par x1),lro (List.length (Lexm.feats x1)) 2 (List.flatMap featC (Lexm.feats x1))]])):=by
  unfold f21_q0
  cases c0:b0 with
  | true =>
    cases c1:b1 with
    | true =>
      cases c2:(ByteArray.toList (Lexm.stem x1) == ByteArray.toList (ByteArray.mk #[45])) with
      | true =>
        exact ⟨fun _=>f21_pttt x1 X call lf (by rw [c0] at g0; exact g0) (by have:=(g1 c0); rw [c1] at this; exact this) c2,fun h=>nq h⟩
      | false =>
        cases c3:b2 with
        | true =>
          exact ⟨fun _=>f21_pttft x1 X call lf (by rw [c0] at g0; exact g0) (by have:=(g1 c0); rw [c1] at this; exact this) c2 (by have:=(g2 c0 c1 c2); rw [c3] at this; exact this),fun h=>nq h⟩
        | false =>
          cases c4:(ByteArray.toList (Lexm.par x1) == ByteArray.toList (ByteArray.mk #[45])) with
          | true =>
            exact ⟨fun _=>f21_pttfft x1 X call lf (by rw [c0] at g0; exact g0) (by have:=(g1 c0); rw [c1] at this; exact this) c2 (by have:=(g2 c0 c1 c2); rw [c3] at this; exact this) c4,fun h=>nq h⟩
          | false =>
            cases c5:(!ByteArray.toList (Lexm.par x1) == ByteArray.toList (ByteArray.mk #[])) with
            | true =>
              cases c6:b3 with
              | true =>
                cases c7:b4 with
                | true =>
                  exact ⟨fun h=>nq h,fun _=>f21_pttfffttt x1 X call lf x51 x54 x57 x59 (by rw [c0] at g0; exact g0) (by have:=(g1 c0); rw [c1] at this; exact this) c2 (by have:=(g2 c0 c1 c2); rw [c3] at this; exact this) c4 c5 (by have:=(g3 c0 c1 c2 c3 c4 c5); rw [c6] at this; exact this) (by have:=(g4 c0 c1 c2 c3 c4 c5 c6); rw [c7] at this; exact this) (g5 c0 c1 c2 c3 c4 c5 c6 c7) (g6 c0 c1 c2 c3 c4 c5 c6 c7) (g7 c0 c1 c2 c3 c4 c5 c6 c7) (g8 c0 c1 c2 c3 c4 c5 c6 c7)⟩
                | false =>
                  exact ⟨fun _=>f21_pttfffttf x1 X call lf (by rw [c0] at g0; exact g0) (by have:=(g1 c0); rw [c1] at this; exact this) c2 (by have:=(g2 c0 c1 c2); rw [c3] at this; exact this) c4 c5 (by have:=(g3 c0 c1 c2 c3 c4 c5); rw [c6] at this; exact this) (by have:=(g4 c0 c1 c2 c3 c4 c5 c6); rw [c7] at this; exact this),fun h=>nq h⟩
              | false =>
                exact ⟨fun _=>f21_pttffftf x1 X call lf (by rw [c0] at g0; exact g0) (by have:=(g1 c0); rw [c1] at this; exact this) c2 (by have:=(g2 c0 c1 c2); rw [c3] at this; exact this) c4 c5 (by have:=(g3 c0 c1 c2 c3 c4 c5); rw [c6] at this; exact this),fun h=>nq h⟩
            | false =>
              cases c6:b5 with
              | true =>
                exact ⟨fun h=>nq h,fun _=>f21_pttfffft x1 X call lf x51 x54 x57 x59 (by rw [c0] at g0; exact g0) (by have:=(g1 c0); rw [c1] at this; exact this) c2 (by have:=(g2 c0 c1 c2); rw [c3] at this; exact this) c4 c5 (by have:=(g9 c0 c1 c2 c3 c4 c5); rw [c6] at this; exact this) (g10 c0 c1 c2 c3 c4 c5 c6) (g11 c0 c1 c2 c3 c4 c5 c6) (g12 c0 c1 c2 c3 c4 c5 c6) (g13 c0 c1 c2 c3 c4 c5 c6)⟩
              | false =>
                exact ⟨fun _=>f21_pttfffff x1 X call lf (by rw [c0] at g0; exact g0) (by have:=(g1 c0); rw [c1] at this; exact this) c2 (by have:=(g2 c0 c1 c2); rw [c3] at this; exact this) c4 c5 (by have:=(g9 c0 c1 c2 c3 c4 c5); rw [c6] at this; exact this),fun h=>nq h⟩
    | false =>
      exact ⟨fun _=>f21_ptf x1 X call lf (by rw [c0] at g0; exact g0) (by have:=(g1 c0); rw [c1] at this; exact this),fun h=>nq h⟩
  | false =>
    exact ⟨fun _=>f21_pf x1 X call lf (by rw [c0] at g0; exact g0),fun h=>nq h⟩
end Go.Proofs.Lex
end
/- Lexicon: Line. -/
section
open Go Go.Vm Go.Proofs
namespace Go.Proofs.Lex
theorem bs5 (a c d e t:ByteArray) (w:World):(Instr.buildSlice 39 5 #[(0,.string a),(1,.string c),(2,.string d),(3,.string e),(4,.string t)]).run Tryz.prog w = .ok (.slice (some ⟨w.heap.size,0,none⟩) 5 5) (w.alloc (.cells #[.string a,.string c,.string d,.string e,.string t] 9)):=by kernel_rfl
theorem tail21_ops:(opsF Tryz.f12 3).toList.drop 13=[opF Tryz.f12 3 13,opF Tryz.f12 3 14,opF Tryz.f12 3 15]:=by kernel_rfl
theorem tail21_13:(opF Tryz.f12 3 13).op = .buildSlice 39 5 #[(0,.tmp 46),(1,.tmp 48),(2,.tmp 51),(3,.tmp 54),(4,.tmp 57)]∧(opF Tryz.f12 3 13).dst=some 58∧(opF Tryz.f12 3 13).guard=none:=⟨by kernel_rfl,by kernel_rfl,by kernel_rfl⟩
theorem tail21_14:(opF Tryz.f12 3 14).op = .call { callee := .value (.func 31),args := #[.tmp 58],argTypes := #[39] }∧(opF Tryz.f12 3 14).dst=some 59∧(opF Tryz.f12 3 14).guard=none:=⟨by kernel_rfl,by kernel_rfl,by kernel_rfl⟩
theorem tail21_15:(opF Tryz.f12 3 15).op = .assign (.tmp 59)∧(opF Tryz.f12 3 15).dst=some 2∧(opF Tryz.f12 3 15).guard=none:=⟨by kernel_rfl,by kernel_rfl,by kernel_rfl⟩
theorem wanted_none {o:Oper} {ops:Array Oper} {ts:Array Value} (h:o.guard=none):Region.wanted o (yielded ops ts)=true:=by simp [Region.wanted,h]
theorem eval_put {a:Act} {d:Nat} {v:Value} (h:d < a.tmps.size):(a.put (some d) v).eval (.tmp d)=v:=by
  simp [Act.put,Act.eval,Array.getD,h]
set_option maxRecDepth 100000 in
theorem tail21 [Fixed] {ops:Array Oper} {Q:Exit→Act→World→Prop} {a1:Act} {w1:World} {a c d e t J:ByteArray} (hsz:a1.tmps.size=60)
    (h46:a1.eval (.tmp 46) = .string a) (h48:a1.eval (.tmp 48) = .string c) (h51:a1.eval (.tmp 51) = .string d) (h54:a1.eval (.tmp 54) = .string e) (h57:a1.eval (.tmp 57) = .string t)
    (hcall:Calls Tryz.prog 31 #[.slice (some ⟨w1.heap.size,0,none⟩) 5 5] (w1.alloc (.cells #[.string a,.string c,.string d,.string e,.string t] 9)) fun x w' => x = .returned (.string J)∧More (w1.alloc (.cells #[.string a,.string c,.string d,.string e,.string t] 9)) w')
    (hQ:∀ w' a',More (w1.alloc (.cells #[.string a,.string c,.string d,.string e,.string t] 9)) w' → a'.defers=a1.defers→a'.tmps.toList=((a1.tmps.toList.set 58 (.slice (some ⟨w1.heap.size,0,none⟩) 5 5)).set 59 (.string J)).set 2 (.string J)→Q .normal a' w') :
    wpList Tryz.prog ops Q ((opsF Tryz.f12 3).toList.drop 13) a1 w1:=by
  rw [tail21_ops]
  simp only [wpList]
  rw [if_pos (wanted_none tail21_13.2.2)]
  left
  refine wp_value (u := .slice (some ⟨w1.heap.size,0,none⟩) 5 5) (w' := w1.alloc (.cells #[.string a,.string c,.string d,.string e,.string t] 9)) ?_ ?_
  · have : (#[((0 : Nat), Operand.tmp 46), (1, .tmp 48), (2, .tmp 51), (3, .tmp 54), (4, .tmp 57)].map fun (x : Nat × Operand) => (x.1, a1.eval x.2)) = #[(0, .string a), (1, .string c), (2, .string d), (3, .string e), (4, .string t)] := by
      simp [h46,h48,h51,h54,h57]
    have hb:=bs5 a c d e t w1
    rw [← this] at hb
    simp only [execOp,tail21_13.1,Sem.run_bind]
    rw [show (Instr.buildSlice 39 5 (#[((0:Nat),Operand.tmp 46),(1,.tmp 48),(2,.tmp 51),(3,.tmp 54),(4,.tmp 57)].map fun x=>match x with | (i,y)=>(i,a1.eval y))).run Tryz.prog w1=_ from hb]
    rfl
  · rw [tail21_13.2.1, if_pos (wanted_none tail21_14.2.2)]
    left
    refine wp_enter (f:=31) (args := #[.slice (some ⟨w1.heap.size,0,none⟩) 5 5]) (w' := w1.alloc (.cells #[.string a,.string c,.string d,.string e,.string t] 9)) ?_ (Calls.mono hcall ?_)
    · have h58 : (a1.put (some 58) (.slice (some ⟨w1.heap.size, 0, none⟩) 5 5)).eval (.tmp 58) = .slice (some ⟨w1.heap.size, 0, none⟩) 5 5 := eval_put (by omega)
      simp only [execOp,tail21_14.1,resolve,Act.eval,Deferred.ofValue,Sem.run_bind,Sem.run_pure,Result.andThen,invoke]
      have:(#[Operand.tmp 58].map (a1.put (some 58) (.slice (some ⟨w1.heap.size,0,none⟩) 5 5)).eval) = #[.slice (some ⟨w1.heap.size,0,none⟩) 5 5]:=by simp [h58]
      simp only [this,Array.append_empty,Array.empty_append]
      exact callFunc_run ⟨_,Tryz.func31,by kernel_rfl,of_decide_eq_false (by kernel_rfl)⟩
    · rintro x w2 ⟨rfl, hm⟩
      refine ⟨_,rfl,?_⟩
      rw [if_pos (wanted_none tail21_15.2.2)]
      left
      rw [tail21_14.2.1]
      refine wp_value (u := .string J) (w' := w2) ?_ ?_
      · have h59 : ((a1.put (some 58) (.slice (some ⟨w1.heap.size, 0, none⟩) 5 5)).put (some 59) (.string J)).eval (.tmp 59) = .string J := eval_put (by simp [Act.put]; omega)
        simp only [execOp,tail21_15.1,h59,Sem.run_pure]
      · rw [tail21_15.2.1]
        refine hQ w2 _ hm ?_ ?_
        · rfl
        · simp [Act.put]
end Go.Proofs.Lex
end
/- Lexicon: Line, told. -/
section
open Go Go.Vm Go.Proofs
namespace Go.Proofs.Lex
def dash:ByteArray:=⟨#[45]⟩
abbrev bn:ByteArray:=⟨#[32,10]⟩
def anyBN (s:ByteArray):Bool:=Lib.containsAny s.data.toList [32,10]
/-- A lexeme that has a line. -/
def lineOk (x:Lexm):Bool:=nameL x.id && (nameL x.cat && (!decide (x.stem=dash) && (!anyBN x.stem && (!decide (x.par=dash) && ((decide (x.par=emp) || nameL x.par) && validF x.feats)))))
def lineParts (x:Lexm):List ByteArray:=partsL x.id x.cat (dashS x.stem) (dashS x.par) (textS x.feats)
def lineS (x:Lexm):ByteArray:=if lineOk x then ⟨(joinB (lineParts x) blank).toArray⟩ else emp
/-- Sizes that a machine bears; ContainsAny is told. -/
structure okLine (x:Lexm):Prop where
  id:okS x.id
  cat:okS x.cat
  par:okS x.par
  feats:okF x.feats
  any:anyFn [st x.stem,st bn]=some (bo (anyBN x.stem))
  text:lineOk x=true→okT x.feats
  line:lineOk x=true→(joinB (lineParts x) blank).length ≤ big
def avB (l:List UInt8):AV := .str ⟨l.toArray⟩
theorem plainS:Plain encStr avB:=⟨fun C w x=>by simp only [Rep,avB],fun C w x u h=>by simpa only [Rep,avB] using h,fun _=>rfl⟩
def leB (x y:List UInt8):Bool:=decide (x ≤ y)
def strsO:List AV→Option (List ByteArray)
  | []=>some []
  | .str s :: l => match strsO l with
    | some r=>some (s::r)
    | none=>none
  | _=>none
theorem strsO_eq:∀ {cs:List AV} {l:List ByteArray},strsO cs=some l→cs=l.map .str
  | [],l,h=>by simp only [strsO,Option.some.injEq] at h; subst h; rfl
  | c :: cs, l, h => by
    unfold strsO at h
    split at h
    · rename_i e; cases e
    · rename_i s l' e
      simp only [List.cons.injEq] at e
      obtain ⟨rfl,rfl⟩:=e
      split at h
      · rename_i r hr
        simp only [Option.some.injEq] at h
        subst h
        rw [strsO_eq hr]
        rfl
      · cases h
    · cases h
def bytsO (cs : List AV) : Option (List (List UInt8)) := match strsO cs with
  | some l=>some (l.map (·.data.toList))
  | none=>none
theorem bytsO_eq (cs:List AV) (l:List (List UInt8)) (h:bytsO cs=some l):cs=l.map avB:=by
  unfold bytsO at h
  split at h
  · rename_i m hm
    simp only [Option.some.injEq] at h
    subst h
    rw [strsO_eq hm,List.map_map]
    apply List.map_congr_left
    intro x _
    simp [avB]
  · cases h
/-- What a context does of the library's functions. -/
structure XM [Fixed] (X:Ext):Prop extends XL X where
  any:X.pureFn 30=some anyFn
  cut:X.pureFn 45=some cutFn
  join:X.pureFn 23=some joinFn
  split:X.pureFn 21=some splitFn
  sort:X.pureFn 34=none∧X.stFn 34=some (sortFn bytsO avB leB)
def lineC (fn:Func):Code := .seq (.region 0 (opsF fn 0) false) (.seq (.seq (.region 1 (opsF fn 1) false) (.cond (.tmp 44) (.seq (.region 2 (opsF fn 2) false) .ret) .skip)) (.seq (.region 3 (opsF fn 3) true) .ret))
theorem body21:Tryz.f12.body=some (lineC Tryz.f12):=by kernel_rfl
theorem reg21_1:regN (cutF Tryz.f12) 1 = .region 1 (opsF Tryz.f12 1) false:=by kernel_rfl
theorem reg21_3:regN (cutF Tryz.f12) 3 = .region 3 ((opsF Tryz.f12 3).extract 0 13) true:=by kernel_rfl
theorem dr21:drOk (opsF Tryz.f12 3)=true:=by kernel_rfl
theorem tl21:tailOk (opsF Tryz.f12 3) 13=true:=by kernel_rfl
theorem sz21:(opsF Tryz.f12 3).size=16:=by kernel_rfl
theorem gd21:((opsF Tryz.f12 3).toList.take 13).all (fun o=>o.guard.isNone)=true:=by kernel_rfl
theorem eff21:effChain [] ((opsF Tryz.f12 3).extract 0 13)=false:=by kernel_rfl
/-- A drawn region, run in the text's order. -/
theorem vexec_pre {P:Program} {X:Ext} {call:Caller} {lf ro id:Nat} {ops:Array Oper} {S S' : St} (he:effChain [] ops=false) (h:vexec P X call lf ro noFg (.region id ops true) S=some (.normal,S')):vops P X call true ro ops ops.toList S=some S' := by
  simp only [vexec,noFg,vreg,tailL,Bool.true_and,he] at h
  cases hv:vops P X call true ro ops ops.toList S with
  | none=>rw [hv] at h; simp at h
  | some S1 =>
    rw [hv] at h
    simpa [fin,Go.Vm.settle,forget,forgetT] using h
section
variable [Fixed] {X:Ext}
theorem emp_of_name {s:ByteArray} (h:nameL s=true):s ≠ emp:=by
  rintro rfl
  unfold nameL at h
  rw [Bool.and_eq_true,emp_iff.2 (show emp.size=0 from rfl)] at h
  cases h.2
theorem dash_ne {s:ByteArray}:dashS s ≠ emp:=by
  unfold dashS
  split
  · intro h
    have:=congrArg ByteArray.size h
    revert this
    decide
  · assumption
theorem u43 (hL:XL X) {s:ByteArray} (h:okS s) (dr:Bool) (σ:List Ob):callv X (callerOf U1) dr 15 [st s] σ 0=some (bo (nameL s),σ):=by
  obtain ⟨a1,a2,a3⟩:=hL.ok 15 rfl
  exact call_on (B:=aB) (T:=U1) (y:=nameL s) (vs:=[aS.enc s]) a1 a2 a3 rfl (s1_at (A:=aS) (B:=aB) (g:=nameL) (ok:=okS) h)
theorem u45 (hL:XL X) {F:List Feat} (h:okF F) (dr:Bool) (σ:List Ob):callv X (callerOf U1) dr 17 [featsV F] σ 0=some (bo (validF F),σ):=by
  obtain ⟨a1,a2,a3⟩:=hL.ok 17 rfl
  exact call_on (B:=aB) (T:=U1) (y:=validF F) (vs:=[aFs.enc F]) a1 a2 a3 (by simp only [AV.ltAll,aFs.lt,Bool.and_self]) (s1_at (A:=aFs) (B:=aB) (g:=validF) (ok:=okF) h)
theorem u47 (hL:XL X) (s:ByteArray) (dr:Bool) (σ:List Ob):callv X (callerOf U1) dr 32 [st s] σ 0=some (st (dashS s),σ):=by
  obtain ⟨a1,a2,a3⟩:=hL.ok 32 rfl
  exact call_on (B:=aS) (T:=U1) (y:=dashS s) (vs:=[aS.enc s]) a1 a2 a3 rfl (s1_at (A:=aS) (B:=aS) (g:=dashS) (ok:=fun _=>True) trivial)
theorem u48 (hL:XL X) {F:List Feat} (h:okT F) (dr:Bool) (σ:List Ob):callv X (callerOf U1) dr 33 [featsV F] σ 0=some (st (textS F),σ):=by
  obtain ⟨a1,a2,a3⟩:=hL.ok 33 rfl
  exact call_on (B:=aS) (T:=U1) (y:=textS F) (vs:=[aFs.enc F]) a1 a2 a3 (by simp only [AV.ltAll,aFs.lt,Bool.and_self]) (s1_at (A:=aFs) (B:=aS) (g:=textS) (ok:=okT) h)
theorem u44 (hM:XM X) {call:Caller} {s:ByteArray} {b:Bool} (h:anyFn [st s,st bn]=some (bo b)) (σ:List Ob):callv X call false 30 [st s,st bn] σ 0=some (bo b,σ) :=
  call_pure hM.any rfl rfl rfl h
/-- Line, where it is not the empty text: its last region. -/
theorem line_tail (hX:ExtOk Tryz.prog X) (hM:XM X) {x:Lexm} (h:okLine x) (hok:lineOk x=true) :
    SR Tryz.prog 0 [] (.region 3 (opsF Tryz.f12 3) true) (f21c_S1 x) fun z T=>z = .normal∧nth T.tmps 2=st ⟨(joinB (lineParts x) blank).toArray⟩∧T.tmps.length=60:=by
  have hC:=callerOf_ok (U1_ok hX hM.toXL)
  intro C w a Q hat hro hQ
  have hg3:=f21c_g3_ x X (callerOf U1) 0 (dashS x.stem) (dashS x.par) (textS x.feats) (u47 hM.toXL _ _ _) (u47 hM.toXL _ _ _) (u48 hM.toXL (h.text hok) _ _)
  rw [reg21_3] at hg3
  have hpre:=vexec_pre eff21 hg3
  rw [Array.toList_extract] at hpre
  generalize hSm:stOf 60 _ _ _=Sm at hpre
  have hpre' : vops Tryz.prog X (callerOf U1) true 0 (opsF Tryz.f12 3) ((opsF Tryz.f12 3).toList.take 13) (f21c_S1 x) = some Sm := by
    rw [vops_alone (ops' := (opsF Tryz.f12 3).extract 0 13) fun o ho=>by simpa using List.all_eq_true.1 gd21 o ho]
    simpa using hpre
  have hms:13 ≤ (opsF Tryz.f12 3).size:=by rw [sz21]; decide
  have main:=draw_tail (P:=Tryz.prog) (C:=C) (w:=w) (a:=a) (Q:=Q) (ds:=[]) (ops:=opsF Tryz.f12 3) (S:=f21c_S1 x) (Sm:=Sm) (id:=3) (m:=13) (ro:=0) hX.mixed hX hC dr21 hms hpre' tl21 hat hro
  refine main fun w1 a1 hat1 hg1 => ?_
  clear main
  have e46:=ev_run hat1.tmps (x := .tmp 46) (v:=st x.id) (by rw [← hSm]; show _=_; kernel_rfl)
  have e48:=ev_run hat1.tmps (x := .tmp 48) (v:=st x.cat) (by rw [← hSm]; show _=_; kernel_rfl)
  have e51:=ev_run hat1.tmps (x := .tmp 51) (v:=st (dashS x.stem)) (by rw [← hSm]; show _=_; kernel_rfl)
  have e54:=ev_run hat1.tmps (x := .tmp 54) (v:=st (dashS x.par)) (by rw [← hSm]; show _=_; kernel_rfl)
  have e57:=ev_run hat1.tmps (x := .tmp 57) (v:=st (textS x.feats)) (by rw [← hSm]; show _=_; kernel_rfl)
  simp only [Rep] at e46 e48 e51 e54 e57
  have hlen:Sm.tmps.length=60:=by rw [← hSm]; show _=_; kernel_rfl
  have hsz : a1.tmps.size = 60 := by
    have:=hat1.tmps.length
    rw [hlen] at this
    simpa using this.symm
  obtain ⟨hs1,hgr1,_⟩:=more_heap hat1.ok 0 (w' := w1.alloc (.cells #[.string x.id,.string x.cat,.string (dashS x.stem),.string (dashS x.par),.string (textS x.feats)] 9)) rfl rfl rfl (by simp) (fun y hy=>heap_alloc_old w1 _ hy)
  have hn : nameL x.id = true ∧ nameL x.cat = true := by
    unfold lineOk at hok
    simp only [Bool.and_eq_true] at hok
    exact ⟨hok.1,hok.2.1⟩
  refine tail21 hsz e46 e48 e51 e54 e57 (join46 hX hM.toXL hs1 (b:=w1.heap.size) (heap_alloc_new w1 _) (emp_of_name hn.1) (emp_of_name hn.2) dash_ne dash_ne (h.line hok)) fun w2 a2 hm hdf ht => ?_
  have hm2:More w1 w2:=⟨hm.os,hm.tape,hm.output,Nat.le_trans (by simp) hm.size,fun y hy=>(hm.blk y (by simp; omega)).trans (heap_alloc_old w1 _ hy)⟩
  obtain ⟨hs2,hgr2,_⟩:=more_heap hat1.ok 0 hm2.os hm2.tape hm2.output hm2.size hm2.blk
  refine hQ .normal ⟨setN (setN (setN Sm.tmps 58 .any) 59 .any) 2 (st ⟨(joinB (lineParts x) blank).toArray⟩),Sm.st⟩ C w2 a2 ⟨rfl,?_,by simp only [setN_length]; exact hlen⟩ ⟨hat1.st,hs2,?_,hdf.trans hat1.defers⟩ (hg1.trans hat1.ok hgr2)
  · simp only [nth_setN, setN_length, hlen]
    rw [if_pos ⟨trivial,by decide⟩]
  · rw [ht]
    exact set_rep2 (set_rep2 (set_rep2 (RepAll.mono hgr2.keeps _ _ hat1.tmps) (by simp only [Rep])) (by simp only [Rep])) (by simp only [Rep]; rfl)
end
end Go.Proofs.Lex
end
/- Lexicon: the context of all walks. -/
section
open Go Go.Vm Go.Proofs
open Go.RowKit (Below)
namespace Go.Proofs.Lex
def okFn (fn : Func) : Bool := fn.name != "runtime.NumGoroutine" && (match fn.body with | some c => codeOk c | none => true)
def okFu (P:Program) (f:FuncId):Bool:=match P.funcs[f]? with | some fn=>okFn fn | none=>true
theorem okF_some {P : Program} {f : FuncId} {fn : Func} (hf : P.funcs[f]? = some fn) (h : okFu P f = true) : ¬ fn.name = "runtime.NumGoroutine" ∧ ∀ c, fn.body = some c → codeOk c = true := by
  unfold okFu at h
  rw [hf] at h
  simp only [okFn,Bool.and_eq_true,bne_iff_ne,ne_eq] at h
  refine ⟨h.1,fun c hc => ?_⟩
  have h2:=h.2
  rw [hc] at h2
  exact h2
def dom09 (f:FuncId):Bool:=Nat.blt 2 f && Nat.blt f 106
theorem dom_all:((List.range 106).all fun f => !dom09 f || okFu Tryz.prog f)=true:=by kernel_rfl
theorem dom_at {f:FuncId} (hd:dom09 f=true):okFu Tryz.prog f=true:=by
  have hlt : f < 106 := by
    unfold dom09 at hd
    rw [Bool.and_eq_true] at hd
    exact Nat.le_of_ble_eq_true hd.2
  obtain ⟨l150,hl150⟩:∃ l,List.range 106=l:=⟨_,rfl⟩
  have hmem:f ∈ l150:=hl150 ▸ List.mem_range.2 hlt
  have hall:=dom_all
  rw [hl150] at hall
  have:=List.all_eq_true.1 hall f hmem
  simpa [hd] using this
/-- The two tables and the bytealg variable, as a world bears them. -/
@[reducible] def tabFix (W:World):Fixed:=⟨fun b X=>(b=0 ∨ b=1 ∨ b=2)∧W.heap[b]? = some X⟩
theorem cell_move {W w:World} (h:∀ b X,(tabFix W).fix b X→w.heap[b]? = some X) {b o:Nat} {v:Value} (hb:b=0 ∨ b=1 ∨ b=2) (hc:W.cell? ⟨b,o,none⟩=some v):w.cell? ⟨b,o,none⟩=some v:=by
  cases hX:W.heap[b]? with
  | none=>simp [World.cell?,hX] at hc
  | some X =>
    have:=h b X ⟨hb,hX⟩
    rw [← hc]
    simp only [World.cell?,hX,this]
theorem tabs_move {W w:World} (hT:Lib.Utf8Tabs 0 1 W) (h:∀ b X,(tabFix W).fix b X→w.heap[b]? = some X):Lib.Utf8Tabs 0 1 w :=
  ⟨fun c hc=>cell_move h (.inl rfl) (hT.1 c hc),fun i hi=>⟨cell_move h (.inr (.inl rfl)) (hT.2 i hi).1,cell_move h (.inr (.inl rfl)) (hT.2 i hi).2⟩⟩
def pure09 [Fixed] (f:FuncId):Option (List AV→Option AV):=if f=37 then some validFn else if f=45 then some cutFn else if f=30 then some anyFn else if f=23 then some joinFn else if f=21 then some splitFn else none
def st09 (f:FuncId):Option (List AV→List Ob→Nat→Option (AV × List Ob)):=if f=34 then some (sortFn bytsO avB leB) else if f=64 then some (bldCheck 76) else if f=48 then some (bldString 5) else none
def X09 [Fixed]:Ext := { pureFn:=pure09,stFn:=st09,adopt:=fun _=>false,dom:=dom09,fg:=fgX }
theorem bodied {f : FuncId} {fn : Func} (hf : Tryz.prog.funcs[f]? = some fn) (h1 : fn.body.isSome = true) (h2 : decide (fn.name = "runtime.NumGoroutine") = false) : Bodied Tryz.prog f := ⟨fn, hf, h1, of_decide_eq_false h2⟩
theorem lays240:Lays.n240 Tryz.prog Tryz.laysJoin_ren := { Tryz.laysJoin with }
theorem lays169:Lays.n169 Tryz.prog Tryz.laysJoin_ren := { Tryz.laysJoin with }
theorem ext09 {W:World} (hT:Lib.Utf8Tabs 0 1 W) {m:Int} (hM:W.cell? ⟨2,0,none⟩=some (.int .i64 m)) : @ExtOk (tabFix W) Tryz.prog (@X09 (tabFix W)):=by
  letI:=tabFix W
  have hTw:∀ (C:Ctx) (w:World),SOk C w→Lib.Utf8Tabs 0 1 w:=fun C w hs=>tabs_move hT fun b X h=>(hs.fx b X h).1
  have hMw:∀ (C:Ctx) (w:World),SOk C w→∃ m,w.cell? ⟨2,0,none⟩=some (.int .i64 m):=fun C w hs=>⟨m,cell_move (fun b X h=>(hs.fx b X h).1) (.inr (.inr rfl)) hM⟩
  refine ⟨by kernel_rfl,?_,?_,?_⟩
  · intro f fn hd hf
    exact okF_some hf (dom_at (by simpa only [X09] using hd))
  · intro f g hg
    simp only [X09,pure09] at hg
    split at hg
    · rename_i e
      subst e
      simp only [Option.some.injEq] at hg
      subst hg
      exact ⟨bodied Tryz.func37 (by kernel_rfl) (by kernel_rfl),pure93 hTw⟩
    split at hg
    · rename_i e
      subst e
      simp only [Option.some.injEq] at hg
      subst hg
      exact ⟨bodied Tryz.func45 (by kernel_rfl) (by kernel_rfl),pure84 hMw⟩
    split at hg
    · rename_i e
      subst e
      simp only [Option.some.injEq] at hg
      subst hg
      exact ⟨bodied Tryz.func30 (by kernel_rfl) (by kernel_rfl),pure44⟩
    split at hg
    · rename_i e
      subst e
      simp only [Option.some.injEq] at hg
      subst hg
      exact ⟨bodied Tryz.func23 (by kernel_rfl) (by kernel_rfl),pure55⟩
    split at hg
    · rename_i e
      subst e
      simp only [Option.some.injEq] at hg
      subst hg
      exact ⟨bodied Tryz.func21 (by kernel_rfl) (by kernel_rfl),pure53 hMw⟩
    · cases hg
  · intro f g hg
    simp only [X09,st09] at hg
    split at hg
    · rename_i e
      subst e
      simp only [Option.some.injEq] at hg
      subst hg
      exact ⟨bodied Tryz.func34 (by kernel_rfl) (by kernel_rfl),sort_st plainS bytsO_eq (fun blk cap zs w h1 h2 h3=>Any.slices_Sort_string Tryz.laysSortS blk 0 cap zs w h1 h2 h3) (fun p cap w=>Any.slices_Sort_string_none Tryz.laysSortS p cap w)⟩
    split at hg
    · rename_i e
      subst e
      simp only [Option.some.injEq] at hg
      subst hg
      exact ⟨bodied Tryz.func64 (by kernel_rfl) (by kernel_rfl),bldCheck_st (fun b w h=>Any.Builder_copyCheck_used lays240 Tryz.joinExtra.toX72 b w h) (fun b w h1 h2 h3=>Any.Builder_copyCheck_fresh lays240 Tryz.joinExtra.toX72 b w h1 h2 h3)⟩
    split at hg
    · rename_i e
      subst e
      simp only [Option.some.injEq] at hg
      subst hg
      exact ⟨bodied Tryz.func48 (by kernel_rfl) (by kernel_rfl),bldString_st (T:=76) (fun b p t w h=>bld_string_nil lays169 Tryz.joinExtra b p t w h) (fun b g cap p t cur l w h0 h1 h2 h3 h4 h5 h6=>bld_string lays169 Tryz.joinExtra b g cap p t cur l w h0 h1 h2 h3 h4 h5 h6)⟩
    · cases hg
theorem xl09 [Fixed]:XL X09:=by
  refine ⟨fun f hf => ?_,fun f h1 h2 => ?_,fun f=>rfl,⟨rfl,rfl⟩,⟨rfl,rfl⟩⟩
  · have hn : f ≠ 37 ∧ f ≠ 45 ∧ f ≠ 30 ∧ f ≠ 23 ∧ f ≠ 21 ∧ f ≠ 34 ∧ f ≠ 64 ∧ f ≠ 48 := by
      refine ⟨?_,?_,?_,?_,?_,?_,?_,?_⟩ <;> (rintro rfl; revert hf; decide)
    obtain ⟨h1,h2,h3,h4,h5,h6,h7,h8⟩:=hn
    refine ⟨?_,?_,rfl⟩
    · simp only [X09,pure09,h1,h2,h3,h4,h5,if_false]
    · simp only [X09,st09,h6,h7,h8,if_false]
  · have h3 : f < 106 := Nat.le_of_ble_eq_true h2
    have h4 : Nat.blt f 106 = true := by
      have:f < 106:=by omega
      simpa using this
    simp only [X09,dom09,h1,h4,Bool.and_self]
theorem xm09 [Fixed]:XM X09:=⟨xl09,rfl,rfl,rfl,rfl,⟨rfl,rfl⟩⟩
end Go.Proofs.Lex
end
/- Lexicon: Line, whole. -/
section
open Go Go.Vm Go.Proofs
namespace Go.Proofs.Lex
def keep21:List Nat:=[3,4,5,6,7,8,9,10,11,12,13,14,15,16,17,18,19,20,21,22,23,24,25,26,27,28,29,30,31,32,33,34,35,36,37,38,39,40,41,42,43]
theorem eqD_iff {s:ByteArray}:(s.toList == (ByteArray.mk #[45]).toList)=decide (s=dash):=by
  by_cases e:s=dash
  · rw [decide_eq_true e]; exact eqB_iff.2 e
  · rw [decide_eq_false e]; exact eqB_ne.2 e
theorem eqE_iff {s:ByteArray}:(s.toList == (ByteArray.mk #[]).toList)=decide (s=emp):=by
  by_cases e:s=emp
  · rw [decide_eq_true e]; exact eqB_iff.2 e
  · rw [decide_eq_false e]; exact eqB_ne.2 e
section
variable [Fixed] {X:Ext}
theorem line_no (hX:ExtOk Tryz.prog X) (hM:XM X) {x:Lexm} (h:okLine x) (hok:lineOk x=false):CallAt Tryz.prog 12 [aL.enc x] [] 0 (aS.enc emp) []:=by
  have hC:=callerOf_ok (U1_ok hX hM.toXL)
  have yes : ∀ {b : Bool}, nameL x.id = true → nameL x.cat = true → (x.stem.toList == (ByteArray.mk #[45]).toList) = false → anyBN x.stem = false → (x.par.toList == (ByteArray.mk #[45]).toList) = false → (!x.par.toList == (ByteArray.mk #[]).toList) = b → (b = true → nameL x.par = true) → validF x.feats = true → False := by
    intro b h1 h2 h3 h4 h5 h6 h7 h8
    have : lineOk x = true := by
      rw [eqD_iff] at h3 h5
      rw [eqE_iff] at h6
      unfold lineOk
      rw [h1,h2,h3,h4,h5,h8]
      cases b with
      | true=>rw [h7 rfl]; simp
      | false =>
        have:decide (x.par=emp)=true:=by simpa using h6
        rw [this]; rfl
    rw [hok] at this
    cases this
  have M := f21_P0 x X (callerOf U1) 0 emp emp emp emp (nameL x.id) (nameL x.cat) (anyBN x.stem) (nameL x.par) (validF x.feats) (validF x.feats)
    (u43 hM.toXL h.id _ _) (fun _=>u43 hM.toXL h.cat _ _) (fun _ _ _=>u44 hM h.any _) (fun _ _ _ _ _ _=>u43 hM.toXL h.par _ _) (fun _ _ _ _ _ _ _=>u45 hM.toXL h.feats _ _)
    (fun h1 h2 h3 h4 h5 h6 h7 h8=>(yes h1 h2 h3 h4 h5 h6 (fun _=>h7) h8).elim) (fun h1 h2 h3 h4 h5 h6 h7 h8=>(yes h1 h2 h3 h4 h5 h6 (fun _=>h7) h8).elim) (fun h1 h2 h3 h4 h5 h6 h7 h8=>(yes h1 h2 h3 h4 h5 h6 (fun _=>h7) h8).elim) (fun h1 h2 h3 h4 h5 h6 h7 h8=>(yes h1 h2 h3 h4 h5 h6 (fun _=>h7) h8).elim)
    (fun _ _ _ _ _ _=>u45 hM.toXL h.feats _ _)
    (fun h1 h2 h3 h4 h5 h6 h8=>(yes h1 h2 h3 h4 h5 h6 (fun e=>by cases e) h8).elim) (fun h1 h2 h3 h4 h5 h6 h8=>(yes h1 h2 h3 h4 h5 h6 (fun e=>by cases e) h8).elim) (fun h1 h2 h3 h4 h5 h6 h8=>(yes h1 h2 h3 h4 h5 h6 (fun e=>by cases e) h8).elim) (fun h1 h2 h3 h4 h5 h6 h8=>(yes h1 h2 h3 h4 h5 h6 (fun e=>by cases e) h8).elim)
  refine run_res (B:=aS) hX hC (hM.dom 12 rfl rfl) Tryz.func12 (by kernel_rfl) (M.1 ?_) (aS.de emp)
  unfold f21_q0
  cases h1:nameL x.id with
  | false=>rfl
  | true =>
    cases h2:nameL x.cat with
    | false=>rfl
    | true =>
      cases h3:(x.stem.toList == (ByteArray.mk #[45]).toList) with
      | true=>rfl
      | false =>
        cases h4:anyBN x.stem with
        | true=>rfl
        | false =>
          cases h5:(x.par.toList == (ByteArray.mk #[45]).toList) with
          | true=>rfl
          | false =>
            cases h6:(!x.par.toList == (ByteArray.mk #[]).toList) with
            | true =>
              cases h7:nameL x.par with
              | false=>rfl
              | true =>
                cases h8:validF x.feats with
                | false=>rfl
                | true=>exact (yes h1 h2 h3 h4 h5 h6 (fun _=>h7) h8).elim
            | false =>
              cases h8:validF x.feats with
              | false=>rfl
              | true=>exact (yes h1 h2 h3 h4 h5 h6 (fun e=>by cases e) h8).elim
theorem r21_0 (x:Lexm) {call:Caller}:vexec Tryz.prog X call 0 0 noFg (.region 0 (opsF Tryz.f12 0) false) { tmps:=[.agg (lexC x)] ++ List.replicate (Tryz.f12.ntmps - 1) .undef,st:=[] }=some (.normal,f21c_S0 x):=by kernel_rfl
theorem f21_vend (x:Lexm) (T:St) (J:ByteArray) (h:nth T.tmps 2=st J):∃ σ',vend Tryz.prog Tryz.f12 [] 0 T=some (st J,σ'):=by
  have hr:resultsv Tryz.prog T Tryz.f12.results.toList=some [nth T.tmps 2]:=by kernel_rfl
  unfold vend
  rw [hr,h]
  exact ⟨T.st,vend1_plain (by simp [AV.ownsAll,AV.owns])⟩
theorem line_yes (hX:ExtOk Tryz.prog X) (hM:XM X) {x:Lexm} (h:okLine x) (hok:lineOk x=true):CallAt Tryz.prog 12 [aL.enc x] [] 0 (aS.enc ⟨(joinB (lineParts x) blank).toArray⟩) []:=by
  have hC:=callerOf_ok (U1_ok hX hM.toXL)
  have hp:=hok
  unfold lineOk at hp
  simp only [Bool.and_eq_true,Bool.not_eq_true',Bool.or_eq_true] at hp
  obtain ⟨h1,h2,h3,h4,h5,h6,h8⟩:=hp
  refine call_rel (B:=aS) (fn:=Tryz.f12) (c:=lineC Tryz.f12) (R:=fun z T=>z = .ret∧nth T.tmps 2=st ⟨(joinB (lineParts x) blank).toArray⟩) Tryz.func12 body21 (of_decide_eq_false (by kernel_rfl)) ?_ (fun z T hz => ?_)
  · refine SR.seq (SR.exec hX hC (lf := 0) (fg := noFg) (by kernel_rfl) (r21_0 x)) (fun T hT => ?_) (fun z T hz hh => absurd hh.1 hz)
    obtain ⟨-,rfl⟩:=hT
    refine SR.seq (R1:=fun z T=>z = .normal∧T=f21c_S1 x) ?_ (fun T hT => ?_) (fun z T hz hh=>absurd hh.1 hz)
    · refine SR.seq (R1 := fun z T => z = .normal ∧ forget keep21 T = f21c_S1 x) ?_ (fun T hT => ?_) (fun z T hz hh => absurd hh.1 hz)
      · rw [← reg21_1]
        have e3:(x.stem.toList == (ByteArray.mk #[45]).toList)=false:=by rw [eqD_iff]; exact h3
        have e5:(x.par.toList == (ByteArray.mk #[45]).toList)=false:=by rw [eqD_iff]; exact h5
        have c0:=u43 (X:=X) hM.toXL h.id false [Ob.cells [st x.id,st x.cat,st x.stem,st x.par,lro x.feats.length 2 (x.feats.flatMap featC)]]
        have c1:=u43 (X:=X) hM.toXL h.cat false [Ob.cells [st x.id,st x.cat,st x.stem,st x.par,lro x.feats.length 2 (x.feats.flatMap featC)]]
        have c3:=u44 (call:=callerOf U1) hM h.any [Ob.cells [st x.id,st x.cat,st x.stem,st x.par,lro x.feats.length 2 (x.feats.flatMap featC)]]
        have c6:=u45 (X:=X) hM.toXL h.feats false [Ob.cells [st x.id,st x.cat,st x.stem,st x.par,lro x.feats.length 2 (x.feats.flatMap featC)]]
        rw [h1] at c0
        rw [h2] at c1
        rw [h4] at c3
        rw [h8] at c6
        cases h7:(!x.par.toList == (ByteArray.mk #[]).toList) with
        | true =>
          have hn : nameL x.par = true := by
            rcases h6 with h6 | h6
            · rw [eqE_iff,h6] at h7; cases h7
            · exact h6
          have c5:=u43 (X:=X) hM.toXL h.par false [Ob.cells [st x.id,st x.cat,st x.stem,st x.par,lro x.feats.length 2 (x.feats.flatMap featC)]]
          rw [hn] at c5
          refine (SR.exec hX hC (lf:=0) (fg:=noFg) (by rw [reg21_1]; kernel_rfl) (f21c_g1_fft x X (callerOf U1) 0 c0 c1 e3 c3 e5 h7 c5 c6)).mono ?_
          rintro z T ⟨rfl,rfl⟩
          exact ⟨rfl,by show _=_; kernel_rfl⟩
        | false =>
          refine (SR.exec hX hC (lf:=0) (fg:=noFg) (by rw [reg21_1]; kernel_rfl) (f21c_g1_fff x X (callerOf U1) 0 c0 c1 e3 c3 e5 h7 c6)).mono ?_
          rintro z T ⟨rfl,rfl⟩
          exact ⟨rfl,by show _=_; kernel_rfl⟩
      · obtain ⟨-, hf⟩ := hT
        refine SR.forget keep21 ?_
        rw [hf]
        refine SR.cond (b:=false) (by show _=_; kernel_rfl) ?_
        exact SR.skip ⟨rfl,rfl⟩
    · obtain ⟨-, rfl⟩ := hT
      refine SR.seq (line_tail hX hM h hok) (fun T hT => ?_) (fun z T hz hh=>absurd hh.1 hz)
      exact SR.ret ⟨rfl,hT.2.1⟩
  · obtain ⟨rfl, hz⟩ := hz
    obtain ⟨σ',hv⟩:=f21_vend x T _ hz
    exact ⟨.inr rfl,_,σ',hv,aS.de _⟩
/-- lexicon.Line. -/
theorem call21 (hX:ExtOk Tryz.prog X) (hM:XM X) {x:Lexm} (h:okLine x):CallAt Tryz.prog 12 [aL.enc x] [] 0 (aS.enc (lineS x)) []:=by
  unfold lineS
  cases hok:lineOk x with
  | true=>exact line_yes hX hM h hok
  | false=>exact line_no hX hM h hok
end
end Go.Proofs.Lex
end
/- Lexicon: feature.Parse (printed) -/
section
open Go Go.Vm Go.Proofs
namespace Go.Proofs.Lex
theorem f54_pt (s0:ByteArray) (X:Ext) (call:Caller) (lf:Nat)
  (h0:(ByteArray.toList s0 == ByteArray.toList (ByteArray.mk #[]))=true):vbody Tryz.prog X call lf noFg Tryz.f22 (codeOf Tryz.f22) [st s0] [] 0=some (AV.tup [AV.list LK.nil 0 0 [],i6 0],[]) :=
  along_sound (ans:=[(5,Ans.b true)]) (by kernel_rfl) (ai h0 trivial)
def f54_F0 (s0:ByteArray) (l13:List ByteArray) (S0:Nat→List Ob) (o4:Nat→AV) (i0:Nat):St :=
  stOf 43 [2,3,6,7,8,9,16,17,18,19,20,21,22,23,24,25,26,27,28,29,30,31,32,33,34,35,36,37,38] [(0,st s0),(4,o4 i0),(10,st s0),(11,bo false),(12,st s0),(13,lro (List.length l13) 1 (List.map st l13)),(14,i6 (↑(List.length l13):Int)),(15,i6 (↑i0:Int))] (S0 i0)
def f54_S0 (s0:ByteArray) (l13:List ByteArray):St :=
  stOf 43 [] [(0,st s0),(2,AV.list LK.nil 0 0 []),(3,i6 0),(4,AV.list LK.nil 0 0 []),(10,st s0),(11,bo false),(12,st s0),(13,lro (List.length l13) 1 (List.map st l13)),(14,i6 (↑(List.length l13):Int)),(15,i6 0)] []
abbrev f54_D0:List Nat:=[38,37,36,35,34,33,32,3,2,31,30,29,28,27,26,25,9,8,7,24,23,22,19,21,20,6,18,17,16]
theorem f54_L0 (s0:ByteArray) (l13:List ByteArray) (S0:Nat→List Ob) (o4:Nat→AV) (X:Ext) (call:Caller) (lf:Nat) (n:Nat) (x:Ex) (S' : St)
  (e0:o4 0=AV.list LK.nil 0 0 [])
  (e1:S0 0=[])
  (hn:n < lf)
  (hs:∀ j,j < n→∃ S1,vexec Tryz.prog X call lf 0 noFg (loopN Tryz.f22 0) (f54_F0 s0 l13 S0 o4 j)=some (Ex.normal,S1)∧forget f54_D0 S1=(f54_F0 s0 l13 S0 o4 (j + 1)))
  (he:vexec Tryz.prog X call lf 0 noFg (loopN Tryz.f22 0) (f54_F0 s0 l13 S0 o4 n)=some (x,S'))
  (hx:x ≠ Ex.normal):vexec Tryz.prog X call lf 0 noFg (Go.Code.loop (loopN Tryz.f22 0)) (f54_S0 s0 l13)=some (x,S') :=
  loop_runK (by kernel_rfl) (fun j=>(f54_F0 s0 l13 S0 o4 j)) n hn (by show forget f54_D0 (f54_S0 s0 l13)=(f54_F0 s0 l13 S0 o4 0); unfold f54_F0; rw [e0,e1]; show _=_; kernel_rfl) hs he hx
def f54_S1 (s0:ByteArray) (l13:List ByteArray) (S0:Nat→List Ob) (o4:Nat→AV) (i0:Nat) (x17_0:ByteArray) (r17:List AV) (x21_0:ByteArray) (x21_1:ByteArray) (b21_2:Bool) (n29:Int):St :=
  stOf 43 [32,33,34,35,36,37,38] [(0,st s0),(2,AV.list LK.nil 0 0 []),(3,i6 3),(4,o4 i0),(6,st x17_0),(7,st x21_0),(8,st x21_1),(9,bo true),(10,st s0),(11,bo false),(12,st s0),(13,lro (List.length l13) 1 (List.map st l13)),(14,i6 (↑(List.length l13):Int)),(15,i6 (↑i0:Int)),(16,bo true),(17,AV.eaddr (st x17_0::r17)),(18,st x17_0),(19,AV.tup [st x21_0,st x21_1,bo b21_2]),(20,st x17_0),(21,AV.tup [st x21_0,st x21_1,bo b21_2]),(22,st x21_0),(23,st x21_1),(24,bo true),(25,bo true),(26,bo false),(27,bo false),(28,o4 i0),(29,i6 n29),(30,bo true),(31,bo true)] (S0 i0)
theorem f54_r0_ttt (s0:ByteArray) (X:Ext) (call:Caller) (lf:Nat) (l13:List ByteArray) (S0:Nat→List Ob) (o4:Nat→AV) (i0:Nat) (x17_0:ByteArray) (r17:List AV) (x21_0:ByteArray) (x21_1:ByteArray) (b21_2:Bool) (n29:Int)
  (h0:decide ((↑i0:Int) < (↑(List.length l13):Int))=true)
  (h1:keep (S0 i0) (indexAddrv Tryz.prog 39 (S0 i0) (lro (List.length l13) 1 (List.map st l13)) (i6 (↑i0:Int)))=some (AV.eaddr (st x17_0::r17),S0 i0))
  (h2:callv X call false 45 [st x17_0,st (ByteArray.mk #[61])] (S0 i0) 0=some (AV.tup [st x21_0,st x21_1,bo b21_2],S0 i0))
  (h3:b21_2=true)
  (h4:keep (S0 i0) (lenv Tryz.prog 29 (S0 i0) (o4 i0))=some (i6 n29,S0 i0))
  (h5:(n29 == 8)=true):vexec Tryz.prog X call lf 0 noFg (loopN Tryz.f22 0) (f54_F0 s0 l13 S0 o4 i0)=some (Ex.ret,(f54_S1 s0 l13 S0 o4 i0 x17_0 r17 x21_0 x21_1 b21_2 n29)) :=
  around_sound (ans:=[(1,Ans.b true),(4,Ans.v (AV.eaddr (st x17_0::r17))),(9,Ans.v (AV.tup [st x21_0,st x21_1,bo b21_2])),(13,Ans.b true),(24,Ans.v (i6 n29)),(26,Ans.b true)]) (by kernel_rfl) (ai h0 (ai h1 (ai h2 (ai h3 (ai h4 (ai h5 trivial))))))
theorem f54_pflttt (s0:ByteArray) (X:Ext) (call:Caller) (lf:Nat) (l13:List ByteArray) (S0:Nat→List Ob) (o4:Nat→AV) (i0:Nat) (x17_0:ByteArray) (r17:List AV) (x21_0:ByteArray) (x21_1:ByteArray) (b21_2:Bool) (n29:Int)
  (h0:(ByteArray.toList s0 == ByteArray.toList (ByteArray.mk #[]))=false)
  (h1:callv X call false 21 [st s0,st (ByteArray.mk #[32])] [] 0=some (lro (List.length l13) 1 (List.map st l13),[]))
  (h2:vexec Tryz.prog X call lf 0 noFg (Code.loop (loopN Tryz.f22 0)) (f54_S0 s0 l13)=some (Ex.ret,(f54_S1 s0 l13 S0 o4 i0 x17_0 r17 x21_0 x21_1 b21_2 n29))):vbody Tryz.prog X call lf noFg Tryz.f22 (codeOf Tryz.f22) [st s0] [] 0=some (AV.tup [AV.list LK.nil 0 0 [],i6 3],S0 i0) :=
  along_sound (ans:=[(5,Ans.b false),(11,Ans.v (lro (List.length l13) 1 (List.map st l13))),(14,Ans.l Ex.ret (f54_S1 s0 l13 S0 o4 i0 x17_0 r17 x21_0 x21_1 b21_2 n29))]) (by kernel_rfl) (ai h0 (ai h1 (ai h2 trivial)))
theorem f54_s0_ttf (s0:ByteArray) (X:Ext) (call:Caller) (lf:Nat) (l13:List ByteArray) (S0:Nat→List Ob) (o4:Nat→AV) (i0:Nat) (x17_0:ByteArray) (r17:List AV) (x21_0:ByteArray) (x21_1:ByteArray) (b21_2:Bool) (n29:Int) (v37:AV) (s37:List Ob)
  (h0:decide ((↑i0:Int) < (↑(List.length l13):Int))=true)
  (h1:keep (S0 i0) (indexAddrv Tryz.prog 39 (S0 i0) (lro (List.length l13) 1 (List.map st l13)) (i6 (↑i0:Int)))=some (AV.eaddr (st x17_0::r17),S0 i0))
  (h2:callv X call false 45 [st x17_0,st (ByteArray.mk #[61])] (S0 i0) 0=some (AV.tup [st x21_0,st x21_1,bo b21_2],S0 i0))
  (h3:b21_2=true)
  (h4:keep (S0 i0) (lenv Tryz.prog 29 (S0 i0) (o4 i0))=some (i6 n29,S0 i0))
  (h5:(n29 == 8)=false)
  (h6:appendv Tryz.prog 29 (S0 i0) 0 (o4 i0) (AV.list LK.clip 1 2 [st x21_0,st x21_1])=some (v37,s37))
  (e0:o4 (i0 + 1)=v37)
  (e1:(↑(i0 + 1):Int)=w6 ((↑i0:Int) + 1))
  (e2:S0 (i0 + 1)=s37):∃ S1,vexec Tryz.prog X call lf 0 noFg (loopN Tryz.f22 0) (f54_F0 s0 l13 S0 o4 i0)=some (Ex.normal,S1)∧forget f54_D0 S1=(f54_F0 s0 l13 S0 o4 (i0 + 1)) :=
  ⟨stOf 43 [2,3] [(0,st s0),(4,v37),(6,st x17_0),(7,st x21_0),(8,st x21_1),(9,bo true),(10,st s0),(11,bo false),(12,st s0),(13,lro (List.length l13) 1 (List.map st l13)),(14,i6 (↑(List.length l13):Int)),(15,i6 (w6 ((↑i0:Int) + 1))),(16,bo true),(17,AV.eaddr (st x17_0::r17)),(18,st x17_0),(19,AV.tup [st x21_0,st x21_1,bo b21_2]),(20,st x17_0),(21,AV.tup [st x21_0,st x21_1,bo b21_2]),(22,st x21_0),(23,st x21_1),(24,bo true),(25,bo true),(26,bo false),(27,bo false),(28,o4 i0),(29,i6 n29),(30,bo false),(31,bo false),(32,o4 i0),(33,st x21_0),(34,st x21_1),(35,AV.agg [st x21_0,st x21_1]),(36,AV.list LK.clip 1 2 [st x21_0,st x21_1]),(37,v37),(38,i6 (w6 ((↑i0:Int) + 1)))] s37,around_sound (ans:=[(1,Ans.b true),(4,Ans.v (AV.eaddr (st x17_0::r17))),(9,Ans.v (AV.tup [st x21_0,st x21_1,bo b21_2])),(13,Ans.b true),(24,Ans.v (i6 n29)),(26,Ans.b false),(35,Ans.c v37 s37)]) (by kernel_rfl) (ai h0 (ai h1 (ai h2 (ai h3 (ai h4 (ai h5 (ai h6 trivial))))))),by unfold f54_F0; rw [e0,e1,e2]; show _=_; kernel_rfl⟩
def f54_S2 (s0:ByteArray) (l13:List ByteArray) (S0:Nat→List Ob) (o4:Nat→AV) (i0:Nat) (x17_0:ByteArray) (r17:List AV) (x21_0:ByteArray) (x21_1:ByteArray) (b21_2:Bool):St :=
  stOf 43 [32,33,34,35,36,37,38] [(0,st s0),(2,AV.list LK.nil 0 0 []),(3,i6 3),(4,o4 i0),(6,st x17_0),(7,st x21_0),(8,st x21_1),(9,bo false),(10,st s0),(11,bo false),(12,st s0),(13,lro (List.length l13) 1 (List.map st l13)),(14,i6 (↑(List.length l13):Int)),(15,i6 (↑i0:Int)),(16,bo true),(17,AV.eaddr (st x17_0::r17)),(18,st x17_0),(19,AV.tup [st x21_0,st x21_1,bo b21_2]),(20,st x17_0),(21,AV.tup [st x21_0,st x21_1,bo b21_2]),(22,st x21_0),(23,st x21_1),(24,bo false),(25,bo false),(26,bo true),(27,bo true),(31,bo true)] (S0 i0)
theorem f54_r0_tf (s0:ByteArray) (X:Ext) (call:Caller) (lf:Nat) (l13:List ByteArray) (S0:Nat→List Ob) (o4:Nat→AV) (i0:Nat) (x17_0:ByteArray) (r17:List AV) (x21_0:ByteArray) (x21_1:ByteArray) (b21_2:Bool)
  (h0:decide ((↑i0:Int) < (↑(List.length l13):Int))=true)
  (h1:keep (S0 i0) (indexAddrv Tryz.prog 39 (S0 i0) (lro (List.length l13) 1 (List.map st l13)) (i6 (↑i0:Int)))=some (AV.eaddr (st x17_0::r17),S0 i0))
  (h2:callv X call false 45 [st x17_0,st (ByteArray.mk #[61])] (S0 i0) 0=some (AV.tup [st x21_0,st x21_1,bo b21_2],S0 i0))
  (h3:b21_2=false):vexec Tryz.prog X call lf 0 noFg (loopN Tryz.f22 0) (f54_F0 s0 l13 S0 o4 i0)=some (Ex.ret,(f54_S2 s0 l13 S0 o4 i0 x17_0 r17 x21_0 x21_1 b21_2)) :=
  around_sound (ans:=[(1,Ans.b true),(4,Ans.v (AV.eaddr (st x17_0::r17))),(9,Ans.v (AV.tup [st x21_0,st x21_1,bo b21_2])),(13,Ans.b false)]) (by kernel_rfl) (ai h0 (ai h1 (ai h2 (ai h3 trivial))))
theorem f54_pfltf (s0:ByteArray) (X:Ext) (call:Caller) (lf:Nat) (l13:List ByteArray) (S0:Nat→List Ob) (o4:Nat→AV) (i0:Nat) (x17_0:ByteArray) (r17:List AV) (x21_0:ByteArray) (x21_1:ByteArray) (b21_2:Bool)
  (h0:(ByteArray.toList s0 == ByteArray.toList (ByteArray.mk #[]))=false)
  (h1:callv X call false 21 [st s0,st (ByteArray.mk #[32])] [] 0=some (lro (List.length l13) 1 (List.map st l13),[]))
  (h2:vexec Tryz.prog X call lf 0 noFg (Code.loop (loopN Tryz.f22 0)) (f54_S0 s0 l13)=some (Ex.ret,(f54_S2 s0 l13 S0 o4 i0 x17_0 r17 x21_0 x21_1 b21_2))):vbody Tryz.prog X call lf noFg Tryz.f22 (codeOf Tryz.f22) [st s0] [] 0=some (AV.tup [AV.list LK.nil 0 0 [],i6 3],S0 i0) :=
  along_sound (ans:=[(5,Ans.b false),(11,Ans.v (lro (List.length l13) 1 (List.map st l13))),(14,Ans.l Ex.ret (f54_S2 s0 l13 S0 o4 i0 x17_0 r17 x21_0 x21_1 b21_2))]) (by kernel_rfl) (ai h0 (ai h1 (ai h2 trivial)))
def f54_S3 (s0:ByteArray) (l13:List ByteArray) (S0:Nat→List Ob) (o4:Nat→AV) (i0:Nat):St :=
  stOf 43 [2,3,6,7,8,9,17,18,19,20,21,22,23,24,25,26,27,28,29,30,31,32,33,34,35,36,37,38] [(0,st s0),(4,o4 i0),(10,st s0),(11,bo false),(12,st s0),(13,lro (List.length l13) 1 (List.map st l13)),(14,i6 (↑(List.length l13):Int)),(15,i6 (↑i0:Int)),(16,bo false)] (S0 i0)
theorem f54_r0_f (s0:ByteArray) (X:Ext) (call:Caller) (lf:Nat) (l13:List ByteArray) (S0:Nat→List Ob) (o4:Nat→AV) (i0:Nat)
  (h0:decide ((↑i0:Int) < (↑(List.length l13):Int))=false):vexec Tryz.prog X call lf 0 noFg (loopN Tryz.f22 0) (f54_F0 s0 l13 S0 o4 i0)=some (Ex.exit 0,(f54_S3 s0 l13 S0 o4 i0)) :=
  around_sound (ans:=[(1,Ans.b false)]) (by kernel_rfl) (ai h0 trivial)
theorem f54_pflft (s0:ByteArray) (b1:Bool) (T1:List Ob) (X:Ext) (call:Caller) (lf:Nat) (l13:List ByteArray) (S0:Nat→List Ob) (o4:Nat→AV) (i0:Nat)
  (h0:(ByteArray.toList s0 == ByteArray.toList (ByteArray.mk #[]))=false)
  (h1:callv X call false 21 [st s0,st (ByteArray.mk #[32])] [] 0=some (lro (List.length l13) 1 (List.map st l13),[]))
  (h2:vexec Tryz.prog X call lf 0 noFg (Code.loop (loopN Tryz.f22 0)) (f54_S0 s0 l13)=some (Ex.exit 0,(f54_S3 s0 l13 S0 o4 i0)))
  (h3:callv X call false 17 [o4 i0] (S0 i0) 0=some (bo b1,T1))
  (h4:(!b1)=true):vbody Tryz.prog X call lf noFg Tryz.f22 (codeOf Tryz.f22) [st s0] [] 0=some (AV.tup [AV.list LK.nil 0 0 [],i6 3],T1) :=
  along_sound (ans:=[(5,Ans.b false),(11,Ans.v (lro (List.length l13) 1 (List.map st l13))),(14,Ans.l (Ex.exit 0) (f54_S3 s0 l13 S0 o4 i0)),(17,Ans.c (bo b1) T1),(18,Ans.b true)]) (by kernel_rfl) (ai h0 (ai h1 (ai h2 (ai h3 (ai h4 trivial)))))
theorem f54_pflff (s0:ByteArray) (b1:Bool) (T1:List Ob) (X:Ext) (call:Caller) (lf:Nat) (l13:List ByteArray) (S0:Nat→List Ob) (o4:Nat→AV) (i0:Nat) (rE:AV) (sE:List Ob)
  (h0:(ByteArray.toList s0 == ByteArray.toList (ByteArray.mk #[]))=false)
  (h1:callv X call false 21 [st s0,st (ByteArray.mk #[32])] [] 0=some (lro (List.length l13) 1 (List.map st l13),[]))
  (h2:vexec Tryz.prog X call lf 0 noFg (Code.loop (loopN Tryz.f22 0)) (f54_S0 s0 l13)=some (Ex.exit 0,(f54_S3 s0 l13 S0 o4 i0)))
  (h3:callv X call false 17 [o4 i0] (S0 i0) 0=some (bo b1,T1))
  (h4:(!b1)=false)
  (h5:vend1 [] 0 T1 [o4 i0,i6 0]=some (rE,sE)):vbody Tryz.prog X call lf noFg Tryz.f22 (codeOf Tryz.f22) [st s0] [] 0=some (rE,sE) :=
  along_sound (ans:=[(5,Ans.b false),(11,Ans.v (lro (List.length l13) 1 (List.map st l13))),(14,Ans.l (Ex.exit 0) (f54_S3 s0 l13 S0 o4 i0)),(17,Ans.c (bo b1) T1),(18,Ans.b false),(24,Ans.c rE sE)]) (by kernel_rfl) (ai h0 (ai h1 (ai h2 (ai h3 (ai h4 (ai h5 trivial))))))
def f54_o0 (l13:List ByteArray) (i0:Nat) (b21_2:Bool) (n29:Int):Nat :=
  (match decide ((↑i0:Int) < (↑(List.length l13):Int)) with
  | true => (match b21_2 with
    | true => (match (n29 == 8) with
      | true=>1
      | false=>0)
    | false=>2)
  | false=>3)
theorem f54_B0 (s0:ByteArray) (X:Ext) (call:Caller) (lf:Nat) (l13:List ByteArray) (S0:Nat→List Ob) (o4:Nat→AV) (i0:Nat) (x17_0:ByteArray) (r17:List AV) (x21_0:ByteArray) (x21_1:ByteArray) (b21_2:Bool) (n29:Int) (v37:AV) (s37:List Ob)
  (g0:decide ((↑i0:Int) < (↑(List.length l13):Int))=true→keep (S0 i0) (indexAddrv Tryz.prog 39 (S0 i0) (lro (List.length l13) 1 (List.map st l13)) (i6 (↑i0:Int)))=some (AV.eaddr (st x17_0::r17),S0 i0))
  (g1:decide ((↑i0:Int) < (↑(List.length l13):Int))=true→callv X call false 45 [st x17_0,st (ByteArray.mk #[61])] (S0 i0) 0=some (AV.tup [st x21_0,st x21_1,bo b21_2],S0 i0))
  (g2:decide ((↑i0:Int) < (↑(List.length l13):Int))=true→b21_2=true→keep (S0 i0) (lenv Tryz.prog 29 (S0 i0) (o4 i0))=some (i6 n29,S0 i0))
  (g3:decide ((↑i0:Int) < (↑(List.length l13):Int))=true→b21_2=true→(n29 == 8)=false→appendv Tryz.prog 29 (S0 i0) 0 (o4 i0) (AV.list LK.clip 1 2 [st x21_0,st x21_1])=some (v37,s37))
  (e0:decide ((↑i0:Int) < (↑(List.length l13):Int))=true→o4 (i0 + 1)=v37)
  (e1:decide ((↑i0:Int) < (↑(List.length l13):Int))=true→(↑(i0 + 1):Int)=w6 ((↑i0:Int) + 1))
  (e2 : decide ((↑i0 : Int) < (↑(List.length l13) : Int)) = true → S0 (i0 + 1) = s37) :
    (f54_o0 l13 i0 b21_2 n29=0→∃ S1,vexec Tryz.prog X call lf 0 noFg (loopN Tryz.f22 0) (f54_F0 s0 l13 S0 o4 i0)=some (Ex.normal,S1)∧forget f54_D0 S1=(f54_F0 s0 l13 S0 o4 (i0 + 1)))∧(f54_o0 l13 i0 b21_2 n29=1→vexec Tryz.prog X call lf 0 noFg (loopN Tryz.f22 0) (f54_F0 s0 l13 S0 o4 i0)=some (Ex.ret,(f54_S1 s0 l13 S0 o4 i0 x17_0 r17 x21_0 x21_1 b21_2 n29)))∧(f54_o0 l13 i0 b21_2 n29=2→vexec Tryz.prog X call lf 0 noFg (loopN Tryz.f22 0) (f54_F0 s0 l13 S0 o4 i0)=some (Ex.ret,(f54_S2 s0 l13 S0 o4 i0 x17_0 r17 x21_0 x21_1 b21_2)))∧(f54_o0 l13 i0 b21_2 n29=3→vexec Tryz.prog X call lf 0 noFg (loopN Tryz.f22 0) (f54_F0 s0 l13 S0 o4 i0)=some (Ex.exit 0,(f54_S3 s0 l13 S0 o4 i0))):=by
  refine (Bool.eq_false_or_eq_true (decide ((↑i0:Int) < (↑(List.length l13):Int)))).elim (fun c0 => ?_) (fun c0 => ?_)
  ·
    refine (Bool.eq_false_or_eq_true (b21_2)).elim (fun c1 => ?_) (fun c1 => ?_)
    ·
      refine (Bool.eq_false_or_eq_true ((n29 == 8))).elim (fun c2 => ?_) (fun c2 => ?_)
      ·
        have ho : f54_o0 l13 i0 b21_2 n29 = 1 := by
          unfold f54_o0
          simp only [c0,c1,c2]
        exact ⟨fun h=>absurd (ho.symm.trans h) (by decide),fun _=>f54_r0_ttt s0 X call lf l13 S0 o4 i0 x17_0 r17 x21_0 x21_1 b21_2 n29 c0 (g0 c0) (g1 c0) c1 (g2 c0 c1) c2,fun h=>absurd (ho.symm.trans h) (by decide),fun h=>absurd (ho.symm.trans h) (by decide)⟩
      ·
        have ho : f54_o0 l13 i0 b21_2 n29 = 0 := by
          unfold f54_o0
          simp only [c0,c1,c2]
        exact ⟨fun _=>f54_s0_ttf s0 X call lf l13 S0 o4 i0 x17_0 r17 x21_0 x21_1 b21_2 n29 v37 s37 c0 (g0 c0) (g1 c0) c1 (g2 c0 c1) c2 (g3 c0 c1 c2) (e0 c0) (e1 c0) (e2 c0),fun h=>absurd (ho.symm.trans h) (by decide),fun h=>absurd (ho.symm.trans h) (by decide),fun h=>absurd (ho.symm.trans h) (by decide)⟩
    ·
      have ho : f54_o0 l13 i0 b21_2 n29 = 2 := by
        unfold f54_o0
        simp only [c0,c1]
      exact ⟨fun h=>absurd (ho.symm.trans h) (by decide),fun h=>absurd (ho.symm.trans h) (by decide),fun _=>f54_r0_tf s0 X call lf l13 S0 o4 i0 x17_0 r17 x21_0 x21_1 b21_2 c0 (g0 c0) (g1 c0) c1,fun h=>absurd (ho.symm.trans h) (by decide)⟩
  ·
    have ho : f54_o0 l13 i0 b21_2 n29 = 3 := by
      unfold f54_o0
      simp only [c0]
    exact ⟨fun h=>absurd (ho.symm.trans h) (by decide),fun h=>absurd (ho.symm.trans h) (by decide),fun h=>absurd (ho.symm.trans h) (by decide),fun _=>f54_r0_f s0 X call lf l13 S0 o4 i0 c0⟩
theorem f54_X0 (s0:ByteArray) (X:Ext) (call:Caller) (lf:Nat) (l13:List ByteArray) (S0:Nat→List Ob) (o4:Nat→AV) (i0:Nat) (x17_0:ByteArray) (r17:List AV) (x21_0:ByteArray) (x21_1:ByteArray) (b21_2:Bool) (n29:Int) (v37:AV) (s37:List Ob)
  (g0:decide ((↑i0:Int) < (↑(List.length l13):Int))=true→keep (S0 i0) (indexAddrv Tryz.prog 39 (S0 i0) (lro (List.length l13) 1 (List.map st l13)) (i6 (↑i0:Int)))=some (AV.eaddr (st x17_0::r17),S0 i0))
  (g1:decide ((↑i0:Int) < (↑(List.length l13):Int))=true→callv X call false 45 [st x17_0,st (ByteArray.mk #[61])] (S0 i0) 0=some (AV.tup [st x21_0,st x21_1,bo b21_2],S0 i0))
  (g2:decide ((↑i0:Int) < (↑(List.length l13):Int))=true→b21_2=true→keep (S0 i0) (lenv Tryz.prog 29 (S0 i0) (o4 i0))=some (i6 n29,S0 i0))
  (g3 : decide ((↑i0 : Int) < (↑(List.length l13) : Int)) = true → b21_2 = true → (n29 == 8) = false → appendv Tryz.prog 29 (S0 i0) 0 (o4 i0) (AV.list LK.clip 1 2 [st x21_0, st x21_1]) = some (v37, s37)) :
    (f54_o0 l13 i0 b21_2 n29=1→vexec Tryz.prog X call lf 0 noFg (loopN Tryz.f22 0) (f54_F0 s0 l13 S0 o4 i0)=some (Ex.ret,(f54_S1 s0 l13 S0 o4 i0 x17_0 r17 x21_0 x21_1 b21_2 n29)))∧(f54_o0 l13 i0 b21_2 n29=2→vexec Tryz.prog X call lf 0 noFg (loopN Tryz.f22 0) (f54_F0 s0 l13 S0 o4 i0)=some (Ex.ret,(f54_S2 s0 l13 S0 o4 i0 x17_0 r17 x21_0 x21_1 b21_2)))∧(f54_o0 l13 i0 b21_2 n29=3→vexec Tryz.prog X call lf 0 noFg (loopN Tryz.f22 0) (f54_F0 s0 l13 S0 o4 i0)=some (Ex.exit 0,(f54_S3 s0 l13 S0 o4 i0))):=by
  refine (Bool.eq_false_or_eq_true (decide ((↑i0:Int) < (↑(List.length l13):Int)))).elim (fun c0 => ?_) (fun c0 => ?_)
  ·
    refine (Bool.eq_false_or_eq_true (b21_2)).elim (fun c1 => ?_) (fun c1 => ?_)
    ·
      refine (Bool.eq_false_or_eq_true ((n29 == 8))).elim (fun c2 => ?_) (fun c2 => ?_)
      ·
        have ho : f54_o0 l13 i0 b21_2 n29 = 1 := by
          unfold f54_o0
          simp only [c0,c1,c2]
        exact ⟨fun _=>f54_r0_ttt s0 X call lf l13 S0 o4 i0 x17_0 r17 x21_0 x21_1 b21_2 n29 c0 (g0 c0) (g1 c0) c1 (g2 c0 c1) c2,fun h=>absurd (ho.symm.trans h) (by decide),fun h=>absurd (ho.symm.trans h) (by decide)⟩
      ·
        have ho : f54_o0 l13 i0 b21_2 n29 = 0 := by
          unfold f54_o0
          simp only [c0,c1,c2]
        exact ⟨fun h=>absurd (ho.symm.trans h) (by decide),fun h=>absurd (ho.symm.trans h) (by decide),fun h=>absurd (ho.symm.trans h) (by decide)⟩
    ·
      have ho : f54_o0 l13 i0 b21_2 n29 = 2 := by
        unfold f54_o0
        simp only [c0,c1]
      exact ⟨fun h=>absurd (ho.symm.trans h) (by decide),fun _=>f54_r0_tf s0 X call lf l13 S0 o4 i0 x17_0 r17 x21_0 x21_1 b21_2 c0 (g0 c0) (g1 c0) c1,fun h=>absurd (ho.symm.trans h) (by decide)⟩
  ·
    have ho : f54_o0 l13 i0 b21_2 n29 = 3 := by
      unfold f54_o0
      simp only [c0]
    exact ⟨fun h=>absurd (ho.symm.trans h) (by decide),fun h=>absurd (ho.symm.trans h) (by decide),fun _=>f54_r0_f s0 X call lf l13 S0 o4 i0 c0⟩
theorem f54_M (s0:ByteArray) (l13:List ByteArray) (S0:Nat→List Ob) (o4:Nat→AV) (X:Ext) (call:Caller) (lf:Nat) (n:Nat) (x17_0:Nat→ByteArray) (r17:Nat→List AV) (x21_0:Nat→ByteArray) (x21_1:Nat→ByteArray) (b21_2:Nat→Bool) (n29:Nat→Int) (v37:Nat→AV) (s37:Nat→List Ob)
  (z0:o4 0=AV.list LK.nil 0 0 [])
  (z1:S0 0=[])
  (hn:n < lf)
  (g0:∀ i0,i0 ≤ n→decide ((↑i0:Int) < (↑(List.length l13):Int))=true→keep (S0 i0) (indexAddrv Tryz.prog 39 (S0 i0) (lro (List.length l13) 1 (List.map st l13)) (i6 (↑i0:Int)))=some (AV.eaddr (st (x17_0 i0)::(r17 i0)),S0 i0))
  (g1:∀ i0,i0 ≤ n→decide ((↑i0:Int) < (↑(List.length l13):Int))=true→callv X call false 45 [st (x17_0 i0),st (ByteArray.mk #[61])] (S0 i0) 0=some (AV.tup [st (x21_0 i0),st (x21_1 i0),bo (b21_2 i0)],S0 i0))
  (g2:∀ i0,i0 ≤ n→decide ((↑i0:Int) < (↑(List.length l13):Int))=true→(b21_2 i0)=true→keep (S0 i0) (lenv Tryz.prog 29 (S0 i0) (o4 i0))=some (i6 (n29 i0),S0 i0))
  (g3:∀ i0,i0 ≤ n→decide ((↑i0:Int) < (↑(List.length l13):Int))=true→(b21_2 i0)=true→((n29 i0) == 8)=false→appendv Tryz.prog 29 (S0 i0) 0 (o4 i0) (AV.list LK.clip 1 2 [st (x21_0 i0),st (x21_1 i0)])=some ((v37 i0),(s37 i0)))
  (e0:∀ i0,i0 < n→decide ((↑i0:Int) < (↑(List.length l13):Int))=true→o4 (i0 + 1)=(v37 i0))
  (e1:∀ i0,i0 < n→decide ((↑i0:Int) < (↑(List.length l13):Int))=true→(↑(i0 + 1):Int)=w6 ((↑i0:Int) + 1))
  (e2:∀ i0,i0 < n→decide ((↑i0:Int) < (↑(List.length l13):Int))=true→S0 (i0 + 1)=(s37 i0))
  (hz : ∀ j, j < n → f54_o0 l13 j (b21_2 j) (n29 j) = 0) :
    (f54_o0 l13 n (b21_2 n) (n29 n)=1→(ByteArray.toList s0 == ByteArray.toList (ByteArray.mk #[]))=false→callv X call false 21 [st s0,st (ByteArray.mk #[32])] [] 0=some (lro (List.length l13) 1 (List.map st l13),[])→vbody Tryz.prog X call lf noFg Tryz.f22 (codeOf Tryz.f22) [st s0] [] 0=some (AV.tup [AV.list LK.nil 0 0 [],i6 3],S0 n))∧(f54_o0 l13 n (b21_2 n) (n29 n)=2→(ByteArray.toList s0 == ByteArray.toList (ByteArray.mk #[]))=false→callv X call false 21 [st s0,st (ByteArray.mk #[32])] [] 0=some (lro (List.length l13) 1 (List.map st l13),[])→vbody Tryz.prog X call lf noFg Tryz.f22 (codeOf Tryz.f22) [st s0] [] 0=some (AV.tup [AV.list LK.nil 0 0 [],i6 3],S0 n))∧(f54_o0 l13 n (b21_2 n) (n29 n)=3→∀ (b1:Bool),∀ (T1:List Ob),(ByteArray.toList s0 == ByteArray.toList (ByteArray.mk #[]))=false→callv X call false 21 [st s0,st (ByteArray.mk #[32])] [] 0=some (lro (List.length l13) 1 (List.map st l13),[])→callv X call false 17 [o4 n] (S0 n) 0=some (bo b1,T1)→(!b1)=true→vbody Tryz.prog X call lf noFg Tryz.f22 (codeOf Tryz.f22) [st s0] [] 0=some (AV.tup [AV.list LK.nil 0 0 [],i6 3],T1))∧(f54_o0 l13 n (b21_2 n) (n29 n)=3→∀ (b1:Bool),∀ (T1:List Ob),∀ (rE:AV),∀ (sE:List Ob),(ByteArray.toList s0 == ByteArray.toList (ByteArray.mk #[]))=false→callv X call false 21 [st s0,st (ByteArray.mk #[32])] [] 0=some (lro (List.length l13) 1 (List.map st l13),[])→callv X call false 17 [o4 n] (S0 n) 0=some (bo b1,T1)→(!b1)=false→vend1 [] 0 T1 [o4 n,i6 0]=some (rE,sE)→vbody Tryz.prog X call lf noFg Tryz.f22 (codeOf Tryz.f22) [st s0] [] 0=some (rE,sE)):=by
  have key:∀ j,j < n→_:=fun j hj=>(f54_B0 s0 X call lf l13 S0 o4 j (x17_0 j) (r17 j) (x21_0 j) (x21_1 j) (b21_2 j) (n29 j) (v37 j) (s37 j) (g0 j (Nat.le_of_lt hj)) (g1 j (Nat.le_of_lt hj)) (g2 j (Nat.le_of_lt hj)) (g3 j (Nat.le_of_lt hj)) (e0 j hj) (e1 j hj) (e2 j hj)).1 (hz j hj)
  have kn:=f54_X0 s0 X call lf l13 S0 o4 n (x17_0 n) (r17 n) (x21_0 n) (x21_1 n) (b21_2 n) (n29 n) (v37 n) (s37 n) (g0 n (Nat.le_refl n)) (g1 n (Nat.le_refl n)) (g2 n (Nat.le_refl n)) (g3 n (Nat.le_refl n))
  exact ⟨fun hk q0 q1 => f54_pflttt s0 X call lf l13 S0 o4 n (x17_0 n) (r17 n) (x21_0 n) (x21_1 n) (b21_2 n) (n29 n) q0 q1 (f54_L0 s0 l13 S0 o4 X call lf n _ _ z0 z1 hn key (kn.1 hk) (by simp)),
    fun hk q0 q1=>f54_pfltf s0 X call lf l13 S0 o4 n (x17_0 n) (r17 n) (x21_0 n) (x21_1 n) (b21_2 n) q0 q1 (f54_L0 s0 l13 S0 o4 X call lf n _ _ z0 z1 hn key (kn.2.1 hk) (by simp)),
    fun hk b1 T1 q0 q1 q2 q3=>f54_pflft s0 b1 T1 X call lf l13 S0 o4 n q0 q1 (f54_L0 s0 l13 S0 o4 X call lf n _ _ z0 z1 hn key (kn.2.2 hk) (by simp)) q2 q3,
    fun hk b1 T1 rE sE q0 q1 q2 q3 q4=>f54_pflff s0 b1 T1 X call lf l13 S0 o4 n rE sE q0 q1 (f54_L0 s0 l13 S0 o4 X call lf n _ _ z0 z1 hn key (kn.2.2 hk) (by simp)) q2 q3 q4⟩
end Go.Proofs.Lex
end
/- Lexicon: feature.Parse. -/
section
open Go Go.Vm Go.Proofs
namespace Go.Proofs.Lex
abbrev eqs:ByteArray:=⟨#[61]⟩
def cutB3 (p:ByteArray):List UInt8 × List UInt8 × Bool:=Lib.cut p.data.toList [61]
def cutB (p:ByteArray):Bool:=(cutB3 p).2.2
def featOf (p:ByteArray):Feat:=⟨⟨(cutB3 p).1.toArray⟩,⟨(cutB3 p).2.1.toArray⟩⟩
def featsOf (l:List ByteArray):List Feat:=l.map featOf
/-- The record with a text, from its parts. -/
def partsF (l:List ByteArray):Option (List Feat):=if l.all cutB=true∧l.length ≤ 8∧validF (featsOf l)=true then some (featsOf l) else none
def parseF (s:ByteArray):Option (List Feat):=if s=emp then some [] else partsF (splitL s blank)
/-- A result and its error. -/
def resE {α:Type} (d:α):Option α→α × Int
  | some x=>(x,0)
  | none=>(d,3)
section
variable [Fixed] {X:Ext}
abbrev aFsE:Arg (List Feat × Int):=Arg.tup2 aFs aI
theorem bad_dec:aFsE.dec (.tup [.list .nil 0 0 [],i6 3])=some ([],3):=by rfl
theorem nil_dec:aFsE.dec (.tup [.list .nil 0 0 [],i6 0])=some ([],0):=by rfl
abbrev nil0:AV := .list .nil 0 0 []
theorem len_gr {σ:List Ob} (n:Nat):keep σ (lenv Tryz.prog 29 σ (grV nil0 0 n))=some (i6 n,σ):=by
  unfold lenv
  rw [Tryz.underlying29]
  by_cases h:n=0
  · subst h; rfl
  · rw [grV,if_neg h]; rfl
/-- A row of the call's own, given to a function that is told, and returned. -/
theorem row_call {T:Go.Vm.Spec} {f:FuncId} {F:List Feat} {b:Bool} (hw:X.pureFn f=none∧X.stFn f=none∧X.adopt f=false) (h1:T f [nil0]=some (bo b) ∨ F ≠ []) (h2:T f [featsV F]=some (bo b)) :
    ∃ σ',callv X (callerOf T) false f [grV nil0 0 F.length] (grS cF [] F) 0=some (bo b,σ')∧∃ r σ'',vend1 [] 0 σ' [grV nil0 0 F.length,i6 0]=some (r,σ'')∧aFsE.dec r=some (F,0):=by
  by_cases hF:F.length=0
  · have hF' : F = [] := List.eq_nil_of_length_eq_zero hF
    subst hF'
    have h1:=h1.resolve_right (fun h=>h rfl)
    refine ⟨[],?_,_,_,rfl,rfl⟩
    show callv X (callerOf T) false f [nil0] [] 0=_
    unfold callv
    rw [hw.1,hw.2.1]
    simp only [AV.ltAll,AV.lt,Bool.and_self,if_true,callerOf,h1,AV.pure,hw.2.2,Bool.and_false,Bool.false_eq_true,if_false]
    rfl
  · have hg : grS cF [] F = [.arr F.length 2 (F.flatMap featC)] := by rw [grS, if_neg hF]; rfl
    have hv:grV nil0 0 F.length = .own 0 F.length:=if_neg hF
    rw [hg,hv]
    have hlt : AV.ltAll 0 [featsV F] = true := by
      have:=aFs.lt F
      rw [aFs_enc] at this
      simp only [AV.ltAll,this,Bool.and_self]
    have ht:AV.thawAll [Ob.arr F.length 2 (F.flatMap featC)] [.own 0 F.length]=some [featsV F]:=by simp [AV.thawAll,AV.thaw,featsV]
    refine ⟨[.fro F.length 2 (F.flatMap featC)],?_,.tup [featsV F,i6 0],[.fro F.length 2 (F.flatMap featC)],?_,?_⟩
    · unfold callv
      rw [hw.1,hw.2.1]
      have hn:AV.ltAll 0 [AV.own 0 F.length]=false:=by simp [AV.ltAll,AV.lt,show Nat.blt 0 0=false from rfl]
      have hfz:freezeIds 0 [Ob.arr F.length 2 (F.flatMap featC)] (AV.ownsAll [.own 0 F.length])=some [.fro F.length 2 (F.flatMap featC)]:=by simp [AV.ownsAll,AV.owns,freezeIds,freezeId,setOb]
      simp only [hn,Bool.false_eq_true,if_false,ht,hlt,if_true,hfz,callerOf,h2,AV.pure,AV.lt,hw.2.2]
      rfl
    · simp [vend1,AV.thawAll,AV.thaw,AV.ownsAll,AV.owns,freezeIds,freezeId,resOf,oneOf,unfr,unfr1,featsV]
    · have := aFs.de F
      rw [aFs_enc] at this
      show aFsE.dec (.tup [featsV F,i6 0])=some (F,0)
      have h3:=aFsE.de (F,0)
      exact h3
theorem extract_le (s:ByteArray) (i j:Nat):(s.extract i j).size ≤ s.size:=by
  rw [ByteArray.size_extract]
  omega
theorem splitB_le (sep:ByteArray) (save:Nat):∀ (k:Nat) (s p:ByteArray),p ∈ Lib.splitB sep save k s→p.size ≤ s.size
  | 0, s, p, h => by
    simp only [Lib.splitB,List.mem_singleton] at h
    rw [h]
    exact Nat.le_refl _
  | k + 1, s, p, h => by
    unfold Lib.splitB at h
    split at h
    · simp only [List.mem_singleton] at h
      rw [h]
      exact Nat.le_refl _
    · rcases List.mem_cons.1 h with rfl | h
      · exact extract_le _ _ _
      · exact Nat.le_trans (splitB_le sep save k _ p h) (extract_le _ _ _)
theorem split_le {s p:ByteArray} (h:p ∈ splitL s blank):p.size ≤ s.size:=splitB_le _ _ _ _ _ h
theorem split_len {s:ByteArray}:(splitL s blank).length ≤ s.size + 1:=by
  have h1:(splitL s blank).length=Lib.countB s blank + 1:=Lib.splitB_all blank (by decide) 0 _ s rfl
  have h2:=Lib.countB_le blank (by decide) s.size s (Nat.le_refl _)
  omega
theorem cut_le (l sep:List UInt8):(Lib.cut l sep).1.length ≤ l.length∧(Lib.cut l sep).2.1.length ≤ l.length:=by
  unfold Lib.cut
  split
  · refine ⟨?_, ?_⟩
    · show (l.take _).length ≤ _
      rw [List.length_take]
      exact Nat.min_le_right _ _
    · show (l.drop _).length ≤ _
      rw [List.length_drop]
      exact Nat.sub_le _ _
  · exact ⟨Nat.le_refl _,Nat.zero_le _⟩
theorem featOf_le (p:ByteArray):(featOf p).name.size ≤ p.size∧(featOf p).value.size ≤ p.size:=by
  obtain ⟨h1,h2⟩:=cut_le p.data.toList [61]
  have e:p.data.toList.length=p.size:=by simp
  rw [e] at h1 h2
  constructor
  · show (Lib.cut p.data.toList [61]).1.toArray.size ≤ _
    simpa using h1
  · show (Lib.cut p.data.toList [61]).2.1.toArray.size ≤ _
    simpa using h2
theorem lim_big:lim ≤ big:=by decide
theorem okF_parts {s:ByteArray} (hs:s.size < lim) {l:List ByteArray} (hl:l.length ≤ big) (h:∀ p ∈ l,p ∈ splitL s blank):okF (featsOf l):=by
  refine ⟨by rw [featsOf,List.length_map]; exact hl,fun f hf => ?_⟩
  obtain ⟨p,hp,rfl⟩:=List.mem_map.1 hf
  have h1:=split_le (h p hp)
  have h2:=featOf_le p
  have h3:=lim_big
  omega
theorem cut84 (hM:XM X) {call:Caller} {p:ByteArray} (hp:p.size < lim) (σ:List Ob):callv X call false 45 [st p,st eqs] σ 0=some (.tup [st (featOf p).name,st (featOf p).value,bo (cutB p)],σ):=by
  refine call_pure hM.cut rfl rfl rfl ?_
  unfold cutFn
  simp only
  rw [if_pos hp]
  rfl
theorem split53 (hM:XM X) {call:Caller} {s:ByteArray} (hs:s.size < lim) (σ:List Ob):callv X call false 21 [st s,st blank] σ 0=some (Go.Vm.strs (splitL s blank),σ):=by
  refine call_pure hM.split rfl rfl rfl ?_
  unfold splitFn
  simp only
  rw [if_pos ⟨hs,by decide⟩]
/-- feature.Parse. -/
theorem call54 (hX:ExtOk Tryz.prog X) (hM:XM X) {s:ByteArray} (hs:s.size < lim):CallAt Tryz.prog 22 [aS.enc s] [] 0 (aFsE.enc (resE [] (parseF s))) []:=by
  have hC:=callerOf_ok (U1_ok hX hM.toXL)
  by_cases e:s=emp
  · unfold parseF
    rw [if_pos e]
    exact run_res (B:=aFsE) hX hC (hM.dom 22 rfl rfl) Tryz.func22 (by kernel_rfl) (f54_pt s X (callerOf U1) 0 (eqB_iff.2 e)) nil_dec
  have he:(s.toList == (ByteArray.mk #[]).toList)=false:=eqB_ne.2 e
  unfold parseF
  rw [if_neg e]
  obtain ⟨l,hl⟩:∃ l,splitL s blank=l:=⟨_,rfl⟩
  have hsp:=split53 (call:=callerOf U1) hM hs []
  rw [hl] at hsp ⊢
  have hlen:l.length ≤ s.size + 1:=by rw [← hl]; exact split_len
  have hlim:s.size < 4294967281:=hs
  have hpart : ∀ i, i < l.length → (nS l i).size < lim := fun i hi => by
    have:(nS l i).size ≤ s.size:=split_le (by rw [hl,nS,getD_lt hi]; exact List.getElem_mem hi)
    exact Nat.lt_of_le_of_lt this hs
  have lt_of : ∀ {i0 : Nat}, decide ((↑i0 : Int) < (↑(List.length l) : Int)) = true → i0 < l.length := fun h => by
    have:=of_decide_eq_true h
    omega
  have step : ∀ i, i < l.length → appendv Tryz.prog 29 (grS cF [] (featsOf (l.take i))) 0 (grV nil0 0 (featsOf (l.take i)).length) (.list .clip 1 2 [st (featOf (nS l i)).name, st (featOf (nS l i)).value]) = some (grV nil0 0 (featsOf (l.take (i + 1))).length, grS cF [] (featsOf (l.take (i + 1)))) := by
    intro i hi
    have e : featsOf (l.take (i + 1)) = featsOf (l.take i) ++ [featOf (nS l i)] := by
      unfold featsOf
      rw [List.take_succ_eq_append_getElem hi,List.map_append,nS,getD_lt hi]
      rfl
    rw [e]
    have hle:(featsOf (l.take i)).length ≤ l.length:=by unfold featsOf; simp; omega
    exact gr_step (σ0:=[]) (l:=featsOf (l.take i)) (m:=[featOf (nS l i)]) (lk := .nil) (sz0:=0) rowF (.inl rfl) (appended_row [featOf (nS l i)]) (by show _ ≤ 140737488355328; simp only [List.length_singleton]; omega)
  have hlt:∀ i,i ≤ l.length→(featsOf (l.take i)).length=i:=fun i hi=>by unfold featsOf; simp; omega
  have M := fun n (hn : n ≤ l.length) (hz : ∀ j, j < n → f54_o0 l j (cutB (nS l j)) (featsOf (l.take j)).length = 0) => f54_M s l (fun i => grS cF [] (featsOf (l.take i))) (fun i => grV nil0 0 (featsOf (l.take i)).length) X (callerOf U1) (l.length + 1) n (fun i => nS l i) (fun i => tS l i)
    (fun i=>(featOf (nS l i)).name) (fun i=>(featOf (nS l i)).value) (fun i=>cutB (nS l i)) (fun i=>(featsOf (l.take i)).length) (fun i=>grV nil0 0 (featsOf (l.take (i + 1))).length) (fun i=>grS cF [] (featsOf (l.take (i + 1))))
    rfl rfl (by omega) (fun i _ h=>at_strs (lt_of h)) (fun i _ h=>cut84 hM (hpart i (lt_of h)) _) (fun i _ h _=>len_gr _) (fun i _ h _ _=>step i (lt_of h)) (fun _ _ _=>rfl) (fun i h _=>up (n:=l.length) (by omega) (by show _ ≤ 140737488355328; omega)) (fun _ _ _=>rfl) hz
  have ho : ∀ i, i ≤ l.length → (i < l.length → (cutB (nS l i) = true ∧ i ≠ 8) → f54_o0 l i (cutB (nS l i)) (featsOf (l.take i)).length = 0) ∧ (i < l.length → ¬ (cutB (nS l i) = true ∧ i ≠ 8) → f54_o0 l i (cutB (nS l i)) (featsOf (l.take i)).length = 1 ∨ f54_o0 l i (cutB (nS l i)) (featsOf (l.take i)).length = 2) ∧ (¬ i < l.length → f54_o0 l i (cutB (nS l i)) (featsOf (l.take i)).length = 3) := by
    intro i hi
    rw [hlt i hi]
    unfold f54_o0
    refine ⟨fun h1 h2 => ?_,fun h1 h2 => ?_,fun h1 => ?_⟩
    · rw [decide_eq_true (by omega),h2.1,show ((↑i:Int) == 8)=false from beq_eq_false_iff_ne.2 (by omega)]
    · rw [decide_eq_true (by omega)]
      cases hc:cutB (nS l i) with
      | false=>exact .inr rfl
      | true =>
        have h8 : i = 8 := by
          by_cases h8:i=8
          · exact h8
          · exact absurd ⟨hc,h8⟩ h2
        subst h8
        exact .inl rfl
    · rw [decide_eq_false (by omega)]
  rcases first_fail (p:=fun i=>cutB (nS l i)=true∧i ≠ 8) l.length with hall | ⟨k,hk,hbad,hbef⟩
  · have hn := M l.length (Nat.le_refl _) fun j hj => (ho j (by omega)).1 hj (hall j hj)
    have h3:=(ho l.length (Nat.le_refl _)).2.2 (by omega)
    have hall' : l.all cutB=true:=(all_nth (d:=emp)).2 fun i hi=>(hall i hi).1
    have h8 : l.length ≤ 8 := by
      rcases Nat.lt_or_ge 8 l.length with h | h
      · exact absurd rfl (hall 8 h).2
      · exact h
    rw [List.take_length] at hn h3
    have hokF:okF (featsOf l):=okF_parts hs (by show _ ≤ 140737488355328; omega) fun p hp=>by rw [hl]; exact hp
    have hT:U1 17 [featsV (featsOf l)]=some (bo (validF (featsOf l))):=s1_at (A:=aFs) (B:=aB) (g:=validF) (ok:=okF) hokF
    have hT0 : U1 17 [nil0] = some (bo (validF (featsOf l))) ∨ featsOf l ≠ [] := by
      cases hz:featsOf l with
      | nil =>
        left
        have : s1 aFs aB validF okF [nil0] = some (bo (validF [])) := by
          unfold s1
          rw [sp1_at (x:=([]:List Feat)) (by rfl),if_pos ⟨Nat.zero_le _,fun f hf=>by simp at hf⟩]
          rfl
        exact this
      | cons a b=>right; simp
    obtain ⟨σ',hcall,r,σ'',hv,hd⟩:=row_call (X:=X) (hM.ok 17 rfl) hT0 hT
    unfold partsF
    cases hval:validF (featsOf l) with
    | true =>
      rw [if_pos ⟨hall',h8,rfl⟩]
      rw [hval] at hcall
      exact run_res (B:=aFsE) hX hC (hM.dom 22 rfl rfl) Tryz.func22 (by kernel_rfl) (hn.2.2.2 h3 true σ' r σ'' he hsp hcall rfl hv) hd
    | false =>
      rw [if_neg (by rintro ⟨_,_,h⟩; cases h)]
      rw [hval] at hcall
      exact run_res (B:=aFsE) hX hC (hM.dom 22 rfl rfl) Tryz.func22 (by kernel_rfl) (hn.2.2.1 h3 false σ' he hsp hcall rfl) bad_dec
  · have hn := M k (by omega) fun j hj => (ho j (by omega)).1 (by omega) (hbef j hj)
    have hno : partsF l = none := by
      unfold partsF
      rw [if_neg]
      rintro ⟨h1,h2,_⟩
      exact hbad ⟨(all_nth (d:=emp)).1 h1 k hk,by omega⟩
    rw [hno]
    rcases (ho k (by omega)).2.1 hk hbad with h | h
    · exact run_res (B:=aFsE) hX hC (hM.dom 22 rfl rfl) Tryz.func22 (by kernel_rfl) (hn.1 h he hsp) bad_dec
    · exact run_res (B:=aFsE) hX hC (hM.dom 22 rfl rfl) Tryz.func22 (by kernel_rfl) (hn.2.1 h he hsp) bad_dec
end
end Go.Proofs.Lex
end
/- Lexicon: plain laws: a text cut at its blanks, and joined. -/
section
open Go Go.Vm Go.Proofs
namespace Go.Proofs.Lex
/-- A list of bytes, cut at each blank. -/
def spl:List UInt8→List (List UInt8)
  | []=>[[]]
  | b :: l => if b = 32 then [] :: spl l else match spl l with
    | []=>[[b]]
    | x::r=>(b::x)::r
theorem spl_ne (l:List UInt8):spl l ≠ []:=by
  cases l with
  | nil=>simp [spl]
  | cons b l =>
    unfold spl
    split
    · simp
    · split <;> simp
theorem index_cons (b:UInt8) (l:List UInt8) (c:UInt8):Lib.index (b::l) [c]=if b=c then 0 else if Lib.index l [c] == -1 then -1 else Lib.index l [c] + 1:=by
  rw [Lib.index]
  by_cases h:b=c
  · subst h
    simp [List.isPrefixOf]
  · have hp : ([c] : List UInt8).isPrefixOf (b :: l) = false := by simp [List.isPrefixOf, Ne.symm h]
    rw [hp,if_neg h]
    simp
theorem index_nil (c:UInt8):Lib.index [] [c] = -1:=by
  rw [Lib.index]
  simp
theorem spl_miss:∀ {l:List UInt8},Lib.index l [32] = -1→spl l=[l]
  | [],_=>rfl
  | b :: l, h => by
    rw [index_cons] at h
    split at h
    · cases h
    · rename_i hb
      have hl : Lib.index l [32] = -1 := by
        split at h
        · rename_i e; exact beq_iff_eq.1 e
        · have := Lib.index_ge l [32]
          omega
      unfold spl
      rw [if_neg hb,spl_miss hl]
theorem spl_hit:∀ {l:List UInt8} {i:Nat},Lib.index l [32]=i→spl l=l.take i::spl (l.drop (i + 1))
  | [],i,h=>by rw [index_nil] at h; omega
  | b :: l, i, h => by
    rw [index_cons] at h
    split at h
    · rename_i hb
      have:i=0:=by omega
      subst this
      show (if b=32 then []::spl l else match spl l with | []=>[[b]] | x::r=>(b::x)::r)=_
      rw [if_pos hb]
      rfl
    · rename_i hb
      split at h
      · omega
      · rename_i e
        have hne:Lib.index l [32] ≠ -1:=fun e' => e (beq_iff_eq.2 e')
        have hge:=Lib.index_ge l [32]
        obtain ⟨j,rfl⟩:∃ j,i=j + 1:=⟨i - 1,by omega⟩
        have hl:Lib.index l [32]=j:=by omega
        have ih:=spl_hit hl
        show (if b=32 then []::spl l else match spl l with | []=>[[b]] | x::r=>(b::x)::r)=_
        rw [if_neg hb,ih]
        rfl
theorem ex_list (s:ByteArray) (i j:Nat):(s.extract i j).data.toList=(s.data.toList.take j).drop i:=by
  rw [ByteArray.data_extract,Array.toList_extract]
  simp [List.extract,List.drop_take]
theorem splitB_spl:∀ (k:Nat) (s:ByteArray),Lib.countB s blank=k→(Lib.splitB blank 0 k s).map (·.data.toList)=spl s.data.toList:=by
  intro k
  induction k with
  | zero =>
    intro s hk
    rcases Lib.indexB_cases s blank with hix | ⟨i,hix,_⟩
    · rw [spl_miss hix]; rfl
    · have := Lib.countB_hit s blank i (by decide) hix
      omega
  | succ k ih =>
    intro s hk
    rcases Lib.indexB_cases s blank with hix | ⟨i,hix,hroom⟩
    · rw [Lib.countB_miss s blank hix] at hk; omega
    · have hc := Lib.countB_hit s blank i (by decide) hix
      have hsz:s.data.toList.length=s.size:=by simp
      rw [Lib.splitB_hit blank 0 k s i hix,List.map_cons,ih _ (by omega),spl_hit (i:=i) hix]
      congr 1
      · rw [ex_list,Nat.add_zero,List.drop_zero]
      · rw [ex_list]
        congr 1
        rw [List.take_of_length_le (by omega)]
        rfl
theorem split_spl (s:ByteArray):(splitL s blank).map (·.data.toList)=spl s.data.toList:=splitB_spl _ s rfl
theorem join_spl:∀ (l:List UInt8),Lib.join (spl l) [32]=l
  | []=>rfl
  | b :: l => by
    have ih:=join_spl l
    unfold spl
    split
    · rename_i hb
      subst hb
      rw [Lib.join_cons]
      cases h:spl l with
      | nil=>exact absurd h (spl_ne l)
      | cons x r =>
        rw [h,Lib.join_cons] at ih
        show [] ++ ([32] ++ x ++ Lib.joinTail [32] r)=_
        rw [← ih]
        simp
    · cases h : spl l with
      | nil=>exact absurd h (spl_ne l)
      | cons x r =>
        rw [h,Lib.join_cons] at ih
        show Lib.join ((b::x)::r) [32]=_
        rw [Lib.join_cons,← ih]
        rfl
theorem joinB_split (s:ByteArray):joinB (splitL s blank) blank=s.data.toList:=by
  unfold joinB
  rw [split_spl]
  exact join_spl _
theorem join_tail_le (x:List UInt8) (r:List (List UInt8)):(Lib.join r [32]).length ≤ (Lib.join (x::r) [32]).length:=by
  cases r with
  | nil=>exact Nat.zero_le _
  | cons y r =>
    rw [Lib.join_cons,Lib.join_cons]
    show _ ≤ (x ++ ([32] ++ y ++ Lib.joinTail [32] r)).length
    simp only [List.length_append]
    omega
theorem join_drop_le:∀ (n:Nat) (r:List (List UInt8)),(Lib.join (r.drop n) [32]).length ≤ (Lib.join r [32]).length
  | 0,r=>Nat.le_refl _
  | n + 1,[]=>Nat.le_refl _
  | n + 1,x::r=>Nat.le_trans (join_drop_le n r) (join_tail_le x r)
theorem joinB_drop_le (s:ByteArray) (n:Nat):(joinB ((splitL s blank).drop n) blank).length ≤ s.size:=by
  have h:=join_drop_le n ((splitL s blank).map (·.data.toList))
  rw [← List.map_drop] at h
  have e : (Lib.join ((splitL s blank).map (·.data.toList)) [32]).length = s.size := by
    have:=congrArg List.length (joinB_split s)
    rw [show s.data.toList.length=s.size by simp] at this
    exact this
  rw [e] at h
  exact h
theorem join_le {B:Nat}:∀ (r:List (List UInt8)),(∀ x ∈ r,x.length ≤ B)→(Lib.join r [32]).length ≤ r.length * (B + 1)
  | [],_=>Nat.zero_le _
  | x :: r, h => by
    have ih:=join_le r fun y hy=>h y (List.mem_cons_of_mem _ hy)
    have hx:=h x (List.mem_cons_self ..)
    have : (Lib.join (x :: r) [32]).length ≤ x.length + 1 + (Lib.join r [32]).length := by
      cases r with
      | nil=>rw [Lib.join_one]; omega
      | cons y r =>
        rw [Lib.join_cons,Lib.join_cons]
        show (x ++ ([32] ++ y ++ Lib.joinTail [32] r)).length ≤ _
        simp only [List.length_append,List.length_cons,List.length_nil]
        omega
    rw [List.length_cons,Nat.succ_mul]
    omega
end Go.Proofs.Lex
end
/- Lexicon: ParseLine (printed) -/
section
open Go Go.Vm Go.Proofs
namespace Go.Proofs.Lex
def fg23:Nat→List Nat
  | 2005=>[1000002]
  | _=>[]
theorem f23_pt (s0:ByteArray) (X:Ext) (call:Caller) (lf:Nat) (l9:List ByteArray)
  (h0:callv X call false 21 [st s0,st (ByteArray.mk #[32])] [Ob.cells [st (ByteArray.mk #[]),st (ByteArray.mk #[]),st (ByteArray.mk #[]),st (ByteArray.mk #[]),AV.list LK.nil 0 0 []]] 0=some (lro (List.length l9) 1 (List.map st l9),[Ob.cells [st (ByteArray.mk #[]),st (ByteArray.mk #[]),st (ByteArray.mk #[]),st (ByteArray.mk #[]),AV.list LK.nil 0 0 []]]))
  (h1:decide ((↑(List.length l9):Int) < 4)=true):vbody Tryz.prog X call lf fg23 Tryz.f8 (codeOf Tryz.f8) [st s0] [] 0=some (AV.tup [AV.agg [st (ByteArray.mk #[]),st (ByteArray.mk #[]),st (ByteArray.mk #[]),st (ByteArray.mk #[]),AV.list LK.nil 0 0 []],i6 3],[Ob.cells [st (ByteArray.mk #[]),st (ByteArray.mk #[]),st (ByteArray.mk #[]),st (ByteArray.mk #[]),AV.list LK.nil 0 0 []]]) :=
  along_sound (ans:=[(5,Ans.v (lro (List.length l9) 1 (List.map st l9))),(10,Ans.b true)]) (by kernel_rfl) (ai h0 (ai h1 trivial))
theorem f23_pft (s0:ByteArray) (X:Ext) (call:Caller) (lf:Nat) (l9:List ByteArray) (l16:List ByteArray) (k16:LK) (x17:ByteArray) (m18_0:Nat) (c18_0:List AV) (n18_1:Int) (x22_0:ByteArray) (r22:List AV) (x25_0:ByteArray) (r25:List AV) (x28_0:ByteArray) (r28:List AV) (x30:ByteArray) (x32_0:ByteArray) (r32:List AV) (x34:ByteArray)
  (h0:callv X call false 21 [st s0,st (ByteArray.mk #[32])] [Ob.cells [st (ByteArray.mk #[]),st (ByteArray.mk #[]),st (ByteArray.mk #[]),st (ByteArray.mk #[]),AV.list LK.nil 0 0 []]] 0=some (lro (List.length l9) 1 (List.map st l9),[Ob.cells [st (ByteArray.mk #[]),st (ByteArray.mk #[]),st (ByteArray.mk #[]),st (ByteArray.mk #[]),AV.list LK.nil 0 0 []]]))
  (h1:decide ((↑(List.length l9):Int) < 4)=false)
  (h2:slc Tryz.prog 39 [Ob.cells [st (ByteArray.mk #[]),st (ByteArray.mk #[]),st (ByteArray.mk #[]),st (ByteArray.mk #[]),AV.list LK.nil 0 0 []]] false 0 (lro (List.length l9) 1 (List.map st l9)) (some (i6 4)) none none=some (AV.list k16 (List.length l16) 1 (List.map st l16),[Ob.cells [st (ByteArray.mk #[]),st (ByteArray.mk #[]),st (ByteArray.mk #[]),st (ByteArray.mk #[]),AV.list LK.nil 0 0 []]]))
  (h3:callv X call false 23 [AV.list k16 (List.length l16) 1 (List.map st l16),st (ByteArray.mk #[32])] [Ob.cells [st (ByteArray.mk #[]),st (ByteArray.mk #[]),st (ByteArray.mk #[]),st (ByteArray.mk #[]),AV.list LK.nil 0 0 []]] 0=some (st x17,[Ob.cells [st (ByteArray.mk #[]),st (ByteArray.mk #[]),st (ByteArray.mk #[]),st (ByteArray.mk #[]),AV.list LK.nil 0 0 []]]))
  (h4:callv X call false 22 [st x17] [Ob.cells [st (ByteArray.mk #[]),st (ByteArray.mk #[]),st (ByteArray.mk #[]),st (ByteArray.mk #[]),AV.list LK.nil 0 0 []]] 0=some (AV.tup [lro m18_0 2 c18_0,i6 n18_1],[Ob.cells [st (ByteArray.mk #[]),st (ByteArray.mk #[]),st (ByteArray.mk #[]),st (ByteArray.mk #[]),AV.list LK.nil 0 0 []]]))
  (h5:keep [Ob.cells [st (ByteArray.mk #[]),st (ByteArray.mk #[]),st (ByteArray.mk #[]),st (ByteArray.mk #[]),AV.list LK.nil 0 0 []]] (indexAddrv Tryz.prog 39 [Ob.cells [st (ByteArray.mk #[]),st (ByteArray.mk #[]),st (ByteArray.mk #[]),st (ByteArray.mk #[]),AV.list LK.nil 0 0 []]] (lro (List.length l9) 1 (List.map st l9)) (i6 0))=some (AV.eaddr (st x22_0::r22),[Ob.cells [st (ByteArray.mk #[]),st (ByteArray.mk #[]),st (ByteArray.mk #[]),st (ByteArray.mk #[]),AV.list LK.nil 0 0 []]]))
  (h6:keep [Ob.cells [st (ByteArray.mk #[]),st (ByteArray.mk #[]),st (ByteArray.mk #[]),st (ByteArray.mk #[]),AV.list LK.nil 0 0 []]] (indexAddrv Tryz.prog 39 [Ob.cells [st (ByteArray.mk #[]),st (ByteArray.mk #[]),st (ByteArray.mk #[]),st (ByteArray.mk #[]),AV.list LK.nil 0 0 []]] (lro (List.length l9) 1 (List.map st l9)) (i6 1))=some (AV.eaddr (st x25_0::r25),[Ob.cells [st (ByteArray.mk #[]),st (ByteArray.mk #[]),st (ByteArray.mk #[]),st (ByteArray.mk #[]),AV.list LK.nil 0 0 []]]))
  (h7:keep [Ob.cells [st (ByteArray.mk #[]),st (ByteArray.mk #[]),st (ByteArray.mk #[]),st (ByteArray.mk #[]),AV.list LK.nil 0 0 []]] (indexAddrv Tryz.prog 39 [Ob.cells [st (ByteArray.mk #[]),st (ByteArray.mk #[]),st (ByteArray.mk #[]),st (ByteArray.mk #[]),AV.list LK.nil 0 0 []]] (lro (List.length l9) 1 (List.map st l9)) (i6 2))=some (AV.eaddr (st x28_0::r28),[Ob.cells [st (ByteArray.mk #[]),st (ByteArray.mk #[]),st (ByteArray.mk #[]),st (ByteArray.mk #[]),AV.list LK.nil 0 0 []]]))
  (h8:callv X (call0 call) true 24 [st x28_0] [Ob.cells [st (ByteArray.mk #[]),st (ByteArray.mk #[]),st (ByteArray.mk #[]),st (ByteArray.mk #[]),AV.list LK.nil 0 0 []]] 0=some (st x30,[Ob.cells [st (ByteArray.mk #[]),st (ByteArray.mk #[]),st (ByteArray.mk #[]),st (ByteArray.mk #[]),AV.list LK.nil 0 0 []]]))
  (h9:keep [Ob.cells [st (ByteArray.mk #[]),st (ByteArray.mk #[]),st (ByteArray.mk #[]),st (ByteArray.mk #[]),AV.list LK.nil 0 0 []]] (indexAddrv Tryz.prog 39 [Ob.cells [st (ByteArray.mk #[]),st (ByteArray.mk #[]),st (ByteArray.mk #[]),st (ByteArray.mk #[]),AV.list LK.nil 0 0 []]] (lro (List.length l9) 1 (List.map st l9)) (i6 3))=some (AV.eaddr (st x32_0::r32),[Ob.cells [st (ByteArray.mk #[]),st (ByteArray.mk #[]),st (ByteArray.mk #[]),st (ByteArray.mk #[]),AV.list LK.nil 0 0 []]]))
  (h10:callv X (call0 call) true 24 [st x32_0] [Ob.cells [st (ByteArray.mk #[]),st (ByteArray.mk #[]),st (ByteArray.mk #[]),st (ByteArray.mk #[]),AV.list LK.nil 0 0 []]] 0=some (st x34,[Ob.cells [st (ByteArray.mk #[]),st (ByteArray.mk #[]),st (ByteArray.mk #[]),st (ByteArray.mk #[]),AV.list LK.nil 0 0 []]]))
  (h11:(n18_1 != 0)=true):vbody Tryz.prog X call lf fg23 Tryz.f8 (codeOf Tryz.f8) [st s0] [] 0=some (AV.tup [AV.agg [st (ByteArray.mk #[]),st (ByteArray.mk #[]),st (ByteArray.mk #[]),st (ByteArray.mk #[]),AV.list LK.nil 0 0 []],i6 3],[Ob.cells [st (ByteArray.mk #[]),st (ByteArray.mk #[]),st (ByteArray.mk #[]),st (ByteArray.mk #[]),AV.list LK.nil 0 0 []],Ob.cells [st x22_0,st x25_0,st x30,st x34,lro m18_0 2 c18_0]]) :=
  along_sound (ans:=[(5,Ans.v (lro (List.length l9) 1 (List.map st l9))),(10,Ans.b false),(14,Ans.v (AV.list k16 (List.length l16) 1 (List.map st l16))),(15,Ans.v (st x17)),(16,Ans.v (AV.tup [lro m18_0 2 c18_0,i6 n18_1])),(24,Ans.v (AV.eaddr (st x22_0::r22))),(27,Ans.v (AV.eaddr (st x25_0::r25))),(30,Ans.v (AV.eaddr (st x28_0::r28))),(32,Ans.v (st x30)),(34,Ans.v (AV.eaddr (st x32_0::r32))),(36,Ans.v (st x34)),(43,Ans.b true)]) (by kernel_rfl) (ai h0 (ai h1 (ai h2 (ai h3 (ai h4 (ai h5 (ai h6 (ai h7 (ai h8 (ai h9 (ai h10 (ai h11 trivial))))))))))))
theorem f23_pfft (s0:ByteArray) (X:Ext) (call:Caller) (lf:Nat) (l9:List ByteArray) (l16:List ByteArray) (k16:LK) (x17:ByteArray) (m18_0:Nat) (c18_0:List AV) (n18_1:Int) (x22_0:ByteArray) (r22:List AV) (x25_0:ByteArray) (r25:List AV) (x28_0:ByteArray) (r28:List AV) (x30:ByteArray) (x32_0:ByteArray) (r32:List AV) (x34:ByteArray) (x41:ByteArray)
  (h0:callv X call false 21 [st s0,st (ByteArray.mk #[32])] [Ob.cells [st (ByteArray.mk #[]),st (ByteArray.mk #[]),st (ByteArray.mk #[]),st (ByteArray.mk #[]),AV.list LK.nil 0 0 []]] 0=some (lro (List.length l9) 1 (List.map st l9),[Ob.cells [st (ByteArray.mk #[]),st (ByteArray.mk #[]),st (ByteArray.mk #[]),st (ByteArray.mk #[]),AV.list LK.nil 0 0 []]]))
  (h1:decide ((↑(List.length l9):Int) < 4)=false)
  (h2:slc Tryz.prog 39 [Ob.cells [st (ByteArray.mk #[]),st (ByteArray.mk #[]),st (ByteArray.mk #[]),st (ByteArray.mk #[]),AV.list LK.nil 0 0 []]] false 0 (lro (List.length l9) 1 (List.map st l9)) (some (i6 4)) none none=some (AV.list k16 (List.length l16) 1 (List.map st l16),[Ob.cells [st (ByteArray.mk #[]),st (ByteArray.mk #[]),st (ByteArray.mk #[]),st (ByteArray.mk #[]),AV.list LK.nil 0 0 []]]))
  (h3:callv X call false 23 [AV.list k16 (List.length l16) 1 (List.map st l16),st (ByteArray.mk #[32])] [Ob.cells [st (ByteArray.mk #[]),st (ByteArray.mk #[]),st (ByteArray.mk #[]),st (ByteArray.mk #[]),AV.list LK.nil 0 0 []]] 0=some (st x17,[Ob.cells [st (ByteArray.mk #[]),st (ByteArray.mk #[]),st (ByteArray.mk #[]),st (ByteArray.mk #[]),AV.list LK.nil 0 0 []]]))
  (h4:callv X call false 22 [st x17] [Ob.cells [st (ByteArray.mk #[]),st (ByteArray.mk #[]),st (ByteArray.mk #[]),st (ByteArray.mk #[]),AV.list LK.nil 0 0 []]] 0=some (AV.tup [lro m18_0 2 c18_0,i6 n18_1],[Ob.cells [st (ByteArray.mk #[]),st (ByteArray.mk #[]),st (ByteArray.mk #[]),st (ByteArray.mk #[]),AV.list LK.nil 0 0 []]]))
  (h5:keep [Ob.cells [st (ByteArray.mk #[]),st (ByteArray.mk #[]),st (ByteArray.mk #[]),st (ByteArray.mk #[]),AV.list LK.nil 0 0 []]] (indexAddrv Tryz.prog 39 [Ob.cells [st (ByteArray.mk #[]),st (ByteArray.mk #[]),st (ByteArray.mk #[]),st (ByteArray.mk #[]),AV.list LK.nil 0 0 []]] (lro (List.length l9) 1 (List.map st l9)) (i6 0))=some (AV.eaddr (st x22_0::r22),[Ob.cells [st (ByteArray.mk #[]),st (ByteArray.mk #[]),st (ByteArray.mk #[]),st (ByteArray.mk #[]),AV.list LK.nil 0 0 []]]))
  (h6:keep [Ob.cells [st (ByteArray.mk #[]),st (ByteArray.mk #[]),st (ByteArray.mk #[]),st (ByteArray.mk #[]),AV.list LK.nil 0 0 []]] (indexAddrv Tryz.prog 39 [Ob.cells [st (ByteArray.mk #[]),st (ByteArray.mk #[]),st (ByteArray.mk #[]),st (ByteArray.mk #[]),AV.list LK.nil 0 0 []]] (lro (List.length l9) 1 (List.map st l9)) (i6 1))=some (AV.eaddr (st x25_0::r25),[Ob.cells [st (ByteArray.mk #[]),st (ByteArray.mk #[]),st (ByteArray.mk #[]),st (ByteArray.mk #[]),AV.list LK.nil 0 0 []]]))
  (h7:keep [Ob.cells [st (ByteArray.mk #[]),st (ByteArray.mk #[]),st (ByteArray.mk #[]),st (ByteArray.mk #[]),AV.list LK.nil 0 0 []]] (indexAddrv Tryz.prog 39 [Ob.cells [st (ByteArray.mk #[]),st (ByteArray.mk #[]),st (ByteArray.mk #[]),st (ByteArray.mk #[]),AV.list LK.nil 0 0 []]] (lro (List.length l9) 1 (List.map st l9)) (i6 2))=some (AV.eaddr (st x28_0::r28),[Ob.cells [st (ByteArray.mk #[]),st (ByteArray.mk #[]),st (ByteArray.mk #[]),st (ByteArray.mk #[]),AV.list LK.nil 0 0 []]]))
  (h8:callv X (call0 call) true 24 [st x28_0] [Ob.cells [st (ByteArray.mk #[]),st (ByteArray.mk #[]),st (ByteArray.mk #[]),st (ByteArray.mk #[]),AV.list LK.nil 0 0 []]] 0=some (st x30,[Ob.cells [st (ByteArray.mk #[]),st (ByteArray.mk #[]),st (ByteArray.mk #[]),st (ByteArray.mk #[]),AV.list LK.nil 0 0 []]]))
  (h9:keep [Ob.cells [st (ByteArray.mk #[]),st (ByteArray.mk #[]),st (ByteArray.mk #[]),st (ByteArray.mk #[]),AV.list LK.nil 0 0 []]] (indexAddrv Tryz.prog 39 [Ob.cells [st (ByteArray.mk #[]),st (ByteArray.mk #[]),st (ByteArray.mk #[]),st (ByteArray.mk #[]),AV.list LK.nil 0 0 []]] (lro (List.length l9) 1 (List.map st l9)) (i6 3))=some (AV.eaddr (st x32_0::r32),[Ob.cells [st (ByteArray.mk #[]),st (ByteArray.mk #[]),st (ByteArray.mk #[]),st (ByteArray.mk #[]),AV.list LK.nil 0 0 []]]))
  (h10:callv X (call0 call) true 24 [st x32_0] [Ob.cells [st (ByteArray.mk #[]),st (ByteArray.mk #[]),st (ByteArray.mk #[]),st (ByteArray.mk #[]),AV.list LK.nil 0 0 []]] 0=some (st x34,[Ob.cells [st (ByteArray.mk #[]),st (ByteArray.mk #[]),st (ByteArray.mk #[]),st (ByteArray.mk #[]),AV.list LK.nil 0 0 []]]))
  (h11:(n18_1 != 0)=false)
  (h12:callv X call false 12 [AV.agg [st x22_0,st x25_0,st x30,st x34,lro m18_0 2 c18_0]] [Ob.cells [st (ByteArray.mk #[]),st (ByteArray.mk #[]),st (ByteArray.mk #[]),st (ByteArray.mk #[]),AV.list LK.nil 0 0 []],Ob.cells [st x22_0,st x25_0,st x30,st x34,lro m18_0 2 c18_0]] 0=some (st x41,[Ob.cells [st (ByteArray.mk #[]),st (ByteArray.mk #[]),st (ByteArray.mk #[]),st (ByteArray.mk #[]),AV.list LK.nil 0 0 []],Ob.cells [st x22_0,st x25_0,st x30,st x34,lro m18_0 2 c18_0]]))
  (h13:(!ByteArray.toList x41 == ByteArray.toList s0)=true):vbody Tryz.prog X call lf fg23 Tryz.f8 (codeOf Tryz.f8) [st s0] [] 0=some (AV.tup [AV.agg [st (ByteArray.mk #[]),st (ByteArray.mk #[]),st (ByteArray.mk #[]),st (ByteArray.mk #[]),AV.list LK.nil 0 0 []],i6 3],[Ob.cells [st (ByteArray.mk #[]),st (ByteArray.mk #[]),st (ByteArray.mk #[]),st (ByteArray.mk #[]),AV.list LK.nil 0 0 []],Ob.cells [st x22_0,st x25_0,st x30,st x34,lro m18_0 2 c18_0]]) :=
  along_sound (ans:=[(5,Ans.v (lro (List.length l9) 1 (List.map st l9))),(10,Ans.b false),(14,Ans.v (AV.list k16 (List.length l16) 1 (List.map st l16))),(15,Ans.v (st x17)),(16,Ans.v (AV.tup [lro m18_0 2 c18_0,i6 n18_1])),(24,Ans.v (AV.eaddr (st x22_0::r22))),(27,Ans.v (AV.eaddr (st x25_0::r25))),(30,Ans.v (AV.eaddr (st x28_0::r28))),(32,Ans.v (st x30)),(34,Ans.v (AV.eaddr (st x32_0::r32))),(36,Ans.v (st x34)),(43,Ans.b false),(48,Ans.v (st x41)),(52,Ans.b true)]) (by kernel_rfl) (ai h0 (ai h1 (ai h2 (ai h3 (ai h4 (ai h5 (ai h6 (ai h7 (ai h8 (ai h9 (ai h10 (ai h11 (ai h12 (ai h13 trivial))))))))))))))
theorem f23_pfff (s0:ByteArray) (X:Ext) (call:Caller) (lf:Nat) (l9:List ByteArray) (l16:List ByteArray) (k16:LK) (x17:ByteArray) (m18_0:Nat) (c18_0:List AV) (n18_1:Int) (x22_0:ByteArray) (r22:List AV) (x25_0:ByteArray) (r25:List AV) (x28_0:ByteArray) (r28:List AV) (x30:ByteArray) (x32_0:ByteArray) (r32:List AV) (x34:ByteArray) (x41:ByteArray) (rE:AV) (sE:List Ob)
  (h0:callv X call false 21 [st s0,st (ByteArray.mk #[32])] [Ob.cells [st (ByteArray.mk #[]),st (ByteArray.mk #[]),st (ByteArray.mk #[]),st (ByteArray.mk #[]),AV.list LK.nil 0 0 []]] 0=some (lro (List.length l9) 1 (List.map st l9),[Ob.cells [st (ByteArray.mk #[]),st (ByteArray.mk #[]),st (ByteArray.mk #[]),st (ByteArray.mk #[]),AV.list LK.nil 0 0 []]]))
  (h1:decide ((↑(List.length l9):Int) < 4)=false)
  (h2:slc Tryz.prog 39 [Ob.cells [st (ByteArray.mk #[]),st (ByteArray.mk #[]),st (ByteArray.mk #[]),st (ByteArray.mk #[]),AV.list LK.nil 0 0 []]] false 0 (lro (List.length l9) 1 (List.map st l9)) (some (i6 4)) none none=some (AV.list k16 (List.length l16) 1 (List.map st l16),[Ob.cells [st (ByteArray.mk #[]),st (ByteArray.mk #[]),st (ByteArray.mk #[]),st (ByteArray.mk #[]),AV.list LK.nil 0 0 []]]))
  (h3:callv X call false 23 [AV.list k16 (List.length l16) 1 (List.map st l16),st (ByteArray.mk #[32])] [Ob.cells [st (ByteArray.mk #[]),st (ByteArray.mk #[]),st (ByteArray.mk #[]),st (ByteArray.mk #[]),AV.list LK.nil 0 0 []]] 0=some (st x17,[Ob.cells [st (ByteArray.mk #[]),st (ByteArray.mk #[]),st (ByteArray.mk #[]),st (ByteArray.mk #[]),AV.list LK.nil 0 0 []]]))
  (h4:callv X call false 22 [st x17] [Ob.cells [st (ByteArray.mk #[]),st (ByteArray.mk #[]),st (ByteArray.mk #[]),st (ByteArray.mk #[]),AV.list LK.nil 0 0 []]] 0=some (AV.tup [lro m18_0 2 c18_0,i6 n18_1],[Ob.cells [st (ByteArray.mk #[]),st (ByteArray.mk #[]),st (ByteArray.mk #[]),st (ByteArray.mk #[]),AV.list LK.nil 0 0 []]]))
  (h5:keep [Ob.cells [st (ByteArray.mk #[]),st (ByteArray.mk #[]),st (ByteArray.mk #[]),st (ByteArray.mk #[]),AV.list LK.nil 0 0 []]] (indexAddrv Tryz.prog 39 [Ob.cells [st (ByteArray.mk #[]),st (ByteArray.mk #[]),st (ByteArray.mk #[]),st (ByteArray.mk #[]),AV.list LK.nil 0 0 []]] (lro (List.length l9) 1 (List.map st l9)) (i6 0))=some (AV.eaddr (st x22_0::r22),[Ob.cells [st (ByteArray.mk #[]),st (ByteArray.mk #[]),st (ByteArray.mk #[]),st (ByteArray.mk #[]),AV.list LK.nil 0 0 []]]))
  (h6:keep [Ob.cells [st (ByteArray.mk #[]),st (ByteArray.mk #[]),st (ByteArray.mk #[]),st (ByteArray.mk #[]),AV.list LK.nil 0 0 []]] (indexAddrv Tryz.prog 39 [Ob.cells [st (ByteArray.mk #[]),st (ByteArray.mk #[]),st (ByteArray.mk #[]),st (ByteArray.mk #[]),AV.list LK.nil 0 0 []]] (lro (List.length l9) 1 (List.map st l9)) (i6 1))=some (AV.eaddr (st x25_0::r25),[Ob.cells [st (ByteArray.mk #[]),st (ByteArray.mk #[]),st (ByteArray.mk #[]),st (ByteArray.mk #[]),AV.list LK.nil 0 0 []]]))
  (h7:keep [Ob.cells [st (ByteArray.mk #[]),st (ByteArray.mk #[]),st (ByteArray.mk #[]),st (ByteArray.mk #[]),AV.list LK.nil 0 0 []]] (indexAddrv Tryz.prog 39 [Ob.cells [st (ByteArray.mk #[]),st (ByteArray.mk #[]),st (ByteArray.mk #[]),st (ByteArray.mk #[]),AV.list LK.nil 0 0 []]] (lro (List.length l9) 1 (List.map st l9)) (i6 2))=some (AV.eaddr (st x28_0::r28),[Ob.cells [st (ByteArray.mk #[]),st (ByteArray.mk #[]),st (ByteArray.mk #[]),st (ByteArray.mk #[]),AV.list LK.nil 0 0 []]]))
  (h8:callv X (call0 call) true 24 [st x28_0] [Ob.cells [st (ByteArray.mk #[]),st (ByteArray.mk #[]),st (ByteArray.mk #[]),st (ByteArray.mk #[]),AV.list LK.nil 0 0 []]] 0=some (st x30,[Ob.cells [st (ByteArray.mk #[]),st (ByteArray.mk #[]),st (ByteArray.mk #[]),st (ByteArray.mk #[]),AV.list LK.nil 0 0 []]]))
  (h9:keep [Ob.cells [st (ByteArray.mk #[]),st (ByteArray.mk #[]),st (ByteArray.mk #[]),st (ByteArray.mk #[]),AV.list LK.nil 0 0 []]] (indexAddrv Tryz.prog 39 [Ob.cells [st (ByteArray.mk #[]),st (ByteArray.mk #[]),st (ByteArray.mk #[]),st (ByteArray.mk #[]),AV.list LK.nil 0 0 []]] (lro (List.length l9) 1 (List.map st l9)) (i6 3))=some (AV.eaddr (st x32_0::r32),[Ob.cells [st (ByteArray.mk #[]),st (ByteArray.mk #[]),st (ByteArray.mk #[]),st (ByteArray.mk #[]),AV.list LK.nil 0 0 []]]))
  (h10:callv X (call0 call) true 24 [st x32_0] [Ob.cells [st (ByteArray.mk #[]),st (ByteArray.mk #[]),st (ByteArray.mk #[]),st (ByteArray.mk #[]),AV.list LK.nil 0 0 []]] 0=some (st x34,[Ob.cells [st (ByteArray.mk #[]),st (ByteArray.mk #[]),st (ByteArray.mk #[]),st (ByteArray.mk #[]),AV.list LK.nil 0 0 []]]))
  (h11:(n18_1 != 0)=false)
  (h12:callv X call false 12 [AV.agg [st x22_0,st x25_0,st x30,st x34,lro m18_0 2 c18_0]] [Ob.cells [st (ByteArray.mk #[]),st (ByteArray.mk #[]),st (ByteArray.mk #[]),st (ByteArray.mk #[]),AV.list LK.nil 0 0 []],Ob.cells [st x22_0,st x25_0,st x30,st x34,lro m18_0 2 c18_0]] 0=some (st x41,[Ob.cells [st (ByteArray.mk #[]),st (ByteArray.mk #[]),st (ByteArray.mk #[]),st (ByteArray.mk #[]),AV.list LK.nil 0 0 []],Ob.cells [st x22_0,st x25_0,st x30,st x34,lro m18_0 2 c18_0]]))
  (h13:(!ByteArray.toList x41 == ByteArray.toList s0)=false)
  (h14:vend1 [] 0 [Ob.cells [st x22_0,st x25_0,st x30,st x34,lro m18_0 2 c18_0],Ob.cells [st x22_0,st x25_0,st x30,st x34,lro m18_0 2 c18_0]] [AV.agg [st x22_0,st x25_0,st x30,st x34,lro m18_0 2 c18_0],i6 0]=some (rE,sE)):vbody Tryz.prog X call lf fg23 Tryz.f8 (codeOf Tryz.f8) [st s0] [] 0=some (rE,sE) :=
  along_sound (ans:=[(5,Ans.v (lro (List.length l9) 1 (List.map st l9))),(10,Ans.b false),(14,Ans.v (AV.list k16 (List.length l16) 1 (List.map st l16))),(15,Ans.v (st x17)),(16,Ans.v (AV.tup [lro m18_0 2 c18_0,i6 n18_1])),(24,Ans.v (AV.eaddr (st x22_0::r22))),(27,Ans.v (AV.eaddr (st x25_0::r25))),(30,Ans.v (AV.eaddr (st x28_0::r28))),(32,Ans.v (st x30)),(34,Ans.v (AV.eaddr (st x32_0::r32))),(36,Ans.v (st x34)),(43,Ans.b false),(48,Ans.v (st x41)),(52,Ans.b false),(59,Ans.c rE sE)]) (by kernel_rfl) (ai h0 (ai h1 (ai h2 (ai h3 (ai h4 (ai h5 (ai h6 (ai h7 (ai h8 (ai h9 (ai h10 (ai h11 (ai h12 (ai h13 (ai h14 trivial)))))))))))))))
def f23_q0 (s0:ByteArray) (l9:List ByteArray) (n18_1:Int) (x41:ByteArray):Nat :=
  (match decide ((↑(List.length l9):Int) < 4) with
  | true=>0
  | false => (match (n18_1 != 0) with
    | true=>1
    | false => (match (!ByteArray.toList x41 == ByteArray.toList s0) with
      | true=>1
      | false=>2)))
theorem f23_P0 (s0:ByteArray) (X:Ext) (call:Caller) (lf:Nat) (l9:List ByteArray) (l16:List ByteArray) (k16:LK) (x17:ByteArray) (m18_0:Nat) (c18_0:List AV) (n18_1:Int) (x22_0:ByteArray) (r22:List AV) (x25_0:ByteArray) (r25:List AV) (x28_0:ByteArray) (r28:List AV) (x30:ByteArray) (x32_0:ByteArray) (r32:List AV) (x34:ByteArray) (x41:ByteArray) (rE:AV) (sE:List Ob)
  (g0:callv X call false 21 [st s0,st (ByteArray.mk #[32])] [Ob.cells [st (ByteArray.mk #[]),st (ByteArray.mk #[]),st (ByteArray.mk #[]),st (ByteArray.mk #[]),AV.list LK.nil 0 0 []]] 0=some (lro (List.length l9) 1 (List.map st l9),[Ob.cells [st (ByteArray.mk #[]),st (ByteArray.mk #[]),st (ByteArray.mk #[]),st (ByteArray.mk #[]),AV.list LK.nil 0 0 []]]))
  (g1:decide ((↑(List.length l9):Int) < 4)=false→slc Tryz.prog 39 [Ob.cells [st (ByteArray.mk #[]),st (ByteArray.mk #[]),st (ByteArray.mk #[]),st (ByteArray.mk #[]),AV.list LK.nil 0 0 []]] false 0 (lro (List.length l9) 1 (List.map st l9)) (some (i6 4)) none none=some (AV.list k16 (List.length l16) 1 (List.map st l16),[Ob.cells [st (ByteArray.mk #[]),st (ByteArray.mk #[]),st (ByteArray.mk #[]),st (ByteArray.mk #[]),AV.list LK.nil 0 0 []]]))
  (g2:decide ((↑(List.length l9):Int) < 4)=false→callv X call false 23 [AV.list k16 (List.length l16) 1 (List.map st l16),st (ByteArray.mk #[32])] [Ob.cells [st (ByteArray.mk #[]),st (ByteArray.mk #[]),st (ByteArray.mk #[]),st (ByteArray.mk #[]),AV.list LK.nil 0 0 []]] 0=some (st x17,[Ob.cells [st (ByteArray.mk #[]),st (ByteArray.mk #[]),st (ByteArray.mk #[]),st (ByteArray.mk #[]),AV.list LK.nil 0 0 []]]))
  (g3:decide ((↑(List.length l9):Int) < 4)=false→callv X call false 22 [st x17] [Ob.cells [st (ByteArray.mk #[]),st (ByteArray.mk #[]),st (ByteArray.mk #[]),st (ByteArray.mk #[]),AV.list LK.nil 0 0 []]] 0=some (AV.tup [lro m18_0 2 c18_0,i6 n18_1],[Ob.cells [st (ByteArray.mk #[]),st (ByteArray.mk #[]),st (ByteArray.mk #[]),st (ByteArray.mk #[]),AV.list LK.nil 0 0 []]]))
  (g4:decide ((↑(List.length l9):Int) < 4)=false→keep [Ob.cells [st (ByteArray.mk #[]),st (ByteArray.mk #[]),st (ByteArray.mk #[]),st (ByteArray.mk #[]),AV.list LK.nil 0 0 []]] (indexAddrv Tryz.prog 39 [Ob.cells [st (ByteArray.mk #[]),st (ByteArray.mk #[]),st (ByteArray.mk #[]),st (ByteArray.mk #[]),AV.list LK.nil 0 0 []]] (lro (List.length l9) 1 (List.map st l9)) (i6 0))=some (AV.eaddr (st x22_0::r22),[Ob.cells [st (ByteArray.mk #[]),st (ByteArray.mk #[]),st (ByteArray.mk #[]),st (ByteArray.mk #[]),AV.list LK.nil 0 0 []]]))
  (g5:decide ((↑(List.length l9):Int) < 4)=false→keep [Ob.cells [st (ByteArray.mk #[]),st (ByteArray.mk #[]),st (ByteArray.mk #[]),st (ByteArray.mk #[]),AV.list LK.nil 0 0 []]] (indexAddrv Tryz.prog 39 [Ob.cells [st (ByteArray.mk #[]),st (ByteArray.mk #[]),st (ByteArray.mk #[]),st (ByteArray.mk #[]),AV.list LK.nil 0 0 []]] (lro (List.length l9) 1 (List.map st l9)) (i6 1))=some (AV.eaddr (st x25_0::r25),[Ob.cells [st (ByteArray.mk #[]),st (ByteArray.mk #[]),st (ByteArray.mk #[]),st (ByteArray.mk #[]),AV.list LK.nil 0 0 []]]))
  (g6:decide ((↑(List.length l9):Int) < 4)=false→keep [Ob.cells [st (ByteArray.mk #[]),st (ByteArray.mk #[]),st (ByteArray.mk #[]),st (ByteArray.mk #[]),AV.list LK.nil 0 0 []]] (indexAddrv Tryz.prog 39 [Ob.cells [st (ByteArray.mk #[]),st (ByteArray.mk #[]),st (ByteArray.mk #[]),st (ByteArray.mk #[]),AV.list LK.nil 0 0 []]] (lro (List.length l9) 1 (List.map st l9)) (i6 2))=some (AV.eaddr (st x28_0::r28),[Ob.cells [st (ByteArray.mk #[]),st (ByteArray.mk #[]),st (ByteArray.mk #[]),st (ByteArray.mk #[]),AV.list LK.nil 0 0 []]]))
  (g7:decide ((↑(List.length l9):Int) < 4)=false→callv X (call0 call) true 24 [st x28_0] [Ob.cells [st (ByteArray.mk #[]),st (ByteArray.mk #[]),st (ByteArray.mk #[]),st (ByteArray.mk #[]),AV.list LK.nil 0 0 []]] 0=some (st x30,[Ob.cells [st (ByteArray.mk #[]),st (ByteArray.mk #[]),st (ByteArray.mk #[]),st (ByteArray.mk #[]),AV.list LK.nil 0 0 []]]))
  (g8:decide ((↑(List.length l9):Int) < 4)=false→keep [Ob.cells [st (ByteArray.mk #[]),st (ByteArray.mk #[]),st (ByteArray.mk #[]),st (ByteArray.mk #[]),AV.list LK.nil 0 0 []]] (indexAddrv Tryz.prog 39 [Ob.cells [st (ByteArray.mk #[]),st (ByteArray.mk #[]),st (ByteArray.mk #[]),st (ByteArray.mk #[]),AV.list LK.nil 0 0 []]] (lro (List.length l9) 1 (List.map st l9)) (i6 3))=some (AV.eaddr (st x32_0::r32),[Ob.cells [st (ByteArray.mk #[]),st (ByteArray.mk #[]),st (ByteArray.mk #[]),st (ByteArray.mk #[]),AV.list LK.nil 0 0 []]]))
  (g9:decide ((↑(List.length l9):Int) < 4)=false→callv X (call0 call) true 24 [st x32_0] [Ob.cells [st (ByteArray.mk #[]),st (ByteArray.mk #[]),st (ByteArray.mk #[]),st (ByteArray.mk #[]),AV.list LK.nil 0 0 []]] 0=some (st x34,[Ob.cells [st (ByteArray.mk #[]),st (ByteArray.mk #[]),st (ByteArray.mk #[]),st (ByteArray.mk #[]),AV.list LK.nil 0 0 []]]))
  (g10:decide ((↑(List.length l9):Int) < 4)=false→(n18_1 != 0)=false→callv X call false 12 [AV.agg [st x22_0,st x25_0,st x30,st x34,lro m18_0 2 c18_0]] [Ob.cells [st (ByteArray.mk #[]),st (ByteArray.mk #[]),st (ByteArray.mk #[]),st (ByteArray.mk #[]),AV.list LK.nil 0 0 []],Ob.cells [st x22_0,st x25_0,st x30,st x34,lro m18_0 2 c18_0]] 0=some (st x41,[Ob.cells [st (ByteArray.mk #[]),st (ByteArray.mk #[]),st (ByteArray.mk #[]),st (ByteArray.mk #[]),AV.list LK.nil 0 0 []],Ob.cells [st x22_0,st x25_0,st x30,st x34,lro m18_0 2 c18_0]]))
  (g11 : decide ((↑(List.length l9) : Int) < 4) = false → (n18_1 != 0) = false → (!ByteArray.toList x41 == ByteArray.toList s0) = false → vend1 [] 0 [Ob.cells [st x22_0, st x25_0, st x30, st x34, lro m18_0 2 c18_0], Ob.cells [st x22_0, st x25_0, st x30, st x34, lro m18_0 2 c18_0]] [AV.agg [st x22_0, st x25_0, st x30, st x34, lro m18_0 2 c18_0], i6 0] = some (rE, sE)) :
    (f23_q0 s0 l9 n18_1 x41=0→vbody Tryz.prog X call lf fg23 Tryz.f8 (codeOf Tryz.f8) [st s0] [] 0=some (AV.tup [AV.agg [st (ByteArray.mk #[]),st (ByteArray.mk #[]),st (ByteArray.mk #[]),st (ByteArray.mk #[]),AV.list LK.nil 0 0 []],i6 3],[Ob.cells [st (ByteArray.mk #[]),st (ByteArray.mk #[]),st (ByteArray.mk #[]),st (ByteArray.mk #[]),AV.list LK.nil 0 0 []]]))∧(f23_q0 s0 l9 n18_1 x41=1→vbody Tryz.prog X call lf fg23 Tryz.f8 (codeOf Tryz.f8) [st s0] [] 0=some (AV.tup [AV.agg [st (ByteArray.mk #[]),st (ByteArray.mk #[]),st (ByteArray.mk #[]),st (ByteArray.mk #[]),AV.list LK.nil 0 0 []],i6 3],[Ob.cells [st (ByteArray.mk #[]),st (ByteArray.mk #[]),st (ByteArray.mk #[]),st (ByteArray.mk #[]),AV.list LK.nil 0 0 []],Ob.cells [st x22_0,st x25_0,st x30,st x34,lro m18_0 2 c18_0]]))∧(f23_q0 s0 l9 n18_1 x41=2→vbody Tryz.prog X call lf fg23 Tryz.f8 (codeOf Tryz.f8) [st s0] [] 0=some (rE,sE)):=by
  unfold f23_q0
  cases c0:decide ((↑(List.length l9):Int) < 4) with
  | true =>
    exact ⟨fun _=>f23_pt s0 X call lf l9 g0 c0,fun h=>nq h,fun h=>nq h⟩
  | false =>
    cases c1:(n18_1 != 0) with
    | true =>
      exact ⟨fun h=>nq h,fun _=>f23_pft s0 X call lf l9 l16 k16 x17 m18_0 c18_0 n18_1 x22_0 r22 x25_0 r25 x28_0 r28 x30 x32_0 r32 x34 g0 c0 (g1 c0) (g2 c0) (g3 c0) (g4 c0) (g5 c0) (g6 c0) (g7 c0) (g8 c0) (g9 c0) c1,fun h=>nq h⟩
    | false =>
      cases c2:(!ByteArray.toList x41 == ByteArray.toList s0) with
      | true =>
        exact ⟨fun h=>nq h,fun _=>f23_pfft s0 X call lf l9 l16 k16 x17 m18_0 c18_0 n18_1 x22_0 r22 x25_0 r25 x28_0 r28 x30 x32_0 r32 x34 x41 g0 c0 (g1 c0) (g2 c0) (g3 c0) (g4 c0) (g5 c0) (g6 c0) (g7 c0) (g8 c0) (g9 c0) c1 (g10 c0 c1) c2,fun h=>nq h⟩
      | false =>
        exact ⟨fun h=>nq h,fun h=>nq h,fun _=>f23_pfff s0 X call lf l9 l16 k16 x17 m18_0 c18_0 n18_1 x22_0 r22 x25_0 r25 x28_0 r28 x30 x32_0 r32 x34 x41 rE sE g0 c0 (g1 c0) (g2 c0) (g3 c0) (g4 c0) (g5 c0) (g6 c0) (g7 c0) (g8 c0) (g9 c0) c1 (g10 c0 c1) c2 (g11 c0 c1 c2)⟩
end Go.Proofs.Lex
end
/- Lexicon: ParseLine. -/
section
open Go Go.Vm Go.Proofs
namespace Go.Proofs.Lex
def candF (l:List ByteArray) (F:List Feat):Lexm:=⟨nS l 0,nS l 1,undashS (nS l 2),undashS (nS l 3),F⟩
def restS (l:List ByteArray):ByteArray:=⟨(joinB (l.drop 4) blank).toArray⟩
def parseP (s:ByteArray) (l:List ByteArray):Option Lexm:=if l.length < 4 then none else match parseF (restS l) with
  | none=>none
  | some F=>if lineS (candF l F)=s then some (candF l F) else none
def parseL (s:ByteArray):Option Lexm:=parseP s (splitL s blank)
/-- A text that is short enough, and of whose third part ContainsAny tells. -/
def okPar (s:ByteArray):Prop:=s.size < lim∧anyFn [st (undashS (nS (splitL s blank) 2)),st bn]=some (bo (anyBN (undashS (nS (splitL s blank) 2))))
theorem textN_bound {B:Nat} {F:List Feat} (h:∀ f ∈ F,f.name.size ≤ B∧f.value.size ≤ B):∀ i,i ≤ F.length→(textN F i).length ≤ i * (2 * B + 2)
  | 0,_=>Nat.zero_le _
  | i + 1, hi => by
    have ih:=textN_bound h i (by omega)
    have hm:=h (nF F i) (by rw [nF,getD_lt (by omega)]; exact List.getElem_mem _)
    have hc : (cond (decide (0 < i)) (textN F i ++ [32]) []).length ≤ (textN F i).length + 1 := by
      cases decide (0 < i)
      · exact Nat.zero_le _
      · simp
    have e1:(nF F i).name.data.toList.length=(nF F i).name.size:=by simp
    have e2:(nF F i).value.data.toList.length=(nF F i).value.size:=by simp
    simp only [textN,List.length_append,List.length_cons,List.length_nil,e1,e2]
    rw [Nat.succ_mul]
    omega
section
variable [Fixed]
/-- What a parsed record's sizes are. -/
theorem parseF_ok {s:ByteArray} {F:List Feat} (hs:s.size < lim) (h:parseF s=some F):okF F∧F.length ≤ 8∧∀ f ∈ F,f.name.size ≤ lim∧f.value.size ≤ lim:=by
  unfold parseF at h
  split at h
  · simp only [Option.some.injEq] at h
    subst h
    exact ⟨⟨Nat.zero_le _,fun f hf=>by simp at hf⟩,Nat.zero_le _,fun f hf=>by simp at hf⟩
  · unfold partsF at h
    split at h
    · rename_i hc
      simp only [Option.some.injEq] at h
      subst h
      have h8:(featsOf (splitL s blank)).length ≤ 8:=by rw [featsOf,List.length_map]; exact hc.2.1
      refine ⟨okF_parts hs (Nat.le_trans hc.2.1 (by decide)) fun p hp=>hp,h8,fun f hf => ?_⟩
      obtain ⟨p,hp,rfl⟩:=List.mem_map.1 hf
      have h1:=split_le hp
      have h2:=featOf_le p
      omega
    · cases h
theorem okT_small {F:List Feat} (h8:F.length ≤ 8) (h:∀ f ∈ F,f.name.size ≤ lim∧f.value.size ≤ lim):okT F∧(textS F).size ≤ 8 * (2 * lim + 2):=by
  have h1:=textN_bound h F.length (Nat.le_refl _)
  have h2:F.length * (2 * lim + 2) ≤ 8 * (2 * lim + 2):=Nat.mul_le_mul_right _ h8
  have h3:(textF F).length ≤ 8 * (2 * lim + 2):=Nat.le_trans h1 h2
  refine ⟨⟨Nat.le_trans h8 (by decide),?_⟩,?_⟩
  · have : (8 * (2 * lim + 2)) * 2 ≤ big := by decide
    omega
  · show (textF F).toArray.size ≤ _
    simpa using h3
theorem dashS_le {s:ByteArray} {B:Nat} (h:s.size ≤ B) (hB:1 ≤ B):(dashS s).size ≤ B:=by
  unfold dashS
  split
  · exact hB
  · exact h
theorem undashS_le {s:ByteArray} {B:Nat} (h:s.size ≤ B):(undashS s).size ≤ B:=by
  unfold undashS
  split
  · exact Nat.zero_le _
  · exact h
theorem line_len {x:Lexm} {B:Nat} (h1:x.id.size ≤ B) (h2:x.cat.size ≤ B) (h3:x.stem.size ≤ B) (h4:x.par.size ≤ B) (h5:(textS x.feats).size ≤ B) (hB:1 ≤ B):(joinB (lineParts x) blank).length ≤ 5 * (B + 1):=by
  have hl : ∀ y ∈ (lineParts x).map (·.data.toList), y.length ≤ B := by
    intro y hy
    obtain ⟨z,hz,rfl⟩:=List.mem_map.1 hy
    have e:z.data.toList.length=z.size:=by simp
    rw [e]
    unfold lineParts partsL at hz
    have hd3:=dashS_le h3 hB
    have hd4:=dashS_le h4 hB
    split at hz <;> simp only [List.mem_cons,List.not_mem_nil,or_false] at hz
    · rcases hz with rfl | rfl | rfl | rfl <;> assumption
    · rcases hz with rfl | rfl | rfl | rfl | rfl <;> assumption
  have h6:=join_le _ hl
  have hn : ((lineParts x).map (·.data.toList)).length ≤ 5 := by
    rw [List.length_map]
    unfold lineParts partsL
    split <;> simp
  exact Nat.le_trans h6 (Nat.mul_le_mul_right _ hn)
theorem part_le {s:ByteArray} {l:List ByteArray} (hl:splitL s blank=l) {i:Nat} (hi:i < l.length):(nS l i).size ≤ s.size:=split_le (by rw [hl,nS,getD_lt hi]; exact List.getElem_mem hi)
theorem okLine_cand {s:ByteArray} (hp:okPar s) {F:List Feat} (h4 : ¬ (splitL s blank).length < 4) (hF:okF F∧F.length ≤ 8∧∀ f ∈ F,f.name.size ≤ lim∧f.value.size ≤ lim):okLine (candF (splitL s blank) F):=by
  have hs:s.size < lim:=hp.1
  have hb:=lim_big
  have p:∀ i,i < 4→(nS (splitL s blank) i).size ≤ s.size:=fun i hi=>part_le rfl (by omega)
  obtain ⟨hT,hts⟩:=okT_small hF.2.1 hF.2.2
  have hlim:lim ≤ 8 * (2 * lim + 2):=by decide
  refine ⟨?_,?_,?_,hF.1,hp.2,fun _=>hT,fun _ => ?_⟩
  · have:=p 0 (by omega); show (nS (splitL s blank) 0).size ≤ big; omega
  · have:=p 1 (by omega); show (nS (splitL s blank) 1).size ≤ big; omega
  · have:=undashS_le (p 3 (by omega)); show (undashS (nS (splitL s blank) 3)).size ≤ big; omega
  · refine Nat.le_trans (line_len (B := 8 * (2 * lim + 2)) ?_ ?_ ?_ ?_ hts (by decide)) (by decide)
    · have:=p 0 (by omega); show (nS (splitL s blank) 0).size ≤ _; omega
    · have:=p 1 (by omega); show (nS (splitL s blank) 1).size ≤ _; omega
    · have:=undashS_le (p 2 (by omega)); show (undashS (nS (splitL s blank) 2)).size ≤ _; omega
    · have:=undashS_le (p 3 (by omega)); show (undashS (nS (splitL s blank) 3)).size ≤ _; omega
end
section
variable [Fixed] {X:Ext}
abbrev aLE:Arg (Lexm × Int):=Arg.tup2 aL aI
theorem callOn0 {α:Type} {T:Go.Vm.Spec} {f:FuncId} {vs:List AV} {y:α} {B:Arg α} {σ:List Ob} {ro:Nat} {dr:Bool} (h1:X.pureFn f=none) (h2:X.stFn f=none) (ha:X.adopt f=false) (hl:AV.ltAll 0 vs=true) (h:T f vs=some (B.enc y)) :
    callv X (call0 (callerOf T)) dr f vs σ ro=some (B.enc y,σ):=by
  have hp:(B.enc y).pure=true:=B.lt y
  unfold callv
  rw [h1,h2]
  simp only [hl,if_true,call0,callerOf,h,hp,ha,Bool.and_false,Bool.false_eq_true,if_false,B.ro]
theorem slc_from {l:List ByteArray} {σ:List Ob} (h:4 ≤ l.length):slc Tryz.prog 39 σ false 0 (lro l.length 1 (l.map st)) (some (i6 4)) none none=some (.list .ro (l.drop 4).length 1 ((l.drop 4).map st),σ):=by
  unfold slc cutOwn
  simp only
  unfold byValue1
  have ho:AV.owns (lro l.length 1 (l.map st))=[]:=owns_strs l
  rw [ho]
  simp only [Bool.false_eq_true,if_false,if_true]
  unfold slicev
  rw [Tryz.underlying39]
  simp only [cells9,info9]
  simp [boundv,keep]
  rw [if_pos (by omega)]
  simp [List.take_of_length_le]
theorem join55 (hM:XM X) {call:Caller} {l:List ByteArray} (h1:l.length ≤ 140737488355328) (h2:(joinB l blank).length ≤ 140737488355328) (σ:List Ob) :
    callv X call false 23 [.list .ro l.length 1 (l.map st),st blank] σ 0=some (st ⟨(joinB l blank).toArray⟩,σ):=by
  refine call_pure hM.join ?_ ?_ ?_ ?_
  · have := aSs.lt l
    rw [aSs_enc] at this
    have h3:AV.lt 0 (AV.list .ro l.length 1 (l.map st))=true:=this
    show (AV.lt 0 (AV.list .ro l.length 1 (l.map st)) && (AV.lt 0 (st blank) && true))=true
    rw [h3]
    rfl
  · simp only [AV.ownsAll, AV.owns, List.append_nil]
    exact owns_strs l
  · exact thawAll_id _ (by simp only [AV.ownsAll,AV.owns,List.append_nil]; exact owns_strs l)
  · unfold joinFn
    have:aSs.dec (.list .ro l.length 1 (l.map st))=some l:=aSs_dec
    simp only [this]
    rw [if_pos ⟨h1,h2⟩]
end
end Go.Proofs.Lex
end
/- Lexicon: ParseLine, told. -/
section
open Go Go.Vm Go.Proofs
namespace Go.Proofs.Lex
section
variable [Fixed] {X:Ext}
def fsE (s:ByteArray):List Feat × Int:=resE [] (parseF s)
theorem badL_dec:aLE.dec (.tup [.agg [st emp,st emp,st emp,st emp,.list .nil 0 0 []],i6 3])=some (d0L,3):=by rfl
/-- What ParseLine of this text asks. -/
def U23 (x0:Lexm):Go.Vm.Spec:=(U1.on 22 (s1 aS aFsE fsE fun s=>s.size < lim)).on 12 (s1 aL aS lineS fun x=>x=x0)
theorem U23_ok (hX:ExtOk Tryz.prog X) (hM:XM X) {x0:Lexm} (h:okLine x0):SpecOk Tryz.prog (U23 x0) :=
  SpecOk.s1 (SpecOk.s1 (U1_ok hX hM.toXL) fun _ h=>call54 hX hM h) fun x hx=>by subst hx; exact call21 hX hM h
theorem v54 (hM:XM X) {x0:Lexm} {s:ByteArray} (hs:s.size < lim) (σ:List Ob):callv X (callerOf (U23 x0)) false 22 [st s] σ 0=some (aFsE.enc (fsE s),σ):=by
  obtain ⟨a1,a2,a3⟩:=hM.ok 22 rfl
  exact call_on (B:=aFsE) (T:=U23 x0) (y:=fsE s) (vs:=[aS.enc s]) a1 a2 a3 rfl (s1_at (A:=aS) (B:=aFsE) (g:=fsE) (ok:=fun s=>s.size < lim) hs)
theorem v21 (hM:XM X) {x0:Lexm} (σ:List Ob):callv X (callerOf (U23 x0)) false 12 [.agg (lexC x0)] σ 0=some (st (lineS x0),σ):=by
  obtain ⟨a1,a2,a3⟩:=hM.ok 12 rfl
  exact call_on (B:=aS) (T:=U23 x0) (y:=lineS x0) (vs:=[aL.enc x0]) a1 a2 a3 (by simp only [AV.ltAll,aL.lt,Bool.and_self]) (s1_at (A:=aL) (B:=aS) (g:=lineS) (ok:=fun x=>x=x0) rfl)
theorem v56 (hM:XM X) {x0:Lexm} (s:ByteArray) (σ:List Ob):callv X (call0 (callerOf (U23 x0))) true 24 [st s] σ 0=some (st (undashS s),σ):=by
  obtain ⟨a1,a2,a3⟩:=hM.ok 24 rfl
  exact callOn0 (B:=aS) (T:=U23 x0) (y:=undashS s) (vs:=[aS.enc s]) a1 a2 a3 rfl (s1_at (A:=aS) (B:=aS) (g:=undashS) (ok:=fun _=>True) trivial)
theorem any_all {s:ByteArray} (h:s.size < lim):anyFn [st s,st bn]=some (bo (anyBN s)):=by
  exact if_pos (⟨h,rfl⟩:s.size < lim∧bn=⟨#[32,10]⟩)
theorem any_ascii {s:ByteArray} (h:s.size < lim) (_:asciiB s=true):anyFn [st s,st bn]=some (bo (anyBN s)):=any_all h
theorem okLine_d0:okLine d0L:=⟨Nat.zero_le _,Nat.zero_le _,Nat.zero_le _,⟨Nat.zero_le _,fun f hf=>by simp [d0L] at hf⟩,any_ascii (by decide) (by decide),fun _=>⟨Nat.zero_le _,Nat.zero_le _⟩,fun h=>by revert h; unfold lineOk; rw [show nameL d0L.id=false from by unfold nameL; rw [emp_iff.2 (show d0L.id.size=0 from rfl)]; simp]; simp⟩
/-- lexicon.ParseLine. -/
theorem call23 (hX:ExtOk Tryz.prog X) (hM:XM X) {s:ByteArray} (hp:okPar s):CallAt Tryz.prog 8 [aS.enc s] [] 0 (aLE.enc (resE d0L (parseL s))) []:=by
  unfold parseL
  obtain ⟨l,hl⟩:∃ l,splitL s blank=l:=⟨_,rfl⟩
  have hlen:l.length ≤ s.size + 1:=by rw [← hl]; exact split_len
  have hs:s.size < 4294967281:=hp.1
  by_cases h4:l.length < 4
  · have hC := callerOf_ok (U23_ok hX hM okLine_d0)
    have hsp:=split53 (call:=callerOf (U23 d0L)) hM hp.1
    rw [hl] at hsp
    rw [hl]
    unfold parseP
    rw [if_pos h4]
    exact run_res (B:=aLE) hX hC (hM.dom 8 rfl rfl) Tryz.func8 (by kernel_rfl) (f23_pt s X (callerOf (U23 d0L)) 0 l (hsp _) (decide_eq_true (by omega))) badL_dec
  have hrest : (restS l).size ≤ s.size := by
    have:=joinB_drop_le s 4
    rw [hl] at this
    show (joinB (l.drop 4) blank).toArray.size ≤ _
    simpa using this
  have hj : (joinB (l.drop 4) blank).length ≤ 140737488355328 := by
    have:=joinB_drop_le s 4
    rw [hl] at this
    omega
  have hrl:(restS l).size < lim:=Nat.lt_of_le_of_lt hrest hp.1
  -- the candidate
  have hok : okLine (candF l (fsE (restS l)).1) := by
    have hF : okF (fsE (restS l)).1 ∧ (fsE (restS l)).1.length ≤ 8 ∧ ∀ f ∈ (fsE (restS l)).1, f.name.size ≤ lim ∧ f.value.size ≤ lim := by
      unfold fsE
      cases h:parseF (restS l) with
      | none=>exact ⟨⟨Nat.zero_le _,fun f hf=>by simp [resE] at hf⟩,Nat.zero_le _,fun f hf=>by simp [resE] at hf⟩
      | some F=>exact parseF_ok hrl h
    have:=okLine_cand hp (F:=(fsE (restS l)).1) (by rw [hl]; exact h4) hF
    rwa [hl] at this
  obtain ⟨x0,hx0⟩:∃ x0,candF l (fsE (restS l)).1=x0:=⟨_,rfl⟩
  rw [hx0] at hok
  have hC:=callerOf_ok (U23_ok hX hM hok)
  have hsp:=split53 (call:=callerOf (U23 x0)) hM hp.1
  rw [hl] at hsp
  rw [hl]
  have hxc:lexC x0=[st (nS l 0),st (nS l 1),st (undashS (nS l 2)),st (undashS (nS l 3)),featsV (fsE (restS l)).1]:=by rw [← hx0]; rfl
  have h21:=v21 (X:=X) hM (x0:=x0)
  rw [hxc] at h21
  have M := f23_P0 s X (callerOf (U23 x0)) 0 l (l.drop 4) .ro (restS l) (fsE (restS l)).1.length ((fsE (restS l)).1.flatMap featC) (fsE (restS l)).2 (nS l 0) (tS l 0) (nS l 1) (tS l 1) (nS l 2) (tS l 2) (undashS (nS l 2)) (nS l 3) (tS l 3) (undashS (nS l 3)) (lineS x0)
    (.tup [.agg (lexC x0),i6 0]) [Ob.cells (lexC x0),Ob.cells (lexC x0)]
    (hsp _) (fun _=>slc_from (by omega)) (fun _=>join55 hM (by rw [List.length_drop]; omega) hj _) (fun _=>v54 hM hrl _)
    (fun _=>at_strs (i:=0) (by omega)) (fun _=>at_strs (i:=1) (by omega)) (fun _=>at_strs (i:=2) (by omega)) (fun _=>v56 hM _ _) (fun _=>at_strs (i:=3) (by omega)) (fun _=>v56 hM _ _)
    (fun _ _ => h21 _) (fun _ _ _ => by
      have ho : AV.ownsAll [AV.agg (lexC x0), i6 0] = [] := by
        simp only [AV.ownsAll,AV.owns,owns_lex,List.append_nil]
      have:=vend1_plain (σ:=[Ob.cells (lexC x0),Ob.cells (lexC x0)]) ho
      rw [hxc] at this ⊢
      exact this)
  unfold parseP
  rw [if_neg h4]
  have hd4:decide ((↑(List.length l):Int) < 4)=false:=decide_eq_false (by omega)
  cases h:parseF (restS l) with
  | none =>
    have he:(fsE (restS l)).2=3:=by unfold fsE; rw [h]; rfl
    exact run_res (B:=aLE) hX hC (hM.dom 8 rfl rfl) Tryz.func8 (by kernel_rfl) (M.2.1 (by unfold f23_q0; rw [hd4,he]; rfl)) badL_dec
  | some F =>
    have he:(fsE (restS l)).2=0:=by unfold fsE; rw [h]; rfl
    have hF:(fsE (restS l)).1=F:=by unfold fsE; rw [h]; rfl
    have hxF:candF l F=x0:=by rw [← hx0,hF]
    simp only
    rw [hxF]
    by_cases hline:lineS x0=s
    · rw [if_pos hline]
      refine run_res (B:=aLE) hX hC (hM.dom 8 rfl rfl) Tryz.func8 (by kernel_rfl) (M.2.2 (by unfold f23_q0; rw [hd4,he,eqB_iff.2 hline]; rfl)) ?_
      exact aLE.de (x0,0)
    · rw [if_neg hline]
      exact run_res (B:=aLE) hX hC (hM.dom 8 rfl rfl) Tryz.func8 (by kernel_rfl) (M.2.1 (by unfold f23_q0; rw [hd4,he,eqB_ne.2 hline]; rfl)) badL_dec
end
end Go.Proofs.Lex
end
/- Lexicon: Categories, its first loop (printed) -/
section
open Go Go.Vm Go.Proofs
namespace Go.Proofs.Lex
def fg16:Nat→List Nat
  | 5004=>[1]
  | _=>[]
def f16_F0 (L0:List Lexm) (S0:Nat→List Ob) (i0:Nat):St :=
  stOf 32 [5,12,13,14,15,16,17,18] [(0,lro (List.length L0) 5 (List.flatMap lexC L0)),(2,AV.list LK.nil 0 0 []),(3,AV.map 0),(8,AV.map 0),(9,lro (List.length L0) 5 (List.flatMap lexC L0)),(10,i6 (↑(List.length L0):Int)),(11,i6 (↑i0:Int))] (S0 i0)
def f16_S0 (L0:List Lexm):St :=
  stOf 32 [] [(0,lro (List.length L0) 5 (List.flatMap lexC L0)),(2,AV.list LK.nil 0 0 []),(3,AV.map 0),(8,AV.map 0),(9,lro (List.length L0) 5 (List.flatMap lexC L0)),(10,i6 (↑(List.length L0):Int)),(11,i6 0)] [Ob.mapo []]
abbrev f16_D0:List Nat:=[18,17,16,15,5,14,13,12]
theorem f16_L0 (L0:List Lexm) (S0:Nat→List Ob) (X:Ext) (call:Caller) (lf:Nat) (n:Nat) (x:Ex) (S' : St)
  (e0:S0 0=[Ob.mapo []])
  (hn:n < lf)
  (hs:∀ j,j < n→∃ S1,vexec Tryz.prog X call lf 0 fg16 (loopN Tryz.f13 0) (f16_F0 L0 S0 j)=some (Ex.normal,S1)∧forget f16_D0 S1=(f16_F0 L0 S0 (j + 1)))
  (he:vexec Tryz.prog X call lf 0 fg16 (loopN Tryz.f13 0) (f16_F0 L0 S0 n)=some (x,S'))
  (hx:x ≠ Ex.normal):vexec Tryz.prog X call lf 0 fg16 (Go.Code.loop (loopN Tryz.f13 0)) (f16_S0 L0)=some (x,S') :=
  loop_runK (by kernel_rfl) (fun j=>(f16_F0 L0 S0 j)) n hn (by show forget f16_D0 (f16_S0 L0)=(f16_F0 L0 S0 0); unfold f16_F0; rw [e0]; show _=_; kernel_rfl) hs he hx
theorem f16_s0_t (L0:List Lexm) (X:Ext) (call:Caller) (lf:Nat) (S0:Nat→List Ob) (i0:Nat) (x13_0_0:ByteArray) (x13_0_1:ByteArray) (x13_0_2:ByteArray) (x13_0_3:ByteArray) (m13_0_4:Nat) (c13_0_4:List AV) (r13:List AV) (sq10:List Ob)
  (h0:decide ((↑i0:Int) < (↑(List.length L0):Int))=true)
  (h1:keep (S0 i0) (indexAddrv Tryz.prog 23 (S0 i0) (lro (List.length L0) 5 (List.flatMap lexC L0)) (i6 (↑i0:Int)))=some (AV.eaddr (st x13_0_0::st x13_0_1::st x13_0_2::st x13_0_3::lro m13_0_4 2 c13_0_4::r13),S0 i0))
  (h2:unit1 (mapUpdatev Tryz.prog 43 (S0 i0) 0 (AV.map 0) (st x13_0_1) (bo true))=some (AV.undef,sq10))
  (e0:(↑(i0 + 1):Int)=w6 ((↑i0:Int) + 1))
  (e1:S0 (i0 + 1)=sq10):∃ S1,vexec Tryz.prog X call lf 0 fg16 (loopN Tryz.f13 0) (f16_F0 L0 S0 i0)=some (Ex.normal,S1)∧forget f16_D0 S1=(f16_F0 L0 S0 (i0 + 1)) :=
  ⟨stOf 32 [] [(0,lro (List.length L0) 5 (List.flatMap lexC L0)),(2,AV.list LK.nil 0 0 []),(3,AV.map 0),(5,AV.eaddr [st x13_0_0,st x13_0_1,st x13_0_2,st x13_0_3,lro m13_0_4 2 c13_0_4]),(8,AV.map 0),(9,lro (List.length L0) 5 (List.flatMap lexC L0)),(10,i6 (↑(List.length L0):Int)),(11,i6 (w6 ((↑i0:Int) + 1))),(12,bo true),(13,AV.eaddr (st x13_0_0::st x13_0_1::st x13_0_2::st x13_0_3::lro m13_0_4 2 c13_0_4::r13)),(14,AV.agg [st x13_0_0,st x13_0_1,st x13_0_2,st x13_0_3,lro m13_0_4 2 c13_0_4]),(15,AV.map 0),(16,AV.eaddr [st x13_0_1,st x13_0_2,st x13_0_3,lro m13_0_4 2 c13_0_4]),(17,st x13_0_1),(18,i6 (w6 ((↑i0:Int) + 1)))] sq10,around_sound (ans:=[(1,Ans.b true),(4,Ans.v (AV.eaddr (st x13_0_0::st x13_0_1::st x13_0_2::st x13_0_3::lro m13_0_4 2 c13_0_4::r13))),(10,Ans.c AV.undef sq10)]) (by kernel_rfl) (ai h0 (ai h1 (ai h2 trivial))),by unfold f16_F0; rw [e0,e1]; show _=_; kernel_rfl⟩
theorem f16_r0_f (L0:List Lexm) (X:Ext) (call:Caller) (lf:Nat) (S0:Nat→List Ob) (i0:Nat)
  (h0:decide ((↑i0:Int) < (↑(List.length L0):Int))=false):vexec Tryz.prog X call lf 0 fg16 (loopN Tryz.f13 0) (f16_F0 L0 S0 i0)=some (Ex.exit 0,stOf 32 [5,13,14,15,16,17,18] [(0,lro (List.length L0) 5 (List.flatMap lexC L0)),(2,AV.list LK.nil 0 0 []),(3,AV.map 0),(8,AV.map 0),(9,lro (List.length L0) 5 (List.flatMap lexC L0)),(10,i6 (↑(List.length L0):Int)),(11,i6 (↑i0:Int)),(12,bo false)] (S0 i0)) :=
  around_sound (ans:=[(1,Ans.b false)]) (by kernel_rfl) (ai h0 trivial)
def f16_o0 (L0:List Lexm) (i0:Nat):Nat :=
  (match decide ((↑i0:Int) < (↑(List.length L0):Int)) with
  | true=>0
  | false=>1)
theorem f16_B0 (L0:List Lexm) (X:Ext) (call:Caller) (lf:Nat) (S0:Nat→List Ob) (i0:Nat) (x13_0_0:ByteArray) (x13_0_1:ByteArray) (x13_0_2:ByteArray) (x13_0_3:ByteArray) (m13_0_4:Nat) (c13_0_4:List AV) (r13:List AV) (sq10:List Ob)
  (g0:decide ((↑i0:Int) < (↑(List.length L0):Int))=true→keep (S0 i0) (indexAddrv Tryz.prog 23 (S0 i0) (lro (List.length L0) 5 (List.flatMap lexC L0)) (i6 (↑i0:Int)))=some (AV.eaddr (st x13_0_0::st x13_0_1::st x13_0_2::st x13_0_3::lro m13_0_4 2 c13_0_4::r13),S0 i0))
  (g1:decide ((↑i0:Int) < (↑(List.length L0):Int))=true→unit1 (mapUpdatev Tryz.prog 43 (S0 i0) 0 (AV.map 0) (st x13_0_1) (bo true))=some (AV.undef,sq10))
  (e0:decide ((↑i0:Int) < (↑(List.length L0):Int))=true→(↑(i0 + 1):Int)=w6 ((↑i0:Int) + 1))
  (e1 : decide ((↑i0 : Int) < (↑(List.length L0) : Int)) = true → S0 (i0 + 1) = sq10) :
    (f16_o0 L0 i0=0→∃ S1,vexec Tryz.prog X call lf 0 fg16 (loopN Tryz.f13 0) (f16_F0 L0 S0 i0)=some (Ex.normal,S1)∧forget f16_D0 S1=(f16_F0 L0 S0 (i0 + 1)))∧(f16_o0 L0 i0=1→vexec Tryz.prog X call lf 0 fg16 (loopN Tryz.f13 0) (f16_F0 L0 S0 i0)=some (Ex.exit 0,stOf 32 [5,13,14,15,16,17,18] [(0,lro (List.length L0) 5 (List.flatMap lexC L0)),(2,AV.list LK.nil 0 0 []),(3,AV.map 0),(8,AV.map 0),(9,lro (List.length L0) 5 (List.flatMap lexC L0)),(10,i6 (↑(List.length L0):Int)),(11,i6 (↑i0:Int)),(12,bo false)] (S0 i0))):=by
  unfold f16_o0
  cases c0:decide ((↑i0:Int) < (↑(List.length L0):Int)) with
  | true =>
    exact ⟨fun _=>f16_s0_t L0 X call lf S0 i0 x13_0_0 x13_0_1 x13_0_2 x13_0_3 m13_0_4 c13_0_4 r13 sq10 c0 (g0 c0) (g1 c0) (e0 c0) (e1 c0),fun h=>nq h⟩
  | false =>
    exact ⟨fun h=>nq h,fun _=>f16_r0_f L0 X call lf S0 i0 c0⟩
end Go.Proofs.Lex
end
/- Lexicon: Categories. -/
section
open Go Go.Vm Go.Proofs
namespace Go.Proofs.Lex
def putS (l:List ByteArray) (c:ByteArray):List ByteArray:=if l.any (fun x=>decide (x=c))=true then l else l ++ [c]
/-- The categories of the first lexemes, in the order of their first. -/
def catsN (L:List Lexm):Nat→List ByteArray
  | 0=>[]
  | i + 1=>putS (catsN L i) (nL L i).cat
def esOf (l:List ByteArray):List (AV × AV):=l.map fun c=>(st c,bo true)
theorem putEs_es (c:ByteArray):∀ (l:List ByteArray),putEs (st c) (bo true) (esOf l)=some (esOf (putS l c))
  | []=>rfl
  | x :: l => by
    have ih:=putEs_es c l
    show putEs (st c) (bo true) ((st x,bo true)::esOf l)=_
    unfold putEs
    by_cases h:c=x
    · subst h
      simp only [lookupEs,if_true]
      unfold putS
      rw [if_pos (by simp)]
      rfl
    · have hl : lookupEs (st c) [(st x, bo true)] = some none := by simp [lookupEs, h]
      simp only [hl,ih]
      unfold putS
      have hx : (x :: l).any (fun y => decide (y = c)) = l.any (fun y => decide (y = c)) := by
        rw [List.any_cons,decide_eq_false (fun e=>h e.symm),Bool.false_or]
      rw [hx]
      cases l.any (fun y=>decide (y=c)) <;> rfl
theorem put58 (c:ByteArray) (l:List ByteArray):unit1 (mapUpdatev Tryz.prog 43 [.mapo (esOf l)] 0 (.map 0) (st c) (bo true))=some (.undef,[.mapo (esOf (putS l c))]):=by
  have hu:Tryz.prog.underlying 43=some (.map 9 4):=by kernel_rfl
  unfold mapUpdatev
  rw [hu]
  simp only [Tryz.underlying9,List.getElem?_cons_zero]
  rw [if_pos ⟨rfl,Nat.le_refl _⟩,putEs_es]
  rfl
def keyS (e:AV × AV):ByteArray:=match e.1 with
  | .str s=>s
  | _=>emp
def catC (fn:Func):Code := .seq (.region 0 (opsF fn 0) false) (.seq (.region 1 (opsF fn 1) false) (.seq (.seq (.region 2 (opsF fn 2) false) (.block 0 (.loop (loopN fn 0)))) (.seq (.region 7 (opsF fn 7) false) (.seq (.seq (.region 8 (opsF fn 8) false) (.block 2 (.loop (.seq (.region 9 (opsF fn 9) false) (.seq (.cond (.tmp 22) .skip (.exit 2)) (.block 3 (.seq (.region 10 (opsF fn 10) false) (.region 11 (opsF fn 11) false)))))))) (.seq (.region 12 (opsF fn 12) false) (.seq (.region 13 (opsF fn 13) false) .ret))))))
theorem body16:Tryz.f13.body=some (catC Tryz.f13):=by kernel_rfl
def any16:List Nat:=[5,8,9,10,11,12,13,14,15,16,17,18]
def dk16:List Nat:=[7,21,22,23,24,25,26,27,28]
/-- Behind the first loop. -/
def A16 (L:List Lexm) (c:List ByteArray):St:=stOf 32 any16 [(0,lexsV L),(2,nil0),(3,.map 0)] [.mapo (esOf c)]
def B16 (L:List Lexm) (c:List ByteArray):St:=stOf 32 any16 [(0,lexsV L),(2,nil0),(3,.map 0),(6,nil0)] [.mapo (esOf c)]
def strG (c:List ByteArray) (l:List ByteArray):List Ob:=grS Cod.str [.mapo (esOf c)] l
/-- At the second loop's head. -/
def F16 (L:List Lexm) (c:List ByteArray) (done:List (AV × AV)) (r:Nat):St :=
  stOf 32 (any16 ++ dk16) [(0,lexsV L),(2,nil0),(3,.map 0),(6,grV nil0 1 (done.map keyS).length),(19,.map 0),(20,ptrV r)] (strG c (done.map keyS))
section
variable {X:Ext} {call:Caller} {lf:Nat}
theorem r16_0 (L:List Lexm):vexec Tryz.prog X call lf 0 fg16 (.region 0 (opsF Tryz.f13 0) false) { tmps:=[lexsV L] ++ List.replicate 31 .undef,st:=[] }=some (.normal,stOf 32 [] [(0,lexsV L),(2,nil0)] []):=by kernel_rfl
theorem r16_1 (L:List Lexm):vexec Tryz.prog X call lf 0 fg16 (.region 1 (opsF Tryz.f13 1) false) (stOf 32 [] [(0,lexsV L),(2,nil0)] [])=some (.normal,stOf 32 [] [(0,lexsV L),(2,nil0),(3,.map 0),(8,.map 0)] [.mapo []]):=by kernel_rfl
theorem r16_2 (L:List Lexm):vexec Tryz.prog X call lf 0 fg16 (.region 2 (opsF Tryz.f13 2) false) (stOf 32 [] [(0,lexsV L),(2,nil0),(3,.map 0),(8,.map 0)] [.mapo []])=some (.normal,f16_S0 L):=by kernel_rfl
def X16 (L:List Lexm) (σ:List Ob) (i:Nat):St:=stOf 32 [5,13,14,15,16,17,18] [(0,lro (List.length L) 5 (List.flatMap lexC L)),(2,AV.list LK.nil 0 0 []),(3,AV.map 0),(8,AV.map 0),(9,lro (List.length L) 5 (List.flatMap lexC L)),(10,i6 (↑(List.length L):Int)),(11,i6 (↑i:Int)),(12,bo false)] σ
/-- The first loop. -/
theorem loop16 {L:List Lexm} (hl:L.length ≤ big) (hlf:L.length < lf):vexec Tryz.prog X call lf 0 fg16 (.loop (loopN Tryz.f13 0)) (f16_S0 L)=some (.exit 0,X16 L [.mapo (esOf (catsN L L.length))] L.length):=by
  have lt_of : ∀ {i0 : Nat}, decide ((↑i0 : Int) < (↑(List.length L) : Int)) = true → i0 < L.length := fun h => by
    have:=of_decide_eq_true h
    omega
  refine f16_L0 L (fun i=>[.mapo (esOf (catsN L i))]) X call lf L.length _ _ rfl hlf (fun j hj => ?_) ?_ (by simp)
  · exact (f16_B0 L X call lf (fun i => [.mapo (esOf (catsN L i))]) j (nL L j).id (nL L j).cat (nL L j).stem (nL L j).par (nL L j).feats.length ((nL L j).feats.flatMap featC) (tL L j) [.mapo (esOf (catsN L (j + 1)))]
      (fun h=>at_lex (lt_of h)) (fun _=>put58 _ _) (fun _=>up hj hl) (fun _=>rfl)).1 (by unfold f16_o0; rw [decide_eq_true (by omega)])
  · exact f16_r0_f L X call lf (fun i=>[.mapo (esOf (catsN L i))]) L.length (decide_eq_false (by omega))
theorem seq16 {L:List Lexm} (hl:L.length ≤ big) (hlf:L.length < lf):vexec Tryz.prog X call lf 0 fg16 (.seq (.region 2 (opsF Tryz.f13 2) false) (.block 0 (.loop (loopN Tryz.f13 0)))) (stOf 32 [] [(0,lexsV L),(2,nil0),(3,.map 0),(8,.map 0)] [.mapo []])=some (.normal,X16 L [.mapo (esOf (catsN L L.length))] L.length):=by
  have h1:=r16_2 (X:=X) (call:=call) (lf:=lf) L
  have h2:=loop16 (X:=X) (call:=call) hl hlf
  generalize Code.loop (loopN Tryz.f13 0)=c at h2 ⊢
  rw [vexec,h1]
  simp only
  rw [vexec,h2]
  simp
theorem r16_7 (L:List Lexm) (c:List ByteArray):vexec Tryz.prog X call lf 0 fg16 (.region 7 (opsF Tryz.f13 7) false) (A16 L c)=some (.normal,B16 L c):=by kernel_rfl
theorem x16_a (L:List Lexm) (c:List ByteArray) (i:Nat):forget any16 (X16 L [.mapo (esOf c)] i)=A16 L c:=by kernel_rfl
theorem r16_11 (L:List Lexm) (c:List ByteArray) (done:List (AV × AV)) (k:ByteArray) (r:Nat) (v:AV) (σ:List Ob) (h:appendv Tryz.prog 39 (strG c (done.map keyS)) 1 (grV nil0 1 (done.map keyS).length) (.list .clip 1 1 [st k])=some (v,σ)) :
    vexec Tryz.prog X call lf 1 fg16 (.region 11 (opsF Tryz.f13 11) false) (stOf 32 (any16 ++ [25, 26, 27, 28]) [(0, lexsV L), (2, nil0), (3, .map 0), (6, grV nil0 1 (done.map keyS).length), (7, st k), (19, .map 0), (20, ptrV r), (21, .tup [bo true, st k, bo true]), (22, bo true), (23, .tup [st k, bo true]), (24, st k)] (strG c (done.map keyS))) =
      some (.normal,stOf 32 any16 [(0,lexsV L),(2,nil0),(3,.map 0),(6,v),(7,st k),(19,.map 0),(20,ptrV r),(21,.tup [bo true,st k,bo true]),(22,bo true),(23,.tup [st k,bo true]),(24,st k),(25,grV nil0 1 (done.map keyS).length),(26,st k),(27,.list .clip 1 1 [st k]),(28,v)] σ) :=
  around_sound (ans:=[(4,Ans.c v σ)]) (by kernel_rfl) (And.intro h trivial)
end
end Go.Proofs.Lex
end
/- Lexicon: Categories, told. -/
section
open Go Go.Vm Go.Proofs
namespace Go.Proofs.Lex
/-- In the order of bytes. -/
def sortS (l:List ByteArray):List ByteArray:=((l.map (·.data.toList)).mergeSort leB).map fun b=>⟨b.toArray⟩
theorem sortS_len (l:List ByteArray):(sortS l).length=l.length:=by
  unfold sortS
  rw [List.length_map,List.length_mergeSort,List.length_map]
theorem leB_trans (a b c:List UInt8) (h:leB a b=true) (k:leB b c=true):leB a c=true:=by
  simp only [leB,decide_eq_true_eq] at *
  exact List.le_trans h k
theorem leB_total (a b:List UInt8):(leB a b || leB b a)=true:=by
  rcases List.le_total a b with h | h <;> simp [leB,h]
theorem sortS_perm {l m:List ByteArray} (h:l.Perm m):sortS l=sortS m:=by
  unfold sortS
  congr 1
  refine List.Perm.eq_of_pairwise (le:=fun a b=>leB a b=true) (fun a b _ _ h k => ?_) (List.pairwise_mergeSort leB_trans leB_total _) (List.pairwise_mergeSort leB_trans leB_total _) ?_
  · simp only [leB, decide_eq_true_eq] at h k
    exact List.le_antisymm h k
  · exact (List.mergeSort_perm _ _).trans ((h.map _).trans (List.mergeSort_perm _ _).symm)
theorem keys_es (c:List ByteArray):(esOf c).map keyS=c:=by
  unfold esOf
  rw [List.map_map]
  have:(keyS ∘ fun c=>(st c,bo true))=id:=by funext x; rfl
  rw [this,List.map_id]
theorem catsN_len (L:List Lexm):∀ i,(catsN L i).length ≤ i
  | 0=>Nat.le_refl _
  | i + 1 => by
    have ih:=catsN_len L i
    unfold catsN putS
    split
    · omega
    · rw [List.length_append,List.length_singleton]; omega
section
variable [Fixed] {X:Ext} {call:Caller} {lf:Nat}
theorem ops16_8:(opsF Tryz.f13 8).toList=[opF Tryz.f13 8 0] ++ [opF Tryz.f13 8 1]:=by kernel_rfl
theorem ops16_9:(opsF Tryz.f13 9).toList=[opF Tryz.f13 9 0,opF Tryz.f13 9 1]:=by kernel_rfl
theorem ops16_10:(opsF Tryz.f13 10).toList=opF Tryz.f13 10 0::[opF Tryz.f13 10 1,opF Tryz.f13 10 2]:=by kernel_rfl
def T16 (L:List Lexm) (c:List ByteArray):St:=stOf 32 any16 [(0,lexsV L),(2,nil0),(3,.map 0),(6,nil0),(19,.map 0)] [.mapo (esOf c)]
theorem range16 (hX:ExtOk Tryz.prog X) (hC:CallOk Tryz.prog call) (L:List Lexm) {c:List ByteArray} (hc:(c.length + 1) * 17 ≤ big) :
    RangeAt Tryz.prog X call 0 [] (opsF Tryz.f13 8) (opsF Tryz.f13 9) (opsF Tryz.f13 10) (.region 11 (opsF Tryz.f13 11) false) 22 (B16 L c) 0 (esOf c) dk16 (F16 L c) 21 (fun _=>False):=by
  refine ⟨⟨[opF Tryz.f13 8 0],opF Tryz.f13 8 1,43,9,4,.tmp 19,T16 L c,20,opF Tryz.f13 9 0,opF Tryz.f13 9 1,opF Tryz.f13 10 0,[opF Tryz.f13 10 1,opF Tryz.f13 10 2],23,ops16_8,?_,by kernel_rfl,by kernel_rfl,by kernel_rfl,by kernel_rfl,?_,?_,ops16_9,by kernel_rfl,by kernel_rfl,by kernel_rfl,by kernel_rfl,by kernel_rfl,by kernel_rfl,ops16_10,by kernel_rfl,by kernel_rfl,by kernel_rfl,?_,?_,by decide,by decide,?_,?_⟩,?_⟩
  · show _=_; kernel_rfl
  · show _=_; kernel_rfl
  · rfl
  · intro r; show _=_; kernel_rfl
  · intro done r; show _=_; kernel_rfl
  · intro done r
    have:(F16 L c done r).tmps.length=32:=by show _=_; kernel_rfl
    exact ⟨by rw [this]; decide,by rw [this]; decide⟩
  · intro done e tl r hp
    have hmem:e ∈ esOf c:=hp.subset (by simp)
    obtain ⟨k,_,rfl⟩:=List.mem_map.1 hmem
    have hlen : done.length < c.length := by
      have:=hp.length_eq
      simp only [List.length_append,List.length_cons,esOf,List.length_map] at this
      omega
    refine ⟨stOf 32 (any16 ++ [25,26,27,28]) [(0,lexsV L),(2,nil0),(3,.map 0),(6,grV nil0 1 (done.map keyS).length),(7,st k),(19,.map 0),(20,ptrV r),(21,.tup [bo true,st k,bo true]),(22,bo true),(23,.tup [st k,bo true]),(24,st k)] (strG c (done.map keyS)),?_,?_⟩
    · show _=_; kernel_rfl
    · have hg := gr_stepR (σ0 := [Ob.mapo (esOf c)]) (ro := 1) (l := done.map keyS) (m := [k]) (lk := .nil) (sz0 := 0) rowS (.inl rfl) (Nat.le_refl _) (appended_row (lk := .clip) [k]) (by
        show (_ + 1) * (16 + 1) ≤ big
        have hc' : (c.length + 1) * 17 ≤ 140737488355328:=hc
        have:(done.map keyS).length < c.length:=by rw [List.length_map]; exact hlen
        show _ ≤ 140737488355328
        omega)
      refine (SR.exec hX hC (lf:=0) (fg:=fg16) (by kernel_rfl) (r16_11 L c done k r _ _ hg)).mono ?_
      rintro x T ⟨rfl,rfl⟩
      refine .inl ⟨rfl,?_⟩
      have e:(done ++ [(st k,bo true)]).map keyS=done.map keyS ++ [k]:=by rw [List.map_append]; rfl
      unfold F16
      rw [e]
      show _=_
      kernel_rfl
  · intro done r
    show (strG c (done.map keyS))[0]? = _
    unfold strG grS
    split <;> rfl
theorem bytsO_str:∀ (l:List ByteArray),bytsO (l.flatMap Cod.str.enc)=some (l.map (·.data.toList)):=by
  intro l
  have h : ∀ (l : List ByteArray), strsO (l.flatMap Cod.str.enc) = some l := by
    intro l
    induction l with
    | nil=>rfl
    | cons x l ih =>
      show strsO (AV.str x::l.flatMap Cod.str.enc)=_
      unfold strsO
      rw [ih]
  unfold bytsO
  rw [h]
/-- Sort, given the row. -/
theorem sort39 (hM:XM X) (c l:List ByteArray) (hl:l.length ≤ big):callv X call false 34 [grV nil0 1 l.length] (strG c l) 0=some (.tup [],strG c (sortS l)):=by
  unfold callv
  rw [hM.sort.1,hM.sort.2]
  by_cases h:l.length=0
  · have h' : l = [] := List.eq_nil_of_length_eq_zero h
    subst h'
    have e:sortS []=[]:=by unfold sortS; simp
    rw [e]
    rfl
  · have hv : grV nil0 1 l.length = .own 1 l.length := if_neg h
    have hg:strG c l=[Ob.mapo (esOf c),.arr l.length 1 (l.flatMap Cod.str.enc)]:=by unfold strG grS; rw [if_neg h]; rfl
    have hg2 : strG c (sortS l) = [Ob.mapo (esOf c), .arr l.length 1 ((sortS l).flatMap Cod.str.enc)] := by
      unfold strG grS
      rw [sortS_len,if_neg h]
      rfl
    rw [hv,hg,hg2]
    have ho : ownRow bytsO [Ob.mapo (esOf c), .arr l.length 1 (l.flatMap Cod.str.enc)] 0 (.own 1 l.length) = some (1, l.map (·.data.toList)) := by
      unfold ownRow
      simp only [List.getElem?_cons_succ,List.getElem?_cons_zero,bytsO_str]
      rw [if_pos ⟨trivial,trivial,Nat.zero_le _,by rw [List.length_map],hl⟩]
    show sortFn bytsO avB leB [.own 1 l.length] _ 0=_
    unfold sortFn
    simp only [isNil,Bool.false_eq_true,if_false,ho,List.length_map,setOb]
    have : ((l.map (·.data.toList)).mergeSort leB).map avB = (sortS l).flatMap Cod.str.enc := by
      unfold sortS
      generalize (l.map (·.data.toList)).mergeSort leB=m
      induction m with
      | nil=>rfl
      | cons x m ih=>rw [List.map_cons,List.map_cons,List.flatMap_cons,ih]; rfl
    rw [this]
def G16 (L:List Lexm) (c:List ByteArray) (done:List (AV × AV)) (r:Nat):St:=⟨setN (setN (F16 L c done r).tmps 21 (.tup [bo false])) 22 (bo false),(F16 L c done r).st⟩
def H16 (L:List Lexm) (l:List ByteArray) (r:Nat) (σ:List Ob):St:=stOf 32 (any16 ++ [7,23,24,25,26,27,28]) [(0,lexsV L),(2,nil0),(3,.map 0),(6,grV nil0 1 l.length),(19,.map 0),(20,ptrV r),(21,.tup [bo false]),(22,bo false),(29,grV nil0 1 l.length),(30,.tup [])] σ
theorem r16_12 (L:List Lexm) (c:List ByteArray) (done:List (AV × AV)) (r:Nat) (σ:List Ob) (h:callv X call false 34 [grV nil0 1 (done.map keyS).length] (strG c (done.map keyS)) 0=some (.tup [],σ)) :
    vexec Tryz.prog X call lf 0 fg16 (.region 12 (opsF Tryz.f13 12) false) (G16 L c done r)=some (.normal,H16 L (done.map keyS) r σ) :=
  around_sound (ans:=[(2,Ans.c (.tup []) σ)]) (by kernel_rfl) (And.intro h trivial)
theorem r16_13 (L:List Lexm) (l:List ByteArray) (r:Nat) (σ:List Ob):vexec Tryz.prog X call lf 0 fg16 (.region 13 (opsF Tryz.f13 13) false) (H16 L l r σ)=some (.normal,⟨setN (setN (H16 L l r σ).tmps 31 (grV nil0 1 l.length)) 2 (grV nil0 1 l.length),σ⟩):=by kernel_rfl
theorem vend16 (T:St) (v:AV) (h:nth T.tmps 2=v) {r:AV × List Ob} (hv:vend1 [] 0 T.st [v]=some r):vend Tryz.prog Tryz.f13 [] 0 T=some r:=by
  have hr:resultsv Tryz.prog T Tryz.f13.results.toList=some [nth T.tmps 2]:=by kernel_rfl
  unfold vend
  rw [hr,h]
  exact hv
/-- The categories of a list. -/
def catsS (L:List Lexm):List ByteArray:=sortS (catsN L L.length)
/-- lexicon.Categories. -/
theorem call16 (hX:ExtOk Tryz.prog X) (hM:XM X) {L:List Lexm} (hl:(L.length + 1) * 17 ≤ big):CallAt Tryz.prog 13 [aLs.enc L] [] 0 (aSs.enc (catsS L)) []:=by
  have hl' : (L.length + 1) * 17 ≤ 140737488355328:=hl
  have hC:=callerOf_ok (SpecOk.none' (P:=Tryz.prog))
  have hlb:L.length ≤ big:=by show _ ≤ 140737488355328; omega
  have hcl:=catsN_len L L.length
  refine call_rel (B:=aSs) (fn:=Tryz.f13) (c:=catC Tryz.f13) (R:=fun x T=>x = .ret∧∃ l,l.Perm (catsN L L.length)∧nth T.tmps 2=grV nil0 1 l.length∧T.st=strG (catsN L L.length) (sortS l)) Tryz.func13 body16 (of_decide_eq_false (by kernel_rfl)) ?_ (fun x T h => ?_)
  · refine SR.seq (SR.exec hX hC (lf := 0) (fg := fg16) (by kernel_rfl) (r16_0 L)) (fun T hT => ?_) (fun z T hz hh => absurd hh.1 hz)
    obtain ⟨-,rfl⟩:=hT
    refine SR.seq (SR.exec hX hC (lf:=0) (fg:=fg16) (by kernel_rfl) (r16_1 L)) (fun T hT => ?_) (fun z T hz hh=>absurd hh.1 hz)
    obtain ⟨-,rfl⟩:=hT
    refine SR.seq (SR.exec hX hC (lf:=L.length + 1) (fg:=fg16) (by kernel_rfl) (seq16 hlb (by omega))) (fun T hT => ?_) (fun z T hz hh=>absurd hh.1 hz)
    obtain ⟨-,rfl⟩:=hT
    refine SR.forget any16 ?_
    rw [x16_a]
    refine SR.seq (SR.exec hX hC (lf:=0) (fg:=fg16) (by kernel_rfl) (r16_7 L _)) (fun T hT => ?_) (fun z T hz hh=>absurd hh.1 hz)
    obtain ⟨-,rfl⟩:=hT
    refine SR.seq (SR.ranges hX hC (range16 hX hC L (c:=catsN L L.length) (by show _ ≤ 140737488355328; omega)) (Nat.zero_le _)) (fun T hT => ?_) (fun z T hz hh => ?_)
    · rcases hT with ⟨-, done, r, hp, rfl⟩ | ⟨h, _⟩
      · have hp2 : (done.map keyS).Perm (catsN L L.length) := by
          have:=hp.map keyS
          rwa [keys_es] at this
        have hs:=sort39 (call:=callerOf fun _ _=>none) hM (catsN L L.length) (done.map keyS) (by rw [hp2.length_eq]; omega)
        refine SR.seq (SR.exec hX hC (lf:=0) (fg:=fg16) (by kernel_rfl) (r16_12 L (catsN L L.length) done r _ hs)) (fun T hT => ?_) (fun z T hz hh=>absurd hh.1 hz)
        obtain ⟨-,rfl⟩:=hT
        refine SR.seq (SR.exec hX hC (lf:=0) (fg:=fg16) (by kernel_rfl) (r16_13 L (done.map keyS) r _)) (fun T hT => ?_) (fun z T hz hh=>absurd hh.1 hz)
        obtain ⟨-,rfl⟩:=hT
        exact SR.ret ⟨rfl,done.map keyS,hp2,by show _=_; kernel_rfl,rfl⟩
      · cases h
    · rcases hh with ⟨h, _⟩ | ⟨_, h⟩
      · exact absurd h hz
      · exact h.elim
  · obtain ⟨rfl, l, hp, h2, h3⟩ := h
    obtain ⟨r,σ',hv,hd,-⟩:=gr_end (A:=Cod.str) (lk := .nil) (sz0:=0) (σ1:=[]) (σ0:=[Ob.mapo (esOf (catsN L L.length))]) (sortS l)
    refine ⟨.inr rfl,r,_,vend16 T _ h2 (r:=(r,[Ob.mapo (esOf (catsN L L.length))] ++ σ')) ?_,?_⟩
    · rw [h3]
      have:=sortS_len l
      rw [this] at hv
      exact hv
    · have hd' : aSs.dec r = some (sortS l) := hd
      rw [hd',sortS_perm hp]
      rfl
end
end Go.Proofs.Lex
end
/- Lexicon: the chapter's example: its homonyms. -/
section
open Go Go.Vm Go.Proofs
namespace Go.Proofs.Lex
def fg18:Nat→List Nat
  | 5004=>[1]
  | 5010=>[1]
  | 2005=>[1000000]
  | _=>[]
def ex1:Lexm:=⟨⟨#[120,49]⟩,⟨#[110]⟩,⟨#[98,97,116]⟩,⟨#[110,111,117,110]⟩,[⟨⟨#[103,101,110,100,101,114]⟩,⟨#[102]⟩⟩]⟩
def ex2:Lexm:=⟨⟨#[120,50]⟩,⟨#[110]⟩,⟨#[116,97,98]⟩,⟨#[110,111,117,110]⟩,[]⟩
def ex3:Lexm:=⟨⟨#[120,51]⟩,⟨#[118]⟩,⟨#[98,97,116]⟩,emp,[]⟩
def exL:List Lexm:=[ex1,ex2,ex3]
theorem hom_ex [Fixed]:(vbody Tryz.prog X09 (vcallL Tryz.prog X09 (fun _ _=>none) 10 2) 10 fg18 Tryz.f9 (codeOf Tryz.f9) [lexsV exL] [] 0).map (fun p=>aSss.dec p.1)=some (some [[ex1.id,ex3.id]]):=by kernel_rfl
end Go.Proofs.Lex
end
/- Lexicon: awake (printed) -/
section
open Go Go.Vm Go.Proofs
namespace Go.Proofs.Lex
theorem f14_p (X:Ext) (call:Caller) (lf:Nat)
  (h0:callv X call false 8 [st (ByteArray.mk #[120,51,32,118,32,98,97,116,32,45])] [] 0=some (AV.tup [AV.agg [st (Lexm.id ex3),st (Lexm.cat ex3),st (Lexm.stem ex3),st (Lexm.par ex3),lro 0 2 []],i6 0],[]))
  (h1:callv X call false 9 [AV.list LK.clip 3 5 [st (ByteArray.mk #[120,49]),st (ByteArray.mk #[110]),st (ByteArray.mk #[98,97,116]),st (ByteArray.mk #[110,111,117,110]),AV.list LK.clip 1 2 [st (ByteArray.mk #[103,101,110,100,101,114]),st (ByteArray.mk #[102])],st (ByteArray.mk #[120,50]),st (ByteArray.mk #[110]),st (ByteArray.mk #[116,97,98]),st (ByteArray.mk #[110,111,117,110]),AV.list LK.nil 0 0 [],st (ByteArray.mk #[120,51]),st (ByteArray.mk #[118]),st (ByteArray.mk #[98,97,116]),st (ByteArray.mk #[]),AV.list LK.nil 0 0 []]] [Ob.cells [st (Lexm.id ex3),st (Lexm.cat ex3),st (Lexm.stem ex3),st (Lexm.par ex3),lro 0 2 []]] 0=some (lro 1 1 [lro 2 1 [st (Lexm.id ex1),st (Lexm.id ex3)]],[Ob.cells [st (Lexm.id ex3),st (Lexm.cat ex3),st (Lexm.stem ex3),st (Lexm.par ex3),lro 0 2 []]]))
  (h2:callv X call false 10 [AV.list LK.clip 3 5 [st (ByteArray.mk #[120,49]),st (ByteArray.mk #[110]),st (ByteArray.mk #[98,97,116]),st (ByteArray.mk #[110,111,117,110]),AV.list LK.clip 1 2 [st (ByteArray.mk #[103,101,110,100,101,114]),st (ByteArray.mk #[102])],st (ByteArray.mk #[120,50]),st (ByteArray.mk #[110]),st (ByteArray.mk #[116,97,98]),st (ByteArray.mk #[110,111,117,110]),AV.list LK.nil 0 0 [],st (ByteArray.mk #[120,51]),st (ByteArray.mk #[118]),st (ByteArray.mk #[98,97,116]),st (ByteArray.mk #[]),AV.list LK.nil 0 0 []],st (ByteArray.mk #[120,50])] [Ob.cells [st (Lexm.id ex3),st (Lexm.cat ex3),st (Lexm.stem ex3),st (Lexm.par ex3),lro 0 2 []]] 0=some (i6 1,[Ob.cells [st (Lexm.id ex3),st (Lexm.cat ex3),st (Lexm.stem ex3),st (Lexm.par ex3),lro 0 2 []]]))
  (h3:callv X call false 11 [AV.list LK.clip 3 5 [st (ByteArray.mk #[120,49]),st (ByteArray.mk #[110]),st (ByteArray.mk #[98,97,116]),st (ByteArray.mk #[110,111,117,110]),AV.list LK.clip 1 2 [st (ByteArray.mk #[103,101,110,100,101,114]),st (ByteArray.mk #[102])],st (ByteArray.mk #[120,50]),st (ByteArray.mk #[110]),st (ByteArray.mk #[116,97,98]),st (ByteArray.mk #[110,111,117,110]),AV.list LK.nil 0 0 [],st (ByteArray.mk #[120,51]),st (ByteArray.mk #[118]),st (ByteArray.mk #[98,97,116]),st (ByteArray.mk #[]),AV.list LK.nil 0 0 []],st (ByteArray.mk #[110])] [Ob.cells [st (Lexm.id ex3),st (Lexm.cat ex3),st (Lexm.stem ex3),st (Lexm.par ex3),lro 0 2 []]] 0=some (lro 2 5 [st (Lexm.id ex1),st (Lexm.cat ex1),st (Lexm.stem ex1),st (Lexm.par ex1),lro 1 2 [st (Feat.name (Feat.mk (ByteArray.mk #[103,101,110,100,101,114]) (ByteArray.mk #[102]))),st (Feat.value (Feat.mk (ByteArray.mk #[103,101,110,100,101,114]) (ByteArray.mk #[102])))],st (Lexm.id ex2),st (Lexm.cat ex2),st (Lexm.stem ex2),st (Lexm.par ex2),lro 0 2 []],[Ob.cells [st (Lexm.id ex3),st (Lexm.cat ex3),st (Lexm.stem ex3),st (Lexm.par ex3),lro 0 2 []]]))
  (h4:callv X call false 12 [AV.agg [st (ByteArray.mk #[120,49]),st (ByteArray.mk #[110]),st (ByteArray.mk #[98,97,116]),st (ByteArray.mk #[110,111,117,110]),AV.list LK.clip 1 2 [st (ByteArray.mk #[103,101,110,100,101,114]),st (ByteArray.mk #[102])]]] [Ob.cells [st (Lexm.id ex3),st (Lexm.cat ex3),st (Lexm.stem ex3),st (Lexm.par ex3),lro 0 2 []]] 0=some (st (ByteArray.mk #[120,49,32,110,32,98,97,116,32,110,111,117,110,32,103,101,110,100,101,114,61,102]),[Ob.cells [st (Lexm.id ex3),st (Lexm.cat ex3),st (Lexm.stem ex3),st (Lexm.par ex3),lro 0 2 []]]))
  (h5:callv X call false 13 [AV.list LK.clip 3 5 [st (ByteArray.mk #[120,49]),st (ByteArray.mk #[110]),st (ByteArray.mk #[98,97,116]),st (ByteArray.mk #[110,111,117,110]),AV.list LK.clip 1 2 [st (ByteArray.mk #[103,101,110,100,101,114]),st (ByteArray.mk #[102])],st (ByteArray.mk #[120,50]),st (ByteArray.mk #[110]),st (ByteArray.mk #[116,97,98]),st (ByteArray.mk #[110,111,117,110]),AV.list LK.nil 0 0 [],st (ByteArray.mk #[120,51]),st (ByteArray.mk #[118]),st (ByteArray.mk #[98,97,116]),st (ByteArray.mk #[]),AV.list LK.nil 0 0 []]] [Ob.cells [st (Lexm.id ex3),st (Lexm.cat ex3),st (Lexm.stem ex3),st (Lexm.par ex3),lro 0 2 []]] 0=some (lro 2 1 [st (ByteArray.mk #[110]),st (ByteArray.mk #[118])],[Ob.cells [st (Lexm.id ex3),st (Lexm.cat ex3),st (Lexm.stem ex3),st (Lexm.par ex3),lro 0 2 []]])):vbody Tryz.prog X call lf noFg Tryz.f4 (codeOf Tryz.f4) [] [] 0=some (bo true,[Ob.cells [st (Lexm.id ex3),st (Lexm.cat ex3),st (Lexm.stem ex3),st (Lexm.par ex3),lro 0 2 []]]) :=
  along_sound (ans:=[(11,Ans.v (AV.tup [AV.agg [st (Lexm.id ex3),st (Lexm.cat ex3),st (Lexm.stem ex3),st (Lexm.par ex3),lro 0 2 []],i6 0])),(20,Ans.v (lro 1 1 [lro 2 1 [st (Lexm.id ex1),st (Lexm.id ex3)]])),(24,Ans.v (i6 1)),(30,Ans.v (lro 2 5 [st (Lexm.id ex1),st (Lexm.cat ex1),st (Lexm.stem ex1),st (Lexm.par ex1),lro 1 2 [st (Feat.name (Feat.mk (ByteArray.mk #[103,101,110,100,101,114]) (ByteArray.mk #[102]))),st (Feat.value (Feat.mk (ByteArray.mk #[103,101,110,100,101,114]) (ByteArray.mk #[102])))],st (Lexm.id ex2),st (Lexm.cat ex2),st (Lexm.stem ex2),st (Lexm.par ex2),lro 0 2 []])),(64,Ans.v (st (ByteArray.mk #[120,49,32,110,32,98,97,116,32,110,111,117,110,32,103,101,110,100,101,114,61,102]))),(86,Ans.v (lro 2 1 [st (ByteArray.mk #[110]),st (ByteArray.mk #[118])]))]) (by kernel_rfl) (ai h0 (ai h1 (ai h2 (ai h3 (ai h4 (ai h5 trivial))))))
end Go.Proofs.Lex
end
/- Lexicon: laws (printed) -/
section
open Go Go.Vm Go.Proofs
namespace Go.Proofs.Lex
end Go.Proofs.Lex
end
/- Lexicon: LexiconSelects, but for the example (awake). -/
section
open Go Go.Vm Go.Proofs
namespace Go.Proofs.Lex
section
variable [Fixed] {X:Ext}
end
end Go.Proofs.Lex
end
/- Lexicon: LexiconFind and LexiconNarrows, but for the example (awake). -/
section
open Go Go.Vm Go.Proofs
namespace Go.Proofs.Lex
section
variable [Fixed] {X:Ext}
end
end Go.Proofs.Lex
end
/- Lexicon: the chapter's example holds. -/
section
open Go Go.Vm Go.Proofs
namespace Go.Proofs.Lex
def exT:ByteArray:=⟨#[120,51,32,118,32,98,97,116,32,45]⟩
def exLine:ByteArray:=⟨#[120,49,32,110,32,98,97,116,32,110,111,117,110,32,103,101,110,100,101,114,61,102]⟩
def exA:AV := .list .clip 3 5 [st ⟨#[120,49]⟩,st ⟨#[110]⟩,st ⟨#[98,97,116]⟩,st ⟨#[110,111,117,110]⟩,.list .clip 1 2 [st ⟨#[103,101,110,100,101,114]⟩,st ⟨#[102]⟩],st ⟨#[120,50]⟩,st ⟨#[110]⟩,st ⟨#[116,97,98]⟩,st ⟨#[110,111,117,110]⟩,nil0,st ⟨#[120,51]⟩,st ⟨#[118]⟩,st ⟨#[98,97,116]⟩,st ⟨#[]⟩,nil0]
section
variable [Fixed]
theorem ex_parse:parseL exT=some ex3:=by kernel_rfl
theorem ex_line:lineS ex1=exLine:=by kernel_rfl
theorem ex_dec:aLs.dec exA=some exL:=by kernel_rfl
theorem ex_cats:catsS exL=[⟨#[110]⟩,⟨#[118]⟩]:=by
  have h:catsN exL exL.length=[⟨#[110]⟩,⟨#[118]⟩]:=by kernel_rfl
  unfold catsS
  rw [h]
  unfold sortS
  have h2:([⟨#[110]⟩,⟨#[118]⟩]:List ByteArray).map (·.data.toList)=[[110],[118]]:=by kernel_rfl
  rw [h2]
  have h3:([[110],[118]]:List (List UInt8)).mergeSort leB=[[110],[118]]:=List.mergeSort_of_pairwise (by simp [leB]; decide)
  rw [h3]
  rfl
theorem ex_idx:idxP (fun x=>decide (x.id=⟨#[120,50]⟩)) exL=1:=by kernel_rfl
theorem ex_cat:exL.filter (fun x=>decide (x.cat=⟨#[110]⟩))=[ex1,ex2]:=by kernel_rfl
theorem ex_okPar:okPar exT:=⟨by decide,any_ascii (by decide +kernel) (by decide +kernel)⟩
theorem ex_okLine:okLine ex1:=⟨by decide +kernel,by decide +kernel,by decide +kernel,by decide +kernel,any_ascii (by decide +kernel) (by decide +kernel),fun _=>by decide +kernel,fun _=>by decide +kernel⟩
theorem ex_okLs:okLs exL:=by decide +kernel
abbrev x2S:ByteArray:=⟨#[120,50]⟩
abbrev nS1:ByteArray:=⟨#[110]⟩
theorem s1_dec {α β:Type} {A:Arg α} {B:Arg β} {g:α→β} {ok:α→Prop} [DecidablePred ok] {v:AV} {x:α} (h:A.dec v=some x) (hok:ok x):s1 A B g ok [v]=some (B.enc (g x)):=by
  unfold s1
  rw [sp1_at h,if_pos hok]
/-- What the example asks. -/
def TEx:Go.Vm.Spec:=((((((Go.Vm.Spec.on (fun _ _=>none) 8 (s1 aS aLE (fun s=>resE d0L (parseL s)) fun s=>s=exT)).on 9 (s1 aLs aSss (fun _=>[[ex1.id,ex3.id]]) fun L=>L=exL)).on 10 (sp2 aLs aS fun L s=>if L=exL∧s=x2S then some (aI.enc 1) else none)).on 11 (sp2 aLs aS fun L s=>if L=exL∧s=nS1 then some (aLs.enc [ex1,ex2]) else none)).on 12 (s1 aL aS lineS fun x=>x=ex1)).on 13 (s1 aLs aSs catsS fun L=>L=exL))
theorem call18_ex (hX:ExtOk Tryz.prog X09):CallAt Tryz.prog 9 [aLs.enc exL] [] 0 (aSss.enc [[ex1.id,ex3.id]]) []:=by
  have hC:=vcallL_ok hX (SpecOk.none' (P:=Tryz.prog)) 10 2
  have h:=hom_ex
  cases hv:vbody Tryz.prog X09 (vcallL Tryz.prog X09 (fun _ _=>none) 10 2) 10 fg18 Tryz.f9 (codeOf Tryz.f9) [lexsV exL] [] 0 with
  | none=>rw [hv] at h; cases h
  | some p =>
    rw [hv] at h
    simp only [Option.map_some,Option.some.injEq] at h
    exact run_res (B:=aSss) hX hC (xl09.dom 9 rfl rfl) Tryz.func9 (by kernel_rfl) hv h
theorem TEx_ok (hX:ExtOk Tryz.prog X09):SpecOk Tryz.prog TEx:=by
  refine SpecOk.s1 (SpecOk.s1 (SpecOk.on2 (SpecOk.on2 (SpecOk.s1 (SpecOk.s1 SpecOk.none' fun s hs => ?_) fun L hL => ?_) fun L s r h => ?_) fun L s r h => ?_) fun x hx => ?_) fun L hL => ?_
  · subst hs
    exact call23 hX xm09 ex_okPar
  · subst hL
    exact call18_ex hX
  · split at h
    · rename_i hh
      obtain ⟨rfl,rfl⟩:=hh
      simp only [Option.some.injEq] at h
      subst h
      have:=call28 hX xl09 (L:=exL) (s:=x2S) (by decide)
      rwa [ex_idx] at this
    · cases h
  · split at h
    · rename_i hh
      obtain ⟨rfl,rfl⟩:=hh
      simp only [Option.some.injEq] at h
      subst h
      have:=call17 hX xl09 (L:=exL) (s:=nS1) ex_okLs
      rwa [ex_cat] at this
    · cases h
  · subst hx
    exact call21 hX xm09 ex_okLine
  · subst hL
    exact call16 hX xm09 (by decide)
/-- The chapter's example holds. -/
theorem awake14 (hX:ExtOk Tryz.prog X09):CallAt Tryz.prog 4 [] [] 0 (bo true) []:=by
  have hC:=callerOf_ok (TEx_ok hX)
  have t23 : TEx 8 [st exT] = some (aLE.enc (ex3, 0)) := by
    have:=s1_at (A:=aS) (B:=aLE) (g:=fun s=>resE d0L (parseL s)) (ok:=fun s=>s=exT) (x:=exT) rfl
    simp only [ex_parse] at this
    exact this
  have t18:TEx 9 [exA]=some (aSss.enc [[ex1.id,ex3.id]]):=s1_dec (A:=aLs) (B:=aSss) (g:=fun _=>[[ex1.id,ex3.id]]) (ok:=fun L=>L=exL) ex_dec rfl
  have t28:TEx 10 [exA,st x2S]=some (aI.enc 1):=(sp2_at (A:=aLs) (B:=aS) (g:=fun L s=>if L=exL∧s=x2S then some (aI.enc 1) else none) ex_dec (aS.de x2S)).trans (if_pos ⟨rfl,rfl⟩)
  have t17:TEx 11 [exA,st nS1]=some (aLs.enc [ex1,ex2]):=(sp2_at (A:=aLs) (B:=aS) (g:=fun L s=>if L=exL∧s=nS1 then some (aLs.enc [ex1,ex2]) else none) ex_dec (aS.de nS1)).trans (if_pos ⟨rfl,rfl⟩)
  have d21:aL.dec (.agg [st ⟨#[120,49]⟩,st ⟨#[110]⟩,st ⟨#[98,97,116]⟩,st ⟨#[110,111,117,110]⟩,.list .clip 1 2 [st ⟨#[103,101,110,100,101,114]⟩,st ⟨#[102]⟩]])=some ex1:=by kernel_rfl
  have t21 : TEx 12 [.agg [st ⟨#[120, 49]⟩, st ⟨#[110]⟩, st ⟨#[98, 97, 116]⟩, st ⟨#[110, 111, 117, 110]⟩, .list .clip 1 2 [st ⟨#[103, 101, 110, 100, 101, 114]⟩, st ⟨#[102]⟩]]] = some (aS.enc exLine) := by
    rw [← ex_line]
    exact s1_dec (A:=aL) (B:=aS) (g:=lineS) (ok:=fun x=>x=ex1) d21 rfl
  have t16 : TEx 13 [exA] = some (aSs.enc [⟨#[110]⟩, ⟨#[118]⟩]) := by
    rw [← ex_cats]
    exact s1_dec (A:=aLs) (B:=aSs) (g:=catsS) (ok:=fun L=>L=exL) ex_dec rfl
  have c : ∀ {α : Type} {B : Arg α} {f : FuncId} {vs : List AV} {y : α} (σ : List Ob), lexW f = true → AV.ltAll 0 vs = true → TEx f vs = some (B.enc y) → callv X09 (callerOf TEx) false f vs σ 0 = some (B.enc y, σ) := by
    intro α B f vs y σ hw hl h
    obtain ⟨a1,a2,a3⟩:=xl09.ok f hw
    exact call_on a1 a2 a3 hl h
  have h:=f14_p X09 (callerOf TEx) 0 (c _ rfl rfl t23) (c _ rfl rfl t18) (c _ rfl rfl t28) (c _ rfl rfl t17) (c _ rfl rfl t21) (c _ rfl rfl t16)
  exact run_res (B:=aB) (y:=true) hX hC (xl09.dom 4 rfl rfl) Tryz.func4 (by kernel_rfl) h rfl
end
end Go.Proofs.Lex
end
/- Lexicon: laws over lists of whatever length: a list that is not short is told at once. -/
section
open Go Go.Vm Go.Proofs
namespace Go.Proofs.Lex
section
variable [Fixed] {X:Ext}
/-- The example, and the test of a list. -/
def TB:Go.Vm.Spec:=(Go.Vm.Spec.on (fun _ _=>none) 5 (s1 aLs aB fewL fun L=>L.length ≤ big)).on 4 fun vs=>match vs with
  | []=>some (bo true)
  | _=>none
theorem TB_ok (hX:ExtOk Tryz.prog X) (hL:XL X) (h14:CallAt Tryz.prog 4 [] [] 0 (bo true) []):SpecOk Tryz.prog TB:=by
  refine SpecOk.on (SpecOk.s1 SpecOk.none' fun L h=>call15 hX hL h) fun vs r h => ?_
  split at h
  · simp only [Option.some.injEq] at h
    subst h
    exact h14
  · cases h
variable (hX:ExtOk Tryz.prog X) (hL:XL X) (h14:CallAt Tryz.prog 4 [] [] 0 (bo true) [])
include hX hL h14
end
end Go.Proofs.Lex
end
/- Lexicon: from the readings of a row to lexemes; the tables; what a law's row asks. -/
section
open Go Go.Vm Go.Proofs Go.Proofs.YtogacbdboplbfaaGreatDoor
open Go.RowKit Go.ChangeShapes Go.WideShapes Go.Lib Go.Shelf
namespace Go.Proofs.Lex
theorem str_shape {B:Nat} {x:List AV} (hx:Shape Tryz.prog B 9 x):∃ s:ByteArray,x=[.str s]∧s.size ≤ B:=by
  cases hx with
  | str hu s hs=>exact ⟨s,rfl,hs⟩
  | int hu=>rw [Tryz.underlying9] at hu; cases hu
  | bool hu=>rw [Tryz.underlying9] at hu; cases hu
  | slice hu=>rw [Tryz.underlying9] at hu; cases hu
  | struct hu=>rw [Tryz.underlying9] at hu; cases hu
theorem many_shape {α:Type} {enc:α→List AV} {Q:α→Prop} {B:Nat} {t:TypeId} (h1:∀ x,Shape Tryz.prog B t x→∃ a,x=enc a∧Q a) :
    ∀ {xs:List (List AV)},(∀ x,x ∈ xs→Shape Tryz.prog B t x)→∃ l:List α,l.length=xs.length∧xs.flatten=l.flatMap enc∧∀ a ∈ l,Q a
  | [],_=>⟨[],rfl,rfl,fun a h=>by simp at h⟩
  | x :: xs, h => by
    obtain ⟨l,k1,k2,k3⟩:=many_shape h1 (xs:=xs) fun y hy=>h y (List.mem_cons_of_mem _ hy)
    obtain ⟨a,rfl,ha⟩:=h1 x (h x (List.mem_cons_self ..))
    refine ⟨a::l,by simp [k1],by simp [k2],fun b hb => ?_⟩
    rcases List.mem_cons.1 hb with rfl | hb
    · exact ha
    · exact k3 b hb
theorem row_shape {α:Type} {enc:α→List AV} {Q:α→Prop} {B kb k:Nat} {T t:TypeId} (hT:Tryz.prog.underlying T=some (.slice t)) (hc:Tryz.prog.cellsOf t=k) (hb:Tryz.prog.bytesOf t=kb) (h1:∀ x,Shape Tryz.prog B t x→∃ a,x=enc a∧Q a)
    {x:List AV} (hx:Shape Tryz.prog B T x):∃ l:List α,x=[.list .ro l.length k (l.flatMap enc)]∧(∀ a ∈ l,Q a)∧l.length * kb ≤ B:=by
  cases hx with
  | slice hu xs hxs hbb =>
    rw [hT] at hu
    simp only [Option.some.injEq,TypeDesc.slice.injEq] at hu
    subst hu
    obtain ⟨l,k1,k2,k3⟩:=many_shape h1 hxs
    rw [hb] at hbb
    exact ⟨l,by rw [k2,hc,← k1],k3,by rw [k1]; exact hbb⟩
  | int hu=>rw [hT] at hu; cases hu
  | bool hu=>rw [hT] at hu; cases hu
  | str hu=>rw [hT] at hu; cases hu
  | struct hu=>rw [hT] at hu; cases hu
theorem feat_shape {B:Nat} (x:List AV) (hx:Shape Tryz.prog B 28 x):∃ f:Feat,x=featC f∧(f.name.size ≤ B∧f.value.size ≤ B):=by
  have h57:=Tryz.underlying28
  cases hx with
  | struct hu ps hl hp =>
    rw [h57] at hu
    simp only [Option.some.injEq,TypeDesc.struct.injEq] at hu
    subst hu
    match ps,hl with
    | [p0, p1], _ =>
      obtain ⟨a,rfl,ha⟩:=str_shape (hp 0 _ _ rfl rfl)
      obtain ⟨b,rfl,hb⟩:=str_shape (hp 1 _ _ rfl rfl)
      exact ⟨⟨a,b⟩,rfl,ha,hb⟩
  | int hu=>rw [h57] at hu; cases hu
  | bool hu=>rw [h57] at hu; cases hu
  | str hu=>rw [h57] at hu; cases hu
  | slice hu=>rw [h57] at hu; cases hu
/-- What a world says of features. -/
def FeatsIn (B:Nat) (F:List Feat):Prop:=(∀ f ∈ F,f.name.size ≤ B∧f.value.size ≤ B)∧F.length * 32 ≤ B
theorem feats_shape {B:Nat} {x:List AV} (hx:Shape Tryz.prog B 29 x):∃ F:List Feat,x=[featsV F]∧FeatsIn B F:=by
  obtain ⟨l,rfl,h1,h2⟩:=row_shape Tryz.underlying29 cells57 bytes57 feat_shape hx
  exact ⟨l,rfl,h1,h2⟩
def LexIn (B:Nat) (x:Lexm):Prop:=x.id.size ≤ B∧x.cat.size ≤ B∧x.stem.size ≤ B∧x.par.size ≤ B∧FeatsIn B x.feats
theorem lex_shape {B:Nat} (x:List AV) (hx:Shape Tryz.prog B 31 x):∃ y:Lexm,x=lexC y∧LexIn B y:=by
  have h33:=Tryz.underlying31
  cases hx with
  | struct hu ps hl hp =>
    rw [h33] at hu
    simp only [Option.some.injEq,TypeDesc.struct.injEq] at hu
    subst hu
    match ps,hl with
    | [p0, p1, p2, p3, p4], _ =>
      obtain ⟨a,rfl,ha⟩:=str_shape (hp 0 _ _ rfl rfl)
      obtain ⟨b,rfl,hb⟩:=str_shape (hp 1 _ _ rfl rfl)
      obtain ⟨c,rfl,hc⟩:=str_shape (hp 2 _ _ rfl rfl)
      obtain ⟨d,rfl,hd⟩:=str_shape (hp 3 _ _ rfl rfl)
      obtain ⟨F,rfl,hF⟩:=feats_shape (hp 4 _ _ rfl rfl)
      exact ⟨⟨a,b,c,d,F⟩,rfl,ha,hb,hc,hd,hF⟩
  | int hu=>rw [h33] at hu; cases hu
  | bool hu=>rw [h33] at hu; cases hu
  | str hu=>rw [h33] at hu; cases hu
  | slice hu=>rw [h33] at hu; cases hu
theorem arg_lexs {B:Nat} {v:AV} (h:ArgIs Tryz.prog B 23 v):∃ L:List Lexm,v=lexsV L∧(∀ x ∈ L,LexIn B x)∧L.length * 88 ≤ B:=by
  obtain ⟨L,hL,h1,h2⟩:=row_shape Tryz.underlying23 cells33 bytes33 lex_shape (h.one Tryz.underlying23 rfl)
  simp only [List.cons.injEq,and_true] at hL
  exact ⟨L,hL,h1,h2⟩
/-! ### the tables, and the variable of which only the kind is known -/
abbrev laidL : List (String × DataW Unit) := [("unicode/utf8.acceptRanges", Rows.laid_unicode_utf8_acceptRanges), ("unicode/utf8.first", Rows.laid_unicode_utf8_first)]
theorem accept_eq:Rows.laid_unicode_utf8_acceptRanges (H:=Unit)=Lib.acceptData:=by kernel_rfl
theorem first_eq:Rows.laid_unicode_utf8_first=Lib.firstData:=by kernel_rfl
theorem tabs_of {W:World} (hL:laidMet Tryz.prog laidL W):Lib.Utf8Tabs 0 1 W:=by
  have h1 : (("unicode/utf8.first", Lib.firstData) : String × DataW Unit) ∈ laidL := by rw [← first_eq]; exact .tail _ (.head _)
  have h2 : (("unicode/utf8.acceptRanges", Lib.acceptData) : String × DataW Unit) ∈ laidL := by rw [← accept_eq]; exact .head _
  exact utf8Tabs_of_readsT (U8Types.of196 Tryz.laysValid) ⟨by kernel_rfl,by kernel_rfl,by kernel_rfl,by kernel_rfl,by kernel_rfl,by kernel_rfl,by kernel_rfl⟩ (Lib.laidMet.reads hL h1) (Lib.laidMet.reads hL h2)
theorem laidOut:laidOutB Tryz.prog=true:=by kernel_rfl
theorem own:ownKnob Tryz.prog.godebug=none:=by kernel_rfl
theorem maxLen_of {W:World} (h:W.ShapedOpen Tryz.prog):∃ m,W.cell? ⟨2,0,none⟩=some (.int .i64 m) :=
  cell_of_shapedOpen_int (t:=3) (zero := #[.int .i64 0]) h (by decide +kernel) (by kernel_rfl) rfl (by kernel_rfl) (by kernel_rfl) Tryz.underlying3
noncomputable def wit (os:Os):World:=World.laidAll Tryz.prog os laidL
theorem wit_met (os:Os) (args:Array Value):laidMet Tryz.prog laidL ((wit os).forCall (fun _ _=>0) ⟨#[],args,[]⟩).memory :=
  laidMet_laidAll args (by kernel_rfl) (by kernel_rfl)
theorem laidH {W:World} (h:laidMet Tryz.prog laidL W):laidMetH Tryz.prog laidL W:=by
  have e:(laidL.filter fun x=>x.2.handleName?.isSome)=[]:=by kernel_rfl
  unfold laidMetH
  rw [e]
  exact h
theorem laidH_of {W:World} (h:laidMetH Tryz.prog laidL W):laidMet Tryz.prog laidL W:=by
  have e:(laidL.filter fun x=>x.2.handleName?.isSome)=[]:=by kernel_rfl
  unfold laidMetH at h
  rw [e] at h
  exact h
section
variable {H:Type} {enc:TypeId × Value→H}
/-- A row's wrap that keeps both the conditions on what lies laid and the world's shape. -/
theorem returns_and_shaped {a:Assume} {C:Checked} {os:Os} {f:FuncId} {fn:Func} {s:ChangeSpec} {conds:List PathCond} {apart fresh handsOn again:Bool} {X:World→Array Value→Prop}
    (hX:∀ (w w' : World) (args:Array Value),w.heap=w'.heap→X w args→X w' args)
    (own:ownKnob C.prog.godebug=none) (started:os.Started) (noInit:C.prog.inits.idxOf? f=none) (hfn:C.prog.funcs[f]? = some fn)
    (witness : ∃ (w : World) (tape : Tape) (i : Input), w.os = os ∧ (w.forCall tape i).Shaped C.prog ∧ i.vars = [] ∧ Input.okWide C.prog (w.forCall tape i) .any w.heap.size f i ∧
      ((s.pre enc C.prog fn conds apart (w.forCall tape i).memory i.args∧X (w.forCall tape i).memory i.args)∧sizedMet enc C.prog fn (OpenSpec.ofChange s) apart (w.forCall tape i).memory i.args)∧a.holds C.prog (lone (Frame.enter C.prog f i.args .normal) [] (w.forCall tape i)))
    (contract : ∀ (W : World) (base : Nat) (args : Array Value) (ds gs : List (DataW H)) (before : List MemPlace),
      (∀ (j:Nat) t v,fn.params[j]? = some t→args[j]? = some v→Value.okWide C.prog W .any base t v) →
      DataW.Whole enc C.prog fn.params.toList s.vars apart W args.toList ds gs before →
      (DataW.weightsEach C.prog (fn.params.toList ++ s.plain.varTypes C.prog) (ds ++ gs)).all (· ≤ reachBytes)=true→X W args→W.ShapedOpen C.prog →
      Calls C.prog f args W fun e W' => ∃ v,e = .returned v∧s.post enc C.prog fn apart fresh handsOn again W args v W') :
    ReturnsInHanded a C os f .any (fun w args=>(s.pre enc C.prog fn conds apart w args∧X w args)∧sizedMet enc C.prog fn (OpenSpec.ofChange s) apart w args) (s.post enc C.prog fn apart fresh handsOn again):=by
  refine returnsInHanded_of_calls own started noInit witness ?_
  intro w tape i _ hsh _ hok hpre _
  obtain ⟨_,_,_,fn',hfn',_,_,_,_,hval⟩:=hok
  have e:fn' = fn:=Option.some.inj (hfn'.symm.trans hfn)
  subst e
  obtain ⟨⟨⟨ds,gs,before,hw,_⟩,hx⟩,hz⟩:=hpre
  have hw' := DataW.Whole.of_heap (w' := w.forCall tape i) (by rfl) hw
  refine (contract (w.forCall tape i) w.heap.size i.args ds gs before hval hw' (hz.weights hw) (hX _ _ _ (by rfl) hx) hsh).mono fun e W' ⟨v,he,hp⟩ => ?_
  subst he
  exact ChangeSpec.post_blind hp
end
theorem big_of {n k:Nat} (hk:1 ≤ k) (h:n * k ≤ reachBytes):n ≤ big:=by
  have h1:n * 1 ≤ n * k:=Nat.mul_le_mul_left n hk
  have h2:reachBytes ≤ 140737488355328:=by decide
  show n ≤ 140737488355328
  omega
end Go.Proofs.Lex
end
