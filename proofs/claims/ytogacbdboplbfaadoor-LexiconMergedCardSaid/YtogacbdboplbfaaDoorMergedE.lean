/- Part 5 of the texts of this claim: the evaluator, and what it says of the program's functions. -/
import Derived.Test.YtogacbdboplbfaaDoorMergedD
import Derived.Test.YtogacbdboplbfaaDoorMergedC
import Derived.WalkKit
import Derived.Lib.Walk
import Derived.Lib.SliceRun
import Derived.Test.YtogacbdboplbfaaDoorMergedB
import Derived.KernelRfl
set_option linter.unusedSectionVars false
set_option linter.unusedVariables false
set_option linter.unusedSimpArgs false
set_option linter.constructorNameAsVariable false
/- Lexicon: records; few; looking for a lexeme; small functions. -/
section
open Go Go.Vm Go.Proofs
namespace Go.Proofs.Lex
/-- The order of bytes. -/
def ltS (x y:ByteArray):Bool:=Op.bytesLess x.toList y.toList
/-- Names strictly ascend. -/
def ascF (F:List Feat):Bool:=(List.range (F.length - 1)).all fun i=>ltS (nF F i).name (nF F (i + 1)).name
theorem ascF_true {F:List Feat}:ascF F=true ↔ ∀ i,i + 1 < F.length→ltS (nF F i).name (nF F (i + 1)).name=true:=by
  simp only [ascF,List.all_eq_true,List.mem_range]
  constructor
  · intro h i hi; exact h i (by omega)
  · intro h i hi; exact h i (by omega)
def namesF (F:List Feat):Bool:=F.all fun f=>nameF f.name && nameF f.value
theorem all_nth {α:Type} {d:α} {p:α→Bool} {l:List α}:l.all p=true ↔ ∀ i,i < l.length→p (l.getD i d)=true:=by
  rw [List.all_eq_true]
  constructor
  · intro h i hi; rw [getD_lt hi]; exact h _ (List.getElem_mem hi)
  · intro h x hx
    obtain ⟨i,hi,rfl⟩:=List.getElem_of_mem hx
    have:=h i hi
    rwa [getD_lt hi] at this
/-- A valid record. -/
def validF (F:List Feat):Bool:=namesF F && (ascF F && decide (F.length ≤ 8))
section
variable {X:Ext} {call:Caller} {lf:Nat}
theorem pred {i:Nat} (h:0 < i) (hb:i ≤ big):w6 ((↑i:Int) - 1)=(↑(i - 1):Int):=by
  have:i ≤ 140737488355328:=hb
  rw [w6_id (by omega) (by omega)]
  omega
/-- feature.Valid. -/
theorem valid45 {F:List Feat} (hl:F.length ≤ big) (hlf:F.length < lf) (h75:∀ i,i < F.length→∀ σ,callv X call true 75 [st (nF F i).name] σ 0=some (bo (nameF (nF F i).name),σ)∧callv X call true 75 [st (nF F i).value] σ 0=some (bo (nameF (nF F i).value),σ)) :
    ∃ σ',vbody Tryd.prog X call lf fg45 Tryd.f45 (codeOf Tryd.f45) [featsV F] [] 0=some (bo (validF F),σ'):=by
  have hl' : F.length ≤ 140737488355328:=hl
  let good:Nat→Bool:=fun i=>(nameF (nF F i).name && nameF (nF F i).value) && (decide (i=0) || ltS (nF F (i - 1)).name (nF F i).name)
  have ho : ∀ i, (i < F.length → good i = true → f45_o0 F i (nF F i).name (nF F (i - 1)).name (nameF (nF F i).name) (nameF (nF F i).value) = 0) ∧ (i < F.length → ¬ good i = true → f45_o0 F i (nF F i).name (nF F (i - 1)).name (nameF (nF F i).name) (nameF (nF F i).value) = 1 ∨ f45_o0 F i (nF F i).name (nF F (i - 1)).name (nameF (nF F i).name) (nameF (nF F i).value) = 2 ∨ f45_o0 F i (nF F i).name (nF F (i - 1)).name (nameF (nF F i).name) (nameF (nF F i).value) = 3) ∧ (¬ i < F.length → f45_o0 F i (nF F i).name (nF F (i - 1)).name (nameF (nF F i).name) (nameF (nF F i).value) = 4) := by
    intro i
    unfold f45_o0
    refine ⟨fun h1 h2 => ?_,fun h1 h2 => ?_,fun h1 => ?_⟩
    · simp only [good, Bool.and_eq_true, Bool.or_eq_true, decide_eq_true_eq] at h2
      rw [decide_eq_true (by omega),h2.1.1,h2.1.2]
      by_cases h0:i=0
      · rw [decide_eq_false (show ¬ (↑i:Int) > 0 by omega)]
      · rw [decide_eq_true (show (↑i : Int) > 0 by omega)]
        have:=h2.2.resolve_left h0
        unfold ltS at this
        rw [this]; rfl
    · rw [decide_eq_true (by omega)]
      cases h3:nameF (nF F i).name with
      | false=>exact .inr (.inr rfl)
      | true =>
        cases h4:nameF (nF F i).value with
        | false=>exact .inr (.inl rfl)
        | true =>
          left
          simp only [good,h3,h4,Bool.and_self,Bool.true_and,Bool.or_eq_true,decide_eq_true_eq,not_or] at h2
          rw [decide_eq_true (show (↑i:Int) > 0 by omega)]
          have:=h2.2
          unfold ltS at this
          rw [Bool.eq_false_iff.2 this]; rfl
    · rw [decide_eq_false (by omega)]
  have key : (∀ i, i < F.length → good i = true) ↔ (namesF F && ascF F) = true := by
    rw [Bool.and_eq_true,ascF_true,namesF,all_nth (d:=d0F)]
    constructor
    · intro h
      refine ⟨fun i hi => ?_,fun i hi => ?_⟩
      · have := h i hi
        simp only [good,Bool.and_eq_true] at this
        rw [Bool.and_eq_true]
        exact this.1
      · have := h (i + 1) hi
        simp only [good,Bool.and_eq_true,Bool.or_eq_true,decide_eq_true_eq,Nat.add_sub_cancel] at this
        exact this.2.resolve_left (by omega)
    · rintro ⟨h1, h2⟩ i hi
      simp only [good,Bool.and_eq_true,Bool.or_eq_true,decide_eq_true_eq]
      have:=h1 i hi
      rw [Bool.and_eq_true] at this
      refine ⟨this,?_⟩
      by_cases h0:i=0
      · exact .inl h0
      · have := h2 (i - 1) (by omega)
        rw [show i - 1 + 1=i by omega] at this
        exact .inr this
  have g3 : ∀ (n i0 : Nat), i0 ≤ n → decide ((↑i0 : Int) < (↑(List.length F) : Int)) = true → nameF (nF F i0).name = true → nameF (nF F i0).value = true → decide ((↑i0 : Int) > 0) = true → keep [] (indexAddrv Tryd.prog 31 [] (lro (List.length F) 2 (List.flatMap featC F)) (i6 (w6 ((↑i0 : Int) - 1)))) = some (AV.eaddr (st (nF F (i0 - 1)).name :: st (nF F (i0 - 1)).value :: tF F (i0 - 1)), []) := by
    intro n i0 _ h _ _ h0
    have h:=of_decide_eq_true h
    have h0:=of_decide_eq_true h0
    rw [pred (by omega) (show _ ≤ 140737488355328 by omega)]
    exact at_feat (by omega)
  rcases first_fail (p:=fun i=>good i=true) F.length with hall | ⟨k,hk,hbad,hbef⟩
  · have M := f45_M F X call lf F.length _ _ _ _ _ _ _ _ hlf (fun i _ h => at_feat (by simpa using h)) (fun i _ h => (h75 i (by simpa using h) _).1) (fun i _ h _ => (h75 i (by simpa using h) _).2) (g3 _) (fun i h _ => up h hl) (fun j hj => (ho j).1 hj (hall j hj))
    have hn:=key.1 hall
    have h3:=(ho F.length).2.2 (by omega)
    unfold validF
    rw [← Bool.and_assoc,hn,Bool.true_and]
    by_cases h8:F.length ≤ 8
    · rw [decide_eq_true h8]
      exact ⟨_,M.2.2.2.1 h3 (decide_eq_true (by omega))⟩
    · rw [decide_eq_false h8]
      exact ⟨_,M.2.2.2.2 h3 (decide_eq_false (by omega))⟩
  · have M := f45_M F X call lf k _ _ _ _ _ _ _ _ (by omega) (fun i _ h => at_feat (by simpa using h)) (fun i _ h => (h75 i (by simpa using h) _).1) (fun i _ h _ => (h75 i (by simpa using h) _).2) (g3 _) (fun i h _ => up (n := F.length) (by omega) hl) (fun j hj => (ho j).1 (by omega) (hbef j hj))
    have hn : (namesF F && ascF F) = false := by
      rw [Bool.eq_false_iff]
      intro h
      exact hbad (key.2 h k hk)
    unfold validF
    rw [← Bool.and_assoc,hn,Bool.false_and]
    rcases (ho k).2.1 hk hbad with h | h | h
    · exact ⟨_,M.1 h⟩
    · exact ⟨_,M.2.1 h⟩
    · exact ⟨_,M.2.2.1 h⟩
end
end Go.Proofs.Lex
end
/- Lexicon: closures, walked (printed) -/
section
open Go Go.Vm Go.Proofs
namespace Go.Proofs.Lex
theorem f63_pt (x0:Lexm)(s:ByteArray)(X:Ext)(call:Caller)(lf:Nat)
 (h0:(ByteArray.toList (Lexm.id x0) == ByteArray.toList s)=true):vbody Tryd.prog X call lf noFg Tryd.f63 (codeOf Tryd.f63) [AV.agg (lexC x0),AV.ref 0 0] [Ob.cells [st s]] 0=some (bo true,[Ob.cells [st s],Ob.cells [st (Lexm.id x0),st (Lexm.cat x0),st (Lexm.stem x0),st (Lexm.par x0),lro (List.length (Lexm.feats x0)) 2 (List.flatMap featC (Lexm.feats x0))]]) :=
  along_sound (ans:=[(7,Ans.b true)]) (by kernel_rfl) (ai h0 trivial)
theorem f63_pf (x0:Lexm)(s:ByteArray)(X:Ext)(call:Caller)(lf:Nat)
 (h0:(ByteArray.toList (Lexm.id x0) == ByteArray.toList s)=false):vbody Tryd.prog X call lf noFg Tryd.f63 (codeOf Tryd.f63) [AV.agg (lexC x0),AV.ref 0 0] [Ob.cells [st s]] 0=some (bo false,[Ob.cells [st s],Ob.cells [st (Lexm.id x0),st (Lexm.cat x0),st (Lexm.stem x0),st (Lexm.par x0),lro (List.length (Lexm.feats x0)) 2 (List.flatMap featC (Lexm.feats x0))]]) :=
  along_sound (ans:=[(7,Ans.b false)]) (by kernel_rfl) (ai h0 trivial)
def f63_q0 (x0:Lexm)(s:ByteArray):Nat :=
  (match (ByteArray.toList (Lexm.id x0) == ByteArray.toList s) with
  | true=>0
  | false=>1)
theorem f63_P0 (x0:Lexm)(s:ByteArray)(X:Ext)(call:Caller)(lf:Nat) :
    (f63_q0 x0 s=0→vbody Tryd.prog X call lf noFg Tryd.f63 (codeOf Tryd.f63) [AV.agg (lexC x0),AV.ref 0 0] [Ob.cells [st s]] 0=some (bo true,[Ob.cells [st s],Ob.cells [st (Lexm.id x0),st (Lexm.cat x0),st (Lexm.stem x0),st (Lexm.par x0),lro (List.length (Lexm.feats x0)) 2 (List.flatMap featC (Lexm.feats x0))]]))∧(f63_q0 x0 s=1→vbody Tryd.prog X call lf noFg Tryd.f63 (codeOf Tryd.f63) [AV.agg (lexC x0),AV.ref 0 0] [Ob.cells [st s]] 0=some (bo false,[Ob.cells [st s],Ob.cells [st (Lexm.id x0),st (Lexm.cat x0),st (Lexm.stem x0),st (Lexm.par x0),lro (List.length (Lexm.feats x0)) 2 (List.flatMap featC (Lexm.feats x0))]])):=by
  unfold f63_q0
  cases c0:(ByteArray.toList (Lexm.id x0) == ByteArray.toList s) with
  | true =>
    exact ⟨fun _=>f63_pt x0 s X call lf c0,fun h=>absurd (show (0:Nat)=1 from h) (by decide)⟩
  | false =>
    exact ⟨fun h=>absurd (show (1:Nat)=0 from h) (by decide),fun _=>f63_pf x0 s X call lf c0⟩
theorem f41_pt (x0:Lexm)(s:ByteArray)(X:Ext)(call:Caller)(lf:Nat)
 (h0:(ByteArray.toList (Lexm.cat x0) == ByteArray.toList s)=true):vbody Tryd.prog X call lf noFg Tryd.f41 (codeOf Tryd.f41) [AV.agg (lexC x0),AV.ref 0 0] [Ob.cells [st s]] 0=some (bo true,[Ob.cells [st s],Ob.cells [st (Lexm.id x0),st (Lexm.cat x0),st (Lexm.stem x0),st (Lexm.par x0),lro (List.length (Lexm.feats x0)) 2 (List.flatMap featC (Lexm.feats x0))]]) :=
  along_sound (ans:=[(7,Ans.b true)]) (by kernel_rfl) (ai h0 trivial)
theorem f41_pf (x0:Lexm)(s:ByteArray)(X:Ext)(call:Caller)(lf:Nat)
 (h0:(ByteArray.toList (Lexm.cat x0) == ByteArray.toList s)=false):vbody Tryd.prog X call lf noFg Tryd.f41 (codeOf Tryd.f41) [AV.agg (lexC x0),AV.ref 0 0] [Ob.cells [st s]] 0=some (bo false,[Ob.cells [st s],Ob.cells [st (Lexm.id x0),st (Lexm.cat x0),st (Lexm.stem x0),st (Lexm.par x0),lro (List.length (Lexm.feats x0)) 2 (List.flatMap featC (Lexm.feats x0))]]) :=
  along_sound (ans:=[(7,Ans.b false)]) (by kernel_rfl) (ai h0 trivial)
def f41_q0 (x0:Lexm)(s:ByteArray):Nat :=
  (match (ByteArray.toList (Lexm.cat x0) == ByteArray.toList s) with
  | true=>0
  | false=>1)
theorem f41_P0 (x0:Lexm)(s:ByteArray)(X:Ext)(call:Caller)(lf:Nat) :
    (f41_q0 x0 s=0→vbody Tryd.prog X call lf noFg Tryd.f41 (codeOf Tryd.f41) [AV.agg (lexC x0),AV.ref 0 0] [Ob.cells [st s]] 0=some (bo true,[Ob.cells [st s],Ob.cells [st (Lexm.id x0),st (Lexm.cat x0),st (Lexm.stem x0),st (Lexm.par x0),lro (List.length (Lexm.feats x0)) 2 (List.flatMap featC (Lexm.feats x0))]]))∧(f41_q0 x0 s=1→vbody Tryd.prog X call lf noFg Tryd.f41 (codeOf Tryd.f41) [AV.agg (lexC x0),AV.ref 0 0] [Ob.cells [st s]] 0=some (bo false,[Ob.cells [st s],Ob.cells [st (Lexm.id x0),st (Lexm.cat x0),st (Lexm.stem x0),st (Lexm.par x0),lro (List.length (Lexm.feats x0)) 2 (List.flatMap featC (Lexm.feats x0))]])):=by
  unfold f41_q0
  cases c0:(ByteArray.toList (Lexm.cat x0) == ByteArray.toList s) with
  | true =>
    exact ⟨fun _=>f41_pt x0 s X call lf c0,fun h=>absurd (show (0:Nat)=1 from h) (by decide)⟩
  | false =>
    exact ⟨fun h=>absurd (show (1:Nat)=0 from h) (by decide),fun _=>f41_pf x0 s X call lf c0⟩
def fg64:Nat→List Nat
  | 5003=>[1]
  | _=>[]
theorem f69_p (x0:Lexm)(X:Ext)(call:Caller)(lf:Nat):vbody Tryd.prog X call lf noFg Tryd.f69 (codeOf Tryd.f69) [AV.agg (lexC x0)] [] 0=some (bo true,[Ob.cells [st (Lexm.id x0),st (Lexm.cat x0),st (Lexm.stem x0),st (Lexm.par x0),lro (List.length (Lexm.feats x0)) 2 (List.flatMap featC (Lexm.feats x0))]]) :=
  along_sound (ans:=[]) (by kernel_rfl) trivial
theorem f77_pt (s:ByteArray)(X:Ext)(call:Caller)(lf:Nat)
 (h0:(ByteArray.toList s == ByteArray.toList (ByteArray.mk #[]))=true):vbody Tryd.prog X call lf noFg Tryd.f77 (codeOf Tryd.f77) [st s] [] 0=some (bo true,[]) :=
  along_sound (ans:=[(4,Ans.b true)]) (by kernel_rfl) (ai h0 trivial)
theorem f77_pf (s:ByteArray)(X:Ext)(call:Caller)(lf:Nat)
 (h0:(ByteArray.toList s == ByteArray.toList (ByteArray.mk #[]))=false):vbody Tryd.prog X call lf noFg Tryd.f77 (codeOf Tryd.f77) [st s] [] 0=some (bo false,[]) :=
  along_sound (ans:=[(4,Ans.b false)]) (by kernel_rfl) (ai h0 trivial)
def f77_q0 (s:ByteArray):Nat :=
  (match (ByteArray.toList s == ByteArray.toList (ByteArray.mk #[])) with
  | true=>0
  | false=>1)
theorem f77_P0 (s:ByteArray)(X:Ext)(call:Caller)(lf:Nat) :
    (f77_q0 s=0→vbody Tryd.prog X call lf noFg Tryd.f77 (codeOf Tryd.f77) [st s] [] 0=some (bo true,[]))∧(f77_q0 s=1→vbody Tryd.prog X call lf noFg Tryd.f77 (codeOf Tryd.f77) [st s] [] 0=some (bo false,[])):=by
  unfold f77_q0
  cases c0:(ByteArray.toList s == ByteArray.toList (ByteArray.mk #[])) with
  | true =>
    exact ⟨fun _=>f77_pt s X call lf c0,fun h=>absurd (show (0:Nat)=1 from h) (by decide)⟩
  | false =>
    exact ⟨fun h=>absurd (show (1:Nat)=0 from h) (by decide),fun _=>f77_pf s X call lf c0⟩
def f62_F0 (L:List Lexm)(g:Nat)(c:AV)(i0:Nat):St :=
  stOf 19 [4,5,9,10,11,12,13,14,15,16,17,18] [(0,lro L.length 5 (List.flatMap lexC L)),(1,AV.clo g [AV.ref 0 0]),(6,lro L.length 5 (List.flatMap lexC L)),(7,i6 (↑L.length:Int)),(8,i6 (↑i0:Int))] [Ob.cells [c]]
def f62_S0 (L:List Lexm)(g:Nat)(c:AV):St :=
  stOf 19 [] [(0,lro L.length 5 (List.flatMap lexC L)),(1,AV.clo g [AV.ref 0 0]),(4,i6 0),(6,lro L.length 5 (List.flatMap lexC L)),(7,i6 (↑L.length:Int)),(8,i6 0)] [Ob.cells [c]]
abbrev f62_D0:List Nat:=[18,4,17,16,15,14,13,12,11,5,10,9]
theorem f62_L0 (L:List Lexm)(g:Nat)(c:AV)(X:Ext)(call:Caller)(lf n:Nat)(x:Ex) (S' : St)
 (hn:n<lf)
 (hs:∀ j,j<n→∃ S1,vexec Tryd.prog X call lf 0 noFg (loopN Tryd.f62 0) (f62_F0 L g c j)=some (Ex.normal,S1)∧forget f62_D0 S1=(f62_F0 L g c (j + 1)))
 (he:vexec Tryd.prog X call lf 0 noFg (loopN Tryd.f62 0) (f62_F0 L g c n)=some (x,S'))
 (hx:x ≠ Ex.normal):vexec Tryd.prog X call lf 0 noFg (Go.Code.loop (loopN Tryd.f62 0)) (f62_S0 L g c)=some (x,S') :=
  loop_runK (by kernel_rfl) (fun j=>(f62_F0 L g c j)) n hn (by show forget f62_D0 (f62_S0 L g c)=(f62_F0 L g c 0); unfold f62_F0; show _=_; kernel_rfl) hs he hx
def f62_S1 (L:List Lexm)(g:Nat)(c:AV)(i0:Nat)(a b d e:ByteArray)(h:Nat)(j r14:List AV):St :=
  stOf 19 [18] [(0,lro L.length 5 (List.flatMap lexC L)),(1,AV.clo g [AV.ref 0 0]),(4,i6 (↑i0:Int)),(5,i6 (↑i0:Int)),(6,lro L.length 5 (List.flatMap lexC L)),(7,i6 (↑L.length:Int)),(8,i6 (↑i0:Int)),(9,bo true),(10,i6 (↑i0:Int)),(11,AV.clo g [AV.ref 0 0]),(12,lro L.length 5 (List.flatMap lexC L)),(13,i6 (↑i0:Int)),(14,AV.eaddr (st a::st b::st d::st e::lro h 2 j::r14)),(15,AV.agg [st a,st b,st d,st e,lro h 2 j]),(16,bo true),(17,i6 (↑i0:Int))] [Ob.cells [c]]
theorem f62_r0_tt (L:List Lexm)(g:Nat)(c:AV)(X:Ext)(call:Caller)(lf i0:Nat)(a d e h:ByteArray)(j:Nat)(k r14:List AV)
 (h0:decide ((↑i0:Int)<(↑L.length:Int))=true)
 (h1:keep [Ob.cells [c]] (indexAddrv Tryd.prog 22 [Ob.cells [c]] (lro L.length 5 (List.flatMap lexC L)) (i6 (↑i0:Int)))=some (AV.eaddr (st a::st d::st e::st h::lro j 2 k::r14),[Ob.cells [c]]))
 (h2:callv X call false g [AV.agg [st a,st d,st e,st h,lro j 2 k],AV.ref 0 0] [Ob.cells [c]] 0=some (bo true,[Ob.cells [c]])):vexec Tryd.prog X call lf 0 noFg (loopN Tryd.f62 0) (f62_F0 L g c i0)=some (Ex.ret,(f62_S1 L g c i0 a d e h j k r14)) :=
  around_sound (ans:=[(1,Ans.b true),(10,Ans.v (AV.eaddr (st a::st d::st e::st h::lro j 2 k::r14))),(12,Ans.v (bo true))]) (by kernel_rfl) (ai h0 (ai h1 (ai h2 trivial)))
theorem f62_pltt (L:List Lexm)(g:Nat)(c:AV)(X:Ext)(call:Caller)(lf i0:Nat)(a b d e:ByteArray)(h:Nat)(j r14:List AV)
 (h0:vexec Tryd.prog X call lf 0 noFg (Code.loop (loopN Tryd.f62 0)) (f62_S0 L g c)=some (Ex.ret,(f62_S1 L g c i0 a b d e h j r14))):vbody Tryd.prog X call lf noFg Tryd.f62 (codeOf Tryd.f62) [lexsV L,AV.clo g [AV.ref 0 0]] [Ob.cells [c]] 0=some (i6 (↑i0:Int),[Ob.cells [c]]) :=
  along_sound (ans:=[(6,Ans.l Ex.ret (f62_S1 L g c i0 a b d e h j r14))]) (by kernel_rfl) (ai h0 trivial)
theorem f62_s0_tf (L:List Lexm)(g:Nat)(c:AV)(X:Ext)(call:Caller)(lf i0:Nat)(a d e h:ByteArray)(j:Nat)(k r14:List AV)
 (h0:decide ((↑i0:Int)<(↑L.length:Int))=true)
 (h1:keep [Ob.cells [c]] (indexAddrv Tryd.prog 22 [Ob.cells [c]] (lro L.length 5 (List.flatMap lexC L)) (i6 (↑i0:Int)))=some (AV.eaddr (st a::st d::st e::st h::lro j 2 k::r14),[Ob.cells [c]]))
 (h2:callv X call false g [AV.agg [st a,st d,st e,st h,lro j 2 k],AV.ref 0 0] [Ob.cells [c]] 0=some (bo false,[Ob.cells [c]]))
 (e0:(↑(i0 + 1):Int)=w6 ((↑i0:Int) + 1)):∃ S1,vexec Tryd.prog X call lf 0 noFg (loopN Tryd.f62 0) (f62_F0 L g c i0)=some (Ex.normal,S1)∧forget f62_D0 S1=(f62_F0 L g c (i0 + 1)) :=
  ⟨stOf 19 [4,17] [(0,lro L.length 5 (List.flatMap lexC L)),(1,AV.clo g [AV.ref 0 0]),(5,i6 (↑i0:Int)),(6,lro L.length 5 (List.flatMap lexC L)),(7,i6 (↑L.length:Int)),(8,i6 (w6 ((↑i0:Int) + 1))),(9,bo true),(10,i6 (↑i0:Int)),(11,AV.clo g [AV.ref 0 0]),(12,lro L.length 5 (List.flatMap lexC L)),(13,i6 (↑i0:Int)),(14,AV.eaddr (st a::st d::st e::st h::lro j 2 k::r14)),(15,AV.agg [st a,st d,st e,st h,lro j 2 k]),(16,bo false),(18,i6 (w6 ((↑i0:Int) + 1)))] [Ob.cells [c]],around_sound (ans:=[(1,Ans.b true),(10,Ans.v (AV.eaddr (st a::st d::st e::st h::lro j 2 k::r14))),(12,Ans.v (bo false))]) (by kernel_rfl) (ai h0 (ai h1 (ai h2 trivial))),by unfold f62_F0; rw [e0]; show _=_; kernel_rfl⟩
def f62_S2 (L:List Lexm)(g:Nat)(c:AV)(i0:Nat):St :=
  stOf 19 [4,5,10,11,12,13,14,15,16,17,18] [(0,lro L.length 5 (List.flatMap lexC L)),(1,AV.clo g [AV.ref 0 0]),(6,lro L.length 5 (List.flatMap lexC L)),(7,i6 (↑L.length:Int)),(8,i6 (↑i0:Int)),(9,bo false)] [Ob.cells [c]]
theorem f62_r0_f (L:List Lexm)(g:Nat)(c:AV)(X:Ext)(call:Caller)(lf i0:Nat)
 (h0:decide ((↑i0:Int)<(↑L.length:Int))=false):vexec Tryd.prog X call lf 0 noFg (loopN Tryd.f62 0) (f62_F0 L g c i0)=some (Ex.exit 0,(f62_S2 L g c i0)) :=
  around_sound (ans:=[(1,Ans.b false)]) (by kernel_rfl) (ai h0 trivial)
theorem f62_plf (L:List Lexm)(g:Nat)(c:AV)(X:Ext)(call:Caller)(lf i0:Nat)
 (h0:vexec Tryd.prog X call lf 0 noFg (Code.loop (loopN Tryd.f62 0)) (f62_S0 L g c)=some (Ex.exit 0,(f62_S2 L g c i0))):vbody Tryd.prog X call lf noFg Tryd.f62 (codeOf Tryd.f62) [lexsV L,AV.clo g [AV.ref 0 0]] [Ob.cells [c]] 0=some (i6 (-1),[Ob.cells [c]]) :=
  along_sound (ans:=[(6,Ans.l (Ex.exit 0) (f62_S2 L g c i0))]) (by kernel_rfl) (ai h0 trivial)
def f62_o0 (L:List Lexm)(i0:Nat)(b0:Bool):Nat :=
  (match decide ((↑i0:Int)<(↑L.length:Int)) with
  | true=>(match b0 with
    | true=>1
    | false=>0)
  | false=>2)
theorem f62_B0 (L:List Lexm)(g:Nat)(c:AV)(X:Ext)(call:Caller)(lf i0:Nat)(a b d e:ByteArray)(j:Nat)(k r14:List AV)(b0:Bool)
 (g0:decide ((↑i0:Int)<(↑L.length:Int))=true→keep [Ob.cells [c]] (indexAddrv Tryd.prog 22 [Ob.cells [c]] (lro L.length 5 (List.flatMap lexC L)) (i6 (↑i0:Int)))=some (AV.eaddr (st a::st b::st d::st e::lro j 2 k::r14),[Ob.cells [c]]))
 (g1:decide ((↑i0:Int)<(↑L.length:Int))=true→callv X call false g [AV.agg [st a,st b,st d,st e,lro j 2 k],AV.ref 0 0] [Ob.cells [c]] 0=some (bo b0,[Ob.cells [c]]))
 (e0:decide ((↑i0:Int)<(↑L.length:Int))=true→(↑(i0 + 1):Int)=w6 ((↑i0:Int) + 1)) :
    (f62_o0 L i0 b0=0→∃ S1,vexec Tryd.prog X call lf 0 noFg (loopN Tryd.f62 0) (f62_F0 L g c i0)=some (Ex.normal,S1)∧forget f62_D0 S1=(f62_F0 L g c (i0 + 1)))∧(f62_o0 L i0 b0=1→vexec Tryd.prog X call lf 0 noFg (loopN Tryd.f62 0) (f62_F0 L g c i0)=some (Ex.ret,(f62_S1 L g c i0 a b d e j k r14)))∧(f62_o0 L i0 b0=2→vexec Tryd.prog X call lf 0 noFg (loopN Tryd.f62 0) (f62_F0 L g c i0)=some (Ex.exit 0,(f62_S2 L g c i0))):=by
  unfold f62_o0
  cases c0:decide ((↑i0:Int)<(↑L.length:Int)) with
  | true =>
    cases c1:b0 with
    | true =>
      exact ⟨fun h=>absurd (show (1:Nat)=0 from h) (by decide),fun _=>f62_r0_tt L g c X call lf i0 a b d e j k r14 c0 (g0 c0) (by have:=(g1 c0); rw [c1] at this; exact this),fun h=>absurd (show (1:Nat)=2 from h) (by decide)⟩
    | false =>
      exact ⟨fun _=>f62_s0_tf L g c X call lf i0 a b d e j k r14 c0 (g0 c0) (by have:=(g1 c0); rw [c1] at this; exact this) (e0 c0),fun h=>absurd (show (0:Nat)=1 from h) (by decide),fun h=>absurd (show (0:Nat)=2 from h) (by decide)⟩
  | false =>
    exact ⟨fun h=>absurd (show (2:Nat)=0 from h) (by decide),fun h=>absurd (show (2:Nat)=1 from h) (by decide),fun _=>f62_r0_f L g c X call lf i0 c0⟩
theorem f62_X0 (L:List Lexm)(g:Nat)(c:AV)(X:Ext)(call:Caller)(lf i0:Nat)(a b d e:ByteArray)(j:Nat)(k r14:List AV)(b0:Bool)
 (g0:decide ((↑i0:Int)<(↑L.length:Int))=true→keep [Ob.cells [c]] (indexAddrv Tryd.prog 22 [Ob.cells [c]] (lro L.length 5 (List.flatMap lexC L)) (i6 (↑i0:Int)))=some (AV.eaddr (st a::st b::st d::st e::lro j 2 k::r14),[Ob.cells [c]]))
 (g1:decide ((↑i0:Int)<(↑L.length:Int))=true→callv X call false g [AV.agg [st a,st b,st d,st e,lro j 2 k],AV.ref 0 0] [Ob.cells [c]] 0=some (bo b0,[Ob.cells [c]])) :
    (f62_o0 L i0 b0=1→vexec Tryd.prog X call lf 0 noFg (loopN Tryd.f62 0) (f62_F0 L g c i0)=some (Ex.ret,(f62_S1 L g c i0 a b d e j k r14)))∧(f62_o0 L i0 b0=2→vexec Tryd.prog X call lf 0 noFg (loopN Tryd.f62 0) (f62_F0 L g c i0)=some (Ex.exit 0,(f62_S2 L g c i0))):=by
  unfold f62_o0
  cases c0:decide ((↑i0:Int)<(↑L.length:Int)) with
  | true =>
    cases c1:b0 with
    | true =>
      exact ⟨fun _=>f62_r0_tt L g c X call lf i0 a b d e j k r14 c0 (g0 c0) (by have:=(g1 c0); rw [c1] at this; exact this),fun h=>absurd (show (1:Nat)=2 from h) (by decide)⟩
    | false =>
      exact ⟨fun h=>absurd (show (0:Nat)=1 from h) (by decide),fun h=>absurd (show (0:Nat)=2 from h) (by decide)⟩
  | false =>
    exact ⟨fun h=>absurd (show (2:Nat)=1 from h) (by decide),fun _=>f62_r0_f L g c X call lf i0 c0⟩
theorem f62_M (L:List Lexm)(g:Nat)(c:AV)(X:Ext)(call:Caller)(lf n:Nat)(a b d e:Nat→ByteArray)(h:Nat→Nat)(k r14:Nat→List AV)(b0:Nat→Bool)
 (hn:n<lf)
 (g0:∀ i0,i0 ≤ n→decide ((↑i0:Int)<(↑L.length:Int))=true→keep [Ob.cells [c]] (indexAddrv Tryd.prog 22 [Ob.cells [c]] (lro L.length 5 (List.flatMap lexC L)) (i6 (↑i0:Int)))=some (AV.eaddr (st (a i0)::st (b i0)::st (d i0)::st (e i0)::lro (h i0) 2 (k i0)::(r14 i0)),[Ob.cells [c]]))
 (g1:∀ i0,i0 ≤ n→decide ((↑i0:Int)<(↑L.length:Int))=true→callv X call false g [AV.agg [st (a i0),st (b i0),st (d i0),st (e i0),lro (h i0) 2 (k i0)],AV.ref 0 0] [Ob.cells [c]] 0=some (bo (b0 i0),[Ob.cells [c]]))
 (e0:∀ i0,i0<n→decide ((↑i0:Int)<(↑L.length:Int))=true→(↑(i0 + 1):Int)=w6 ((↑i0:Int) + 1))
 (hz:∀ j,j<n→f62_o0 L j (b0 j)=0) :
    (f62_o0 L n (b0 n)=1→vbody Tryd.prog X call lf noFg Tryd.f62 (codeOf Tryd.f62) [lexsV L,AV.clo g [AV.ref 0 0]] [Ob.cells [c]] 0=some (i6 (↑n:Int),[Ob.cells [c]]))∧(f62_o0 L n (b0 n)=2→vbody Tryd.prog X call lf noFg Tryd.f62 (codeOf Tryd.f62) [lexsV L,AV.clo g [AV.ref 0 0]] [Ob.cells [c]] 0=some (i6 (-1),[Ob.cells [c]])):=by
  have key:∀ j,j<n→_:=fun j hj=>(f62_B0 L g c X call lf j (a j) (b j) (d j) (e j) (h j) (k j) (r14 j) (b0 j) (g0 j (Nat.le_of_lt hj)) (g1 j (Nat.le_of_lt hj)) (e0 j hj)).1 (hz j hj)
  have kn:=f62_X0 L g c X call lf n (a n) (b n) (d n) (e n) (h n) (k n) (r14 n) (b0 n) (g0 n (Nat.le_refl n)) (g1 n (Nat.le_refl n))
  exact ⟨fun hk=>f62_pltt L g c X call lf n (a n) (b n) (d n) (e n) (h n) (k n) (r14 n) (f62_L0 L g c X call lf n _ _ hn key (kn.1 hk) (by simp)),
    fun hk=>f62_plf L g c X call lf n (f62_L0 L g c X call lf n _ _ hn key (kn.2 hk) (by simp))⟩
end Go.Proofs.Lex
end
/- Lexicon: looking for a lexeme; small functions. -/
section
open Go Go.Vm Go.Proofs
namespace Go.Proofs.Lex
mutual
theorem thaw_id {σ:List Ob}:∀ (v:AV),AV.owns v=[]→AV.thaw σ v=some v:=by
  intro v h
  match v with
  | .own id n=>simp [AV.owns] at h
  | .list k n sz cs =>
    simp only [AV.owns] at h
    simp only [AV.thaw,thawAll_id cs h]
  | .agg cs =>
    simp only [AV.owns] at h
    simp only [AV.thaw,thawAll_id cs h]
  | .tup cs =>
    simp only [AV.owns] at h
    simp only [AV.thaw,thawAll_id cs h]
  | .int _ _ | .bool _ | .str _ | .pnil | .mnil | .fnil | .inil | .undef | .any | .raw _ | .ptag _ | .ref _ _ | .eref _ _ _ | .map _ | .eaddr _ | .clo _ _ | .iface _ _=>rfl
theorem thawAll_id {σ:List Ob}:∀ (vs:List AV),AV.ownsAll vs=[]→AV.thawAll σ vs=some vs:=by
  intro vs h
  match vs with
  | []=>rfl
  | v :: vs =>
    simp only [AV.ownsAll,List.append_eq_nil_iff] at h
    simp only [AV.thawAll,thaw_id v h.1,thawAll_id vs h.2]
end
/-- Results without a row of the call's own. -/
theorem vend1_plain {σ:List Ob} {rs:List AV} (h:AV.ownsAll rs=[]):vend1 [] 0 σ rs=some (unfr (oneOf rs),σ):=by
  unfold vend1
  rw [thawAll_id rs h,h]
  simp only [freezeIds,Option.some.injEq,Prod.mk.injEq,and_true]
  unfold resOf
  split
  · simp [AV.ownsAll,AV.owns] at h
  · rfl
section
variable [Fixed]
theorem owns_feats (F:List Feat):AV.ownsAll (F.flatMap featC)=[]:=Cod.flat_owns (A:=cF) F
theorem owns_lexs (L:List Lexm):AV.ownsAll (L.flatMap lexC)=[]:=Cod.flat_owns (A:=cL) L
theorem owns_lex (x:Lexm):AV.ownsAll (lexC x)=[]:=cL.owns x
end
/-- The place of the first that fits, or -1. -/
def idxP (p:Lexm→Bool) (L:List Lexm):Int:=match L.findIdx? p with
  | some i=>i
  | none => -1
theorem idxP_none {p:Lexm→Bool} {L:List Lexm} (h:∀ i,i < L.length → ¬ p (nL L i)=true):idxP p L = -1:=by
  unfold idxP
  rw [List.findIdx?_eq_none_iff.2 fun x hx => by
    obtain ⟨i,hi,rfl⟩:=List.getElem_of_mem hx
    have:=h i hi
    rw [nL,getD_lt hi] at this
    simpa using this]
theorem idxP_some {p:Lexm→Bool} {L:List Lexm} {k:Nat} (hk:k < L.length) (hp:p (nL L k)=true) (h:∀ i,i < k → ¬ p (nL L i)=true):idxP p L=(k:Int):=by
  unfold idxP
  rw [List.findIdx?_eq_some_iff_getElem.2 ⟨hk, by rw [nL, getD_lt hk] at hp; exact hp, fun j hj => by
    have:=h j hj
    rw [nL,getD_lt (show j < L.length by omega)] at this
    exact this⟩]
theorem idxP_cases (p:Lexm→Bool) (L:List Lexm):(idxP p L = -1∧∀ i,i < L.length → ¬ p (nL L i)=true) ∨ ∃ k,k < L.length∧idxP p L=(k:Int)∧p (nL L k)=true∧∀ i,i < k → ¬ p (nL L i)=true:=by
  rcases first_fail (p:=fun i => ¬ p (nL L i)=true) L.length with hall | ⟨k,hk,hbad,hbef⟩
  · exact .inl ⟨idxP_none hall,hall⟩
  · have hp : p (nL L k) = true := by simpa using hbad
    exact .inr ⟨k,hk,idxP_some hk hp hbef,hp,hbef⟩
section
variable {X:Ext} {call:Caller} {lf:Nat}
/-- slices.IndexFunc over lexemes. -/
theorem index62 {L:List Lexm} {g:Nat} {c:AV} {p:Lexm→Bool} (hl:L.length ≤ big) (hlf:L.length < lf) (hg:∀ i,i < L.length→callv X call false g [.agg (lexC (nL L i)),.ref 0 0] [Ob.cells [c]] 0=some (bo (p (nL L i)),[Ob.cells [c]])) :
    vbody Tryd.prog X call lf noFg Tryd.f62 (codeOf Tryd.f62) [lexsV L,.clo g [.ref 0 0]] [Ob.cells [c]] 0=some (i6 (idxP p L),[Ob.cells [c]]):=by
  have ho : ∀ i, (i < L.length → ¬ p (nL L i) = true → f62_o0 L i (p (nL L i)) = 0) ∧ (i < L.length → p (nL L i) = true → f62_o0 L i (p (nL L i)) = 1) ∧ (¬ i < L.length → f62_o0 L i (p (nL L i)) = 2) := by
    intro i
    unfold f62_o0
    refine ⟨fun h1 h2 => ?_,fun h1 h2 => ?_,fun h1 => ?_⟩
    · rw [decide_eq_true (by omega),Bool.eq_false_iff.2 h2]
    · rw [decide_eq_true (by omega),h2]
    · rw [decide_eq_false (by omega)]
  rcases idxP_cases p L with ⟨e,hall⟩ | ⟨k,hk,e,hp,hbef⟩
  · have M := f62_M L g c X call lf L.length _ _ _ _ _ _ _ _ hlf (fun i _ h => at_lex (by simpa using h)) (fun i _ h => hg i (by simpa using h)) (fun i h _ => up h hl) (fun j hj => (ho j).1 hj (hall j hj))
    rw [e]
    exact M.2 ((ho _).2.2 (by omega))
  · have M := f62_M L g c X call lf k _ _ _ _ _ _ _ _ (by omega) (fun i _ h => at_lex (by simpa using h)) (fun i _ h => hg i (by simpa using h)) (fun i h _ => up (n := L.length) (by omega) hl) (fun j hj => (ho j).1 (by omega) (hbef j hj))
    rw [e]
    exact M.1 ((ho k).2.1 hk hp)
/-- ref09.Index. -/
theorem index29 {L:List Lexm} {s:ByteArray} (hl:L.length ≤ big) (hlf:L.length < lf):∃ σ',vbody Tryd.prog X call lf noFg Tryd.f29 (codeOf Tryd.f29) [lexsV L,st s] [] 0=some (i6 (idxP (fun x=>decide (x.id=s)) L),σ'):=by
  have ho : ∀ i, (i < L.length → ¬ decide ((nL L i).id = s) = true → f29_o0 L s i (nL L i).id = 0) ∧ (i < L.length → decide ((nL L i).id = s) = true → f29_o0 L s i (nL L i).id = 1) ∧ (¬ i < L.length → f29_o0 L s i (nL L i).id = 2) := by
    intro i
    unfold f29_o0
    refine ⟨fun h1 h2 => ?_,fun h1 h2 => ?_,fun h1 => ?_⟩
    · rw [decide_eq_true (by omega),eqB_ne.2 (by simpa using h2)]
    · rw [decide_eq_true (by omega),eqB_iff.2 (of_decide_eq_true h2)]
    · rw [decide_eq_false (by omega)]
  rcases idxP_cases (fun x=>decide (x.id=s)) L with ⟨e,hall⟩ | ⟨k,hk,e,hp,hbef⟩
  · have M := f29_M L s X call lf L.length _ _ _ _ _ _ _ hlf (fun i _ h => at_lex (by simpa using h)) (fun i h _ => up h hl) (fun j hj => (ho j).1 hj (hall j hj))
    rw [e]
    exact ⟨_,M.2 ((ho _).2.2 (by omega))⟩
  · have M := f29_M L s X call lf k _ _ _ _ _ _ _ (by omega) (fun i _ h => at_lex (by simpa using h)) (fun i h _ => up (n := L.length) (by omega) hl) (fun j hj => (ho j).1 (by omega) (hbef j hj))
    rw [e]
    exact ⟨_,M.1 ((ho k).2.1 hk hp)⟩
end
end Go.Proofs.Lex
end
/- Lexicon: rows that grow, walked (printed) -/
section
open Go Go.Vm Go.Proofs
namespace Go.Proofs.Lex
def fg40:Nat→List Nat
  | 5004=>[1]
  | _=>[]
def f40_F0 (L0:List Lexm)(G1:Nat)(S0:Nat→List Ob)(o5:Nat→AV)(i0:Nat):St :=
  stOf 24 [7,11,12,13,14,15,16,17,18,19,20,21,22] [(0,lro L0.length 5 (List.flatMap lexC L0)),(1,AV.clo G1 [AV.ref 0 0]),(4,AV.list LK.nil 0 0 []),(5,o5 i0),(8,lro L0.length 5 (List.flatMap lexC L0)),(9,i6 (↑L0.length:Int)),(10,i6 (↑i0:Int))] (S0 i0)
def f40_S0 (L0:List Lexm)(G1:Nat)(C1:List AV):St :=
  stOf 24 [] [(0,lro L0.length 5 (List.flatMap lexC L0)),(1,AV.clo G1 [AV.ref 0 0]),(4,AV.list LK.nil 0 0 []),(5,AV.list LK.nil 0 0 []),(8,lro L0.length 5 (List.flatMap lexC L0)),(9,i6 (↑L0.length:Int)),(10,i6 0)] [Ob.cells C1]
abbrev f40_D0:List Nat:=[22,21,20,19,18,17,16,15,14,7,13,12,11]
theorem f40_L0 (L0:List Lexm)(G1:Nat)(C1:List AV)(S0:Nat→List Ob)(o5:Nat→AV)(X:Ext)(call:Caller)(lf n:Nat)(x:Ex) (S' : St)
 (e0:o5 0=AV.list LK.nil 0 0 [])
 (e1:S0 0=[Ob.cells C1])
 (hn:n<lf)
 (hs:∀ j,j<n→∃ S1,vexec Tryd.prog X call lf 0 fg40 (loopN Tryd.f40 0) (f40_F0 L0 G1 S0 o5 j)=some (Ex.normal,S1)∧forget f40_D0 S1=(f40_F0 L0 G1 S0 o5 (j + 1)))
 (he:vexec Tryd.prog X call lf 0 fg40 (loopN Tryd.f40 0) (f40_F0 L0 G1 S0 o5 n)=some (x,S'))
 (hx:x ≠ Ex.normal):vexec Tryd.prog X call lf 0 fg40 (Go.Code.loop (loopN Tryd.f40 0)) (f40_S0 L0 G1 C1)=some (x,S') :=
  loop_runK (by kernel_rfl) (fun j=>(f40_F0 L0 G1 S0 o5 j)) n hn (by show forget f40_D0 (f40_S0 L0 G1 C1)=(f40_F0 L0 G1 S0 o5 0); unfold f40_F0; rw [e0,e1]; show _=_; kernel_rfl) hs he hx
theorem f40_s0_tt (L0:List Lexm)(G1:Nat)(X:Ext)(call:Caller)(lf:Nat)(S0:Nat→List Ob)(o5:Nat→AV)(i0:Nat)(a d e g:ByteArray)(h:Nat)(j r12:List AV)(k p q r:ByteArray)(t:Nat)(u:List AV)(m20:Nat)(c20:List AV)(k20:LK)(v21:AV)(s21:List Ob)
 (h0:decide ((↑i0:Int)<(↑L0.length:Int))=true)
 (h1:keep (S0 i0) (indexAddrv Tryd.prog 22 (S0 i0) (lro L0.length 5 (List.flatMap lexC L0)) (i6 (↑i0:Int)))=some (AV.eaddr (st a::st d::st e::st g::lro h 2 j::r12),S0 i0))
 (h2:callv X call false G1 [AV.agg [st a,st d,st e,st g,lro h 2 j],AV.ref 0 0] (S0 i0) 0=some (bo true,S0 i0))
 (h3:callv X call false 61 [AV.agg [st a,st d,st e,st g,lro h 2 j]] (S0 i0) 0=some (AV.agg [st k,st p,st q,st r,lro t 2 u],S0 i0))
 (h4:bsl Tryd.prog 22 1 (S0 i0) false 0 [(0,AV.agg [st k,st p,st q,st r,lro t 2 u])]=some (AV.list k20 m20 5 c20,S0 i0))
 (h5:appendv Tryd.prog 22 (S0 i0) 0 (o5 i0) (AV.list k20 m20 5 c20)=some (v21,s21))
 (e0:o5 (i0 + 1)=v21)
 (e1:(↑(i0 + 1):Int)=w6 ((↑i0:Int) + 1))
 (e2:S0 (i0 + 1)=s21):∃ S1,vexec Tryd.prog X call lf 0 fg40 (loopN Tryd.f40 0) (f40_F0 L0 G1 S0 o5 i0)=some (Ex.normal,S1)∧forget f40_D0 S1=(f40_F0 L0 G1 S0 o5 (i0 + 1)) :=
  ⟨stOf 24 [] [(0,lro L0.length 5 (List.flatMap lexC L0)),(1,AV.clo G1 [AV.ref 0 0]),(4,AV.list LK.nil 0 0 []),(5,v21),(7,AV.eaddr [st a,st d,st e,st g,lro h 2 j]),(8,lro L0.length 5 (List.flatMap lexC L0)),(9,i6 (↑L0.length:Int)),(10,i6 (w6 ((↑i0:Int) + 1))),(11,bo true),(12,AV.eaddr (st a::st d::st e::st g::lro h 2 j::r12)),(13,AV.agg [st a,st d,st e,st g,lro h 2 j]),(14,AV.clo G1 [AV.ref 0 0]),(15,AV.agg [st a,st d,st e,st g,lro h 2 j]),(16,bo true),(17,o5 i0),(18,AV.agg [st a,st d,st e,st g,lro h 2 j]),(19,AV.agg [st k,st p,st q,st r,lro t 2 u]),(20,AV.list k20 m20 5 c20),(21,v21),(22,i6 (w6 ((↑i0:Int) + 1)))] s21,around_sound (ans:=[(1,Ans.b true),(4,Ans.v (AV.eaddr (st a::st d::st e::st g::lro h 2 j::r12))),(9,Ans.v (bo true)),(14,Ans.v (AV.agg [st k,st p,st q,st r,lro t 2 u])),(15,Ans.v (AV.list k20 m20 5 c20)),(16,Ans.c v21 s21)]) (by kernel_rfl) (ai h0 (ai h1 (ai h2 (ai h3 (ai h4 (ai h5 trivial)))))),by unfold f40_F0; rw [e0,e1,e2]; show _=_; kernel_rfl⟩
theorem f40_s0_tf (L0:List Lexm)(G1:Nat)(X:Ext)(call:Caller)(lf:Nat)(S0:Nat→List Ob)(o5:Nat→AV)(i0:Nat)(a c d e:ByteArray)(g:Nat)(h r12:List AV)
 (h0:decide ((↑i0:Int)<(↑L0.length:Int))=true)
 (h1:keep (S0 i0) (indexAddrv Tryd.prog 22 (S0 i0) (lro L0.length 5 (List.flatMap lexC L0)) (i6 (↑i0:Int)))=some (AV.eaddr (st a::st c::st d::st e::lro g 2 h::r12),S0 i0))
 (h2:callv X call false G1 [AV.agg [st a,st c,st d,st e,lro g 2 h],AV.ref 0 0] (S0 i0) 0=some (bo false,S0 i0))
 (e0:o5 (i0 + 1)=o5 i0)
 (e1:(↑(i0 + 1):Int)=w6 ((↑i0:Int) + 1))
 (e2:S0 (i0 + 1)=S0 i0):∃ S1,vexec Tryd.prog X call lf 0 fg40 (loopN Tryd.f40 0) (f40_F0 L0 G1 S0 o5 i0)=some (Ex.normal,S1)∧forget f40_D0 S1=(f40_F0 L0 G1 S0 o5 (i0 + 1)) :=
  ⟨stOf 24 [17,18,19,20,21] [(0,lro L0.length 5 (List.flatMap lexC L0)),(1,AV.clo G1 [AV.ref 0 0]),(4,AV.list LK.nil 0 0 []),(5,o5 i0),(7,AV.eaddr [st a,st c,st d,st e,lro g 2 h]),(8,lro L0.length 5 (List.flatMap lexC L0)),(9,i6 (↑L0.length:Int)),(10,i6 (w6 ((↑i0:Int) + 1))),(11,bo true),(12,AV.eaddr (st a::st c::st d::st e::lro g 2 h::r12)),(13,AV.agg [st a,st c,st d,st e,lro g 2 h]),(14,AV.clo G1 [AV.ref 0 0]),(15,AV.agg [st a,st c,st d,st e,lro g 2 h]),(16,bo false),(22,i6 (w6 ((↑i0:Int) + 1)))] (S0 i0),around_sound (ans:=[(1,Ans.b true),(4,Ans.v (AV.eaddr (st a::st c::st d::st e::lro g 2 h::r12))),(9,Ans.v (bo false))]) (by kernel_rfl) (ai h0 (ai h1 (ai h2 trivial))),by unfold f40_F0; rw [e0,e1,e2]; show _=_; kernel_rfl⟩
def f40_S1 (L0:List Lexm)(G1:Nat)(S0:Nat→List Ob)(o5:Nat→AV)(i0:Nat):St :=
  stOf 24 [7,12,13,14,15,16,17,18,19,20,21,22] [(0,lro L0.length 5 (List.flatMap lexC L0)),(1,AV.clo G1 [AV.ref 0 0]),(4,AV.list LK.nil 0 0 []),(5,o5 i0),(8,lro L0.length 5 (List.flatMap lexC L0)),(9,i6 (↑L0.length:Int)),(10,i6 (↑i0:Int)),(11,bo false)] (S0 i0)
theorem f40_r0_f (L0:List Lexm)(G1:Nat)(X:Ext)(call:Caller)(lf:Nat)(S0:Nat→List Ob)(o5:Nat→AV)(i0:Nat)
 (h0:decide ((↑i0:Int)<(↑L0.length:Int))=false):vexec Tryd.prog X call lf 0 fg40 (loopN Tryd.f40 0) (f40_F0 L0 G1 S0 o5 i0)=some (Ex.exit 0,(f40_S1 L0 G1 S0 o5 i0)) :=
  around_sound (ans:=[(1,Ans.b false)]) (by kernel_rfl) (ai h0 trivial)
theorem f40_plf (L0:List Lexm)(G1:Nat)(C1:List AV)(X:Ext)(call:Caller)(lf:Nat)(S0:Nat→List Ob)(o5:Nat→AV)(i0:Nat)(rE:AV)(sE:List Ob)
 (h0:vexec Tryd.prog X call lf 0 fg40 (Code.loop (loopN Tryd.f40 0)) (f40_S0 L0 G1 C1)=some (Ex.exit 0,(f40_S1 L0 G1 S0 o5 i0)))
 (h1:vend1 [Ob.cells C1] 0 (S0 i0) [o5 i0]=some (rE,sE)):vbody Tryd.prog X call lf fg40 Tryd.f40 (codeOf Tryd.f40) [lexsV L0,AV.clo G1 [AV.ref 0 0]] [Ob.cells C1] 0=some (rE,sE) :=
  along_sound (ans:=[(8,Ans.l (Ex.exit 0) (f40_S1 L0 G1 S0 o5 i0)),(12,Ans.c rE sE)]) (by kernel_rfl) (ai h0 (ai h1 trivial))
def f40_o0 (L0:List Lexm)(i0:Nat)(b0:Bool):Nat :=
  (match decide ((↑i0:Int)<(↑L0.length:Int)) with
  | true=>(match b0 with
    | true=>0
    | false=>0)
  | false=>1)
theorem f40_B0 (L0:List Lexm)(G1:Nat)(X:Ext)(call:Caller)(lf:Nat)(S0:Nat→List Ob)(o5:Nat→AV)(i0:Nat)(a b c d:ByteArray)(e:Nat)(g r12:List AV)(j k p q:ByteArray)(r:Nat)(t:List AV)(m20:Nat)(c20:List AV)(k20:LK)(v21:AV)(s21:List Ob)(b0:Bool)
 (g0:decide ((↑i0:Int)<(↑L0.length:Int))=true→keep (S0 i0) (indexAddrv Tryd.prog 22 (S0 i0) (lro L0.length 5 (List.flatMap lexC L0)) (i6 (↑i0:Int)))=some (AV.eaddr (st a::st b::st c::st d::lro e 2 g::r12),S0 i0))
 (g1:decide ((↑i0:Int)<(↑L0.length:Int))=true→callv X call false G1 [AV.agg [st a,st b,st c,st d,lro e 2 g],AV.ref 0 0] (S0 i0) 0=some (bo b0,S0 i0))
 (g2:decide ((↑i0:Int)<(↑L0.length:Int))=true→b0=true→callv X call false 61 [AV.agg [st a,st b,st c,st d,lro e 2 g]] (S0 i0) 0=some (AV.agg [st j,st k,st p,st q,lro r 2 t],S0 i0))
 (g3:decide ((↑i0:Int)<(↑L0.length:Int))=true→b0=true→bsl Tryd.prog 22 1 (S0 i0) false 0 [(0,AV.agg [st j,st k,st p,st q,lro r 2 t])]=some (AV.list k20 m20 5 c20,S0 i0))
 (g4:decide ((↑i0:Int)<(↑L0.length:Int))=true→b0=true→appendv Tryd.prog 22 (S0 i0) 0 (o5 i0) (AV.list k20 m20 5 c20)=some (v21,s21))
 (e0:decide ((↑i0:Int)<(↑L0.length:Int))=true→b0=true→o5 (i0 + 1)=v21)
 (e1:decide ((↑i0:Int)<(↑L0.length:Int))=true→(↑(i0 + 1):Int)=w6 ((↑i0:Int) + 1))
 (e2:decide ((↑i0:Int)<(↑L0.length:Int))=true→b0=true→S0 (i0 + 1)=s21)
 (e3:decide ((↑i0:Int)<(↑L0.length:Int))=true→b0=false→o5 (i0 + 1)=o5 i0)
 (e4:decide ((↑i0:Int)<(↑L0.length:Int))=true→b0=false→S0 (i0 + 1)=S0 i0) :
    (f40_o0 L0 i0 b0=0→∃ S1,vexec Tryd.prog X call lf 0 fg40 (loopN Tryd.f40 0) (f40_F0 L0 G1 S0 o5 i0)=some (Ex.normal,S1)∧forget f40_D0 S1=(f40_F0 L0 G1 S0 o5 (i0 + 1)))∧(f40_o0 L0 i0 b0=1→vexec Tryd.prog X call lf 0 fg40 (loopN Tryd.f40 0) (f40_F0 L0 G1 S0 o5 i0)=some (Ex.exit 0,(f40_S1 L0 G1 S0 o5 i0))):=by
  unfold f40_o0
  cases c0:decide ((↑i0:Int)<(↑L0.length:Int)) with
  | true =>
    cases c1:b0 with
    | true =>
      exact ⟨fun _=>f40_s0_tt L0 G1 X call lf S0 o5 i0 a b c d e g r12 j k p q r t m20 c20 k20 v21 s21 c0 (g0 c0) (by have:=(g1 c0); rw [c1] at this; exact this) (g2 c0 c1) (g3 c0 c1) (g4 c0 c1) (e0 c0 c1) (e1 c0) (e2 c0 c1),fun h=>absurd (show (0:Nat)=1 from h) (by decide)⟩
    | false =>
      exact ⟨fun _=>f40_s0_tf L0 G1 X call lf S0 o5 i0 a b c d e g r12 c0 (g0 c0) (by have:=(g1 c0); rw [c1] at this; exact this) (e3 c0 c1) (e1 c0) (e4 c0 c1),fun h=>absurd (show (0:Nat)=1 from h) (by decide)⟩
  | false =>
    exact ⟨fun h=>absurd (show (1:Nat)=0 from h) (by decide),fun _=>f40_r0_f L0 G1 X call lf S0 o5 i0 c0⟩
theorem f40_X0 (L0:List Lexm)(G1:Nat)(X:Ext)(call:Caller)(lf:Nat)(S0:Nat→List Ob)(o5:Nat→AV)(i0:Nat)(a b c d:ByteArray)(e:Nat)(g r12:List AV)(j k p q:ByteArray)(r:Nat)(t:List AV)(m20:Nat)(c20:List AV)(k20:LK)(v21:AV)(s21:List Ob)(b0:Bool)
 (g0:decide ((↑i0:Int)<(↑L0.length:Int))=true→keep (S0 i0) (indexAddrv Tryd.prog 22 (S0 i0) (lro L0.length 5 (List.flatMap lexC L0)) (i6 (↑i0:Int)))=some (AV.eaddr (st a::st b::st c::st d::lro e 2 g::r12),S0 i0))
 (g1:decide ((↑i0:Int)<(↑L0.length:Int))=true→callv X call false G1 [AV.agg [st a,st b,st c,st d,lro e 2 g],AV.ref 0 0] (S0 i0) 0=some (bo b0,S0 i0))
 (g2:decide ((↑i0:Int)<(↑L0.length:Int))=true→b0=true→callv X call false 61 [AV.agg [st a,st b,st c,st d,lro e 2 g]] (S0 i0) 0=some (AV.agg [st j,st k,st p,st q,lro r 2 t],S0 i0))
 (g3:decide ((↑i0:Int)<(↑L0.length:Int))=true→b0=true→bsl Tryd.prog 22 1 (S0 i0) false 0 [(0,AV.agg [st j,st k,st p,st q,lro r 2 t])]=some (AV.list k20 m20 5 c20,S0 i0))
 (g4:decide ((↑i0:Int)<(↑L0.length:Int))=true→b0=true→appendv Tryd.prog 22 (S0 i0) 0 (o5 i0) (AV.list k20 m20 5 c20)=some (v21,s21)) :
    (f40_o0 L0 i0 b0=1→vexec Tryd.prog X call lf 0 fg40 (loopN Tryd.f40 0) (f40_F0 L0 G1 S0 o5 i0)=some (Ex.exit 0,(f40_S1 L0 G1 S0 o5 i0))):=by
  unfold f40_o0
  cases c0:decide ((↑i0:Int)<(↑L0.length:Int)) with
  | true =>
    cases c1:b0 with
    | true =>
      exact fun h=>absurd (show (0:Nat)=1 from h) (by decide)
    | false =>
      exact fun h=>absurd (show (0:Nat)=1 from h) (by decide)
  | false =>
    exact fun _=>f40_r0_f L0 G1 X call lf S0 o5 i0 c0
theorem f40_M (L0:List Lexm)(G1:Nat)(C1:List AV)(S0:Nat→List Ob)(o5:Nat→AV)(X:Ext)(call:Caller)(lf n:Nat)(a b c d:Nat→ByteArray)(e:Nat→Nat)(g r12:Nat→List AV)(h k p q:Nat→ByteArray)(r:Nat→Nat)(t:Nat→List AV)(m20:Nat→Nat)(c20:Nat→List AV)(k20:Nat→LK)(v21:Nat→AV)(s21:Nat→List Ob)(b0:Nat→Bool)
 (z0:o5 0=AV.list LK.nil 0 0 [])
 (z1:S0 0=[Ob.cells C1])
 (hn:n<lf)
 (g0:∀ i0,i0 ≤ n→decide ((↑i0:Int)<(↑L0.length:Int))=true→keep (S0 i0) (indexAddrv Tryd.prog 22 (S0 i0) (lro L0.length 5 (List.flatMap lexC L0)) (i6 (↑i0:Int)))=some (AV.eaddr (st (a i0)::st (b i0)::st (c i0)::st (d i0)::lro (e i0) 2 (g i0)::(r12 i0)),S0 i0))
 (g1:∀ i0,i0 ≤ n→decide ((↑i0:Int)<(↑L0.length:Int))=true→callv X call false G1 [AV.agg [st (a i0),st (b i0),st (c i0),st (d i0),lro (e i0) 2 (g i0)],AV.ref 0 0] (S0 i0) 0=some (bo (b0 i0),S0 i0))
 (g2:∀ i0,i0 ≤ n→decide ((↑i0:Int)<(↑L0.length:Int))=true→(b0 i0)=true→callv X call false 61 [AV.agg [st (a i0),st (b i0),st (c i0),st (d i0),lro (e i0) 2 (g i0)]] (S0 i0) 0=some (AV.agg [st (h i0),st (k i0),st (p i0),st (q i0),lro (r i0) 2 (t i0)],S0 i0))
 (g3:∀ i0,i0 ≤ n→decide ((↑i0:Int)<(↑L0.length:Int))=true→(b0 i0)=true→bsl Tryd.prog 22 1 (S0 i0) false 0 [(0,AV.agg [st (h i0),st (k i0),st (p i0),st (q i0),lro (r i0) 2 (t i0)])]=some (AV.list (k20 i0) (m20 i0) 5 (c20 i0),S0 i0))
 (g4:∀ i0,i0 ≤ n→decide ((↑i0:Int)<(↑L0.length:Int))=true→(b0 i0)=true→appendv Tryd.prog 22 (S0 i0) 0 (o5 i0) (AV.list (k20 i0) (m20 i0) 5 (c20 i0))=some ((v21 i0),(s21 i0)))
 (e0:∀ i0,i0<n→decide ((↑i0:Int)<(↑L0.length:Int))=true→(b0 i0)=true→o5 (i0 + 1)=(v21 i0))
 (e1:∀ i0,i0<n→decide ((↑i0:Int)<(↑L0.length:Int))=true→(↑(i0 + 1):Int)=w6 ((↑i0:Int) + 1))
 (e2:∀ i0,i0<n→decide ((↑i0:Int)<(↑L0.length:Int))=true→(b0 i0)=true→S0 (i0 + 1)=(s21 i0))
 (e3:∀ i0,i0<n→decide ((↑i0:Int)<(↑L0.length:Int))=true→(b0 i0)=false→o5 (i0 + 1)=o5 i0)
 (e4:∀ i0,i0<n→decide ((↑i0:Int)<(↑L0.length:Int))=true→(b0 i0)=false→S0 (i0 + 1)=S0 i0)
 (hz:∀ j,j<n→f40_o0 L0 j (b0 j)=0) :
    (f40_o0 L0 n (b0 n)=1→∀ (rE:AV),∀ (sE:List Ob),vend1 [Ob.cells C1] 0 (S0 n) [o5 n]=some (rE,sE)→vbody Tryd.prog X call lf fg40 Tryd.f40 (codeOf Tryd.f40) [lexsV L0,AV.clo G1 [AV.ref 0 0]] [Ob.cells C1] 0=some (rE,sE)):=by
  have key:∀ j,j<n→_:=fun j hj=>(f40_B0 L0 G1 X call lf S0 o5 j (a j) (b j) (c j) (d j) (e j) (g j) (r12 j) (h j) (k j) (p j) (q j) (r j) (t j) (m20 j) (c20 j) (k20 j) (v21 j) (s21 j) (b0 j) (g0 j (Nat.le_of_lt hj)) (g1 j (Nat.le_of_lt hj)) (g2 j (Nat.le_of_lt hj)) (g3 j (Nat.le_of_lt hj)) (g4 j (Nat.le_of_lt hj)) (e0 j hj) (e1 j hj) (e2 j hj) (e3 j hj) (e4 j hj)).1 (hz j hj)
  have kn:=f40_X0 L0 G1 X call lf S0 o5 n (a n) (b n) (c n) (d n) (e n) (g n) (r12 n) (h n) (k n) (p n) (q n) (r n) (t n) (m20 n) (c20 n) (k20 n) (v21 n) (s21 n) (b0 n) (g0 n (Nat.le_refl n)) (g1 n (Nat.le_refl n)) (g2 n (Nat.le_refl n)) (g3 n (Nat.le_refl n)) (g4 n (Nat.le_refl n))
  exact fun hk rE sE q0=>f40_plf L0 G1 C1 X call lf S0 o5 n rE sE (f40_L0 L0 G1 C1 S0 o5 X call lf n _ _ z0 z1 hn key (kn hk) (by simp)) q0
theorem f87_p (F0:List Feat)(X:Ext)(call:Caller)(lf m8:Nat)(c8:List AV)(k8:LK)(rE:AV)(sE:List Ob)
 (h0:slc Tryd.prog 31 [] false 0 (lro F0.length 2 (F0.flatMap featC)) none (some (i6 (↑F0.length:Int))) (some (i6 (↑F0.length:Int)))=some (AV.list k8 m8 2 c8,[]))
 (h1:vend1 [] 0 [] [AV.list k8 m8 2 c8]=some (rE,sE)):vbody Tryd.prog X call lf noFg Tryd.f87 (codeOf Tryd.f87) [featsV F0] [] 0=some (rE,sE) :=
  along_sound (ans:=[(8,Ans.v (AV.list k8 m8 2 c8)),(10,Ans.c rE sE)]) (by kernel_rfl) (ai h0 (ai h1 trivial))
end Go.Proofs.Lex
end
/- Lexicon: rows that grow. -/
section
open Go Go.Vm Go.Proofs
namespace Go.Proofs.Lex
theorem vend1_any {σ1 σ:List Ob} {rs:List AV} (h:AV.ownsAll rs=[]):vend1 σ1 0 σ rs=some (unfr (oneOf rs),σ):=by
  unfold vend1
  rw [thawAll_id rs h,h]
  simp only [freezeIds,Option.some.injEq,Prod.mk.injEq,and_true]
  cases σ1 with
  | cons=>rfl
  | nil => cases rs with
    | nil=>rfl
    | cons v vs=>cases v <;> first | rfl | (simp [AV.ownsAll,AV.owns] at h)
section
variable [Fixed] {α:Type}
/-- A type of rows, and how its elements lie. -/
structure RowT (A:Cod α) (t e:TypeId) (kb:Nat):Prop where
  und:Tryd.prog.underlying t=some (.slice e)
  cells:Tryd.prog.cellsOf e=A.k
  zero:∃ z,zerov Tryd.prog e=some z∧z.cells.length=A.k
  bytes:Tryd.prog.bytesOf e=kb
  nob:isByte Tryd.prog e=false
def grV (v0:AV) (id n:Nat):AV:=if n=0 then v0 else .own id n
def grS (A:Cod α) (σ0:List Ob) (l:List α):List Ob:=if l.length=0 then σ0 else σ0 ++ [.arr l.length A.k (l.flatMap A.enc)]
theorem appended_row {A:Cod α} {σ:List Ob} {lk:LK} (m:List α):appended σ A.k (.list lk m.length A.k (m.flatMap A.enc))=some (m.length,m.flatMap A.enc):=by
  simp only [appended]
  by_cases h:m.length=0
  · have : m = [] := List.eq_nil_of_length_eq_zero h
    subst this
    rfl
  · rw [if_neg h,if_pos trivial]
theorem gr_stepR {A:Cod α} {t e:TypeId} {kb:Nat} (h:RowT A t e kb) {lk:LK} {sz0:Nat} (hk:lk = .nil ∨ lk = .clip) {σ0:List Ob} {ro:Nat} (hro:ro ≤ σ0.length) {l m:List α} {x:AV}
    (hx:appended (grS A σ0 l) A.k x=some (m.length,m.flatMap A.enc)) (hb:(l.length + m.length) * (kb + 1) ≤ big) :
    appendv Tryd.prog t (grS A σ0 l) ro (grV (.list lk 0 sz0 []) σ0.length l.length) x=some (grV (.list lk 0 sz0 []) σ0.length (l ++ m).length,grS A σ0 (l ++ m)):=by
  obtain ⟨z,hz,hzl⟩:=h.zero
  have hb:(l.length + m.length) * (kb + 1) ≤ 140737488355328:=hb
  by_cases hl:l.length=0
  · have hl' : l = [] := List.eq_nil_of_length_eq_zero hl
    subst hl'
    unfold appendv
    rw [h.und]
    have hno : ∀ (n : Nat) (cs : List AV), newOb Tryd.prog e n A.k cs = .arr n A.k cs := fun n cs => by
      unfold newOb
      rw [h.nob]
      rfl
    simp only [h.cells,hx,hz,h.bytes]
    rw [if_pos ⟨Cod.flat_owns m,hzl⟩]
    simp only [hno,grV,grS,List.length_nil,if_true,List.nil_append]
    rw [if_pos ⟨hk,.inl trivial,rfl,by simpa using hb⟩]
    by_cases hm:m.length=0
    · rw [if_pos hm,if_pos hm,if_pos hm]
    · rw [if_neg hm,if_neg hm,if_neg hm,Nat.zero_add]
  · have hlm : ¬ (l ++ m).length = 0 := by rw [List.length_append]; omega
    have ho : (grS A σ0 l)[σ0.length]? = some (.arr l.length (Tryd.prog.cellsOf e) (l.flatMap A.enc)) := by
      rw [grS,if_neg hl,h.cells]; simp
    have hv:grV (.list lk 0 sz0 []) σ0.length l.length = .own σ0.length l.length:=if_neg hl
    have hx' : appended (grS A σ0 l) (Tryd.prog.cellsOf e) x=some (m.length,m.flatMap A.enc):=by rw [h.cells]; exact hx
    rw [hv,grV,if_neg hlm]
    by_cases hm:m.length=0
    · have hm' : m = [] := List.eq_nil_of_length_eq_zero hm
      subst hm'
      rw [grow_none h.und hz (by rw [hzl,h.cells]) ho hro hx' rfl (by rw [h.bytes]; simpa using hb)]
      simp
    · rw [grow_own h.und hz (by rw [hzl, h.cells]) ho hro hx' (Cod.flat_owns m) hm (by rw [h.bytes]; exact hb)]
      rw [List.length_append,h.cells]
      simp only [grS,if_neg hl]
      rw [if_neg (by rw [List.length_append]; omega)]
      rw [setOb_last,List.flatMap_append,List.length_append]
theorem gr_step {A:Cod α} {t e:TypeId} {kb:Nat} (h:RowT A t e kb) {lk:LK} {sz0:Nat} (hk:lk = .nil ∨ lk = .clip) {σ0:List Ob} {l m:List α} {x:AV}
    (hx:appended (grS A σ0 l) A.k x=some (m.length,m.flatMap A.enc)) (hb:(l.length + m.length) * (kb + 1) ≤ big) :
    appendv Tryd.prog t (grS A σ0 l) 0 (grV (.list lk 0 sz0 []) σ0.length l.length) x=some (grV (.list lk 0 sz0 []) σ0.length (l ++ m).length,grS A σ0 (l ++ m)) :=
  gr_stepR h hk (Nat.zero_le _) hx hb
/-- The row at the function's end. -/
theorem gr_end {A:Cod α} {lk:LK} {sz0:Nat} {σ1 σ0:List Ob} (l:List α):∃ (r:AV) (σ' : List Ob),vend1 σ1 0 (grS A σ0 l) [grV (.list lk 0 sz0 []) σ0.length l.length]=some (r,σ0 ++ σ')∧A.list.dec [r]=some l∧AV.owns r=[]:=by
  by_cases hl:l.length=0
  · have hl' : l = [] := List.eq_nil_of_length_eq_zero hl
    subst hl'
    refine ⟨unfr (.list lk 0 sz0 []),[],?_,?_,?_⟩
    · simp only [grV, grS, List.length_nil, if_true, List.append_nil]
      exact vend1_any rfl
    · cases lk <;> rfl
    · cases lk <;> rfl
  · have hg : grS A σ0 l = σ0 ++ [.arr l.length A.k (l.flatMap A.enc)] := if_neg hl
    have hv:grV (.list lk 0 sz0 []) σ0.length l.length = .own σ0.length l.length:=if_neg hl
    have ho:(σ0 ++ [Ob.arr l.length A.k (l.flatMap A.enc)])[σ0.length]? = some (.arr l.length A.k (l.flatMap A.enc)):=by simp
    have ht : AV.thawAll (σ0 ++ [Ob.arr l.length A.k (l.flatMap A.enc)]) [.own σ0.length l.length] = some [.list .ro l.length A.k (l.flatMap A.enc)] := by
      simp only [AV.thawAll,AV.thaw,ho,if_true]
    have hf : freezeIds 0 (σ0 ++ [Ob.arr l.length A.k (l.flatMap A.enc)]) (AV.ownsAll [.own σ0.length l.length]) = some (σ0 ++ [.fro l.length A.k (l.flatMap A.enc)]) := by
      simp only [AV.ownsAll,AV.owns,List.append_nil,List.nil_append,List.cons_append,freezeIds,freezeId,ho,Nat.zero_le,if_true,setOb_last]
    have hd : ∀ k, A.list.dec [.list k l.length A.k (l.flatMap A.enc)] = some l := by
      intro k
      show (if l.length=0 then _ else if A.k=A.k then A.many l.length (l.flatMap A.enc) else none)=some l
      rw [if_neg hl,if_pos rfl,Cod.many_de]
    have hw:AV.ownsAll (l.flatMap A.enc)=[]:=Cod.flat_owns l
    rw [hg,hv]
    unfold vend1
    rw [ht,hf]
    simp only
    refine ⟨_,_,rfl,?_,?_⟩
    · unfold resOf
      split
      · rename_i h1 h2
        simp only [List.cons.injEq,AV.own.injEq,AV.list.injEq] at h1 h2
        obtain ⟨⟨e1,e2⟩,e3⟩:=h1
        obtain ⟨⟨-,-,e4,e5⟩,e6⟩:=h2
        subst e1 e2 e3 e4 e5 e6
        rw [ho]
        simp only [AV.ownsAll,if_true,oneOf]
        exact hd _
      · exact hd _
    · unfold resOf
      split
      · rename_i h1 h2
        simp only [List.cons.injEq,AV.own.injEq,AV.list.injEq] at h1 h2
        obtain ⟨⟨e1,e2⟩,e3⟩:=h1
        obtain ⟨⟨-,-,e4,e5⟩,e6⟩:=h2
        subst e1 e2 e3 e4 e5 e6
        rw [ho]
        simp only [AV.ownsAll,if_true,oneOf,AV.owns]
        exact hw
      · simp only [oneOf, unfr, unfr1, AV.owns]
        exact hw
end
end Go.Proofs.Lex
end
/- Lexicon: rows of lexemes, features, strings; Clip; the filter. -/
section
open Go Go.Vm Go.Proofs
namespace Go.Proofs.Lex
theorem cells33:Tryd.prog.cellsOf 33=5:=by kernel_rfl
theorem cells57:Tryd.prog.cellsOf 57=2:=by kernel_rfl
theorem cells9:Tryd.prog.cellsOf 9=1:=by kernel_rfl
theorem zero33:zerov Tryd.prog 33=some (.agg [st emp,st emp,st emp,st emp,.list .nil 0 0 []]):=by kernel_rfl
theorem zero57:zerov Tryd.prog 57=some (.agg [st emp,st emp]):=by kernel_rfl
theorem zero9:zerov Tryd.prog 9=some (st emp):=by kernel_rfl
theorem bytes33:Tryd.prog.bytesOf 33=88:=by kernel_rfl
theorem bytes57:Tryd.prog.bytesOf 57=32:=by kernel_rfl
theorem bytes9:Tryd.prog.bytesOf 9=16:=by kernel_rfl
theorem info33:(Tryd.prog.info? 33).isSome=true:=by kernel_rfl
theorem info57:(Tryd.prog.info? 57).isSome=true:=by kernel_rfl
theorem info9:(Tryd.prog.info? 9).isSome=true:=by kernel_rfl
section
variable [Fixed]
theorem rowL:RowT cL 22 33 88:=⟨Tryd.underlying22,cells33,⟨_,zero33,rfl⟩,bytes33,by kernel_rfl⟩
theorem rowF:RowT cF 31 57 32:=⟨Tryd.underlying31,cells57,⟨_,zero57,rfl⟩,bytes57,by kernel_rfl⟩
theorem rowS:RowT Cod.str 25 9 16:=⟨Tryd.underlying25,cells9,⟨_,zero9,rfl⟩,bytes9,by kernel_rfl⟩
end
/-- A row of one, built. -/
theorem bsl_one {t e:TypeId} {cs zs:List AV} {z:AV} {σ:List Ob} (hu:Tryd.prog.underlying t=some (.slice e)) (hc:Tryd.prog.cellsOf e=cs.length) (hz:zerov Tryd.prog e=some z) (hzl:z.cells=zs) (hl:zs.length=cs.length) (h0:cs.length ≤ 16777216) (ho:AV.ownsAll cs=[]) (hf:(AV.agg cs).flat=true) :
    bsl Tryd.prog t 1 σ false 0 [(0,.agg cs)]=some (.list .clip 1 cs.length cs,σ):=by
  have hov : overlay zs 0 cs = cs := by
    simp only [overlay,List.take_zero,List.nil_append,Nat.zero_add]
    rw [List.drop_eq_nil_of_le (by omega),List.append_nil]
  unfold bsl byValue
  simp only [List.map_cons,List.map_nil,AV.ownsAll,AV.owns,ho,List.append_nil,if_true]
  unfold buildSlicev
  rw [hu]
  simp only [hc,hz,hzl,hl,if_true]
  rw [if_neg (by omega)]
  simp only [fillv,replv,AV.cells,keep,Nat.zero_mul,List.append_nil,hl,hf,Nat.zero_add,Nat.le_refl,and_self,if_true,hov]
theorem slc_all {t e:TypeId} {n k:Nat} {cs:List AV} {σ:List Ob} (hu:Tryd.prog.underlying t=some (.slice e)) (hc:Tryd.prog.cellsOf e=k) (hi:(Tryd.prog.info? e).isSome=true) (hl:cs.length=n * k) (ho:AV.ownsAll cs=[]) :
    slc Tryd.prog t σ false 0 (lro n k cs) none (some (i6 (↑n:Int))) (some (i6 (↑n:Int)))=some (.list .clip n k cs,σ):=by
  unfold slc cutOwn
  simp only
  unfold byValue1
  simp only [AV.owns,ho,if_true,Bool.false_eq_true,if_false]
  unfold slicev
  rw [hu]
  simp only [hc,hi]
  simp [boundv]
  rw [List.take_of_length_le (by omega)]
  rfl
section
variable [Fixed] {X:Ext} {call:Caller} {lf:Nat}
theorem take_filter {α:Type} {L:List α} {p:α→Bool} {i:Nat} (h:i < L.length):(L.take (i + 1)).filter p=(L.take i).filter p ++ if p L[i] then [L[i]] else []:=by
  rw [List.take_succ_eq_append_getElem h,List.filter_append]
  cases hp:p L[i] <;> simp [hp]
/-- lexicon.filter. -/
theorem filter40 {L:List Lexm} {G:Nat} {c:List AV} {p:Lexm→Bool} (hl:L.length * 89 ≤ big) (hlf:L.length < lf) (hc:AV.ltAll 0 c=true)
    (hg:∀ i σ,i < L.length→(σ=[] ∨ ∃ o,σ=[o])→ltObs (σ.length + 1) (Ob.cells c::σ)=true→callv X call false G [.agg (lexC (nL L i)),.ref 0 0] (Ob.cells c::σ) 0=some (bo (p (nL L i)),Ob.cells c::σ))
    (h61:∀ i σ,i < L.length→callv X call false 61 [.agg (lexC (nL L i))] σ 0=some (.agg (lexC (nL L i)),σ)) :
    ∃ (r:AV) (σ' : List Ob),vbody Tryd.prog X call lf fg40 Tryd.f40 (codeOf Tryd.f40) [lexsV L,.clo G [.ref 0 0]] [Ob.cells c] 0=some (r,[Ob.cells c] ++ σ')∧aLs.dec r=some (L.filter p)∧AV.owns r=[]:=by
  have hL:L.length * 89 ≤ 140737488355328:=hl
  have ho : ∀ i, (i < L.length → f40_o0 L i (p (nL L i)) = 0) ∧ (¬ i < L.length → f40_o0 L i (p (nL L i)) = 1) := by
    intro i
    unfold f40_o0
    refine ⟨fun h1 => ?_,fun h1 => ?_⟩
    · rw [decide_eq_true (by omega)]; cases p (nL L i) <;> rfl
    · rw [decide_eq_false (by omega)]
  let l:Nat→List Lexm:=fun i=>(L.take i).filter p
  let S:Nat→List Ob:=fun i=>grS cL [Ob.cells c] (l i)
  let o:Nat→AV:=fun i=>grV (.list .nil 0 0 []) 1 (l i).length
  have hS : ∀ i, ∃ σ, S i = Ob.cells c :: σ ∧ (σ = [] ∨ ∃ o, σ = [o]) ∧ ltObs (σ.length + 1) (Ob.cells c :: σ) = true := by
    intro i
    show ∃ σ,grS cL [Ob.cells c] (l i)=Ob.cells c::σ∧_
    unfold grS
    split
    · exact ⟨[],rfl,.inl rfl,by simp [ltObs,ltAll_up (Nat.zero_le _) c hc]⟩
    · exact ⟨[.arr (l i).length cL.k ((l i).flatMap cL.enc)],rfl,.inr ⟨_,rfl⟩,by simp only [ltObs,ltAll_up (Nat.zero_le _) c hc,ltAll_up (Nat.zero_le _) _ (Cod.flat_lt (l i)),Bool.and_self]⟩
  have hlen:∀ i,(l i).length ≤ i:=fun i=>Nat.le_trans (List.length_filter_le _ _) (by rw [List.length_take]; omega)
  have hstep : ∀ i, i < L.length → p (nL L i) = true → l (i + 1) = l i ++ [nL L i] := by
    intro i hi hp
    show (L.take (i + 1)).filter p=_
    rw [take_filter hi,nL,getD_lt hi] at *
    rw [if_pos hp]
  have hsame : ∀ i, i < L.length → p (nL L i) = false → l (i + 1) = l i := by
    intro i hi hp
    show (L.take (i + 1)).filter p=_
    rw [nL,getD_lt hi] at hp
    rw [take_filter hi,hp]
    simp [l]
  have M := f40_M L G c S o X call lf L.length (fun i => (nL L i).id) (fun i => (nL L i).cat) (fun i => (nL L i).stem) (fun i => (nL L i).par) _ _ _ (fun i => (nL L i).id) (fun i => (nL L i).cat) (fun i => (nL L i).stem) (fun i => (nL L i).par) _ _ _ _ _ _ _ (fun i => p (nL L i)) rfl rfl hlf
    (fun i _ h=>at_lex (by simpa using h))
    (fun i _ h=>by obtain ⟨σ,e,k0,k⟩:=hS i; rw [e]; exact hg i σ (by simpa using h) k0 k)
    (fun i _ h _=>h61 i _ (by simpa using h))
    (fun i _ h _=>bsl_one Tryd.underlying22 cells33 zero33 rfl rfl (by simp) (owns_lex _) rfl)
    (fun i _ h hp => by
      refine gr_step (m:=[nL L i]) rowL (.inl rfl) (appended_row [nL L i]) ?_
      have:=hlen i
      have:i < L.length:=by simpa using h
      show _ ≤ 140737488355328
      simp only [List.length_singleton]
      omega)
    (fun i h _ hp=>by show grV _ _ (l (i + 1)).length=_; rw [hstep i h hp]; rfl)
    (fun i h _=>up h (by show _ ≤ 140737488355328; omega))
    (fun i h _ hp=>by show grS _ _ (l (i + 1))=_; rw [hstep i h hp])
    (fun i h _ hp=>by show grV _ _ (l (i + 1)).length=_; rw [hsame i h hp])
    (fun i h _ hp=>by show grS _ _ (l (i + 1))=_; rw [hsame i h hp])
    (fun j hj=>(ho j).1 hj)
  obtain ⟨r,σ',h1,h2,h3⟩:=gr_end (A:=cL) (lk := .nil) (sz0:=0) (σ1:=[Ob.cells c]) (σ0:=[Ob.cells c]) (l L.length)
  refine ⟨r,σ',M ((ho _).2 (by omega)) _ _ h1,?_,h3⟩
  have:l L.length=L.filter p:=by show (L.take _).filter p=_; rw [List.take_length]
  rw [this] at h2
  exact h2
end
end Go.Proofs.Lex
end
/- Lexicon: closures, with a row behind (printed) -/
section
open Go Go.Vm Go.Proofs
namespace Go.Proofs.Lex
theorem f41b_pt (x0:Lexm)(s0:ByteArray)(O1:Ob)(X:Ext)(call:Caller)(lf:Nat)
 (h0:(ByteArray.toList (Lexm.cat x0) == ByteArray.toList s0)=true):vbody Tryd.prog X call lf noFg Tryd.f41 (codeOf Tryd.f41) [AV.agg (lexC x0),AV.ref 0 0] [Ob.cells [st s0],O1] 0=some (bo true,[Ob.cells [st s0],O1,Ob.cells [st (Lexm.id x0),st (Lexm.cat x0),st (Lexm.stem x0),st (Lexm.par x0),lro (List.length (Lexm.feats x0)) 2 (List.flatMap featC (Lexm.feats x0))]]) :=
  along_sound (ans:=[(7,Ans.b true)]) (by kernel_rfl) (ai h0 trivial)
theorem f41b_pf (x0:Lexm)(s0:ByteArray)(O1:Ob)(X:Ext)(call:Caller)(lf:Nat)
 (h0:(ByteArray.toList (Lexm.cat x0) == ByteArray.toList s0)=false):vbody Tryd.prog X call lf noFg Tryd.f41 (codeOf Tryd.f41) [AV.agg (lexC x0),AV.ref 0 0] [Ob.cells [st s0],O1] 0=some (bo false,[Ob.cells [st s0],O1,Ob.cells [st (Lexm.id x0),st (Lexm.cat x0),st (Lexm.stem x0),st (Lexm.par x0),lro (List.length (Lexm.feats x0)) 2 (List.flatMap featC (Lexm.feats x0))]]) :=
  along_sound (ans:=[(7,Ans.b false)]) (by kernel_rfl) (ai h0 trivial)
def f41b_q0 (x0:Lexm)(s0:ByteArray):Nat :=
  (match (ByteArray.toList (Lexm.cat x0) == ByteArray.toList s0) with
  | true=>0
  | false=>1)
theorem f41b_P0 (x0:Lexm)(s0:ByteArray)(O1:Ob)(X:Ext)(call:Caller)(lf:Nat) :
    (f41b_q0 x0 s0=0→vbody Tryd.prog X call lf noFg Tryd.f41 (codeOf Tryd.f41) [AV.agg (lexC x0),AV.ref 0 0] [Ob.cells [st s0],O1] 0=some (bo true,[Ob.cells [st s0],O1,Ob.cells [st (Lexm.id x0),st (Lexm.cat x0),st (Lexm.stem x0),st (Lexm.par x0),lro (List.length (Lexm.feats x0)) 2 (List.flatMap featC (Lexm.feats x0))]]))∧(f41b_q0 x0 s0=1→vbody Tryd.prog X call lf noFg Tryd.f41 (codeOf Tryd.f41) [AV.agg (lexC x0),AV.ref 0 0] [Ob.cells [st s0],O1] 0=some (bo false,[Ob.cells [st s0],O1,Ob.cells [st (Lexm.id x0),st (Lexm.cat x0),st (Lexm.stem x0),st (Lexm.par x0),lro (List.length (Lexm.feats x0)) 2 (List.flatMap featC (Lexm.feats x0))]])):=by
  unfold f41b_q0
  cases c0:(ByteArray.toList (Lexm.cat x0) == ByteArray.toList s0) with
  | true =>
    exact ⟨fun _=>f41b_pt x0 s0 O1 X call lf c0,fun h=>absurd (show (0:Nat)=1 from h) (by decide)⟩
  | false =>
    exact ⟨fun h=>absurd (show (1:Nat)=0 from h) (by decide),fun _=>f41b_pf x0 s0 O1 X call lf c0⟩
end Go.Proofs.Lex
end
/- Lexicon: Clip, Clone. -/
section
open Go Go.Vm Go.Proofs
namespace Go.Proofs.Lex
def opsR (c:Code):Array Oper:=match c with
  | .region _ ops _=>ops
  | _ => #[]
def opsF (fn:Func) (k:Nat):Array Oper:=opsR (regN fn k)
def cloneC (fn:Func):Code := .seq (.region 0 (opsF fn 0) false) (.seq (.seq (.region 1 (opsF fn 1) false) (.cond (.tmp 4) (.seq (.region 2 (opsF fn 2) false) .ret) .skip)) (.seq (.region 3 (opsF fn 3) false) .ret))
theorem body88:Tryd.f88.body=some (cloneC Tryd.f88):=by kernel_rfl
section
variable {X:Ext} {call:Caller} {lf:Nat}
def S88 (F:List Feat):St := { tmps:=[featsV F] ++ List.replicate 7 .undef,st:=[] }
theorem r88_0 (F:List Feat):vexec Tryd.prog X call lf 0 noFg (.region 0 (opsF Tryd.f88 0) false) (S88 F)=some (.normal,{ tmps:=[featsV F,.undef,.list .nil 0 0 [],.undef,.undef,.undef,.undef,.undef],st:=[] }):=by kernel_rfl
theorem r88_2 (F:List Feat) (b:Bool):vexec Tryd.prog X call lf 0 noFg (.seq (.region 2 (opsF Tryd.f88 2) false) .ret) { tmps:=[featsV F,.undef,.list .nil 0 0 [],featsV F,.bool b,.undef,.undef,.undef],st:=[] }=some (.ret,{ tmps:=[featsV F,.undef,.list .nil 0 0 [],featsV F,.bool b,.undef,.undef,.undef],st:=[] }):=by kernel_rfl
theorem r88_3 (F:List Feat) (b:Bool) (v:AV) (σ:List Ob) (h:appendv Tryd.prog 31 [] 0 (.list .clip 0 2 []) (featsV F)=some (v,σ)):vexec Tryd.prog X call lf 0 noFg (.seq (.region 3 (opsF Tryd.f88 3) false) .ret) { tmps:=[featsV F,.undef,.list .nil 0 0 [],featsV F,.bool b,.undef,.undef,.undef],st:=[] }=some (.ret,{ tmps:=[featsV F,.undef,v,featsV F,.bool b,.list .clip 0 2 [],featsV F,v],st:=σ }) :=
  around_sound (ans:=[(3,Ans.c v σ)]) (by kernel_rfl) (And.intro h trivial)
def preF (fn:Func) (k n:Nat):List Oper:=(opsF fn k).toList.take n
def opF (fn:Func) (k n:Nat):Oper:=((opsF fn k).toList[n]?).getD default
theorem split88:(opsF Tryd.f88 1).toList=preF Tryd.f88 1 1 ++ [opF Tryd.f88 1 1]:=by kernel_rfl
end
section
variable [Fixed] {X:Ext}
/-- slices.Clone of features. -/
theorem clone88 (hX:ExtOk Tryd.prog X) {F:List Feat} (hF:F.length * 33 ≤ big):CallAt Tryd.prog 88 [aFs.enc F] [] 0 (aFs.enc F) []:=by
  have hC:CallOk Tryd.prog (callerOf fun _ _=>none):=callerOf_ok SpecOk.none'
  have hbig:F.length * 33 ≤ 140737488355328:=hF
  refine call_rel (B:=aFs) (fn:=Tryd.f88) (c:=cloneC Tryd.f88) (R:=fun x T=>(x = .normal ∨ x = .ret)∧∃ r σ',vend Tryd.prog Tryd.f88 [] 0 T=some (r,σ')∧aFs.dec r=some F) Tryd.func88 body88 (of_decide_eq_false (by kernel_rfl)) ?_ (fun x T h=>h)
  refine SR.seq (SR.exec hX hC (lf:=0) (fg:=noFg) (by kernel_rfl) (r88_0 F)) (fun T hT => ?_) (fun x T hx h=>absurd h.1 hx)
  obtain ⟨-,rfl⟩:=hT
  refine SR.seq (R1:=fun x T=>(x = .ret∧∃ b,F=[]∧T = { tmps:=[featsV F,.undef,.list .nil 0 0 [],featsV F,.bool b,.undef,.undef,.undef],st:=[] }) ∨ (x = .normal∧∃ b,T = { tmps:=[featsV F,.undef,.list .nil 0 0 [],featsV F,.bool b,.undef,.undef,.undef],st:=[] })) ?_ (fun T hT => ?_) (fun x T hx h => ?_)
  · refine SR.seq (SR.nilTest hX hC (pre := preF Tryd.f88 1 1) (o := opF Tryd.f88 1 1) (t := 31) (e := 57) (x := .tmp 3) (nb := 31) (d := 4) (n := F.length) (sz := 2) (k := .ro) (cs := F.flatMap featC)
      (S1 := { tmps:=[featsV F,.undef,.list .nil 0 0 [],featsV F,.undef,.undef,.undef,.undef],st:=[] }) split88 (by kernel_rfl) (by kernel_rfl) (by kernel_rfl) (by kernel_rfl) Tryd.underlying31 (by kernel_rfl)) (fun T hT => ?_) (fun x T hx h=>absurd h.1 hx)
    obtain ⟨-,b,hb,rfl⟩:=hT
    refine SR.cond (b:=b) (by rfl) ?_
    cases b with
    | true =>
      refine (SR.exec hX hC (lf:=0) (fg:=noFg) (by kernel_rfl) (r88_2 F true)).mono fun x T h => ?_
      exact .inl ⟨h.1,true,List.eq_nil_of_length_eq_zero (hb rfl),h.2⟩
    | false=>exact SR.skip (.inr ⟨rfl,false,rfl⟩)
  · rcases hT with ⟨h, _⟩ | ⟨-, b, rfl⟩
    · cases h
    · have hg := gr_step (σ0 := []) (l := []) (m := F) (lk := .clip) (sz0 := 2) rowF (.inr rfl) (x := featsV F) (appended_row F) (by simpa using hF)
      obtain ⟨r,σ',h1,h2,-⟩:=gr_end (A:=cF) (lk := .clip) (sz0:=2) (σ1:=[]) (σ0:=[]) F
      refine (SR.exec hX hC (lf:=0) (fg:=noFg) (by kernel_rfl) (r88_3 F b _ _ hg)).mono fun x T h => ?_
      obtain ⟨rfl,rfl⟩:=h
      exact ⟨.inr rfl,r,σ',h1,h2⟩
  · rcases h with ⟨rfl, b, rfl, rfl⟩ | ⟨rfl, _⟩
    · exact ⟨.inr rfl,.list .nil 0 0 [],[],rfl,rfl⟩
    · exact absurd rfl hx
end
end Go.Proofs.Lex
end
/- Lexicon: the builder, feature.Text (printed) -/
section
open Go Go.Vm Go.Proofs
namespace Go.Proofs.Lex
theorem f78_p (c0:Int)(p0:AV)(n0 n1:Nat)(T0 T1:List Ob)(X:Ext)(call:Caller)(lf:Nat)
 (h0:callv X call false 110 [AV.ref 0 0] (Ob.cells [p0,AV.own 1 n0]::T0) 0=some (AV.tup [],Ob.cells [AV.ref 0 0,AV.own 1 n0]::T0))
 (h1:appendv Tryd.prog 89 (Ob.cells [AV.ref 0 0,AV.own 1 n0]::T0) 0 (AV.own 1 n0) (AV.list LK.clip 1 1 [AV.int IntKind.u8 c0])=some (AV.own 1 n1,Ob.cells [AV.ref 0 0,AV.own 1 n0]::T1)):vbody Tryd.prog X call lf noFg Tryd.f78 (codeOf Tryd.f78) [AV.ref 0 0,AV.int IntKind.u8 c0] (Ob.cells [p0,AV.own 1 n0]::T0) 0=some (AV.inil,Ob.cells [AV.ref 0 0,AV.own 1 n1]::T1) :=
  along_sound (ans:=[(4,Ans.c (AV.tup []) (Ob.cells [AV.ref 0 0,AV.own 1 n0]::T0)),(13,Ans.c (AV.own 1 n1) (Ob.cells [AV.ref 0 0,AV.own 1 n0]::T1))]) (by kernel_rfl) (ai h0 (ai h1 trivial))
theorem f78n_p (c0:Int)(p0:AV)(X:Ext)(call:Caller)(lf:Nat)
 (h0:callv X call false 110 [AV.ref 0 0] [Ob.cells [p0,AV.list LK.nil 0 0 []]] 0=some (AV.tup [],[Ob.cells [AV.ref 0 0,AV.list LK.nil 0 0 []]])):vbody Tryd.prog X call lf noFg Tryd.f78 (codeOf Tryd.f78) [AV.ref 0 0,AV.int IntKind.u8 c0] [Ob.cells [p0,AV.list LK.nil 0 0 []]] 0=some (AV.inil,[Ob.cells [AV.ref 0 0,AV.own 1 1],newOb Tryd.prog 5 (0 + 1) (Program.cellsOf Tryd.prog 5) ([] ++ [AV.int IntKind.u8 c0])]) :=
  along_sound (ans:=[(4,Ans.c (AV.tup []) [Ob.cells [AV.ref 0 0,AV.list LK.nil 0 0 []]])]) (by kernel_rfl) (ai h0 trivial)
theorem f79_p (s0:ByteArray)(p0:AV)(n0 n1:Nat)(T0 T1:List Ob)(X:Ext)(call:Caller)(lf:Nat)
 (h0:callv X call false 110 [AV.ref 0 0] (Ob.cells [p0,AV.own 1 n0]::T0) 0=some (AV.tup [],Ob.cells [AV.ref 0 0,AV.own 1 n0]::T0))
 (h1:appendv Tryd.prog 89 (Ob.cells [AV.ref 0 0,AV.own 1 n0]::T0) 0 (AV.own 1 n0) (st s0)=some (AV.own 1 n1,Ob.cells [AV.ref 0 0,AV.own 1 n0]::T1)):vbody Tryd.prog X call lf noFg Tryd.f79 (codeOf Tryd.f79) [AV.ref 0 0,st s0] (Ob.cells [p0,AV.own 1 n0]::T0) 0=some (AV.tup [i6 (↑(ByteArray.size s0):Int),AV.inil],Ob.cells [AV.ref 0 0,AV.own 1 n1]::T1) :=
  along_sound (ans:=[(5,Ans.c (AV.tup []) (Ob.cells [AV.ref 0 0,AV.own 1 n0]::T0)),(13,Ans.c (AV.own 1 n1) (Ob.cells [AV.ref 0 0,AV.own 1 n0]::T1))]) (by kernel_rfl) (ai h0 (ai h1 trivial))
theorem f79n_p (s0:ByteArray)(p0:AV)(n1:Nat)(T0 T1:List Ob)(X:Ext)(call:Caller)(lf:Nat)
 (h0:callv X call false 110 [AV.ref 0 0] (Ob.cells [p0,AV.list LK.nil 0 0 []]::T0) 0=some (AV.tup [],Ob.cells [AV.ref 0 0,AV.list LK.nil 0 0 []]::T0))
 (h1:appendv Tryd.prog 89 (Ob.cells [AV.ref 0 0,AV.list LK.nil 0 0 []]::T0) 0 (AV.list LK.nil 0 0 []) (st s0)=some (AV.own 1 n1,Ob.cells [AV.ref 0 0,AV.list LK.nil 0 0 []]::T1)):vbody Tryd.prog X call lf noFg Tryd.f79 (codeOf Tryd.f79) [AV.ref 0 0,st s0] (Ob.cells [p0,AV.list LK.nil 0 0 []]::T0) 0=some (AV.tup [i6 (↑(ByteArray.size s0):Int),AV.inil],Ob.cells [AV.ref 0 0,AV.own 1 n1]::T1) :=
  along_sound (ans:=[(5,Ans.c (AV.tup []) (Ob.cells [AV.ref 0 0,AV.list LK.nil 0 0 []]::T0)),(13,Ans.c (AV.own 1 n1) (Ob.cells [AV.ref 0 0,AV.list LK.nil 0 0 []]::T1))]) (by kernel_rfl) (ai h0 (ai h1 trivial))
theorem f79e_p (s0:ByteArray)(p0:AV)(T0 T1:List Ob)(X:Ext)(call:Caller)(lf:Nat)
 (h0:callv X call false 110 [AV.ref 0 0] (Ob.cells [p0,AV.list LK.nil 0 0 []]::T0) 0=some (AV.tup [],Ob.cells [AV.ref 0 0,AV.list LK.nil 0 0 []]::T0))
 (h1:appendv Tryd.prog 89 (Ob.cells [AV.ref 0 0,AV.list LK.nil 0 0 []]::T0) 0 (AV.list LK.nil 0 0 []) (st s0)=some (AV.list LK.nil 0 0 [],Ob.cells [AV.ref 0 0,AV.list LK.nil 0 0 []]::T1)):vbody Tryd.prog X call lf noFg Tryd.f79 (codeOf Tryd.f79) [AV.ref 0 0,st s0] (Ob.cells [p0,AV.list LK.nil 0 0 []]::T0) 0=some (AV.tup [i6 (↑(ByteArray.size s0):Int),AV.inil],Ob.cells [AV.ref 0 0,AV.list LK.nil 0 0 []]::T1) :=
  along_sound (ans:=[(5,Ans.c (AV.tup []) (Ob.cells [AV.ref 0 0,AV.list LK.nil 0 0 []]::T0)),(13,Ans.c (AV.list LK.nil 0 0 []) (Ob.cells [AV.ref 0 0,AV.list LK.nil 0 0 []]::T1))]) (by kernel_rfl) (ai h0 (ai h1 trivial))
def fg48:Nat→List Nat
  | 5004=>[1]
  | _=>[]
def f48_F0 (F0:List Feat)(S0:Nat→List Ob)(i0:Nat):St :=
  stOf 25 [4,5,9,10,11,12,13,14,15,16,17,18,19,20,21,22,23] [(0,lro F0.length 2 (F0.flatMap featC)),(2,st (ByteArray.mk #[])),(3,AV.ref 0 0),(6,lro F0.length 2 (F0.flatMap featC)),(7,i6 (↑F0.length:Int)),(8,i6 (↑i0:Int))] (S0 i0)
def f48_S0 (F0:List Feat):St :=
  stOf 25 [] [(0,lro F0.length 2 (F0.flatMap featC)),(2,st (ByteArray.mk #[])),(3,AV.ref 0 0),(6,lro F0.length 2 (F0.flatMap featC)),(7,i6 (↑F0.length:Int)),(8,i6 0)] [Ob.cells [AV.ptag 91,AV.list LK.nil 0 0 []]]
abbrev f48_D0:List Nat:=[23,22,21,20,19,18,17,16,15,14,13,4,5,12,11,10,9]
theorem f48_L0 (F0:List Feat)(S0:Nat→List Ob)(X:Ext)(call:Caller)(lf n:Nat)(x:Ex) (S' : St)
 (e0:S0 0=[Ob.cells [AV.ptag 91,AV.list LK.nil 0 0 []]])
 (hn:n<lf)
 (hs:∀ j,j<n→∃ S1,vexec Tryd.prog X call lf 0 fg48 (loopN Tryd.f48 0) (f48_F0 F0 S0 j)=some (Ex.normal,S1)∧forget f48_D0 S1=(f48_F0 F0 S0 (j + 1)))
 (he:vexec Tryd.prog X call lf 0 fg48 (loopN Tryd.f48 0) (f48_F0 F0 S0 n)=some (x,S'))
 (hx:x ≠ Ex.normal):vexec Tryd.prog X call lf 0 fg48 (Go.Code.loop (loopN Tryd.f48 0)) (f48_S0 F0)=some (x,S') :=
  loop_runK (by kernel_rfl) (fun j=>(f48_F0 F0 S0 j)) n hn (by show forget f48_D0 (f48_S0 F0)=(f48_F0 F0 S0 0); unfold f48_F0; rw [e0]; show _=_; kernel_rfl) hs he hx
theorem f48_s0_tt (F0:List Feat)(X:Ext)(call:Caller)(lf:Nat)(S0:Nat→List Ob)(i0:Nat)(a d:ByteArray)(r11:List AV)(s15:List Ob)(v15:AV)(s18:List Ob)(e:Int)(g:AV)(s19:List Ob)(v19:AV)(s22:List Ob)(h:Int)(j:AV)
 (h0:decide ((↑i0:Int)<(↑F0.length:Int))=true)
 (h1:keep (S0 i0) (indexAddrv Tryd.prog 31 (S0 i0) (lro F0.length 2 (F0.flatMap featC)) (i6 (↑i0:Int)))=some (AV.eaddr (st a::st d::r11),S0 i0))
 (h2:decide ((↑i0:Int)>0)=true)
 (h3:callv X call false 78 [AV.ref 0 0,AV.int IntKind.u8 32] (S0 i0) 0=some (v15,s15))
 (h4:callv X call false 79 [AV.ref 0 0,st a] s15 0=some (AV.tup [i6 e,g],s18))
 (h5:callv X call false 78 [AV.ref 0 0,AV.int IntKind.u8 61] s18 0=some (v19,s19))
 (h6:callv X call false 79 [AV.ref 0 0,st d] s19 0=some (AV.tup [i6 h,j],s22))
 (e0:(↑(i0 + 1):Int)=w6 ((↑i0:Int) + 1))
 (e1:S0 (i0 + 1)=s22):∃ S1,vexec Tryd.prog X call lf 0 fg48 (loopN Tryd.f48 0) (f48_F0 F0 S0 i0)=some (Ex.normal,S1)∧forget f48_D0 S1=(f48_F0 F0 S0 (i0 + 1)) :=
  ⟨stOf 25 [] [(0,lro F0.length 2 (F0.flatMap featC)),(2,st (ByteArray.mk #[])),(3,AV.ref 0 0),(4,i6 (↑i0:Int)),(5,AV.eaddr [st a,st d]),(6,lro F0.length 2 (F0.flatMap featC)),(7,i6 (↑F0.length:Int)),(8,i6 (w6 ((↑i0:Int) + 1))),(9,bo true),(10,i6 (↑i0:Int)),(11,AV.eaddr (st a::st d::r11)),(12,AV.agg [st a,st d]),(13,i6 (↑i0:Int)),(14,bo true),(15,v15),(16,AV.eaddr [st a,st d]),(17,st a),(18,AV.tup [i6 e,g]),(19,v19),(20,AV.eaddr [st d]),(21,st d),(22,AV.tup [i6 h,j]),(23,i6 (w6 ((↑i0:Int) + 1)))] s22,around_sound (ans:=[(1,Ans.b true),(5,Ans.v (AV.eaddr (st a::st d::r11))),(9,Ans.b true),(12,Ans.c v15 s15),(16,Ans.c (AV.tup [i6 e,g]) s18),(18,Ans.c v19 s19),(22,Ans.c (AV.tup [i6 h,j]) s22)]) (by kernel_rfl) (ai h0 (ai h1 (ai h2 (ai h3 (ai h4 (ai h5 (ai h6 trivial))))))),by unfold f48_F0; rw [e0,e1]; show _=_; kernel_rfl⟩
theorem f48_s0_tf (F0:List Feat)(X:Ext)(call:Caller)(lf:Nat)(S0:Nat→List Ob)(i0:Nat)(a d:ByteArray)(r11:List AV)(s18:List Ob)(e:Int)(g:AV)(s19:List Ob)(v19:AV)(s22:List Ob)(h:Int)(j:AV)
 (h0:decide ((↑i0:Int)<(↑F0.length:Int))=true)
 (h1:keep (S0 i0) (indexAddrv Tryd.prog 31 (S0 i0) (lro F0.length 2 (F0.flatMap featC)) (i6 (↑i0:Int)))=some (AV.eaddr (st a::st d::r11),S0 i0))
 (h2:decide ((↑i0:Int)>0)=false)
 (h3:callv X call false 79 [AV.ref 0 0,st a] (S0 i0) 0=some (AV.tup [i6 e,g],s18))
 (h4:callv X call false 78 [AV.ref 0 0,AV.int IntKind.u8 61] s18 0=some (v19,s19))
 (h5:callv X call false 79 [AV.ref 0 0,st d] s19 0=some (AV.tup [i6 h,j],s22))
 (e0:(↑(i0 + 1):Int)=w6 ((↑i0:Int) + 1))
 (e1:S0 (i0 + 1)=s22):∃ S1,vexec Tryd.prog X call lf 0 fg48 (loopN Tryd.f48 0) (f48_F0 F0 S0 i0)=some (Ex.normal,S1)∧forget f48_D0 S1=(f48_F0 F0 S0 (i0 + 1)) :=
  ⟨stOf 25 [15] [(0,lro F0.length 2 (F0.flatMap featC)),(2,st (ByteArray.mk #[])),(3,AV.ref 0 0),(4,i6 (↑i0:Int)),(5,AV.eaddr [st a,st d]),(6,lro F0.length 2 (F0.flatMap featC)),(7,i6 (↑F0.length:Int)),(8,i6 (w6 ((↑i0:Int) + 1))),(9,bo true),(10,i6 (↑i0:Int)),(11,AV.eaddr (st a::st d::r11)),(12,AV.agg [st a,st d]),(13,i6 (↑i0:Int)),(14,bo false),(16,AV.eaddr [st a,st d]),(17,st a),(18,AV.tup [i6 e,g]),(19,v19),(20,AV.eaddr [st d]),(21,st d),(22,AV.tup [i6 h,j]),(23,i6 (w6 ((↑i0:Int) + 1)))] s22,around_sound (ans:=[(1,Ans.b true),(5,Ans.v (AV.eaddr (st a::st d::r11))),(9,Ans.b false),(14,Ans.c (AV.tup [i6 e,g]) s18),(16,Ans.c v19 s19),(20,Ans.c (AV.tup [i6 h,j]) s22)]) (by kernel_rfl) (ai h0 (ai h1 (ai h2 (ai h3 (ai h4 (ai h5 trivial)))))),by unfold f48_F0; rw [e0,e1]; show _=_; kernel_rfl⟩
def f48_S1 (F0:List Feat)(S0:Nat→List Ob)(i0:Nat):St :=
  stOf 25 [4,5,10,11,12,13,14,15,16,17,18,19,20,21,22,23] [(0,lro F0.length 2 (F0.flatMap featC)),(2,st (ByteArray.mk #[])),(3,AV.ref 0 0),(6,lro F0.length 2 (F0.flatMap featC)),(7,i6 (↑F0.length:Int)),(8,i6 (↑i0:Int)),(9,bo false)] (S0 i0)
theorem f48_r0_f (F0:List Feat)(X:Ext)(call:Caller)(lf:Nat)(S0:Nat→List Ob)(i0:Nat)
 (h0:decide ((↑i0:Int)<(↑F0.length:Int))=false):vexec Tryd.prog X call lf 0 fg48 (loopN Tryd.f48 0) (f48_F0 F0 S0 i0)=some (Ex.exit 0,(f48_S1 F0 S0 i0)) :=
  around_sound (ans:=[(1,Ans.b false)]) (by kernel_rfl) (ai h0 trivial)
theorem f48_plf (F0:List Feat)(X:Ext)(call:Caller)(lf:Nat)(S0:Nat→List Ob)(i0:Nat)(s24:List Ob)(x24:ByteArray)
 (h0:vexec Tryd.prog X call lf 0 fg48 (Code.loop (loopN Tryd.f48 0)) (f48_S0 F0)=some (Ex.exit 0,(f48_S1 F0 S0 i0)))
 (h1:callv X call false 80 [AV.ref 0 0] (S0 i0) 0=some (st x24,s24)):vbody Tryd.prog X call lf fg48 Tryd.f48 (codeOf Tryd.f48) [featsV F0] [] 0=some (st x24,s24) :=
  along_sound (ans:=[(8,Ans.l (Ex.exit 0) (f48_S1 F0 S0 i0)),(10,Ans.c (st x24) s24)]) (by kernel_rfl) (ai h0 (ai h1 trivial))
def f48_o0 (F0:List Feat)(i0:Nat):Nat :=
  (match decide ((↑i0:Int)<(↑F0.length:Int)) with
  | true=>(match decide ((↑i0:Int)>0) with
    | true=>0
    | false=>0)
  | false=>1)
theorem f48_B0 (F0:List Feat)(X:Ext)(call:Caller)(lf:Nat)(S0:Nat→List Ob)(i0:Nat)(a b:ByteArray)(r11:List AV)(s15:List Ob)(v15:AV)(s18:List Ob)(c:Int)(d:AV)(s19:List Ob)(v19:AV)(s22:List Ob)(e:Int)(g:AV)(s18_v1:List Ob)(n18_0_v1:Int)(v18_1_v1:AV)(s19_v1:List Ob)(v19_v1:AV)(s22_v1:List Ob)(n22_0_v1:Int)(v22_1_v1:AV)
 (g0:decide ((↑i0:Int)<(↑F0.length:Int))=true→keep (S0 i0) (indexAddrv Tryd.prog 31 (S0 i0) (lro F0.length 2 (F0.flatMap featC)) (i6 (↑i0:Int)))=some (AV.eaddr (st a::st b::r11),S0 i0))
 (g1:decide ((↑i0:Int)<(↑F0.length:Int))=true→decide ((↑i0:Int)>0)=true→callv X call false 78 [AV.ref 0 0,AV.int IntKind.u8 32] (S0 i0) 0=some (v15,s15))
 (g2:decide ((↑i0:Int)<(↑F0.length:Int))=true→decide ((↑i0:Int)>0)=true→callv X call false 79 [AV.ref 0 0,st a] s15 0=some (AV.tup [i6 c,d],s18))
 (g3:decide ((↑i0:Int)<(↑F0.length:Int))=true→decide ((↑i0:Int)>0)=true→callv X call false 78 [AV.ref 0 0,AV.int IntKind.u8 61] s18 0=some (v19,s19))
 (g4:decide ((↑i0:Int)<(↑F0.length:Int))=true→decide ((↑i0:Int)>0)=true→callv X call false 79 [AV.ref 0 0,st b] s19 0=some (AV.tup [i6 e,g],s22))
 (g5:decide ((↑i0:Int)<(↑F0.length:Int))=true→decide ((↑i0:Int)>0)=false→callv X call false 79 [AV.ref 0 0,st a] (S0 i0) 0=some (AV.tup [i6 n18_0_v1,v18_1_v1],s18_v1))
 (g6:decide ((↑i0:Int)<(↑F0.length:Int))=true→decide ((↑i0:Int)>0)=false→callv X call false 78 [AV.ref 0 0,AV.int IntKind.u8 61] s18_v1 0=some (v19_v1,s19_v1))
 (g7:decide ((↑i0:Int)<(↑F0.length:Int))=true→decide ((↑i0:Int)>0)=false→callv X call false 79 [AV.ref 0 0,st b] s19_v1 0=some (AV.tup [i6 n22_0_v1,v22_1_v1],s22_v1))
 (e0:decide ((↑i0:Int)<(↑F0.length:Int))=true→(↑(i0 + 1):Int)=w6 ((↑i0:Int) + 1))
 (e1:decide ((↑i0:Int)<(↑F0.length:Int))=true→S0 (i0 + 1)=s22)
 (e2:decide ((↑i0:Int)<(↑F0.length:Int))=true→S0 (i0 + 1)=s22_v1) :
    (f48_o0 F0 i0=0→∃ S1,vexec Tryd.prog X call lf 0 fg48 (loopN Tryd.f48 0) (f48_F0 F0 S0 i0)=some (Ex.normal,S1)∧forget f48_D0 S1=(f48_F0 F0 S0 (i0 + 1)))∧(f48_o0 F0 i0=1→vexec Tryd.prog X call lf 0 fg48 (loopN Tryd.f48 0) (f48_F0 F0 S0 i0)=some (Ex.exit 0,(f48_S1 F0 S0 i0))):=by
  unfold f48_o0
  cases c0:decide ((↑i0:Int)<(↑F0.length:Int)) with
  | true =>
    cases c1:decide ((↑i0:Int)>0) with
    | true =>
      exact ⟨fun _=>f48_s0_tt F0 X call lf S0 i0 a b r11 s15 v15 s18 c d s19 v19 s22 e g c0 (g0 c0) c1 (g1 c0 c1) (g2 c0 c1) (g3 c0 c1) (g4 c0 c1) (e0 c0) (e1 c0),fun h=>absurd (show (0:Nat)=1 from h) (by decide)⟩
    | false =>
      exact ⟨fun _=>f48_s0_tf F0 X call lf S0 i0 a b r11 s18_v1 n18_0_v1 v18_1_v1 s19_v1 v19_v1 s22_v1 n22_0_v1 v22_1_v1 c0 (g0 c0) c1 (g5 c0 c1) (g6 c0 c1) (g7 c0 c1) (e0 c0) (e2 c0),fun h=>absurd (show (0:Nat)=1 from h) (by decide)⟩
  | false =>
    exact ⟨fun h=>absurd (show (1:Nat)=0 from h) (by decide),fun _=>f48_r0_f F0 X call lf S0 i0 c0⟩
theorem f48_X0 (F0:List Feat)(X:Ext)(call:Caller)(lf:Nat)(S0:Nat→List Ob)(i0:Nat)(a b:ByteArray)(r11:List AV)(s15:List Ob)(v15:AV)(s18:List Ob)(c:Int)(d:AV)(s19:List Ob)(v19:AV)(s22:List Ob)(e:Int)(g:AV)(s18_v1:List Ob)(n18_0_v1:Int)(v18_1_v1:AV)(s19_v1:List Ob)(v19_v1:AV)(s22_v1:List Ob)(n22_0_v1:Int)(v22_1_v1:AV)
 (g0:decide ((↑i0:Int)<(↑F0.length:Int))=true→keep (S0 i0) (indexAddrv Tryd.prog 31 (S0 i0) (lro F0.length 2 (F0.flatMap featC)) (i6 (↑i0:Int)))=some (AV.eaddr (st a::st b::r11),S0 i0))
 (g1:decide ((↑i0:Int)<(↑F0.length:Int))=true→decide ((↑i0:Int)>0)=true→callv X call false 78 [AV.ref 0 0,AV.int IntKind.u8 32] (S0 i0) 0=some (v15,s15))
 (g2:decide ((↑i0:Int)<(↑F0.length:Int))=true→decide ((↑i0:Int)>0)=true→callv X call false 79 [AV.ref 0 0,st a] s15 0=some (AV.tup [i6 c,d],s18))
 (g3:decide ((↑i0:Int)<(↑F0.length:Int))=true→decide ((↑i0:Int)>0)=true→callv X call false 78 [AV.ref 0 0,AV.int IntKind.u8 61] s18 0=some (v19,s19))
 (g4:decide ((↑i0:Int)<(↑F0.length:Int))=true→decide ((↑i0:Int)>0)=true→callv X call false 79 [AV.ref 0 0,st b] s19 0=some (AV.tup [i6 e,g],s22))
 (g5:decide ((↑i0:Int)<(↑F0.length:Int))=true→decide ((↑i0:Int)>0)=false→callv X call false 79 [AV.ref 0 0,st a] (S0 i0) 0=some (AV.tup [i6 n18_0_v1,v18_1_v1],s18_v1))
 (g6:decide ((↑i0:Int)<(↑F0.length:Int))=true→decide ((↑i0:Int)>0)=false→callv X call false 78 [AV.ref 0 0,AV.int IntKind.u8 61] s18_v1 0=some (v19_v1,s19_v1))
 (g7:decide ((↑i0:Int)<(↑F0.length:Int))=true→decide ((↑i0:Int)>0)=false→callv X call false 79 [AV.ref 0 0,st b] s19_v1 0=some (AV.tup [i6 n22_0_v1,v22_1_v1],s22_v1)) :
    (f48_o0 F0 i0=1→vexec Tryd.prog X call lf 0 fg48 (loopN Tryd.f48 0) (f48_F0 F0 S0 i0)=some (Ex.exit 0,(f48_S1 F0 S0 i0))):=by
  unfold f48_o0
  cases c0:decide ((↑i0:Int)<(↑F0.length:Int)) with
  | true =>
    cases c1:decide ((↑i0:Int)>0) with
    | true =>
      exact fun h=>absurd (show (0:Nat)=1 from h) (by decide)
    | false =>
      exact fun h=>absurd (show (0:Nat)=1 from h) (by decide)
  | false =>
    exact fun _=>f48_r0_f F0 X call lf S0 i0 c0
theorem f48_M (F0:List Feat)(S0:Nat→List Ob)(X:Ext)(call:Caller)(lf n:Nat)(a b:Nat→ByteArray)(r11:Nat→List AV)(s15:Nat→List Ob)(v15:Nat→AV)(s18:Nat→List Ob)(c:Nat→Int)(d:Nat→AV)(s19:Nat→List Ob)(v19:Nat→AV)(s22:Nat→List Ob)(e:Nat→Int)(g:Nat→AV)(s18_v1:Nat→List Ob)(n18_0_v1:Nat→Int)(v18_1_v1:Nat→AV)(s19_v1:Nat→List Ob)(v19_v1:Nat→AV)(s22_v1:Nat→List Ob)(n22_0_v1:Nat→Int)(v22_1_v1:Nat→AV)
 (z0:S0 0=[Ob.cells [AV.ptag 91,AV.list LK.nil 0 0 []]])
 (hn:n<lf)
 (g0:∀ i0,i0 ≤ n→decide ((↑i0:Int)<(↑F0.length:Int))=true→keep (S0 i0) (indexAddrv Tryd.prog 31 (S0 i0) (lro F0.length 2 (F0.flatMap featC)) (i6 (↑i0:Int)))=some (AV.eaddr (st (a i0)::st (b i0)::(r11 i0)),S0 i0))
 (g1:∀ i0,i0 ≤ n→decide ((↑i0:Int)<(↑F0.length:Int))=true→decide ((↑i0:Int)>0)=true→callv X call false 78 [AV.ref 0 0,AV.int IntKind.u8 32] (S0 i0) 0=some ((v15 i0),(s15 i0)))
 (g2:∀ i0,i0 ≤ n→decide ((↑i0:Int)<(↑F0.length:Int))=true→decide ((↑i0:Int)>0)=true→callv X call false 79 [AV.ref 0 0,st (a i0)] (s15 i0) 0=some (AV.tup [i6 (c i0),(d i0)],(s18 i0)))
 (g3:∀ i0,i0 ≤ n→decide ((↑i0:Int)<(↑F0.length:Int))=true→decide ((↑i0:Int)>0)=true→callv X call false 78 [AV.ref 0 0,AV.int IntKind.u8 61] (s18 i0) 0=some ((v19 i0),(s19 i0)))
 (g4:∀ i0,i0 ≤ n→decide ((↑i0:Int)<(↑F0.length:Int))=true→decide ((↑i0:Int)>0)=true→callv X call false 79 [AV.ref 0 0,st (b i0)] (s19 i0) 0=some (AV.tup [i6 (e i0),(g i0)],(s22 i0)))
 (g5:∀ i0,i0 ≤ n→decide ((↑i0:Int)<(↑F0.length:Int))=true→decide ((↑i0:Int)>0)=false→callv X call false 79 [AV.ref 0 0,st (a i0)] (S0 i0) 0=some (AV.tup [i6 (n18_0_v1 i0),(v18_1_v1 i0)],(s18_v1 i0)))
 (g6:∀ i0,i0 ≤ n→decide ((↑i0:Int)<(↑F0.length:Int))=true→decide ((↑i0:Int)>0)=false→callv X call false 78 [AV.ref 0 0,AV.int IntKind.u8 61] (s18_v1 i0) 0=some ((v19_v1 i0),(s19_v1 i0)))
 (g7:∀ i0,i0 ≤ n→decide ((↑i0:Int)<(↑F0.length:Int))=true→decide ((↑i0:Int)>0)=false→callv X call false 79 [AV.ref 0 0,st (b i0)] (s19_v1 i0) 0=some (AV.tup [i6 (n22_0_v1 i0),(v22_1_v1 i0)],(s22_v1 i0)))
 (e0:∀ i0,i0<n→decide ((↑i0:Int)<(↑F0.length:Int))=true→(↑(i0 + 1):Int)=w6 ((↑i0:Int) + 1))
 (e1:∀ i0,i0<n→decide ((↑i0:Int)<(↑F0.length:Int))=true→S0 (i0 + 1)=(s22 i0))
 (e2:∀ i0,i0<n→decide ((↑i0:Int)<(↑F0.length:Int))=true→S0 (i0 + 1)=(s22_v1 i0))
 (hz:∀ j,j<n→f48_o0 F0 j=0) :
    (f48_o0 F0 n=1→∀ (s24:List Ob),∀ (x24:ByteArray),callv X call false 80 [AV.ref 0 0] (S0 n) 0=some (st x24,s24)→vbody Tryd.prog X call lf fg48 Tryd.f48 (codeOf Tryd.f48) [featsV F0] [] 0=some (st x24,s24)):=by
  have key:∀ j,j<n→_:=fun j hj=>(f48_B0 F0 X call lf S0 j (a j) (b j) (r11 j) (s15 j) (v15 j) (s18 j) (c j) (d j) (s19 j) (v19 j) (s22 j) (e j) (g j) (s18_v1 j) (n18_0_v1 j) (v18_1_v1 j) (s19_v1 j) (v19_v1 j) (s22_v1 j) (n22_0_v1 j) (v22_1_v1 j) (g0 j (Nat.le_of_lt hj)) (g1 j (Nat.le_of_lt hj)) (g2 j (Nat.le_of_lt hj)) (g3 j (Nat.le_of_lt hj)) (g4 j (Nat.le_of_lt hj)) (g5 j (Nat.le_of_lt hj)) (g6 j (Nat.le_of_lt hj)) (g7 j (Nat.le_of_lt hj)) (e0 j hj) (e1 j hj) (e2 j hj)).1 (hz j hj)
  have kn:=f48_X0 F0 X call lf S0 n (a n) (b n) (r11 n) (s15 n) (v15 n) (s18 n) (c n) (d n) (s19 n) (v19 n) (s22 n) (e n) (g n) (s18_v1 n) (n18_0_v1 n) (v18_1_v1 n) (s19_v1 n) (v19_v1 n) (s22_v1 n) (n22_0_v1 n) (v22_1_v1 n) (g0 n (Nat.le_refl n)) (g1 n (Nat.le_refl n)) (g2 n (Nat.le_refl n)) (g3 n (Nat.le_refl n)) (g4 n (Nat.le_refl n)) (g5 n (Nat.le_refl n)) (g6 n (Nat.le_refl n)) (g7 n (Nat.le_refl n))
  exact fun hk s24 x24 q0=>f48_plf F0 X call lf S0 n s24 x24 (f48_L0 F0 S0 X call lf n _ _ z0 hn key (kn hk) (by simp)) q0
end Go.Proofs.Lex
end
/- Lexicon: the functions that are walked; Clip, copied. -/
section
open Go Go.Vm Go.Proofs
namespace Go.Proofs.Lex
/-- alphabet.indices: each letter's box is read by value. -/
def fg92:Nat→List Nat
  | 4=>[14,15,16,17]
  | 5=>[18,19,20,21,22,23,24,25,26]
  | 7=>[27,28,29,30]
  | 8=>[31]
  | 5004=>[1]
  | _=>[]
def fgX (f:FuncId):Nat→List Nat:=if f=40 then fg40 else if f=64 then fg64 else if f=48 then fg48 else if f=92 then fg92 else noFg
/-- Which functions are walked. -/
def lexW (f:FuncId):Bool:=Nat.blt 2 f && Nat.blt f 115 && !(f == 39 || f == 53 || f == 55 || f == 84 || f == 44 || f == 93 || f == 80 || f == 110)
structure XL (X:Ext):Prop where
  ok:∀ f,lexW f=true→X.pureFn f=none∧X.stFn f=none∧X.adopt f=false
  dom:∀ f,Nat.blt 2 f=true→Nat.blt f 115=true→X.dom f=true
  fg:∀ f,X.fg f=fgX f
  chk:X.pureFn 110=none∧X.stFn 110=some (bldCheck 91)
  str:X.pureFn 80=none∧X.stFn 80=some (bldString 5)
section
variable [Fixed] {X:Ext}
theorem clip87 (hX:ExtOk Tryd.prog X) (hL:XL X) (F:List Feat):CallAt Tryd.prog 87 [aFs.enc F] [] 0 (aFs.enc F) []:=by
  have hC:CallOk Tryd.prog (callerOf fun _ _=>none):=callerOf_ok SpecOk.none'
  have h:=f87_p F X (callerOf fun _ _=>none) 0 _ _ _ _ _ (slc_all Tryd.underlying31 cells57 info57 (flat_len featC_len F) (owns_feats F)) (vend1_plain (by simp only [AV.ownsAll,AV.owns,owns_feats,List.append_nil]))
  refine run_res (B:=aFs) (y:=F) hX hC (hL.dom 87 rfl rfl) Tryd.func87 (by kernel_rfl) h ?_
  have:=aFs.de F
  exact this
def T0:Go.Vm.Spec:=Go.Vm.Spec.on (Go.Vm.Spec.on (fun _ _=>none) 87 (sp1 aFs fun F=>some (aFs.enc F))) 88 (sp1 aFs fun F=>if F.length * 33 ≤ big then some (aFs.enc F) else none)
theorem T0_ok (hX:ExtOk Tryd.prog X) (hL:XL X):SpecOk Tryd.prog T0:=by
  refine SpecOk.on1 (SpecOk.on1 SpecOk.none' fun F r h => ?_) fun F r h => ?_
  · simp only [Option.some.injEq] at h
    subst h
    exact clip87 hX hL F
  · split at h
    · rename_i hF
      simp only [Option.some.injEq] at h
      subst h
      exact clone88 hX hF
    · cases h
/-- A lexeme that a machine can bear. -/
abbrev okL (x:Lexm):Prop:=x.feats.length * 33 ≤ big
abbrev okLs (L:List Lexm):Prop:=L.length * 89 ≤ big∧∀ x ∈ L,okL x
theorem copied61 (hX:ExtOk Tryd.prog X) (hL:XL X) {x:Lexm} (h:okL x):CallAt Tryd.prog 61 [aL.enc x] [] 0 (aL.enc x) []:=by
  have hC:CallOk Tryd.prog (callerOf T0):=callerOf_ok (T0_ok hX hL)
  have h8 : T0 88 [aFs.enc x.feats] = some (aFs.enc x.feats) := by
    show sp1 aFs (fun F=>if F.length * 33 ≤ big then some (aFs.enc F) else none) [aFs.enc x.feats]=_
    rw [sp1_at (aFs.de _),if_pos h]
  have h7 : T0 87 [aFs.enc x.feats] = some (aFs.enc x.feats) := by
    show sp1 aFs (fun F=>some (aFs.enc F)) [aFs.enc x.feats]=_
    rw [sp1_at (aFs.de _)]
  obtain ⟨a1,a2,a3⟩:=hL.ok 88 rfl
  obtain ⟨b1,b2,b3⟩:=hL.ok 87 rfl
  have hlt:AV.ltAll 0 [aFs.enc x.feats]=true:=by simp only [AV.ltAll,aFs.lt,Bool.and_self]
  have hv:=f61_p x X (callerOf T0) 0 _ _ _ _ (call_on (B:=aFs) a1 a2 a3 hlt h8) (call_on (B:=aFs) b1 b2 b3 hlt h7) (vend1_plain (by show AV.ownsAll (lexC x) ++ []=[]; rw [owns_lex]; rfl))
  exact run_res (B:=aL) (y:=x) hX hC (hL.dom 61 rfl rfl) Tryd.func61 (by kernel_rfl) hv (aL.de x)
def T1:Go.Vm.Spec:=Go.Vm.Spec.on T0 61 (sp1 aL fun x=>if okL x then some (aL.enc x) else none)
theorem T1_ok (hX:ExtOk Tryd.prog X) (hL:XL X):SpecOk Tryd.prog T1:=by
  refine SpecOk.on1 (T0_ok hX hL) fun x r h => ?_
  split at h
  · rename_i hx
    simp only [Option.some.injEq] at h
    subst h
    exact copied61 hX hL hx
  · cases h
end
end Go.Proofs.Lex
end
/- Lexicon: the library's functions, as functions that are not walked. -/
section
open Go Go.Vm Go.Proofs
open Go.RowKit (Below)
namespace Go.Proofs.Lex
def lim:Nat:=4294967281
def validFn:List AV→Option AV
  | [.str s]=>if s.size ≤ 9223372036854775807 then some (.bool (Lib.validD s.data.toList)) else none
  | _=>none
def cutFn:List AV→Option AV
  | [.str s,.str sep]=>if s.size < lim then some (.tup [.str ⟨(Lib.cut s.data.toList sep.data.toList).1.toArray⟩,.str ⟨(Lib.cut s.data.toList sep.data.toList).2.1.toArray⟩,.bool (Lib.cut s.data.toList sep.data.toList).2.2]) else none
  | _=>none
def asciiB (s:ByteArray):Bool:=s.data.toList.all fun b=>decide (b.toNat < 128)
def anyFn:List AV→Option AV
  | [.str s,.str cs]=>if s.size < lim∧cs=⟨#[32,10]⟩ then some (.bool (Lib.containsAny s.data.toList cs.data.toList)) else none
  | _=>none
def joinB (l:List ByteArray) (sep:ByteArray):List UInt8:=Lib.join (l.map (·.data.toList)) sep.data.toList
section
variable [Fixed]
theorem two_str {C:Ctx} {w:World} {s t:ByteArray} {us:List Value} (h:RepAll C w [.str s,.str t] us):us=[.string s,.string t]:=by
  match us,h with
  | [],h=>simp only [RepAll] at h
  | [_],h=>simp only [RepAll,and_false] at h
  | [u,v],h=>simp only [RepAll,Rep,and_true] at h; rw [h.1,h.2]
  | _::_::_::_,h=>simp only [RepAll,and_false] at h
/-- What a function that is not walked answers. -/
def PureAt (f:FuncId) (g:List AV→Option AV):Prop:=∀ vs r,AV.ltAll 0 vs=true→g vs=some r→∀ (C:Ctx) (w:World) (us:List Value),SOk C w→RepAll C w vs us →
    Calls Tryd.prog f us.toArray w fun e w' => ∃ u,e = .returned u∧w'.os=w.os∧w'.tape=w.tape∧w'.output=w.output∧w.heap.size ≤ w'.heap.size∧(∀ x,x < w.heap.size→w'.heap[x]? = w.heap[x]?)∧Rep C w' r u
theorem pure93 (hT:∀ (C:Ctx) (w:World),SOk C w→Lib.Utf8Tabs 0 1 w):PureAt 93 validFn:=by
  intro vs r hlt hr C w us hs hrep
  clear hlt
  unfold validFn at hr
  split at hr
  · rename_i s
    split at hr
    · rename_i hsz
      simp only [Option.some.injEq] at hr
      subst hr
      have e : us = [.string s] := by
        match us,hrep with
        | [],h=>simp only [RepAll] at h
        | [u],h=>simp only [RepAll,Rep,and_true] at h; rw [h]
        | _::_::_,h=>simp only [RepAll,and_false] at h
      subst e
      refine Calls.mono (Any.utf8_ValidString Tryd.laysValid s w hsz (hT C w hs)) ?_
      rintro e w' ⟨rfl,hb⟩
      exact ⟨_,rfl,hb.os,hb.tape,hb.output,hb.size,hb.block,rfl⟩
    · cases hr
  · cases hr
theorem pure84 (hM:∀ (C:Ctx) (w:World),SOk C w→∃ m,w.cell? ⟨2,0,none⟩=some (.int .i64 m)):PureAt 84 cutFn:=by
  intro vs r hlt hr C w us hs hrep
  clear hlt
  unfold cutFn at hr
  split at hr
  · rename_i s sep
    split at hr
    · rename_i hsz
      simp only [Option.some.injEq] at hr
      subst hr
      have e:=two_str hrep
      subst e
      obtain ⟨m,hm⟩:=hM C w hs
      refine Calls.mono (Any.strings_Cut Tryd.laysCut s sep m w hsz hm) ?_
      rintro e w' ⟨rfl,n,rfl⟩
      refine ⟨_,rfl,rfl,rfl,rfl,Nat.le_refl _,fun _ _=>rfl,?_⟩
      simp only [Rep]
      refine ⟨_,rfl,?_⟩
      simp only [RepAll,Rep,and_self]
    · cases hr
  · cases hr
theorem pure44:PureAt 44 anyFn:=by
  intro vs r hlt hr C w us hs hrep
  clear hlt
  unfold anyFn at hr
  split at hr
  · rename_i s cs
    split at hr
    · rename_i hc
      simp only [Option.some.injEq] at hr
      subst hr
      have e:=two_str hrep
      subst e
      obtain ⟨hc1,rfl⟩:=hc
      refine Calls.mono (containsAny_bn s w hc1) ?_
      rintro e w' ⟨rfl,hb⟩
      exact ⟨_,rfl,hb.os,hb.tape,hb.output,hb.size,hb.block,by simp only [Rep]⟩
    · cases hr
  · cases hr
theorem plainA:Plain Value.string AV.str:=⟨fun C w x=>by simp only [Rep],fun C w x u h=>by simpa only [Rep] using h,fun _=>rfl⟩
theorem rep_row {C:Ctx} {w:World} {l:List ByteArray} {u:Value} (hr:Rep C w (Go.Vm.strs l) u) :
    ∃ p c,u = .slice p l.length c∧l.length ≤ c∧(0 < l.length→∃ bk o,p=some ⟨bk,o,none⟩∧bk < w.heap.size∧∀ (j:Nat) x,l[j]? = some x→w.cell? ⟨bk,o + j,none⟩=some (.string x)):=by
  unfold Go.Vm.strs at hr
  simp only [Rep] at hr
  obtain ⟨_,_,a,cap,rfl,h3,_,_,_,h7⟩:=hr
  refine ⟨a,cap,rfl,h3,fun h0 => ?_⟩
  obtain ⟨b,o,us,rfl,hb,_,hh,hrep⟩:=h7 h0
  refine ⟨b,o,rfl,hb,fun j x hx => ?_⟩
  have hu:us=l.map Value.string:=plainA.allBack l us hrep
  subst hu
  exact hh j _ (by rw [List.getElem?_map,hx]; rfl)
def joinFn:List AV→Option AV
  | [a, .str sep] => match aSs.dec a with
    | some l=>if l.length ≤ 140737488355328∧(joinB l sep).length ≤ 140737488355328 then some (.str ⟨(joinB l sep).toArray⟩) else none
    | none=>none
  | _=>none
theorem row_str {C:Ctx} {w:World} {a:AV} {t:ByteArray} {us:List Value} (h:RepAll C w [a,.str t] us):∃ u,us=[u,.string t]∧Rep C w a u:=by
  match us,h with
  | [],h=>simp only [RepAll] at h
  | [_],h=>simp only [RepAll,and_false] at h
  | [u,v],h=>simp only [RepAll,Rep,and_true] at h; exact ⟨u,by rw [h.2],h.1⟩
  | _::_::_::_,h=>simp only [RepAll,and_false] at h
theorem pure55:PureAt 55 joinFn:=by
  intro vs r hlt hr C w us hs hrep
  clear hlt
  unfold joinFn at hr
  split at hr
  · rename_i a sep
    split at hr
    · rename_i l hl
      split at hr
      · rename_i hc
        simp only [Option.some.injEq] at hr
        subst hr
        obtain ⟨u,rfl,hu⟩:=row_str hrep
        have hu:=aSs.rep C w a u l hl hu
        rw [aSs_enc] at hu
        obtain ⟨p,c,rfl,h3,h4⟩:=rep_row hu
        by_cases h0:0 < l.length
        · obtain ⟨bk, o, rfl, hb, hcells⟩ := h4 h0
          refine Calls.mono (Any.strings_Join Tryd.laysJoin Tryd.joinExtra bk o c l sep w hcells hb hc.1 h3 hc.2) ?_
          rintro e w' ⟨rfl,hb⟩
          exact ⟨_,rfl,hb.os,hb.tape,hb.output,hb.size,fun x hx=>hb.block x hx,by simp only [Rep]; rfl⟩
        · have : l = [] := List.eq_nil_of_length_eq_zero (by omega)
          subst this
          refine Calls.mono (Any.strings_Join_none Tryd.laysJoin Tryd.joinExtra p c sep w) ?_
          rintro e w' ⟨rfl,rfl⟩
          exact ⟨_,rfl,rfl,rfl,rfl,Nat.le_refl _,fun _ _=>rfl,by simp only [Rep]; rfl⟩
      · cases hr
    · cases hr
  · cases hr
def splitL (s sep:ByteArray):List ByteArray:=Lib.splitB sep 0 (Lib.countB s sep) s
def splitFn:List AV→Option AV
  | [.str s,.str sep]=>if s.size < lim∧1 ≤ sep.size then some (Go.Vm.strs (splitL s sep)) else none
  | _=>none
theorem info9s:(Tryd.prog.info? 9).map (fun i=>(i.zero,i.size,i.bytes))=some (some (.string ByteArray.empty),1,16):=by kernel_rfl
theorem mut_fresh {C:Ctx} {w:World} (hs:SOk C w) : ¬ Mut C w.heap.size:=by
  rintro (h | ⟨id,o,h,hl,e⟩)
  · exact absurd (hs.fb _ h) (by omega)
  · have := hs.blk id o h hl
    omega
theorem pure53 (hM:∀ (C:Ctx) (w:World),SOk C w→∃ m,w.cell? ⟨2,0,none⟩=some (.int .i64 m)):PureAt 53 splitFn:=by
  intro vs r hlt hr C w us hs hrep
  clear hlt
  unfold splitFn at hr
  split at hr
  · rename_i s sep
    split at hr
    · rename_i hc
      simp only [Option.some.injEq] at hr
      subst hr
      have e:=two_str hrep
      subst e
      obtain ⟨m,hm⟩:=hM C w hs
      have hlen:(splitL s sep).length=Lib.countB s sep + 1:=Lib.splitB_all sep hc.2 0 _ s rfl
      refine Calls.mono (Any.strings_Split Tryd.laysSplit info9s s sep m w hc.1 hm hc.2) ?_
      rintro e w' ⟨rfl,rfl⟩
      have hsz:(w.alloc (.cells ((splitL s sep).map Value.string).toArray 9)).heap.size=w.heap.size + 1:=Array.size_push _
      have hnew:(w.alloc (.cells ((splitL s sep).map Value.string).toArray 9)).heap[w.heap.size]? = some (.cells ((splitL s sep).map Value.string).toArray 9):=Array.getElem?_push_size
      have hle:=Lib.countB_le sep hc.2 s.size s (Nat.le_refl _)
      have hlim:s.size < 4294967281:=hc.1
      refine ⟨_,rfl,rfl,rfl,rfl,Nat.le_trans (Nat.le_succ _) (Nat.le_of_eq hsz.symm),fun x hx=>Array.getElem?_push_lt hx |>.trans (Array.getElem?_eq_getElem hx).symm,?_⟩
      rw [← hlen]
      unfold Go.Vm.strs
      simp only [Rep]
      refine ⟨by simp,one_strs _,some ⟨w.heap.size,0,none⟩,_,rfl,Nat.le_refl _,?_,by simp,by simp,fun _ => ?_⟩
      · show _ ≤ maxLen
        rw [hlen]
        unfold maxLen
        omega
      · refine ⟨w.heap.size, 0, (splitL s sep).map Value.string, rfl, Nat.lt_of_lt_of_le (Nat.lt_succ_self _) (Nat.le_of_eq hsz.symm), mut_fresh hs, ?_, ?_⟩
        · intro i x hi
          show World.cell? _ _=_
          unfold World.cell?
          simp only
          rw [show (w.alloc (.cells ((Lib.splitB sep 0 (Lib.countB s sep) s).map Value.string).toArray (Tryd.laysSplit_ren.t 9))).heap[w.heap.size]? = some (.cells ((splitL s sep).map Value.string).toArray 9) from hnew]
          simpa using hi
        · exact plainA.all C _ (splitL s sep)
    · cases hr
  · cases hr
end
end Go.Proofs.Lex
end
/- Lexicon: Category, Stem, With (printed) -/
section
open Go Go.Vm Go.Proofs
namespace Go.Proofs.Lex
theorem f17_p (L0:List Lexm)(s0:ByteArray)(v7:AV)(X:Ext)(call:Caller)(lf:Nat)(rE:AV)(sE:List Ob)
 (h0:callv X call false 40 [lro L0.length 5 (List.flatMap lexC L0),AV.clo 41 [AV.ref 0 0]] [Ob.cells [st s0]] 0=some (v7,[Ob.cells [st s0]]))
 (h1:vend1 [] 0 [Ob.cells [st s0]] [v7]=some (rE,sE)):vbody Tryd.prog X call lf noFg Tryd.f17 (codeOf Tryd.f17) [lexsV L0,st s0] [] 0=some (rE,sE) :=
  along_sound (ans:=[(6,Ans.v v7),(8,Ans.c rE sE)]) (by kernel_rfl) (ai h0 (ai h1 trivial))
end Go.Proofs.Lex
end
/- Lexicon: what selects lexemes. -/
section
open Go Go.Vm Go.Proofs
namespace Go.Proofs.Lex
section
variable [Fixed] {X:Ext} {lf k:Nat}
theorem thaw_ref {σ:List Ob} {v:AV} (h:AV.owns v=[]):AV.thawAll σ [v,.ref 0 0]=some [v,.ref 0 0]:=thawAll_id _ (by simp only [AV.ownsAll,AV.owns,h,List.append_nil])
theorem take_more {o:Ob} {τ σ:List Ob}:((o::τ) ++ σ).take (o::τ).length=o::τ:=by simp
/-- A closure over lexemes, called. -/
theorem clo_call (hL:XL X) {T:Go.Vm.Spec} {G:Nat} {fn:Func} {c:List AV} {x:Lexm} {τ:List Ob} {b:Bool} (hw:lexW G=true) (h1:Nat.blt 2 G=true) (h2:Nat.blt G 115=true) (hf:Tryd.prog.funcs[G]? = some fn) (hb:fn.body=some (codeOf fn))
    (hs:ltObs (τ.length + 1) (Ob.cells c::τ)=true)
    (h:∃ σ,vbody Tryd.prog X (vcallL Tryd.prog X T lf k) lf (fgX G) fn (codeOf fn) [.agg (lexC x),.ref 0 0] (Ob.cells c::τ) 0=some (bo b,(Ob.cells c::τ) ++ σ)) :
    callv X (vcallL Tryd.prog X T lf (k + 1)) false G [.agg (lexC x),.ref 0 0] (Ob.cells c::τ) 0=some (bo b,Ob.cells c::τ):=by
  obtain ⟨σ,h⟩:=h
  obtain ⟨a1,a2,-⟩:=hL.ok G hw
  have hw:=vcallL_walk (T:=T) (hL.dom G h1 h2) hf hb (by rw [hL.fg]; exact h)
  have:=callv_ref (X:=X) a1 a2 (by simp [AV.ltAll,AV.lt,show Nat.blt 0 0=false from rfl]) (thaw_ref (by simp only [AV.owns]; exact owns_lex x)) hw (by rfl) (by rw [take_more]; exact hs)
  rw [take_more] at this
  exact this
theorem T1_61 (x:Lexm) (h:okL x):T1 61 [aL.enc x]=some (aL.enc x):=by
  show sp1 aL (fun x=>if okL x then some (aL.enc x) else none) [aL.enc x]=_
  rw [sp1_at (aL.de _),if_pos h]
/-- lexicon.filter, called with a closure. -/
theorem sel40 (hL:XL X) {T:Go.Vm.Spec} (hT:∀ x,okL x→T 61 [aL.enc x]=some (aL.enc x)) {L:List Lexm} {G:Nat} {fn:Func} {c:List AV} {p:Lexm→Bool} (hok:okLs L) (hlf:L.length < lf) (hc:AV.ltAll 0 c=true) (hw:lexW G=true) (h1:Nat.blt 2 G=true) (h2:Nat.blt G 115=true) (hf:Tryd.prog.funcs[G]? = some fn) (hb:fn.body=some (codeOf fn))
    (h:∀ x τ,x ∈ L→(τ=[] ∨ ∃ o,τ=[o])→∃ σ,vbody Tryd.prog X (vcallL Tryd.prog X T lf k) lf (fgX G) fn (codeOf fn) [.agg (lexC x),.ref 0 0] (Ob.cells c::τ) 0=some (bo (p x),(Ob.cells c::τ) ++ σ)) :
    ∃ v,callv X (vcallL Tryd.prog X T lf (k + 2)) false 40 [lexsV L,.clo G [.ref 0 0]] [Ob.cells c] 0=some (v,[Ob.cells c])∧aLs.dec v=some (L.filter p)∧AV.owns v=[]:=by
  have hmem:∀ i,i < L.length→nL L i ∈ L:=fun i hi=>by rw [nL,getD_lt hi]; exact List.getElem_mem hi
  obtain ⟨r, σ', h3, h4, h5⟩ := filter40 (X := X) (call := vcallL Tryd.prog X T lf (k + 1)) (L := L) (G := G) (c := c) (p := p) hok.1 hlf hc
    (fun i τ hi ht hs=>clo_call hL hw h1 h2 hf hb hs (h _ τ (hmem i hi) ht))
    (fun i σ hi => by
      obtain ⟨a1,a2,a3⟩:=hL.ok 61 rfl
      refine call_onL (B:=aL) (y:=nL L i) a1 a2 a3 (by simp only [AV.ltAll,AV.lt,Bool.and_true]; exact cL.lt _) ?_
      exact hT _ (hok.2 _ (hmem i hi)))
  obtain ⟨a1,a2,-⟩:=hL.ok 40 rfl
  have hw:=vcallL_walk (T:=T) (hL.dom 40 rfl rfl) Tryd.func40 (show Tryd.f40.body=some (codeOf Tryd.f40) by kernel_rfl) (by rw [hL.fg]; exact h3)
  have hlt:AV.lt 0 r=true:=aLs.declt _ _ h4
  have hs:ltObs 1 [Ob.cells c]=true:=by simp only [ltObs,ltAll_up (Nat.zero_le _) c hc,Bool.and_self]
  have:=callv_ref (X:=X) a1 a2 (by simp [AV.ltAll,AV.lt,show Nat.blt 0 0=false from rfl]) (thawAll_id _ (by simp only [AV.ownsAll,AV.owns,List.append_nil]; exact owns_lexs L)) hw (lt_up (Nat.zero_le _) r hlt) (by rw [take_more]; exact hs)
  rw [take_more] at this
  refine ⟨unfr r,this,?_,?_⟩
  · cases r <;> first | exact h4 | skip
    · rename_i kk _ _ _
      cases kk <;> exact h4
    · cases h4
  · cases r <;> first | exact h5 | skip
    · rename_i kk _ _ _
      cases kk <;> exact h5
    · cases h4
end
end Go.Proofs.Lex
end
/- Lexicon: Category, Stem, Index. -/
section
open Go Go.Vm Go.Proofs
namespace Go.Proofs.Lex
section
variable {X:Ext} {call:Caller} {lf:Nat}
theorem cat41 (x:Lexm) (s:ByteArray) (τ:List Ob) (ht:τ=[] ∨ ∃ o,τ=[o]):∃ σ,vbody Tryd.prog X call lf noFg Tryd.f41 (codeOf Tryd.f41) [.agg (lexC x),.ref 0 0] (Ob.cells [st s]::τ) 0=some (bo (decide (x.cat=s)),(Ob.cells [st s]::τ) ++ σ):=by
  by_cases e:x.cat=s
  · rw [decide_eq_true e]
    rcases ht with rfl | ⟨o,rfl⟩
    · exact ⟨[_],(f41_P0 x s X call lf).1 (by unfold f41_q0; rw [eqB_iff.2 e])⟩
    · exact ⟨[_],(f41b_P0 x s o X call lf).1 (by unfold f41b_q0; rw [eqB_iff.2 e])⟩
  · rw [decide_eq_false e]
    rcases ht with rfl | ⟨o,rfl⟩
    · exact ⟨[_],(f41_P0 x s X call lf).2 (by unfold f41_q0; rw [eqB_ne.2 e])⟩
    · exact ⟨[_],(f41b_P0 x s o X call lf).2 (by unfold f41b_q0; rw [eqB_ne.2 e])⟩
theorem id63 (x:Lexm) (s:ByteArray):∃ σ,vbody Tryd.prog X call lf noFg Tryd.f63 (codeOf Tryd.f63) [.agg (lexC x),.ref 0 0] [Ob.cells [st s]] 0=some (bo (decide (x.id=s)),[Ob.cells [st s]] ++ σ):=by
  by_cases e:x.id=s
  · rw [decide_eq_true e]
    exact ⟨[_],(f63_P0 x s X call lf).1 (by unfold f63_q0; rw [eqB_iff.2 e])⟩
  · rw [decide_eq_false e]
    exact ⟨[_],(f63_P0 x s X call lf).2 (by unfold f63_q0; rw [eqB_ne.2 e])⟩
end
section
variable [Fixed] {X:Ext}
theorem endV {σ:List Ob} {v:AV} {L:List Lexm} (hd:aLs.dec v=some L) (ho:AV.owns v=[]):∃ r,vend1 [] 0 σ [v]=some (r,σ)∧aLs.dec r=some L:=by
  refine ⟨unfr v,vend1_plain (by simp only [AV.ownsAll,ho,List.append_nil]),?_⟩
  cases v <;> first | exact hd | skip
  · rename_i kk _ _ _
    cases kk <;> exact hd
  · cases hd
theorem call17 (hX:ExtOk Tryd.prog X) (hL:XL X) {L:List Lexm} {s:ByteArray} (hok:okLs L):CallAt Tryd.prog 17 [aLs.enc L,aS.enc s] [] 0 (aLs.enc (L.filter fun x=>decide (x.cat=s))) []:=by
  have hC:=vcallL_ok hX (T1_ok hX hL) (L.length + 1) 2
  obtain ⟨v,h1,h2,h3⟩:=sel40 (k:=0) (lf:=L.length + 1) (X:=X) (c:=[st s]) (p:=fun x=>decide (x.cat=s)) hL T1_61 hok (by omega) rfl (G:=41) rfl rfl rfl Tryd.func41 (by kernel_rfl) (fun x τ _ ht=>cat41 x s τ ht)
  obtain ⟨r,h4,h5⟩:=endV (σ:=[Ob.cells [st s]]) h2 h3
  exact run_res (B:=aLs) hX hC (hL.dom 17 rfl rfl) Tryd.func17 (by kernel_rfl) (f17_p L s v X _ 0 _ _ h1 h4) h5
/-- lexicon.Index. -/
theorem call28 (hX:ExtOk Tryd.prog X) (hL:XL X) {L:List Lexm} {s:ByteArray} (hl:L.length ≤ big):CallAt Tryd.prog 28 [aLs.enc L,aS.enc s] [] 0 (aI.enc (idxP (fun x=>decide (x.id=s)) L)) []:=by
  have hC:=vcallL_ok hX (T1_ok hX hL) (L.length + 1) 2
  have h62 := index62 (X := X) (call := vcallL Tryd.prog X T1 (L.length + 1) 1) (lf := L.length + 1) (L := L) (g := 63) (c := st s) (p := fun x => decide (x.id = s)) hl (by omega)
    (fun i _=>clo_call hL rfl rfl rfl Tryd.func63 (by kernel_rfl) rfl (id63 (nL L i) s))
  obtain ⟨a1,a2,-⟩:=hL.ok 62 rfl
  have hw:=vcallL_walk (T:=T1) (hL.dom 62 rfl rfl) Tryd.func62 (show Tryd.f62.body=some (codeOf Tryd.f62) by kernel_rfl) (by rw [hL.fg]; exact h62)
  have:=callv_ref (X:=X) a1 a2 (by simp [AV.ltAll,AV.lt,show Nat.blt 0 0=false from rfl]) (thawAll_id _ (by simp only [AV.ownsAll,AV.owns,List.append_nil]; exact owns_lexs L)) hw rfl rfl
  exact run_res (B:=aI) hX hC (hL.dom 28 rfl rfl) Tryd.func28 (by kernel_rfl) (f28_p L s X _ 0 _ this) (aI.de _)
end
end Go.Proofs.Lex
end
/- Lexicon: a feature among features. -/
section
open Go Go.Vm Go.Proofs
namespace Go.Proofs.Lex
/-- The place of the first that fits, or -1. -/
def idxG {α:Type} (p:α→Bool) (l:List α):Int:=match l.findIdx? p with
  | some i=>i
  | none => -1
theorem idxG_cases {α:Type} (d:α) (p:α→Bool) (l:List α):(idxG p l = -1∧∀ i,i < l.length → ¬ p (l.getD i d)=true) ∨ ∃ k,k < l.length∧idxG p l=(k:Int)∧p (l.getD k d)=true∧∀ i,i < k → ¬ p (l.getD i d)=true:=by
  unfold idxG
  cases h:l.findIdx? p with
  | none =>
    refine .inl ⟨rfl,fun i hi => ?_⟩
    have:=List.findIdx?_eq_none_iff.1 h _ (List.getElem_mem hi)
    rw [getD_lt hi,this]
    exact Bool.false_ne_true
  | some k =>
    obtain ⟨hk,h1,h2⟩:=List.findIdx?_eq_some_iff_getElem.1 h
    refine .inr ⟨k,hk,rfl,by rw [getD_lt hk]; exact h1,fun i hi => ?_⟩
    rw [getD_lt (by omega)]
    exact h2 i hi
theorem idxG_any {α:Type} (p:α→Bool) (l:List α):decide (idxG p l ≥ 0)=l.any p:=by
  unfold idxG
  cases h:l.findIdx? p with
  | none =>
    rw [decide_eq_false (by simp)]
    symm
    rw [List.any_eq_false]
    intro x hx
    rw [List.findIdx?_eq_none_iff.1 h x hx]
    exact Bool.false_ne_true
  | some k =>
    obtain ⟨hk,h1,h2⟩:=List.findIdx?_eq_some_iff_getElem.1 h
    rw [decide_eq_true (by simp)]
    symm
    rw [List.any_eq_true]
    exact ⟨_,List.getElem_mem hk,h1⟩
theorem feat_eq {f g:Feat}:(f.name.toList == g.name.toList && (f.value.toList == g.value.toList && true))=decide (f=g):=by
  rw [Bool.and_true]
  by_cases h:f=g
  · subst h
    rw [eqB_iff.2 rfl,eqB_iff.2 rfl,decide_eq_true rfl]; rfl
  · rw [decide_eq_false h, Bool.and_eq_false_iff]
    by_cases h1:f.name=g.name
    · right
      refine eqB_ne.2 fun h2=>h ?_
      cases f; cases g
      simp only at h1 h2
      rw [h1,h2]
    · exact .inl (eqB_ne.2 h1)
section
variable {X:Ext} {call:Caller} {lf:Nat}
/-- slices.Index over features. -/
theorem index89 {F:List Feat} {f:Feat} (hl:F.length ≤ big) (hlf:F.length < lf):∃ σ',vbody Tryd.prog X call lf noFg Tryd.f89 (codeOf Tryd.f89) [featsV F,.agg (featC f)] [] 0=some (i6 (idxG (fun g=>decide (f=g)) F),σ'):=by
  have ho : ∀ i, (i < F.length → ¬ decide (f = nF F i) = true → f89_o0 F f i (nF F i).name (nF F i).value = 0) ∧ (i < F.length → decide (f = nF F i) = true → f89_o0 F f i (nF F i).name (nF F i).value = 1) ∧ (¬ i < F.length → f89_o0 F f i (nF F i).name (nF F i).value = 2) := by
    intro i
    unfold f89_o0
    rw [feat_eq]
    refine ⟨fun h1 h2 => ?_,fun h1 h2 => ?_,fun h1 => ?_⟩
    · rw [decide_eq_true (by omega),Bool.eq_false_iff.2 h2]
    · rw [decide_eq_true (by omega),h2]
    · rw [decide_eq_false (by omega)]
  rcases idxG_cases d0F (fun g=>decide (f=g)) F with ⟨e,hall⟩ | ⟨k,hk,e,hp,hbef⟩
  · have M := f89_M F f X call lf F.length _ _ _ hlf (fun i _ h => at_feat (by simpa using h)) (fun i h _ => up h hl) (fun j hj => (ho j).1 hj (hall j hj))
    rw [e]
    exact ⟨_,M.2 ((ho _).2.2 (by omega))⟩
  · have M := f89_M F f X call lf k _ _ _ (by omega) (fun i _ h => at_feat (by simpa using h)) (fun i h _ => up (n := F.length) (by omega) hl) (fun j hj => (ho j).1 (by omega) (hbef j hj))
    rw [e]
    exact ⟨_,M.1 ((ho k).2.1 hk hp)⟩
end
section
variable [Fixed] {X:Ext}
theorem call89 (hX:ExtOk Tryd.prog X) (hL:XL X) {F:List Feat} {f:Feat} (hl:F.length ≤ big):CallAt Tryd.prog 89 [aFs.enc F,aF.enc f] [] 0 (aI.enc (idxG (fun g=>decide (f=g)) F)) []:=by
  have hC:=callerOf_ok (T1_ok hX hL)
  obtain ⟨σ',h⟩:=index89 (X:=X) (call:=callerOf T1) (lf:=F.length + 1) (f:=f) hl (by omega)
  exact run_res (B:=aI) hX hC (hL.dom 89 rfl rfl) Tryd.func89 (by kernel_rfl) h (aI.de _)
end
end Go.Proofs.Lex
end
/- Lexicon: the other side of Category, Stem, With (printed) -/
section
open Go Go.Vm Go.Proofs
namespace Go.Proofs.Lex
end Go.Proofs.Lex
end
/- Lexicon: the other side's Category and Stem; Contains, With. -/
section
open Go Go.Vm Go.Proofs
namespace Go.Proofs.Lex
section
variable [Fixed]
variable {X:Ext}
end
end Go.Proofs.Lex
end
/- Lexicon: Contains, With. -/
section
open Go Go.Vm Go.Proofs
namespace Go.Proofs.Lex
theorem any_mem {F:List Feat} {f:Feat}:(F.any fun g=>decide (f=g))=decide (f ∈ F):=by
  by_cases h:f ∈ F
  · rw [decide_eq_true h, List.any_eq_true]
    exact ⟨f,h,decide_eq_true rfl⟩
  · rw [decide_eq_false h, List.any_eq_false]
    intro g hg e
    have:=of_decide_eq_true e
    subst this
    exact h hg
section
variable [Fixed] {X:Ext}
def T2:Go.Vm.Spec:=Go.Vm.Spec.on T1 89 (sp2 aFs aF fun F f=>if F.length ≤ big then some (aI.enc (idxG (fun g=>decide (f=g)) F)) else none)
theorem T2_ok (hX:ExtOk Tryd.prog X) (hL:XL X):SpecOk Tryd.prog T2:=by
  refine SpecOk.on2 (T1_ok hX hL) fun F f r h => ?_
  split at h
  · rename_i hF
    simp only [Option.some.injEq] at h
    subst h
    exact call89 hX hL hF
  · cases h
/-- slices.Contains of features. -/
theorem call65 (hX:ExtOk Tryd.prog X) (hL:XL X) {F:List Feat} {f:Feat} (hl:F.length ≤ big):CallAt Tryd.prog 65 [aFs.enc F,aF.enc f] [] 0 (aB.enc (decide (f ∈ F))) []:=by
  have hC:=callerOf_ok (T2_ok hX hL)
  obtain ⟨a1,a2,a3⟩:=hL.ok 89 rfl
  have h9 : T2 89 [aFs.enc F, aF.enc f] = some (aI.enc (idxG (fun g => decide (f = g)) F)) := by
    show sp2 aFs aF (fun F f=>if F.length ≤ big then some (aI.enc (idxG (fun g=>decide (f=g)) F)) else none) [aFs.enc F,aF.enc f]=_
    rw [sp2_at (aFs.de _) (aF.de _),if_pos hl]
  have hc:=call_on (X:=X) (B:=aI) (σ:=[Ob.cells [st f.name,st f.value]]) (ro:=0) (dr:=false) a1 a2 a3 (by simp only [AV.ltAll,aFs.lt,aF.lt,Bool.and_self]) h9
  have key : ∃ σ', vbody Tryd.prog X (callerOf T2) 0 noFg Tryd.f65 (codeOf Tryd.f65) [featsV F, .agg (featC f)] [] 0 = some (bo (decide (f ∈ F)), σ') := by
    have hi:=idxG_any (fun g=>decide (f=g)) F
    rw [any_mem] at hi
    cases hd:decide (f ∈ F) with
    | true=>rw [hd] at hi; exact ⟨_,f65_pt F f X _ 0 _ hc hi⟩
    | false=>rw [hd] at hi; exact ⟨_,f65_pf F f X _ 0 _ hc hi⟩
  obtain ⟨σ',h⟩:=key
  exact run_res (B:=aB) hX hC (hL.dom 65 rfl rfl) Tryd.func65 (by kernel_rfl) h (aB.de _)
def T3:Go.Vm.Spec:=Go.Vm.Spec.on T2 65 (sp2 aFs aF fun F f=>if F.length ≤ big then some (aB.enc (decide (f ∈ F))) else none)
theorem T3_ok (hX:ExtOk Tryd.prog X) (hL:XL X):SpecOk Tryd.prog T3:=by
  refine SpecOk.on2 (T2_ok hX hL) fun F f r h => ?_
  split at h
  · rename_i hF
    simp only [Option.some.injEq] at h
    subst h
    exact call65 hX hL hF
  · cases h
theorem okL_len {x:Lexm} (h:okL x):x.feats.length ≤ big:=by
  have:x.feats.length * 33 ≤ 140737488355328:=h
  show _ ≤ 140737488355328
  omega
end
end Go.Proofs.Lex
end
/- Lexicon: the other side's Contains and With; Find. -/
section
open Go Go.Vm Go.Proofs
namespace Go.Proofs.Lex
section
variable {X:Ext} {call:Caller} {lf:Nat}
theorem take_any {F:List Feat} {f:Feat} {i:Nat} (h:i < F.length):(F.take (i + 1)).any (fun g=>decide (f=g))=((F.take i).any (fun g=>decide (f=g)) || decide (f=nF F i)):=by
  rw [List.take_succ_eq_append_getElem h,List.any_append,nF,getD_lt h]
  simp
/-- Is this feature among them: the inner loop. -/
theorem inner67 {F W:List Feat} {i:Nat} (hi:i < W.length) (hF:F.length ≤ big) (hlf:F.length < lf) :
    vexec Tryd.prog X call lf 0 fg67 (Code.loop (loopN Tryd.f67 1)) (f67_S1 F W i (nF W i).name (nF W i).value (tF W i))=some (Ex.exit 2,f67_S2 F W i (nF W i).name (nF W i).value (tF W i) (fun j=>(F.take j).any fun g=>decide (nF W i=g)) F.length):=by
  refine f67_L1 F W i (nF W i).name (nF W i).value (tF W i) (fun j=>(F.take j).any fun g=>decide (nF W i=g)) X call lf F.length _ _ rfl hlf (fun j hj => ?_) ?_ (by simp)
  · have hd : decide ((↑j : Int) < (↑(List.length F) : Int)) = true := decide_eq_true (by omega)
    have hs:=take_any (f:=nF W i) hj
    cases h1:(F.take j).any (fun g=>decide (nF W i=g)) with
    | true =>
      rw [h1,Bool.true_or] at hs
      exact f67_s1_tt F W X call lf i _ _ _ _ j _ _ _ hd (at_feat hj) h1 hs (up hj hF)
    | false =>
      rw [h1,Bool.false_or] at hs
      cases h2:decide (nF W i=nF F j) with
      | true=>exact f67_s1_tft F W X call lf i _ _ _ _ j _ _ _ hd (at_feat hj) h1 (by rw [feat_eq]; exact h2) (by rw [hs]; exact h2) (up hj hF)
      | false=>exact f67_s1_tff F W X call lf i _ _ _ _ j _ _ _ hd (at_feat hj) h1 (by rw [feat_eq]; exact h2) (by rw [hs]; exact h2) (up hj hF)
  · exact f67_r1_f F W X call lf i _ _ _ _ F.length (decide_eq_false (by omega))
/-- ref09.Contains. -/
theorem cont67 {F W:List Feat} (hF:F.length ≤ big) (hW:W.length ≤ big) (hlf:F.length < lf) (hlw:W.length < lf) :
    vbody Tryd.prog X call lf fg67 Tryd.f67 (codeOf Tryd.f67) [featsV F,featsV W] [] 0=some (bo (W.all fun f=>decide (f ∈ F)),[]):=by
  have hany:∀ i,((F.take F.length).any fun g=>decide (nF W i=g))=decide (nF W i ∈ F):=fun i=>by rw [List.take_length,any_mem]
  have hin:∀ i,i < W.length→_:=fun i hi=>inner67 (X:=X) (call:=call) (lf:=lf) (F:=F) hi hF hlf
  rcases first_fail (p:=fun i=>nF W i ∈ F) W.length with hall | ⟨j,hj,hbad,hbef⟩
  · have hv : (W.all fun f => decide (f ∈ F)) = true := by
      rw [List.all_eq_true]
      intro f hf
      obtain ⟨i,hi,rfl⟩:=List.getElem_of_mem hf
      have:=hall i hi
      rw [nF,getD_lt hi] at this
      exact decide_eq_true this
    rw [hv]
    refine f67_plf F W X call lf W.length (f67_L0 F W X call lf W.length _ _ hlw (fun j hj => ?_) (f67_r0_f F W X call lf W.length (decide_eq_false (by omega))) (by simp))
    exact f67_s0_tlft F W X call lf j _ _ _ _ F.length (decide_eq_true (by omega)) (at_feat hj) (hin j hj) (by rw [hany,decide_eq_true (hall j hj)]) (up hj hW)
  · have hv : (W.all fun f => decide (f ∈ F)) = false := by
      rw [List.all_eq_false]
      refine ⟨nF W j,?_,by simpa using hbad⟩
      rw [nF,getD_lt hj]
      exact List.getElem_mem hj
    rw [hv]
    refine f67_pltlff F W X call lf j (nF W j).name (nF W j).value (tF W j) _ F.length (f67_L0 F W X call lf j _ _ (by omega) (fun i hi => ?_) (f67_r0_tlff F W X call lf j _ _ _ _ F.length (decide_eq_true (by omega)) (at_feat hj) (hin j hj) (by rw [hany,decide_eq_false hbad])) (by simp))
    have hi' : i < W.length:=by omega
    exact f67_s0_tlft F W X call lf i _ _ _ _ F.length (decide_eq_true (by omega)) (at_feat hi') (hin i hi') (by rw [hany,decide_eq_true (hbef i hi)]) (up hi' hW)
end
section
variable [Fixed] {X:Ext}
theorem call67 (hX:ExtOk Tryd.prog X) (hL:XL X) {F W:List Feat} (hF:F.length ≤ big) (hW:W.length ≤ big):CallAt Tryd.prog 67 [aFs.enc F,aFs.enc W] [] 0 (aB.enc (W.all fun f=>decide (f ∈ F))) []:=by
  have hC:=callerOf_ok (T3_ok hX hL)
  exact run_res (B:=aB) hX hC (hL.dom 67 rfl rfl) Tryd.func67 (by kernel_rfl) (cont67 (X:=X) (call:=callerOf T3) (lf:=F.length + W.length + 1) hF hW (by omega) (by omega)) (aB.de _)
def T4:Go.Vm.Spec:=Go.Vm.Spec.on T3 67 (sp2 aFs aFs fun F W=>if F.length ≤ big∧W.length ≤ big then some (aB.enc (W.all fun f=>decide (f ∈ F))) else none)
theorem T4_ok (hX:ExtOk Tryd.prog X) (hL:XL X):SpecOk Tryd.prog T4:=by
  refine SpecOk.on2 (T3_ok hX hL) fun F f r h => ?_
  split at h
  · rename_i hF
    simp only [Option.some.injEq] at h
    subst h
    exact call67 hX hL hF.1 hF.2
  · cases h
end
end Go.Proofs.Lex
end
/- Lexicon: few; Find. -/
section
open Go Go.Vm Go.Proofs
namespace Go.Proofs.Lex
/-- A lexeme with short parts. -/
def shortL (x:Lexm):Bool := !(decide ((x.id.size:Int) > 60)) && !(decide ((x.cat.size:Int) > 60)) && !(decide ((x.stem.size:Int) > 200)) && !(decide ((x.par.size:Int) > 60)) && !(decide ((x.feats.length:Int) > 20))
def fewL (L:List Lexm):Bool:=L.all shortL && decide ((L.length:Int) ≤ 300)
section
variable {X:Ext} {call:Caller} {lf:Nat}
theorem few15 {L:List Lexm} (hl:L.length ≤ big) (hlf:L.length < lf):vbody Tryd.prog X call lf fg15 Tryd.f15 (codeOf Tryd.f15) [lexsV L] [] 0=some (bo (fewL L),[]):=by
  have ho : ∀ i, i < L.length → shortL (nL L i) = true → f15_o0 L i (nL L i).id (nL L i).cat (nL L i).stem (nL L i).par (nL L i).feats.length = 0 := by
    intro i hi h
    unfold shortL at h
    simp only [Bool.and_eq_true,Bool.not_eq_true'] at h
    obtain ⟨⟨⟨⟨h1,h2⟩,h3⟩,h4⟩,h5⟩:=h
    unfold f15_o0
    rw [decide_eq_true (by omega),h1,h2,h3,h4,h5]
  rcases first_fail (p:=fun i=>shortL (nL L i)=true) L.length with hall | ⟨j,hj,hbad,hbef⟩
  · have hv : L.all shortL = true := by
      rw [List.all_eq_true]
      intro x hx
      obtain ⟨i,hi,rfl⟩:=List.getElem_of_mem hx
      have:=hall i hi
      rwa [nL,getD_lt hi] at this
    have M:=f15_M L X call lf L.length _ _ _ _ _ _ _ hlf (fun i _ h=>at_lex (by simpa using h)) (fun i h _=>up h hl) (fun j hj=>ho j hj (hall j hj))
    have h6 : f15_o0 L L.length (nL L L.length).id (nL L L.length).cat (nL L L.length).stem (nL L L.length).par (nL L L.length).feats.length = 6 := by
      unfold f15_o0; rw [decide_eq_false (by omega)]
    unfold fewL
    rw [hv,Bool.true_and]
    cases hd:decide ((L.length:Int) ≤ 300) with
    | true=>exact M.2.2.2.2.2.1 h6 hd
    | false=>exact M.2.2.2.2.2.2 h6 hd
  · have hv : L.all shortL = false := by
      rw [List.all_eq_false]
      refine ⟨nL L j,?_,hbad⟩
      rw [nL,getD_lt hj]
      exact List.getElem_mem hj
    have M:=f15_M L X call lf j _ _ _ _ _ _ _ (by omega) (fun i _ h=>at_lex (by simpa using h)) (fun i h _=>up (n:=L.length) (by omega) hl) (fun i hi=>ho i (by omega) (hbef i hi))
    unfold fewL
    rw [hv,Bool.false_and]
    have hjd:decide ((↑j:Int) < (↑(List.length L):Int))=true:=decide_eq_true (by omega)
    cases h1:decide (((nL L j).id.size:Int) > 60) with
    | true=>exact M.1 (by unfold f15_o0; rw [hjd,h1])
    | false =>
    cases h2:decide (((nL L j).cat.size:Int) > 60) with
    | true=>exact M.2.1 (by unfold f15_o0; rw [hjd,h1,h2])
    | false =>
    cases h3:decide (((nL L j).stem.size:Int) > 200) with
    | true=>exact M.2.2.1 (by unfold f15_o0; rw [hjd,h1,h2,h3])
    | false =>
    cases h4:decide (((nL L j).par.size:Int) > 60) with
    | true=>exact M.2.2.2.1 (by unfold f15_o0; rw [hjd,h1,h2,h3,h4])
    | false =>
    cases h5:decide (((nL L j).feats.length:Int) > 20) with
    | true=>exact M.2.2.2.2.1 (by unfold f15_o0; rw [hjd,h1,h2,h3,h4,h5])
    | false=>exact absurd (by unfold shortL; rw [h1,h2,h3,h4,h5]; rfl) hbad
end
section
variable [Fixed] {X:Ext}
theorem call15 (hX:ExtOk Tryd.prog X) (hL:XL X) {L:List Lexm} (hl:L.length ≤ big):CallAt Tryd.prog 15 [aLs.enc L] [] 0 (aB.enc (fewL L)) []:=by
  have hC:=callerOf_ok (SpecOk.none' (P:=Tryd.prog))
  exact run_res (B:=aB) hX hC (hL.dom 15 rfl rfl) Tryd.func15 (by kernel_rfl) (few15 (X:=X) (call:=callerOf fun _ _=>none) (lf:=L.length + 1) hl (by omega)) (aB.de _)
theorem call29 (hX:ExtOk Tryd.prog X) (hL:XL X) {L:List Lexm} {s:ByteArray} (hl:L.length ≤ big):CallAt Tryd.prog 29 [aLs.enc L,aS.enc s] [] 0 (aI.enc (idxP (fun x=>decide (x.id=s)) L)) []:=by
  have hC:=callerOf_ok (SpecOk.none' (P:=Tryd.prog))
  obtain ⟨σ',h⟩:=index29 (X:=X) (call:=callerOf fun _ _=>none) (lf:=L.length + 1) (s:=s) hl (by omega)
  exact run_res (B:=aI) hX hC (hL.dom 29 rfl rfl) Tryd.func29 (by kernel_rfl) h (aI.de _)
def T5:Go.Vm.Spec:=Go.Vm.Spec.on (Go.Vm.Spec.on T4 28 (sp2 aLs aS fun L s=>if L.length ≤ big then some (aI.enc (idxP (fun x=>decide (x.id=s)) L)) else none)) 29 (sp2 aLs aS fun L s=>if L.length ≤ big then some (aI.enc (idxP (fun x=>decide (x.id=s)) L)) else none)
theorem T5_ok (hX:ExtOk Tryd.prog X) (hL:XL X):SpecOk Tryd.prog T5:=by
  refine SpecOk.on2 (SpecOk.on2 (T4_ok hX hL) fun L s r h => ?_) fun L s r h => ?_
  · split at h
    · rename_i hF
      simp only [Option.some.injEq] at h
      subst h
      exact call28 hX hL hF
    · cases h
  · split at h
    · rename_i hF
      simp only [Option.some.injEq] at h
      subst h
      exact call29 hX hL hF
    · cases h
theorem T5_28 {L:List Lexm} {s:ByteArray} (hl:L.length ≤ big):T5 28 [aLs.enc L,aS.enc s]=some (aI.enc (idxP (fun x=>decide (x.id=s)) L)):=by
  show sp2 aLs aS (fun L s=>if L.length ≤ big then some (aI.enc (idxP (fun x=>decide (x.id=s)) L)) else none) [aLs.enc L,aS.enc s]=_
  rw [sp2_at (aLs.de _) (aS.de _),if_pos hl]
end
end Go.Proofs.Lex
end
/- Lexicon: Find. -/
section
open Go Go.Vm Go.Proofs
namespace Go.Proofs.Lex
/-- The first lexeme with an ID. -/
def findL (L:List Lexm) (s:ByteArray):Lexm × Bool:=match L.find? (fun x=>decide (x.id=s)) with
  | some x=>(x,true)
  | none=>(d0L,false)
theorem findL_cases (L:List Lexm) (s:ByteArray):(idxP (fun x=>decide (x.id=s)) L = -1∧findL L s=(d0L,false)) ∨ ∃ k,k < L.length∧idxP (fun x=>decide (x.id=s)) L=(k:Int)∧findL L s=(nL L k,true):=by
  rcases idxP_cases (fun x=>decide (x.id=s)) L with ⟨e,hall⟩ | ⟨k,hk,e,hp,hbef⟩
  · refine .inl ⟨e, ?_⟩
    unfold findL
    rw [List.find?_eq_none.2 fun x hx => by
      obtain ⟨i,hi,rfl⟩:=List.getElem_of_mem hx
      have:=hall i hi
      rwa [nL,getD_lt hi] at this]
  · refine .inr ⟨k, hk, e, ?_⟩
    unfold findL
    have : L.find? (fun x => decide (x.id = s)) = some (nL L k) := by
      rw [List.find?_eq_some_iff_getElem]
      refine ⟨hp,k,hk,by rw [nL,getD_lt hk],fun j hj => ?_⟩
      have:=hbef j hj
      rw [nL,getD_lt (by omega)] at this
      simpa using this
    rw [this]
section
variable [Fixed] {X:Ext}
abbrev aLB:Arg (Lexm × Bool):=Arg.tup2 aL aB
theorem d0L_dec:aLB.dec (.tup [.agg [st emp,st emp,st emp,st emp,.list .nil 0 0 []],bo false])=some (d0L,false):=by rfl
theorem owns_agg (x:Lexm):AV.owns (.agg (lexC x))=[]:=by simp only [AV.owns]; exact owns_lex x
theorem end2 {σ:List Ob} {x:Lexm} {b:Bool}:vend1 [] 0 σ [.agg (lexC x),bo b]=some (.tup [.agg (lexC x),bo b],σ) :=
  vend1_plain (by simp only [AV.ownsAll,owns_agg]; rfl)
theorem call26 (hX:ExtOk Tryd.prog X) (hL:XL X) {L:List Lexm} {s:ByteArray} (hok:okLs L):CallAt Tryd.prog 26 [aLs.enc L,aS.enc s] [] 0 (aLB.enc (findL L s)) []:=by
  have hC:=callerOf_ok (T5_ok hX hL)
  have hl : L.length ≤ big := by
    have:L.length * 89 ≤ 140737488355328:=hok.1
    show _ ≤ 140737488355328
    omega
  obtain ⟨a1,a2,a3⟩:=hL.ok 28 rfl
  obtain ⟨b1,b2,b3⟩:=hL.ok 61 rfl
  have hc:=fun σ=>call_on (X:=X) (B:=aI) (σ:=σ) (ro:=0) (dr:=false) a1 a2 a3 (by simp only [AV.ltAll,aLs.lt,aS.lt,Bool.and_self]) (T5_28 (s:=s) hl)
  rcases findL_cases L s with ⟨e,h⟩ | ⟨k,hk,e,h⟩
  · rw [h]
    rw [e] at hc
    exact run_res (B:=aLB) hX hC (hL.dom 26 rfl rfl) Tryd.func26 (by kernel_rfl) (f26_pf L s X (callerOf T5) 0 _ (hc _) rfl) d0L_dec
  · rw [h]
    rw [e] at hc
    have hmem:nL L k ∈ L:=by rw [nL,getD_lt hk]; exact List.getElem_mem hk
    have h6:=fun σ=>call_on (X:=X) (T:=T5) (f:=61) (B:=aL) (y:=nL L k) (vs:=[aL.enc (nL L k)]) (σ:=σ) (ro:=0) (dr:=false) b1 b2 b3 (by simp only [AV.ltAll,aL.lt,Bool.and_self]) (T1_61 _ (hok.2 _ hmem))
    exact run_res (B:=aLB) hX hC (hL.dom 26 rfl rfl) Tryd.func26 (by kernel_rfl) (f26_pt L s X (callerOf T5) 0 _ _ _ _ _ _ _ _ _ _ _ _ _ _ (hc _) (decide_eq_true (by omega)) (at_lex hk) (h6 _) end2) (aLB.de (nL L k,true))
end
end Go.Proofs.Lex
end
/- Lexicon: what is the same. -/
section
open Go Go.Vm Go.Proofs
namespace Go.Proofs.Lex
section
variable [Fixed] {X:Ext}
theorem call60 (hX:ExtOk Tryd.prog X) (hL:XL X) {l m:List Feat} (hl:l.length ≤ big):CallAt Tryd.prog 60 [aFs.enc l,aFs.enc m] [] 0 (aB.enc (decide (l=m))) []:=by
  have hC:=callerOf_ok (SpecOk.none' (P:=Tryd.prog))
  obtain ⟨σ',h⟩:=same60 (X:=X) (call:=callerOf fun _ _=>none) (lf:=l.length + 1) (m:=m) hl (by omega)
  exact run_res (B:=aB) hX hC (hL.dom 60 rfl rfl) Tryd.func60 (by kernel_rfl) h (aB.de _)
def V60:Go.Vm.Spec:=Go.Vm.Spec.on (fun _ _=>none) 60 (sp2 aFs aFs fun l m=>if l.length ≤ big then some (aB.enc (decide (l=m))) else none)
theorem V60_ok (hX:ExtOk Tryd.prog X) (hL:XL X):SpecOk Tryd.prog V60:=by
  refine SpecOk.on2 SpecOk.none' fun L s r h => ?_
  split at h
  · rename_i hF
    simp only [Option.some.injEq] at h
    subst h
    exact call60 hX hL hF
  · cases h
theorem V60_at {l m:List Feat} (hl:l.length ≤ big):V60 60 [aFs.enc l,aFs.enc m]=some (aB.enc (decide (l=m))):=by
  show sp2 aFs aFs (fun l m=>if l.length ≤ big then some (aB.enc (decide (l=m))) else none) [aFs.enc l,aFs.enc m]=_
  rw [sp2_at (aFs.de _) (aFs.de _),if_pos hl]
theorem call25 (hX:ExtOk Tryd.prog X) (hL:XL X) {x y:Lexm} (hl:x.feats.length ≤ big):CallAt Tryd.prog 25 [aL.enc x,aL.enc y] [] 0 (aB.enc (decide (x=y))) []:=by
  have hC:=callerOf_ok (V60_ok hX hL)
  obtain ⟨a1,a2,a3⟩:=hL.ok 60 rfl
  obtain ⟨σ',h⟩:=same25 (X:=X) (call:=callerOf V60) (lf:=0) (x:=x) (y:=y) (fun σ=>call_on (B:=aB) a1 a2 a3 (by simp only [AV.ltAll,← aFs_enc,aFs.lt,Bool.and_self]) (V60_at hl))
  exact run_res (B:=aB) hX hC (hL.dom 25 rfl rfl) Tryd.func25 (by kernel_rfl) h (aB.de _)
theorem okLs_len {L:List Lexm} (h:okLs L):L.length ≤ big:=by
  have:L.length * 89 ≤ 140737488355328:=h.1
  show _ ≤ 140737488355328
  omega
/-! ### all together -/
def okLsB (L:List Lexm):Bool:=decide (L.length * 89 ≤ big) && L.all fun x=>decide (x.feats.length * 33 ≤ big)
theorem okLsB_iff {L:List Lexm}:okLsB L=true ↔ okLs L:=by
  unfold okLsB okLs
  rw [Bool.and_eq_true,List.all_eq_true]
  constructor
  · rintro ⟨h1, h2⟩
    exact ⟨of_decide_eq_true h1,fun x hx=>of_decide_eq_true (h2 x hx)⟩
  · rintro ⟨h1, h2⟩
    exact ⟨decide_eq_true h1,fun x hx=>decide_eq_true (h2 x hx)⟩
end
end Go.Proofs.Lex
end
/- Lexicon: the specifications together (printed by a program). -/
section
open Go Go.Vm Go.Proofs
namespace Go.Proofs.Lex
section
variable [Fixed] {X:Ext}
end
end Go.Proofs.Lex
end
/- Lexicon: the builder: what its writing does to its store. -/
section
open Go Go.Vm Go.Proofs
namespace Go.Proofs.Lex
abbrev byA (b:UInt8):AV := .int .u8 b.toNat
abbrev nilB:AV := .list .nil 0 0 []
/-- A builder in a store of its own. -/
def bS (u:Bool):List UInt8→List Ob
  | []=>[.cells [cond u (.ref 0 0) (.ptag 91),nilB]]
  | c::l=>[.cells [.ref 0 0,.own 1 (l.length + 1)],.brow 5 (c::l)]
theorem ofNat_u8 (b:UInt8):UInt8.ofNat (Int.toNat (↑b.toNat:Int))=b:=by simp
theorem decB_bytes : ∀ (l : List UInt8), decB (l.map byA) = some l
  | []=>rfl
  | b :: l => by
    have h : (0 : Int) ≤ ↑b.toNat ∧ (↑b.toNat : Int) < 256 := by
      have:=b.toNat_lt
      omega
    simp only [List.map_cons,decB]
    rw [if_pos h,decB_bytes l,ofNat_u8]
theorem und89:Tryd.prog.underlying 89=some (.slice 5):=Tryd.underlying89
theorem cells5:Tryd.prog.cellsOf 5=1:=by kernel_rfl
theorem bytes5:Tryd.prog.bytesOf 5=1:=by kernel_rfl
theorem zero5:zerov Tryd.prog 5=some (.int .u8 0):=by kernel_rfl
theorem isB5:isByte Tryd.prog 5=true:=by kernel_rfl
theorem owns_bytes : ∀ (l : List UInt8), AV.ownsAll (l.map byA) = []
  | []=>rfl
  | _::l=>by simp only [List.map_cons,AV.ownsAll,AV.owns,owns_bytes l,List.append_nil]
theorem newOb_bytes (n:Nat) (l:List UInt8):newOb Tryd.prog 5 n (Tryd.prog.cellsOf 5) (l.map byA) = .brow 5 l:=by
  unfold newOb
  rw [isB5,if_pos rfl,decB_bytes]
theorem appended_str {σ:List Ob} (s:ByteArray):appended σ 1 (.str s)=some (s.data.toList.length,s.data.toList.map byA):=by
  simp only [appended,if_true]
  rfl
theorem app_row {cs : List AV} {l l' : List UInt8} {x : AV} (hx : appended [Ob.cells cs, .brow 5 l] 1 x = some (l'.length, l'.map byA)) (hb : (l.length + l'.length) * 2 ≤ big) :
    appendv Tryd.prog 89 [Ob.cells cs,.brow 5 l] 0 (.own 1 l.length) x=some (.own 1 (l ++ l').length,[Ob.cells cs,.brow 5 (l ++ l')]):=by
  unfold appendv
  rw [und89]
  simp only [cells5,hx,zero5,bytes5]
  rw [if_pos ⟨owns_bytes _,rfl⟩]
  show (if l.length=l.length∧0 ≤ 1∧5=5∧True∧(l.length + l'.length) * (1 + 1) ≤ 140737488355328 then _ else none)=_
  rw [if_pos ⟨rfl,Nat.zero_le _,rfl,trivial,hb⟩]
  by_cases h:l'.length=0
  · have : l' = [] := List.eq_nil_of_length_eq_zero h
    subst this
    rw [if_pos h,List.append_nil]
  · rw [if_neg h, decB_bytes, List.length_append]
    rfl
theorem app_nil {cs : List AV} {c : UInt8} {l' : List UInt8} {x : AV} (hx : appended [Ob.cells cs] 1 x = some ((c :: l').length, (c :: l').map byA)) (hb : (c :: l').length * 2 ≤ big) :
    appendv Tryd.prog 89 [Ob.cells cs] 0 nilB x=some (.own 1 (c::l').length,[Ob.cells cs,.brow 5 (c::l')]):=by
  unfold appendv
  rw [und89]
  simp only [hx,zero5,bytes5,cells5]
  rw [if_pos ⟨owns_bytes _,rfl⟩,if_pos ⟨.inl trivial,.inl trivial,rfl,by simpa using hb⟩,if_neg (by simp)]
  have:=newOb_bytes (0 + (c::l').length) (c::l')
  rw [cells5] at this
  rw [List.nil_append,this,Nat.zero_add]
  rfl
theorem app_nil0 {cs:List AV} {x:AV} (hx:appended [Ob.cells cs] 1 x=some (0,[])):appendv Tryd.prog 89 [Ob.cells cs] 0 nilB x=some (nilB,[Ob.cells cs]):=by
  unfold appendv
  rw [und89]
  simp only [hx,zero5,bytes5,cells5]
  rw [if_pos ⟨rfl,rfl⟩,if_pos ⟨.inl trivial,.inl trivial,rfl,by decide⟩,if_pos trivial]
section
variable {X:Ext} {call:Caller}
theorem chk110 (hL:XL X) (u:Bool) (l:List UInt8):callv X call false 110 [.ref 0 0] (bS u l) 0=some (.tup [],bS true l):=by
  unfold callv
  rw [hL.chk.1,hL.chk.2]
  cases l with
  | nil=>cases u <;> rfl
  | cons c l=>rfl
theorem ref_lt (vs:List AV):AV.ltAll 0 (.ref 0 0::vs)=false:=by simp [AV.ltAll,AV.lt,show Nat.blt 0 0=false from rfl]
/-- WriteByte. -/
theorem walk78 (hL:XL X) {lf:Nat} (u:Bool) (l:List UInt8) (b:UInt8) (hb:(l.length + 1) * 2 ≤ big) :
    vbody Tryd.prog X call lf noFg Tryd.f78 (codeOf Tryd.f78) [.ref 0 0,byA b] (bS u l) 0=some (.inil,bS true (l ++ [b])):=by
  cases l with
  | nil =>
    have h:=f78n_p b.toNat (cond u (.ref 0 0) (.ptag 91)) X call lf (chk110 hL u [])
    have e:=newOb_bytes (0 + 1) [b]
    simp only [List.map_cons,List.map_nil] at e
    rw [List.nil_append,e] at h
    exact h
  | cons c l =>
    have h:=f78_p b.toNat (.ref 0 0) (l.length + 1) ((c::l) ++ [b]).length [.brow 5 (c::l)] [.brow 5 ((c::l) ++ [b])] X call lf (chk110 hL u (c::l)) (app_row (l:=c::l) (l' := [b]) rfl (by simpa using hb))
    refine h.trans ?_
    simp [bS]
theorem walk79 (hL:XL X) {lf:Nat} (u:Bool) (l:List UInt8) (s:ByteArray) (hb:(l.length + s.data.toList.length) * 2 ≤ big) :
    vbody Tryd.prog X call lf noFg Tryd.f79 (codeOf Tryd.f79) [.ref 0 0,.str s] (bS u l) 0=some (.tup [i6 s.size,.inil],bS true (l ++ s.data.toList)):=by
  cases l with
  | nil =>
    cases hs:s.data.toList with
    | nil =>
      have ha:appended [Ob.cells [.ref 0 0,nilB]] 1 (.str s)=some (0,[]):=by rw [appended_str,hs]; rfl
      exact f79e_p s (cond u (.ref 0 0) (.ptag 91)) [] [] X call lf (chk110 hL u []) (app_nil0 ha)
    | cons c r =>
      have ha:appended [Ob.cells [.ref 0 0,nilB]] 1 (.str s)=some ((c::r).length,(c::r).map byA):=by rw [appended_str,hs]
      exact f79n_p s (cond u (.ref 0 0) (.ptag 91)) (c::r).length [] [.brow 5 (c::r)] X call lf (chk110 hL u []) (app_nil ha (by rw [hs] at hb; simpa using hb))
  | cons c l =>
    have h:=f79_p s (.ref 0 0) (l.length + 1) ((c::l) ++ s.data.toList).length [.brow 5 (c::l)] [.brow 5 ((c::l) ++ s.data.toList)] X call lf (chk110 hL u (c::l)) (app_row (l:=c::l) (appended_str s) hb)
    refine h.trans ?_
    simp [bS]
end
section
variable [Fixed] {X:Ext}
theorem grown (hL:XL X) {T:Go.Vm.Spec} {lf k:Nat} {f:FuncId} {fn:Func} {vs:List AV} {r:AV} {u:Bool} {l l' : List UInt8} (hd:X.dom f=true) (hw:X.pureFn f=none∧X.stFn f=none∧X.adopt f=false) (hf:Tryd.prog.funcs[f]? = some fn) (hbd:fn.body=some (codeOf fn)) (hfg:X.fg f=noFg)
    (ht:AV.thawAll (bS u l) (.ref 0 0::vs)=some (.ref 0 0::vs)) (hr:∀ n,r.lt n=true) (hu:unfr r=r)
    (h:vbody Tryd.prog X (vcallL Tryd.prog X T lf k) lf noFg fn (codeOf fn) (.ref 0 0::vs) (bS u l) 0=some (r,bS true (l ++ l'))) :
    callv X (vcallL Tryd.prog X T lf (k + 1)) false f (.ref 0 0::vs) (bS u l) 0=some (r,bS true (l ++ l')):=by
  have hw' : vcallL Tryd.prog X T lf (k + 1) f (.ref 0 0 :: vs) (bS u l) 0 = some (r, bS true (l ++ l')) := by
    cases l with
    | nil=>exact vcallL_walk hd hf hbd (by rw [hfg]; exact h)
    | cons c l=>exact vcallL_walk hd hf hbd (by rw [hfg]; exact h)
  cases l with
  | nil =>
    cases l' with
    | nil =>
      have:=callv_ref (X:=X) hw.1 hw.2.1 (ref_lt vs) ht hw' (hr _) rfl
      rw [hu] at this
      exact this
    | cons c l' =>
      have:=callv_refG (X:=X) hw.1 hw.2.1 (ref_lt vs) ht hw' rfl
      rw [hu] at this
      exact this
  | cons c l =>
    have:=callv_ref (X:=X) hw.1 hw.2.1 (ref_lt vs) ht hw' (hr _) rfl
    rw [hu] at this
    exact this
theorem write78 (hL:XL X) {T:Go.Vm.Spec} {lf k:Nat} (u:Bool) (l:List UInt8) (b:UInt8) (hb:(l.length + 1) * 2 ≤ big) :
    callv X (vcallL Tryd.prog X T lf (k + 1)) false 78 [.ref 0 0,byA b] (bS u l) 0=some (.inil,bS true (l ++ [b])) :=
  grown hL (hL.dom 78 rfl rfl) (hL.ok 78 rfl) Tryd.func78 (by kernel_rfl) (hL.fg 78) rfl (fun _=>rfl) rfl (walk78 hL u l b hb)
theorem write79 (hL:XL X) {T:Go.Vm.Spec} {lf k:Nat} (u:Bool) (l:List UInt8) (s:ByteArray) (hb:(l.length + s.data.toList.length) * 2 ≤ big) :
    callv X (vcallL Tryd.prog X T lf (k + 1)) false 79 [.ref 0 0,.str s] (bS u l) 0=some (.tup [i6 s.size,.inil],bS true (l ++ s.data.toList)) :=
  grown hL (hL.dom 79 rfl rfl) (hL.ok 79 rfl) Tryd.func79 (by kernel_rfl) (hL.fg 79) rfl (fun _=>rfl) rfl (walk79 hL u l s hb)
theorem string80 (hL:XL X) {call:Caller} (u:Bool) (l:List UInt8):∃ σ,callv X call false 80 [.ref 0 0] (bS u l) 0=some (.str ⟨l.toArray⟩,σ):=by
  unfold callv
  rw [hL.str.1,hL.str.2]
  cases l with
  | nil=>exact ⟨_,rfl⟩
  | cons c l =>
    refine ⟨[Ob.cells [.ref 0 0,.own 1 (l.length + 1)],.gone],?_⟩
    show (if 5=5∧(c::l).length=l.length + 1∧0 ≤ 1∧l.length + 1 ≠ 0 then _ else none)=_
    rw [if_pos ⟨rfl,rfl,Nat.zero_le _,by omega⟩]
    rfl
end
end Go.Proofs.Lex
end
/- Lexicon: feature.Text. -/
section
open Go Go.Vm Go.Proofs
namespace Go.Proofs.Lex
/-- The text of the first features. -/
def textN (F:List Feat):Nat→List UInt8
  | 0=>[]
  | i + 1=>((cond (decide (0 < i)) (textN F i ++ [32]) [] ++ (nF F i).name.data.toList) ++ [61]) ++ (nF F i).value.data.toList
def textF (F:List Feat):List UInt8:=textN F F.length
theorem textN_le (F:List Feat) (i:Nat):(textN F i).length ≤ (textN F (i + 1)).length:=by
  cases i with
  | zero=>exact Nat.zero_le _
  | succ i =>
    have:textN F (i + 1 + 1)=((textN F (i + 1) ++ [32] ++ (nF F (i + 1)).name.data.toList) ++ [61]) ++ (nF F (i + 1)).value.data.toList:=rfl
    rw [this]
    simp only [List.length_append]
    omega
theorem textN_mono (F:List Feat) {i j:Nat} (h:i ≤ j):(textN F i).length ≤ (textN F j).length:=by
  induction h with
  | refl=>exact Nat.le_refl _
  | step _ ih=>exact Nat.le_trans ih (textN_le F _)
section
variable [Fixed] {X:Ext}
theorem call48 (hX:ExtOk Tryd.prog X) (hL:XL X) {F:List Feat} (hl:F.length ≤ big) (hb:(textF F).length * 2 ≤ big):CallAt Tryd.prog 48 [aFs.enc F] [] 0 (aS.enc ⟨(textF F).toArray⟩) []:=by
  have hC:=vcallL_ok hX (SpecOk.none' (P:=Tryd.prog)) (F.length + 1) 1
  have hbi:∀ i,i < F.length→(textN F (i + 1)).length * 2 ≤ big:=fun i hi=>Nat.le_trans (Nat.mul_le_mul_right 2 (textN_mono F hi)) hb
  have hlen : ∀ i, (textN F (i + 1)).length = (cond (decide (0 < i)) (textN F i ++ [32]) []).length + ((nF F i).name.data.toList).length + 1 + ((nF F i).value.data.toList).length := by
    intro i
    simp only [textN,List.length_append,List.length_cons,List.length_nil]
  have lt_of : ∀ {i0 : Nat}, decide ((↑i0 : Int) < (↑(List.length F) : Int)) = true → i0 < F.length := fun h => by
    have:=of_decide_eq_true h
    omega
  obtain ⟨σ,h80⟩:=string80 (X:=X) hL (call:=vcallL Tryd.prog X (fun _ _=>none) (F.length + 1) 1) (decide (0 < F.length)) (textN F F.length)
  have M := f48_M F (fun i => bS (decide (0 < i)) (textN F i)) X (vcallL Tryd.prog X (fun _ _ => none) (F.length + 1) 1) (F.length + 1) F.length (fun i => (nF F i).name) (fun i => (nF F i).value) (tF F)
    (fun i=>bS true (textN F i ++ [32])) (fun _ => .inil)
    (fun i=>bS true (textN F i ++ [32] ++ (nF F i).name.data.toList)) (fun i=>(nF F i).name.size) (fun _ => .inil)
    (fun i=>bS true ((textN F i ++ [32] ++ (nF F i).name.data.toList) ++ [61])) (fun _ => .inil)
    (fun i=>bS true (textN F (i + 1))) (fun i=>(nF F i).value.size) (fun _ => .inil)
    (fun i=>bS true ([] ++ (nF F i).name.data.toList)) (fun i=>(nF F i).name.size) (fun _ => .inil)
    (fun i=>bS true (([] ++ (nF F i).name.data.toList) ++ [61])) (fun _ => .inil)
    (fun i=>bS true (textN F (i + 1))) (fun i=>(nF F i).value.size) (fun _ => .inil)
    rfl (by omega)
    (fun i _ h=>at_feat (lt_of h))
    (fun i _ h h2 => by
      have h0:0 < i:=by have:=of_decide_eq_true h2; omega
      have hle:=hlen i
      have:=hbi i (lt_of h)
      rw [decide_eq_true h0] at hle
      simp only [cond_true,List.length_append,List.length_cons,List.length_nil] at hle
      exact write78 hL (decide (0 < i)) (textN F i) 32 (by show _ ≤ 140737488355328; have h' : (textN F (i + 1)).length * 2 ≤ 140737488355328:=this; omega))
    (fun i _ h h2 => by
      have h0:0 < i:=by have:=of_decide_eq_true h2; omega
      have hle:=hlen i
      have:=hbi i (lt_of h)
      rw [decide_eq_true h0] at hle
      simp only [cond_true,List.length_append,List.length_cons,List.length_nil] at hle
      exact write79 hL true (textN F i ++ [32]) (nF F i).name (by show _ ≤ 140737488355328; have h' : (textN F (i + 1)).length * 2 ≤ 140737488355328:=this; simp only [List.length_append,List.length_cons,List.length_nil]; omega))
    (fun i _ h h2 => by
      have h0:0 < i:=by have:=of_decide_eq_true h2; omega
      have hle:=hlen i
      have:=hbi i (lt_of h)
      rw [decide_eq_true h0] at hle
      simp only [cond_true,List.length_append,List.length_cons,List.length_nil] at hle
      exact write78 hL true (textN F i ++ [32] ++ (nF F i).name.data.toList) 61 (by show _ ≤ 140737488355328; have h' : (textN F (i + 1)).length * 2 ≤ 140737488355328:=this; simp only [List.length_append,List.length_cons,List.length_nil]; omega))
    (fun i _ h h2 => by
      have h0:0 < i:=by have:=of_decide_eq_true h2; omega
      have hle:=hlen i
      have:=hbi i (lt_of h)
      rw [decide_eq_true h0] at hle
      simp only [cond_true,List.length_append,List.length_cons,List.length_nil] at hle
      have e : textN F (i + 1) = (textN F i ++ [32] ++ (nF F i).name.data.toList) ++ [61] ++ (nF F i).value.data.toList := by
        show ((cond (decide (0 < i)) (textN F i ++ [32]) [] ++ (nF F i).name.data.toList) ++ [61]) ++ (nF F i).value.data.toList=_
        rw [decide_eq_true h0]
        rfl
      have k:=write79 (T:=fun _ _=>none) (lf:=F.length + 1) (k:=0) hL true ((textN F i ++ [32] ++ (nF F i).name.data.toList) ++ [61]) (nF F i).value (by show _ ≤ 140737488355328; have h' : (textN F (i + 1)).length * 2 ≤ 140737488355328:=this; simp only [List.length_append,List.length_cons,List.length_nil]; omega)
      rw [← e] at k
      exact k)
    (fun i _ h h2 => by
      have h0:i=0:=by have:=of_decide_eq_false h2; omega
      subst h0
      have hle:=hlen 0
      have:=hbi 0 (lt_of h)
      rw [show decide (0 < 0)=false from rfl] at hle
      simp only [cond_false,List.length_append,List.length_cons,List.length_nil] at hle
      exact write79 hL false [] (nF F 0).name (by show _ ≤ 140737488355328; have h' : (textN F (0 + 1)).length * 2 ≤ 140737488355328:=this; simp only [List.length_append,List.length_cons,List.length_nil]; omega))
    (fun i _ h h2 => by
      have h0:i=0:=by have:=of_decide_eq_false h2; omega
      subst h0
      have hle:=hlen 0
      have:=hbi 0 (lt_of h)
      rw [show decide (0 < 0)=false from rfl] at hle
      simp only [cond_false,List.length_append,List.length_cons,List.length_nil] at hle
      exact write78 hL true ([] ++ (nF F 0).name.data.toList) 61 (by show _ ≤ 140737488355328; have h' : (textN F (0 + 1)).length * 2 ≤ 140737488355328:=this; simp only [List.length_append,List.length_cons,List.length_nil]; omega))
    (fun i _ h h2 => by
      have h0:i=0:=by have:=of_decide_eq_false h2; omega
      subst h0
      have hle:=hlen 0
      have:=hbi 0 (lt_of h)
      rw [show decide (0 < 0)=false from rfl] at hle
      simp only [cond_false,List.length_append,List.length_cons,List.length_nil] at hle
      exact write79 hL true (([] ++ (nF F 0).name.data.toList) ++ [61]) (nF F 0).value (by show _ ≤ 140737488355328; have h' : (textN F (0 + 1)).length * 2 ≤ 140737488355328:=this; simp only [List.length_append,List.length_cons,List.length_nil]; omega))
    (fun i h _=>up h hl) (fun i _ _=>rfl) (fun i _ _=>rfl)
    (fun j hj => by
      unfold f48_o0
      rw [show decide ((↑j:Int) < (↑(List.length F):Int))=true from decide_eq_true (by omega)]
      cases decide ((↑j:Int) > 0) <;> rfl)
  have hv:=M (by unfold f48_o0; rw [show decide ((↑F.length:Int) < (↑(List.length F):Int))=false from decide_eq_false (by omega)]) σ _ h80
  exact run_res (B:=aS) hX hC (hL.dom 48 rfl rfl) Tryd.func48 (by kernel_rfl) hv (aS.de _)
end
end Go.Proofs.Lex
end
/- Lexicon: IndexFunc over strings (printed) -/
section
open Go Go.Vm Go.Proofs
namespace Go.Proofs.Lex
def f109_F0 (L0:List ByteArray)(G1 i0:Nat):St :=
  stOf 19 [4,5,9,10,11,12,13,14,15,16,17,18] [(0,lro L0.length 1 (List.map st L0)),(1,AV.clo G1 []),(6,lro L0.length 1 (List.map st L0)),(7,i6 (↑L0.length:Int)),(8,i6 (↑i0:Int))] []
def f109_S0 (L0:List ByteArray)(G1:Nat):St :=
  stOf 19 [] [(0,lro L0.length 1 (List.map st L0)),(1,AV.clo G1 []),(4,i6 0),(6,lro L0.length 1 (List.map st L0)),(7,i6 (↑L0.length:Int)),(8,i6 0)] []
abbrev f109_D0:List Nat:=[18,4,17,16,15,14,13,12,11,5,10,9]
theorem f109_L0 (L0:List ByteArray)(G1:Nat)(X:Ext)(call:Caller)(lf n:Nat)(x:Ex) (S' : St)
 (hn:n<lf)
 (hs:∀ j,j<n→∃ S1,vexec Tryd.prog X call lf 0 noFg (loopN Tryd.f109 0) (f109_F0 L0 G1 j)=some (Ex.normal,S1)∧forget f109_D0 S1=(f109_F0 L0 G1 (j + 1)))
 (he:vexec Tryd.prog X call lf 0 noFg (loopN Tryd.f109 0) (f109_F0 L0 G1 n)=some (x,S'))
 (hx:x ≠ Ex.normal):vexec Tryd.prog X call lf 0 noFg (Go.Code.loop (loopN Tryd.f109 0)) (f109_S0 L0 G1)=some (x,S') :=
  loop_runK (by kernel_rfl) (fun j=>(f109_F0 L0 G1 j)) n hn (by show forget f109_D0 (f109_S0 L0 G1)=(f109_F0 L0 G1 0); unfold f109_F0; show _=_; kernel_rfl) hs he hx
def f109_S1 (L0:List ByteArray)(G1 i0:Nat)(a:ByteArray)(r14:List AV):St :=
  stOf 19 [18] [(0,lro L0.length 1 (List.map st L0)),(1,AV.clo G1 []),(4,i6 (↑i0:Int)),(5,i6 (↑i0:Int)),(6,lro L0.length 1 (List.map st L0)),(7,i6 (↑L0.length:Int)),(8,i6 (↑i0:Int)),(9,bo true),(10,i6 (↑i0:Int)),(11,AV.clo G1 []),(12,lro L0.length 1 (List.map st L0)),(13,i6 (↑i0:Int)),(14,AV.eaddr (st a::r14)),(15,st a),(16,bo true),(17,i6 (↑i0:Int))] []
theorem f109_r0_tt (L0:List ByteArray)(G1:Nat)(X:Ext)(call:Caller)(lf i0:Nat)(a:ByteArray)(r14:List AV)
 (h0:decide ((↑i0:Int)<(↑L0.length:Int))=true)
 (h1:keep [] (indexAddrv Tryd.prog 25 [] (lro L0.length 1 (List.map st L0)) (i6 (↑i0:Int)))=some (AV.eaddr (st a::r14),[]))
 (h2:callv X call false G1 [st a] [] 0=some (bo true,[])):vexec Tryd.prog X call lf 0 noFg (loopN Tryd.f109 0) (f109_F0 L0 G1 i0)=some (Ex.ret,(f109_S1 L0 G1 i0 a r14)) :=
  around_sound (ans:=[(1,Ans.b true),(10,Ans.v (AV.eaddr (st a::r14))),(12,Ans.v (bo true))]) (by kernel_rfl) (ai h0 (ai h1 (ai h2 trivial)))
theorem f109_pltt (L0:List ByteArray)(G1:Nat)(X:Ext)(call:Caller)(lf i0:Nat)(a:ByteArray)(r14:List AV)
 (h0:vexec Tryd.prog X call lf 0 noFg (Code.loop (loopN Tryd.f109 0)) (f109_S0 L0 G1)=some (Ex.ret,(f109_S1 L0 G1 i0 a r14))):vbody Tryd.prog X call lf noFg Tryd.f109 (codeOf Tryd.f109) [strs L0,AV.clo G1 []] [] 0=some (i6 (↑i0:Int),[]) :=
  along_sound (ans:=[(6,Ans.l Ex.ret (f109_S1 L0 G1 i0 a r14))]) (by kernel_rfl) (ai h0 trivial)
theorem f109_s0_tf (L0:List ByteArray)(G1:Nat)(X:Ext)(call:Caller)(lf i0:Nat)(a:ByteArray)(r14:List AV)
 (h0:decide ((↑i0:Int)<(↑L0.length:Int))=true)
 (h1:keep [] (indexAddrv Tryd.prog 25 [] (lro L0.length 1 (List.map st L0)) (i6 (↑i0:Int)))=some (AV.eaddr (st a::r14),[]))
 (h2:callv X call false G1 [st a] [] 0=some (bo false,[]))
 (e0:(↑(i0 + 1):Int)=w6 ((↑i0:Int) + 1)):∃ S1,vexec Tryd.prog X call lf 0 noFg (loopN Tryd.f109 0) (f109_F0 L0 G1 i0)=some (Ex.normal,S1)∧forget f109_D0 S1=(f109_F0 L0 G1 (i0 + 1)) :=
  ⟨stOf 19 [4,17] [(0,lro L0.length 1 (List.map st L0)),(1,AV.clo G1 []),(5,i6 (↑i0:Int)),(6,lro L0.length 1 (List.map st L0)),(7,i6 (↑L0.length:Int)),(8,i6 (w6 ((↑i0:Int) + 1))),(9,bo true),(10,i6 (↑i0:Int)),(11,AV.clo G1 []),(12,lro L0.length 1 (List.map st L0)),(13,i6 (↑i0:Int)),(14,AV.eaddr (st a::r14)),(15,st a),(16,bo false),(18,i6 (w6 ((↑i0:Int) + 1)))] [],around_sound (ans:=[(1,Ans.b true),(10,Ans.v (AV.eaddr (st a::r14))),(12,Ans.v (bo false))]) (by kernel_rfl) (ai h0 (ai h1 (ai h2 trivial))),by unfold f109_F0; rw [e0]; show _=_; kernel_rfl⟩
def f109_S2 (L0:List ByteArray)(G1 i0:Nat):St :=
  stOf 19 [4,5,10,11,12,13,14,15,16,17,18] [(0,lro L0.length 1 (List.map st L0)),(1,AV.clo G1 []),(6,lro L0.length 1 (List.map st L0)),(7,i6 (↑L0.length:Int)),(8,i6 (↑i0:Int)),(9,bo false)] []
theorem f109_r0_f (L0:List ByteArray)(G1:Nat)(X:Ext)(call:Caller)(lf i0:Nat)
 (h0:decide ((↑i0:Int)<(↑L0.length:Int))=false):vexec Tryd.prog X call lf 0 noFg (loopN Tryd.f109 0) (f109_F0 L0 G1 i0)=some (Ex.exit 0,(f109_S2 L0 G1 i0)) :=
  around_sound (ans:=[(1,Ans.b false)]) (by kernel_rfl) (ai h0 trivial)
theorem f109_plf (L0:List ByteArray)(G1:Nat)(X:Ext)(call:Caller)(lf i0:Nat)
 (h0:vexec Tryd.prog X call lf 0 noFg (Code.loop (loopN Tryd.f109 0)) (f109_S0 L0 G1)=some (Ex.exit 0,(f109_S2 L0 G1 i0))):vbody Tryd.prog X call lf noFg Tryd.f109 (codeOf Tryd.f109) [strs L0,AV.clo G1 []] [] 0=some (i6 (-1),[]) :=
  along_sound (ans:=[(6,Ans.l (Ex.exit 0) (f109_S2 L0 G1 i0))]) (by kernel_rfl) (ai h0 trivial)
def f109_o0 (L0:List ByteArray)(i0:Nat)(b0:Bool):Nat :=
  (match decide ((↑i0:Int)<(↑L0.length:Int)) with
  | true=>(match b0 with
    | true=>1
    | false=>0)
  | false=>2)
theorem f109_B0 (L0:List ByteArray)(G1:Nat)(X:Ext)(call:Caller)(lf i0:Nat)(a:ByteArray)(r14:List AV)(b0:Bool)
 (g0:decide ((↑i0:Int)<(↑L0.length:Int))=true→keep [] (indexAddrv Tryd.prog 25 [] (lro L0.length 1 (List.map st L0)) (i6 (↑i0:Int)))=some (AV.eaddr (st a::r14),[]))
 (g1:decide ((↑i0:Int)<(↑L0.length:Int))=true→callv X call false G1 [st a] [] 0=some (bo b0,[]))
 (e0:decide ((↑i0:Int)<(↑L0.length:Int))=true→(↑(i0 + 1):Int)=w6 ((↑i0:Int) + 1)) :
    (f109_o0 L0 i0 b0=0→∃ S1,vexec Tryd.prog X call lf 0 noFg (loopN Tryd.f109 0) (f109_F0 L0 G1 i0)=some (Ex.normal,S1)∧forget f109_D0 S1=(f109_F0 L0 G1 (i0 + 1)))∧(f109_o0 L0 i0 b0=1→vexec Tryd.prog X call lf 0 noFg (loopN Tryd.f109 0) (f109_F0 L0 G1 i0)=some (Ex.ret,(f109_S1 L0 G1 i0 a r14)))∧(f109_o0 L0 i0 b0=2→vexec Tryd.prog X call lf 0 noFg (loopN Tryd.f109 0) (f109_F0 L0 G1 i0)=some (Ex.exit 0,(f109_S2 L0 G1 i0))):=by
  unfold f109_o0
  cases c0:decide ((↑i0:Int)<(↑L0.length:Int)) with
  | true =>
    cases c1:b0 with
    | true =>
      exact ⟨fun h=>absurd (show (1:Nat)=0 from h) (by decide),fun _=>f109_r0_tt L0 G1 X call lf i0 a r14 c0 (g0 c0) (by have:=(g1 c0); rw [c1] at this; exact this),fun h=>absurd (show (1:Nat)=2 from h) (by decide)⟩
    | false =>
      exact ⟨fun _=>f109_s0_tf L0 G1 X call lf i0 a r14 c0 (g0 c0) (by have:=(g1 c0); rw [c1] at this; exact this) (e0 c0),fun h=>absurd (show (0:Nat)=1 from h) (by decide),fun h=>absurd (show (0:Nat)=2 from h) (by decide)⟩
  | false =>
    exact ⟨fun h=>absurd (show (2:Nat)=0 from h) (by decide),fun h=>absurd (show (2:Nat)=1 from h) (by decide),fun _=>f109_r0_f L0 G1 X call lf i0 c0⟩
theorem f109_X0 (L0:List ByteArray)(G1:Nat)(X:Ext)(call:Caller)(lf i0:Nat)(a:ByteArray)(r14:List AV)(b0:Bool)
 (g0:decide ((↑i0:Int)<(↑L0.length:Int))=true→keep [] (indexAddrv Tryd.prog 25 [] (lro L0.length 1 (List.map st L0)) (i6 (↑i0:Int)))=some (AV.eaddr (st a::r14),[]))
 (g1:decide ((↑i0:Int)<(↑L0.length:Int))=true→callv X call false G1 [st a] [] 0=some (bo b0,[])) :
    (f109_o0 L0 i0 b0=1→vexec Tryd.prog X call lf 0 noFg (loopN Tryd.f109 0) (f109_F0 L0 G1 i0)=some (Ex.ret,(f109_S1 L0 G1 i0 a r14)))∧(f109_o0 L0 i0 b0=2→vexec Tryd.prog X call lf 0 noFg (loopN Tryd.f109 0) (f109_F0 L0 G1 i0)=some (Ex.exit 0,(f109_S2 L0 G1 i0))):=by
  unfold f109_o0
  cases c0:decide ((↑i0:Int)<(↑L0.length:Int)) with
  | true =>
    cases c1:b0 with
    | true =>
      exact ⟨fun _=>f109_r0_tt L0 G1 X call lf i0 a r14 c0 (g0 c0) (by have:=(g1 c0); rw [c1] at this; exact this),fun h=>absurd (show (1:Nat)=2 from h) (by decide)⟩
    | false =>
      exact ⟨fun h=>absurd (show (0:Nat)=1 from h) (by decide),fun h=>absurd (show (0:Nat)=2 from h) (by decide)⟩
  | false =>
    exact ⟨fun h=>absurd (show (2:Nat)=1 from h) (by decide),fun _=>f109_r0_f L0 G1 X call lf i0 c0⟩
theorem f109_M (L0:List ByteArray)(G1:Nat)(X:Ext)(call:Caller)(lf n:Nat)(a:Nat→ByteArray)(r14:Nat→List AV)(b0:Nat→Bool)
 (hn:n<lf)
 (g0:∀ i0,i0 ≤ n→decide ((↑i0:Int)<(↑L0.length:Int))=true→keep [] (indexAddrv Tryd.prog 25 [] (lro L0.length 1 (List.map st L0)) (i6 (↑i0:Int)))=some (AV.eaddr (st (a i0)::(r14 i0)),[]))
 (g1:∀ i0,i0 ≤ n→decide ((↑i0:Int)<(↑L0.length:Int))=true→callv X call false G1 [st (a i0)] [] 0=some (bo (b0 i0),[]))
 (e0:∀ i0,i0<n→decide ((↑i0:Int)<(↑L0.length:Int))=true→(↑(i0 + 1):Int)=w6 ((↑i0:Int) + 1))
 (hz:∀ j,j<n→f109_o0 L0 j (b0 j)=0) :
    (f109_o0 L0 n (b0 n)=1→vbody Tryd.prog X call lf noFg Tryd.f109 (codeOf Tryd.f109) [strs L0,AV.clo G1 []] [] 0=some (i6 (↑n:Int),[]))∧(f109_o0 L0 n (b0 n)=2→vbody Tryd.prog X call lf noFg Tryd.f109 (codeOf Tryd.f109) [strs L0,AV.clo G1 []] [] 0=some (i6 (-1),[])):=by
  have key:∀ j,j<n→_:=fun j hj=>(f109_B0 L0 G1 X call lf j (a j) (r14 j) (b0 j) (g0 j (Nat.le_of_lt hj)) (g1 j (Nat.le_of_lt hj)) (e0 j hj)).1 (hz j hj)
  have kn:=f109_X0 L0 G1 X call lf n (a n) (r14 n) (b0 n) (g0 n (Nat.le_refl n)) (g1 n (Nat.le_refl n))
  exact ⟨fun hk=>f109_pltt L0 G1 X call lf n (a n) (r14 n) (f109_L0 L0 G1 X call lf n _ _ hn key (kn.1 hk) (by simp)),
    fun hk=>f109_plf L0 G1 X call lf n (f109_L0 L0 G1 X call lf n _ _ hn key (kn.2 hk) (by simp))⟩
end Go.Proofs.Lex
end
/- Lexicon: dashed, undashed; the first empty string of a list. -/
section
open Go Go.Vm Go.Proofs
namespace Go.Proofs.Lex
/-- The place of the first empty string. -/
def idxE (l:List ByteArray):Int:=match l.findIdx? (fun s=>decide (s=emp)) with
  | some i=>i
  | none => -1
theorem idxE_none {l:List ByteArray} (h:∀ s ∈ l,s ≠ emp):idxE l = -1:=by
  unfold idxE
  rw [List.findIdx?_eq_none_iff.2 fun x hx=>by simpa using h x hx]
theorem idxE_some {l:List ByteArray} {k:Nat} (hk:k < l.length) (hp:nS l k=emp) (hb:∀ i,i < k→nS l i ≠ emp):idxE l=k:=by
  unfold idxE
  have : l.findIdx? (fun s => decide (s = emp)) = some k := by
    rw [List.findIdx?_eq_some_iff_getElem]
    refine ⟨hk,?_,fun j hj => ?_⟩
    · have := hp
      rw [nS,getD_lt hk] at this
      simpa using this
    · have := hb j hj
      rw [nS,getD_lt (by omega)] at this
      simpa using this
  rw [this]
section
variable {X:Ext} {call:Caller} {lf:Nat}
theorem walk77 (s:ByteArray):vbody Tryd.prog X call lf noFg Tryd.f77 (codeOf Tryd.f77) [st s] [] 0=some (bo (decide (s=emp)),[]):=by
  by_cases e:s=emp
  · rw [decide_eq_true e]
    exact (f77_P0 s X call lf).1 (by unfold f77_q0; rw [show (s.toList == (ByteArray.mk #[]).toList)=true from eqB_iff.2 e])
  · rw [decide_eq_false e]
    exact (f77_P0 s X call lf).2 (by unfold f77_q0; rw [show (s.toList == (ByteArray.mk #[]).toList)=false from eqB_ne.2 e])
theorem walk109 {l:List ByteArray} (hl:l.length ≤ big) (hlf:l.length < lf) (hg:∀ s,callv X call false 77 [st s] [] 0=some (bo (decide (s=emp)),[])) :
    vbody Tryd.prog X call lf noFg Tryd.f109 (codeOf Tryd.f109) [Go.Vm.strs l,.clo 77 []] [] 0=some (i6 (idxE l),[]):=by
  have ho : ∀ i, (i < l.length → nS l i ≠ emp → f109_o0 l i (decide (nS l i = emp)) = 0) ∧ (i < l.length → nS l i = emp → f109_o0 l i (decide (nS l i = emp)) = 1) ∧ (¬ i < l.length → f109_o0 l i (decide (nS l i = emp)) = 2) := by
    intro i
    unfold f109_o0
    refine ⟨fun h1 h2 => ?_,fun h1 h2 => ?_,fun h1 => ?_⟩
    · rw [decide_eq_true (by omega),decide_eq_false h2]
    · rw [decide_eq_true (by omega),decide_eq_true h2]
    · rw [decide_eq_false (by omega)]
  rcases first_fail (p:=fun i=>nS l i ≠ emp) l.length with hall | ⟨k,hk,hbad,hbef⟩
  · have M := f109_M l 77 X call lf l.length (fun i => nS l i) (fun i => tS l i) (fun i => decide (nS l i = emp)) hlf (fun i _ h => at_strs (by simpa using h)) (fun i _ h => hg _) (fun i h _ => up h hl) (fun j hj => (ho j).1 hj (hall j hj))
    rw [idxE_none fun s hs => by
      obtain ⟨i,hi,rfl⟩:=List.getElem_of_mem hs
      have:=hall i hi
      rwa [nS,getD_lt hi] at this]
    exact M.2 ((ho _).2.2 (by omega))
  · have hp : nS l k = emp := by simpa using hbad
    have M:=f109_M l 77 X call lf k (fun i=>nS l i) (fun i=>tS l i) (fun i=>decide (nS l i=emp)) (by omega) (fun i _ h=>at_strs (by simpa using h)) (fun i _ h=>hg _) (fun i h _=>up (n:=l.length) (by omega) hl) (fun j hj=>(ho j).1 (by omega) (hbef j hj))
    rw [idxE_some hk hp hbef]
    exact M.1 ((ho k).2.1 hk hp)
end
section
variable [Fixed] {X:Ext}
theorem call77 (hX:ExtOk Tryd.prog X) (hL:XL X) (s:ByteArray):CallAt Tryd.prog 77 [aS.enc s] [] 0 (aB.enc (decide (s=emp))) [] :=
  run_res (B:=aB) hX (callerOf_ok (SpecOk.none' (P:=Tryd.prog))) (hL.dom 77 rfl rfl) Tryd.func77 (by kernel_rfl) (walk77 (lf:=0) s) (aB.de _)
theorem call109 (hX:ExtOk Tryd.prog X) (hL:XL X) {l:List ByteArray} (hl:l.length ≤ big):CallAt Tryd.prog 109 [Go.Vm.strs l,.clo 77 []] [] 0 (aI.enc (idxE l)) []:=by
  have hT : SpecOk Tryd.prog (Go.Vm.Spec.on (fun _ _ => none) 77 (sp1 aS fun s => some (aB.enc (decide (s = emp))))) := SpecOk.on1 SpecOk.none' fun s r h => by
    simp only [Option.some.injEq] at h
    subst h
    exact call77 hX hL s
  obtain ⟨a1,a2,a3⟩:=hL.ok 77 rfl
  exact run_res (B := aI) hX (callerOf_ok hT) (hL.dom 109 rfl rfl) Tryd.func109 (by kernel_rfl) (walk109 (lf := l.length + 1) hl (by omega) fun s => call_on (B := aB) (y := decide (s = emp)) a1 a2 a3 rfl (by
    show sp1 aS (fun s=>some (aB.enc (decide (s=emp)))) [aS.enc s]=_
    rw [sp1_at (aS.de _)])) (aI.de _)
def dashS (s:ByteArray):ByteArray:=if s=emp then ⟨#[45]⟩ else s
def undashS (s:ByteArray):ByteArray:=if s=⟨#[45]⟩ then emp else s
theorem call47 (hX:ExtOk Tryd.prog X) (hL:XL X) (s:ByteArray):CallAt Tryd.prog 47 [aS.enc s] [] 0 (aS.enc (dashS s)) []:=by
  refine run_res (B:=aS) (lf:=0) (fg:=noFg) (σ' := []) (r:=st (dashS s)) hX (callerOf_ok (SpecOk.none' (P:=Tryd.prog))) (hL.dom 47 rfl rfl) Tryd.func47 (by kernel_rfl) ?_ (aS.de _)
  unfold dashS
  by_cases e:s=emp
  · rw [if_pos e]
    exact (f47_P0 s X _ 0).1 (by unfold f47_q0; rw [show (s.toList == (ByteArray.mk #[]).toList)=true from eqB_iff.2 e])
  · rw [if_neg e]
    exact (f47_P0 s X _ 0).2 (by unfold f47_q0; rw [show (s.toList == (ByteArray.mk #[]).toList)=false from eqB_ne.2 e])
theorem call56 (hX:ExtOk Tryd.prog X) (hL:XL X) (s:ByteArray):CallAt Tryd.prog 56 [aS.enc s] [] 0 (aS.enc (undashS s)) []:=by
  refine run_res (B:=aS) (lf:=0) (fg:=noFg) (σ' := []) (r:=st (undashS s)) hX (callerOf_ok (SpecOk.none' (P:=Tryd.prog))) (hL.dom 56 rfl rfl) Tryd.func56 (by kernel_rfl) ?_ (aS.de _)
  unfold undashS
  by_cases e:s=⟨#[45]⟩
  · rw [if_pos e]
    exact (f56_P0 s X _ 0).1 (by unfold f56_q0; rw [show (s.toList == (ByteArray.mk #[45]).toList)=true from eqB_iff.2 e])
  · rw [if_neg e]
    exact (f56_P0 s X _ 0).2 (by unfold f56_q0; rw [show (s.toList == (ByteArray.mk #[45]).toList)=false from eqB_ne.2 e])
end
end Go.Proofs.Lex
end
/- Lexicon: join: the parts that are not empty, where the last alone may be. -/
section
set_option linter.unusedVariables false
open Go Go.Vm Go.Proofs
open Go.RowKit
namespace Go.Proofs.Lex
section
variable [Fixed] {X:Ext}
def C00:Ctx:=⟨[],fun _=>0,fun _=>0,fun _=>False⟩
theorem C00_ok {C:Ctx} {w:World} (hs:SOk C w):SOk C00 w :=
  ⟨fun id o h=>by simp [C00] at h,fun i j oi oj h=>by simp [C00] at h,fun id o h=>by simp [C00] at h,fun id o h=>by simp [C00] at h,fun b h=>h.elim,fun b X hX=>⟨(hs.fx b X hX).1,fun id o h=>by simp [C00] at h⟩⟩
/-- The world behind a call that makes memory alone. -/
structure More (w w' : World):Prop where
  os:w'.os=w.os
  tape:w'.tape=w.tape
  output:w'.output=w.output
  size:w.heap.size ≤ w'.heap.size
  blk:∀ x,x < w.heap.size→w'.heap[x]? = w.heap[x]?
theorem more_of {w w' : World} {C' : Ctx} (hg:Grow 0 C00 w C' w'):More w w' :=
  ⟨hg.os,hg.tape,hg.output,hg.size,fun x hx=>hg.blk x hx fun id o _ h=>by simp [C00] at h⟩
theorem strs_at {w:World} {b:Nat} {l:List ByteArray} (hb:w.heap[b]? = some (.cells (l.map Value.string).toArray 9 (0,0))) (hl:l.length ≤ big):Rep C00 w (Go.Vm.strs l) (.slice (some ⟨b,0,none⟩) l.length l.length):=by
  unfold Go.Vm.strs
  simp only [Rep]
  refine ⟨by simp,one_strs _,some ⟨b,0,none⟩,l.length,rfl,Nat.le_refl _,?_,by simp,by simp,fun _ => ?_⟩
  · have : l.length ≤ 140737488355328 := hl
    show _ ≤ maxLen
    unfold maxLen
    omega
  · refine ⟨b, 0, l.map Value.string, rfl, (Array.getElem?_eq_some_iff.1 hb).1, ?_, ?_, plainA.all C00 _ l⟩
    · rintro (h | ⟨id, o, h, _⟩)
      · exact h
      · simp [C00] at h
    · intro i x hi
      rw [Lib.cell_of_heap hb]
      simpa using hi
theorem idx_calls (hX:ExtOk Tryd.prog X) (hL:XL X) {C:Ctx} {w:World} (hs:SOk C w) {b:Nat} {l:List ByteArray} (hb:w.heap[b]? = some (.cells (l.map Value.string).toArray 9 (0,0))) (hl:l.length ≤ big) :
    Calls Tryd.prog 109 #[.slice (some ⟨b,0,none⟩) l.length l.length,.func (.func 77) #[] #[]] w fun e w' => e = .returned (.int .i64 (idxE l))∧More w w' := by
  have h := (call109 hX hL hl).2 C00 w [.slice (some ⟨b, 0, none⟩) l.length l.length, .func (.func 77) #[] #[]] rfl (C00_ok hs) (Nat.le_refl _) (by
    simp only [RepAll,and_true]
    refine ⟨strs_at hb hl,?_⟩
    simp only [Rep]
    exact ⟨[],rfl,by simp only [RepAll]⟩)
  refine Calls.mono h ?_
  rintro e w' ⟨u,C',rfl,_,_,hg,hr,_⟩
  have hr:Rep C' w' (.int .i64 (idxE l)) u:=hr
  simp only [Rep] at hr
  subst hr
  exact ⟨rfl,more_of hg⟩
theorem idx5_none {a c d e t:ByteArray} (ha:a ≠ emp) (hc:c ≠ emp) (hd:d ≠ emp) (he:e ≠ emp) (ht:t ≠ emp):idxE [a,c,d,e,t] = -1 :=
  idxE_none (by simp [ha,hc,hd,he,ht])
theorem idx5_four {a c d e:ByteArray} (ha:a ≠ emp) (hc:c ≠ emp) (hd:d ≠ emp) (he:e ≠ emp):idxE [a,c,d,e,emp]=4 :=
  idxE_some (k := 4) (by simp) rfl (fun i hi => by
    match i,hi with
    | 0,_=>exact ha
    | 1,_=>exact hc
    | 2,_=>exact hd
    | 3,_=>exact he)
theorem del76_full (hX:ExtOk Tryd.prog X) (hL:XL X) {C:Ctx} {w:World} (hs:SOk C w) {b:Nat} {a c d e t:ByteArray} (hb:w.heap[b]? = some (.cells ([a,c,d,e,t].map Value.string).toArray 9 (0,0)))
    (ha:a ≠ emp) (hc:c ≠ emp) (hd:d ≠ emp) (he:e ≠ emp) (ht:t ≠ emp) :
    Calls Tryd.prog 76 #[.slice (some ⟨b,0,none⟩) 5 5,.func (.func 77) #[] #[]] w fun x w' => x = .returned (.slice (some ⟨b,0,none⟩) 5 5)∧More w w' := by
  have hi:=idx_calls hX hL hs hb (show 5 ≤ big by decide)
  rw [idx5_none ha hc hd he ht] at hi
  have hi' : Calls Tryd.prog 109 #[.slice (some ⟨b,0,none⟩) 5 5,.func (.func 77) #[] #[]] w fun e w' => e = .returned (.int .i64 (-1))∧More w w' := hi
  clear hi hX hL hs ha hc hd he ht hb
  go_enter Tryd.func76,Tryd.ntmps76
  go_wp2_with (go_at_call 109; refine hi'.mono ?_; rintro e w1 ⟨rfl,h1⟩)
  go_ret
  exact ⟨rfl,h1⟩
theorem More.trans {w1 w2 w3:World} (h:More w1 w2) (k:More w2 w3):More w1 w3 :=
  ⟨k.os.trans h.os,k.tape.trans h.tape,k.output.trans h.output,Nat.le_trans h.size k.size,fun x hx=>(k.blk x (Nat.lt_of_lt_of_le hx h.size)).trans (h.blk x hx)⟩
theorem More.drew {w1 w2:World} (h:More w1 w2):More w1 w2.drew:=⟨h.os,h.tape,h.output,h.size,h.blk⟩
/-- What lies there, laid there again. -/
theorem put_same {w:World} {b:Nat} {us:Array Value} {e:TypeId} {k:Nat} {v:Value} (hb:w.heap[b]? = some (.cells us e (0,0))) (hk:us[k]? = some v):More w (w.setCell ⟨b,k,none⟩ v):=by
  refine ⟨rfl,rfl,rfl,by simp [World.setCell],fun x hx => ?_⟩
  by_cases h:x=b
  · subst h
    simp only [World.setCell,Array.getElem?_modify,if_true,hb,Option.map_some]
    obtain ⟨hlt,rfl⟩:=Array.getElem?_eq_some_iff.1 hk
    congr 2
    show us.setIfInBounds k us[k]=us
    apply Array.ext (by simp)
    intro i h1 h2
    rw [Array.getElem_setIfInBounds h2]
    split
    · rename_i h
      subst h
      rfl
    · rfl
  · exact Below.heap_setCell _ _ _ _ h
theorem del76_last (hX:ExtOk Tryd.prog X) (hL:XL X) {C:Ctx} {w:World} (hs:SOk C w) {b:Nat} {a c d e:ByteArray} (hb:w.heap[b]? = some (.cells ([a,c,d,e,emp].map Value.string).toArray 9 (0,0)))
    (ha:a ≠ emp) (hc:c ≠ emp) (hd:d ≠ emp) (he:e ≠ emp) :
    Calls Tryd.prog 76 #[.slice (some ⟨b,0,none⟩) 5 5,.func (.func 77) #[] #[]] w fun x w' => x = .returned (.slice (some ⟨b,0,none⟩) 4 5)∧More w w' := by
  have hi:=idx_calls hX hL hs hb (show 5 ≤ big by decide)
  rw [idx5_four ha hc hd he] at hi
  have hi' : Calls Tryd.prog 109 #[.slice (some ⟨b,0,none⟩) 5 5,.func (.func 77) #[] #[]] w fun e w' => e = .returned (.int .i64 4)∧More w w' := hi
  have hlt:=(Array.getElem?_eq_some_iff.1 hb).1
  have hcl : ∀ (w1 : World), More w w1 → ∀ ty, (Builtin.clear_ #[25] ty #[.slice (some ⟨b, 4, none⟩) 1 1]).run Tryd.prog w1 = .ok (.tuple #[]) (w1.setCell ⟨b, 4, none⟩ (.string emp)) ∧ More w (w1.setCell ⟨b, 4, none⟩ (.string emp)) := by
    intro w1 h1 ty
    have hb1:=(h1.blk b hlt).trans hb
    refine ⟨?_,h1.trans (put_same hb1 rfl)⟩
    have := Lib.run_clear_slice (P := Tryd.prog) w1 25 9 ty (.string emp) Tryd.underlying25 (fun w => by kernel_rfl) rfl rfl b 4 1 1 (by omega) (fun j hj => by
      have:j=0:=by omega
      subst this
      rw [Lib.cell_of_heap hb1]
      rfl) (fun j hj=>Lib.frozen_of_heap hb1 _)
    rw [this]
    rfl
  clear hi hX hL hs ha hc hd he hb
  go_enter Tryd.func76,Tryd.ntmps76
  go_wp2_with (go_at_call 109; refine hi'.mono ?_; rintro e w1 ⟨rfl,h1⟩)
  go_loop [5,6] (fun x y=>x = .int .i64 4∧y = .int .i64 5) (fun _ _=>0)
  case atStart=>exact ⟨rfl,rfl⟩
  case round =>
    obtain ⟨rfl,rfl⟩:=hrel
    obtain ⟨e1,h2⟩:=hcl w1 h1 0
    go_wp2
    go_ret
    exact ⟨rfl,h2⟩
abbrev blank:ByteArray:=⟨#[32]⟩
/-- The parts of a line that are there. -/
def partsL (a c d e t:ByteArray):List ByteArray:=if t=emp then [a,c,d,e] else [a,c,d,e,t]
theorem join_calls {w w1:World} (h:More w w1) {b n:Nat} {us:List Value} {e:TypeId} {l:List ByteArray} (hb:w.heap[b]? = some (.cells us.toArray e (0,0))) (hn:0 < l.length) (hl:l.length ≤ 5) (hu:∀ (j:Nat) x,l[j]? = some x→us[j]? = some (.string x)) (hj:(joinB l blank).length ≤ 140737488355328) :
    Calls Tryd.prog 55 #[.slice (some ⟨b,0,none⟩) l.length 5,.string blank] w1 fun e w' => e = .returned (.string ⟨(joinB l blank).toArray⟩)∧More w w' := by
  have hlt:=(Array.getElem?_eq_some_iff.1 hb).1
  have hb1:=(h.blk b hlt).trans hb
  refine Calls.mono (Any.strings_Join Tryd.laysJoin Tryd.joinExtra b 0 5 l blank w1 (fun j x hx => ?_) (Nat.lt_of_lt_of_le hlt h.size) (by omega) hl hj) ?_
  · rw [Lib.cell_of_heap hb1, Nat.zero_add]
    simpa using hu j x hx
  · rintro e w' ⟨rfl, hb⟩
    exact ⟨rfl,h.trans ⟨hb.os,hb.tape,hb.output,hb.size,fun x hx=>hb.block x hx⟩⟩
theorem join46 (hX:ExtOk Tryd.prog X) (hL:XL X) {C:Ctx} {w:World} (hs:SOk C w) {b:Nat} {a c d e t:ByteArray} (hb:w.heap[b]? = some (.cells ([a,c,d,e,t].map Value.string).toArray 9 (0,0)))
    (ha:a ≠ emp) (hc:c ≠ emp) (hd:d ≠ emp) (he:e ≠ emp) (hj:(joinB (partsL a c d e t) blank).length ≤ 140737488355328) :
    Calls Tryd.prog 46 #[.slice (some ⟨b,0,none⟩) 5 5] w fun x w' => x = .returned (.string ⟨(joinB (partsL a c d e t) blank).toArray⟩)∧More w w' := by
  by_cases ht:t=emp
  · subst ht
    have hp:partsL a c d e emp=[a,c,d,e]:=if_pos rfl
    rw [hp] at hj ⊢
    have h1:=del76_last hX hL hs hb ha hc hd he
    have h2 : ∀ w1, More w w1 → Calls Tryd.prog 55 #[.slice (some ⟨b, 0, none⟩) 4 5, .string blank] w1 fun e' w' => e' = .returned (.string ⟨(joinB [a, c, d, e] blank).toArray⟩) ∧ More w w' := fun w1 hm =>
      join_calls (n := 0) (l := [a, c, d, e]) hm hb (by simp) (by simp) (fun j x hx => by
        match j,hx with
        | 0,hx=>simpa using hx
        | 1,hx=>simpa using hx
        | 2,hx=>simpa using hx
        | 3,hx=>simpa using hx
        | n + 4,hx=>simp at hx) hj
    clear hX hL hs ha hc hd he hj hb hp
    generalize hJ:(joinB [a,c,d,e] blank).toArray=J at h2 ⊢
    clear hJ
    go_enter Tryd.func46,Tryd.ntmps46
    go_wp2_with (first | (go_at_call 76; refine h1.mono ?_; rintro e w1 ⟨rfl,hm1⟩) | (go_at_call 55; refine (h2 _ hm1).mono ?_; rintro e w2 ⟨rfl,hm2⟩))
    go_ret
    exact ⟨rfl,hm2⟩
  · have hp : partsL a c d e t = [a, c, d, e, t] := if_neg ht
    rw [hp] at hj ⊢
    have h1:=del76_full hX hL hs hb ha hc hd he ht
    have h2 : ∀ w1, More w w1 → Calls Tryd.prog 55 #[.slice (some ⟨b, 0, none⟩) 5 5, .string blank] w1 fun e' w' => e' = .returned (.string ⟨(joinB [a, c, d, e, t] blank).toArray⟩) ∧ More w w' := fun w1 hm =>
      join_calls (n := 0) (l := [a, c, d, e, t]) hm hb (by simp) (by simp) (fun j x hx => by
        rw [List.getElem?_map,hx]; rfl) hj
    clear hX hL hs ha hc hd he ht hj hb hp
    generalize hJ:(joinB [a,c,d,e,t] blank).toArray=J at h2 ⊢
    clear hJ
    go_enter Tryd.func46,Tryd.ntmps46
    go_wp2_with (first | (go_at_call 76; refine h1.mono ?_; rintro e w1 ⟨rfl,hm1⟩) | (go_at_call 55; refine (h2 _ hm1).mono ?_; rintro e w2 ⟨rfl,hm2⟩))
    go_ret
    exact ⟨rfl,hm2⟩
end
end Go.Proofs.Lex
end
/- Lexicon: names and records, as specifications. -/
section
open Go Go.Vm Go.Proofs
namespace Go.Proofs.Lex
/-- A function of one argument, where it is told. -/
def s1 [Fixed] {α β:Type} (A:Arg α) (B:Arg β) (g:α→β) (ok:α→Prop) [DecidablePred ok]:List AV→Option AV:=sp1 A fun x=>if ok x then some (B.enc (g x)) else none
section
variable [Fixed] {α β:Type} {A:Arg α} {B:Arg β} {g:α→β} {ok:α→Prop} [DecidablePred ok]
theorem s1_at {x:α} (h:ok x):s1 A B g ok [A.enc x]=some (B.enc (g x)):=by
  unfold s1
  rw [sp1_at (A.de _),if_pos h]
theorem SpecOk.s1 {T:Go.Vm.Spec} (hT:SpecOk Tryd.prog T) {f:FuncId} (h:∀ x,ok x→CallAt Tryd.prog f [A.enc x] [] 0 (B.enc (g x)) []):SpecOk Tryd.prog (T.on f (s1 A B g ok)):=by
  refine SpecOk.on1 hT fun x r hr => ?_
  split at hr
  · rename_i hx
    simp only [Option.some.injEq] at hr
    subst hr
    exact h x hx
  · cases hr
end
/-- Features that a machine can bear. -/
abbrev okF (F:List Feat):Prop:=F.length ≤ big∧∀ f ∈ F,f.name.size ≤ big∧f.value.size ≤ big
section
variable [Fixed] {X:Ext}
abbrev okS (s:ByteArray):Prop:=s.size ≤ big
theorem call43 (hX:ExtOk Tryd.prog X) (hL:XL X) {s:ByteArray} (h:okS s):CallAt Tryd.prog 43 [aS.enc s] [] 0 (aB.enc (nameL s)) [] :=
  run_res (B:=aB) hX (callerOf_ok (SpecOk.none' (P:=Tryd.prog))) (hL.dom 43 rfl rfl) Tryd.func43 (by kernel_rfl) (name43 (lf:=s.size + 1) h (by omega)) (aB.de _)
theorem call75 (hX:ExtOk Tryd.prog X) (hL:XL X) {s:ByteArray} (h:okS s):CallAt Tryd.prog 75 [aS.enc s] [] 0 (aB.enc (nameF s)) [] :=
  run_res (B:=aB) hX (callerOf_ok (SpecOk.none' (P:=Tryd.prog))) (hL.dom 75 rfl rfl) Tryd.func75 (by kernel_rfl) (name75 (lf:=s.size + 1) h (by omega)) (aB.de _)
def U0:Go.Vm.Spec:=(Go.Vm.Spec.on (fun _ _=>none) 43 (s1 aS aB nameL okS)).on 75 (s1 aS aB nameF okS)
theorem U0_ok (hX:ExtOk Tryd.prog X) (hL:XL X):SpecOk Tryd.prog U0 :=
  SpecOk.s1 (SpecOk.s1 SpecOk.none' fun _ h=>call43 hX hL h) fun _ h=>call75 hX hL h
theorem okF_nth {F:List Feat} (h:okF F) {i:Nat} (hi:i < F.length):okS (nF F i).name∧okS (nF F i).value:=by
  have:=h.2 (nF F i) (by rw [nF,getD_lt hi]; exact List.getElem_mem hi)
  exact this
theorem call45 (hX:ExtOk Tryd.prog X) (hL:XL X) {F:List Feat} (h:okF F):CallAt Tryd.prog 45 [aFs.enc F] [] 0 (aB.enc (validF F)) []:=by
  have hC:=callerOf_ok (U0_ok hX hL)
  obtain ⟨a1,a2,a3⟩:=hL.ok 75 rfl
  have hc : ∀ s, okS s → ∀ σ, callv X (callerOf U0) true 75 [st s] σ 0 = some (bo (nameF s), σ) := fun s hs σ =>
    call_on (B:=aB) (T:=U0) (y:=nameF s) (vs:=[aS.enc s]) a1 a2 a3 rfl (s1_at (A:=aS) (B:=aB) (g:=nameF) (ok:=okS) hs)
  obtain ⟨σ,hv⟩:=valid45 (X:=X) (call:=callerOf U0) (lf:=F.length + 1) h.1 (by omega) fun i hi σ=>⟨hc _ (okF_nth h hi).1 σ,hc _ (okF_nth h hi).2 σ⟩
  exact run_res (B:=aB) hX hC (hL.dom 45 rfl rfl) Tryd.func45 (by kernel_rfl) hv (aB.de _)
/-- Texts that a machine can bear. -/
abbrev okT (F:List Feat):Prop:=F.length ≤ big∧(textF F).length * 2 ≤ big
def textS (F:List Feat):ByteArray:=⟨(textF F).toArray⟩
def U1:Go.Vm.Spec:=(((U0.on 45 (s1 aFs aB validF okF)).on 47 (s1 aS aS dashS fun _=>True)).on 56 (s1 aS aS undashS fun _=>True)).on 48 (s1 aFs aS textS okT)
theorem U1_ok (hX:ExtOk Tryd.prog X) (hL:XL X):SpecOk Tryd.prog U1 :=
  SpecOk.s1 (SpecOk.s1 (SpecOk.s1 (SpecOk.s1 (U0_ok hX hL) fun _ h=>call45 hX hL h) fun s _=>call47 hX hL s) fun s _=>call56 hX hL s) fun _ h=>call48 hX hL h.1 h.2
end
end Go.Proofs.Lex
end
/- Lexicon: Line (printed) -/
section
open Go Go.Vm Go.Proofs
namespace Go.Proofs.Lex
/-- Line, cut: its last region without the call of join. -/
def cutF (fn:Func):Func := { fn with body:=some (.seq (regN fn 0) (.seq (regN fn 1) (.seq (.region 3 ((opsF fn 3).extract 0 13) true) .ret))) }
def f21c_S0 (x1:Lexm):St :=
  stOf 60 [] [(0,AV.agg [st (Lexm.id x1),st (Lexm.cat x1),st (Lexm.stem x1),st (Lexm.par x1),lro (List.length (Lexm.feats x1)) 2 (List.flatMap featC (Lexm.feats x1))]),(1,AV.ref 0 0),(2,st (ByteArray.mk #[]))] [Ob.cells [st (Lexm.id x1),st (Lexm.cat x1),st (Lexm.stem x1),st (Lexm.par x1),lro (List.length (Lexm.feats x1)) 2 (List.flatMap featC (Lexm.feats x1))]]
theorem f21c_g1_fft (x1:Lexm)(X:Ext)(call:Caller)(lf:Nat)
 (h0:callv X call false 43 [st (Lexm.id x1)] [Ob.cells [st (Lexm.id x1),st (Lexm.cat x1),st (Lexm.stem x1),st (Lexm.par x1),lro (List.length (Lexm.feats x1)) 2 (List.flatMap featC (Lexm.feats x1))]] 0=some (bo true,[Ob.cells [st (Lexm.id x1),st (Lexm.cat x1),st (Lexm.stem x1),st (Lexm.par x1),lro (List.length (Lexm.feats x1)) 2 (List.flatMap featC (Lexm.feats x1))]]))
 (h1:callv X call false 43 [st (Lexm.cat x1)] [Ob.cells [st (Lexm.id x1),st (Lexm.cat x1),st (Lexm.stem x1),st (Lexm.par x1),lro (List.length (Lexm.feats x1)) 2 (List.flatMap featC (Lexm.feats x1))]] 0=some (bo true,[Ob.cells [st (Lexm.id x1),st (Lexm.cat x1),st (Lexm.stem x1),st (Lexm.par x1),lro (List.length (Lexm.feats x1)) 2 (List.flatMap featC (Lexm.feats x1))]]))
 (h2:(ByteArray.toList (Lexm.stem x1) == ByteArray.toList (ByteArray.mk #[45]))=false)
 (h3:callv X call false 44 [st (Lexm.stem x1),st (ByteArray.mk #[32,10])] [Ob.cells [st (Lexm.id x1),st (Lexm.cat x1),st (Lexm.stem x1),st (Lexm.par x1),lro (List.length (Lexm.feats x1)) 2 (List.flatMap featC (Lexm.feats x1))]] 0=some (bo false,[Ob.cells [st (Lexm.id x1),st (Lexm.cat x1),st (Lexm.stem x1),st (Lexm.par x1),lro (List.length (Lexm.feats x1)) 2 (List.flatMap featC (Lexm.feats x1))]]))
 (h4:(ByteArray.toList (Lexm.par x1) == ByteArray.toList (ByteArray.mk #[45]))=false)
 (h5:(!ByteArray.toList (Lexm.par x1) == ByteArray.toList (ByteArray.mk #[]))=true)
 (h6:callv X call false 43 [st (Lexm.par x1)] [Ob.cells [st (Lexm.id x1),st (Lexm.cat x1),st (Lexm.stem x1),st (Lexm.par x1),lro (List.length (Lexm.feats x1)) 2 (List.flatMap featC (Lexm.feats x1))]] 0=some (bo true,[Ob.cells [st (Lexm.id x1),st (Lexm.cat x1),st (Lexm.stem x1),st (Lexm.par x1),lro (List.length (Lexm.feats x1)) 2 (List.flatMap featC (Lexm.feats x1))]]))
 (h7:callv X call false 45 [lro (List.length (Lexm.feats x1)) 2 (List.flatMap featC (Lexm.feats x1))] [Ob.cells [st (Lexm.id x1),st (Lexm.cat x1),st (Lexm.stem x1),st (Lexm.par x1),lro (List.length (Lexm.feats x1)) 2 (List.flatMap featC (Lexm.feats x1))]] 0=some (bo true,[Ob.cells [st (Lexm.id x1),st (Lexm.cat x1),st (Lexm.stem x1),st (Lexm.par x1),lro (List.length (Lexm.feats x1)) 2 (List.flatMap featC (Lexm.feats x1))]])):vexec Tryd.prog X call lf 0 noFg (regN (cutF Tryd.f21) 1) (f21c_S0 x1)=some (Ex.normal,stOf 60 [] [(0,AV.agg [st (Lexm.id x1),st (Lexm.cat x1),st (Lexm.stem x1),st (Lexm.par x1),lro (List.length (Lexm.feats x1)) 2 (List.flatMap featC (Lexm.feats x1))]),(1,AV.ref 0 0),(2,st (ByteArray.mk #[])),(3,AV.ref 0 0),(4,st (Lexm.id x1)),(5,bo true),(6,bo false),(7,bo false),(8,AV.ref 0 1),(9,st (Lexm.cat x1)),(10,bo true),(11,bo false),(12,bo false),(13,bo false),(14,AV.ref 0 2),(15,st (Lexm.stem x1)),(16,bo false),(17,bo false),(18,bo false),(19,AV.ref 0 2),(20,st (Lexm.stem x1)),(21,bo false),(22,bo false),(23,bo false),(24,AV.ref 0 3),(25,st (Lexm.par x1)),(26,bo false),(27,bo false),(28,bo false),(29,AV.ref 0 3),(30,st (Lexm.par x1)),(31,bo true),(32,bo true),(33,AV.ref 0 3),(34,st (Lexm.par x1)),(35,bo true),(36,bo false),(37,bo false),(38,bo false),(39,bo false),(40,AV.ref 0 4),(41,lro (List.length (Lexm.feats x1)) 2 (List.flatMap featC (Lexm.feats x1))),(42,bo true),(43,bo false),(44,bo false)] [Ob.cells [st (Lexm.id x1),st (Lexm.cat x1),st (Lexm.stem x1),st (Lexm.par x1),lro (List.length (Lexm.feats x1)) 2 (List.flatMap featC (Lexm.feats x1))]]) :=
  around_sound (ans:=[(3,Ans.v (bo true)),(11,Ans.v (bo true)),(21,Ans.b false),(29,Ans.v (bo false)),(37,Ans.b false),(45,Ans.b true),(53,Ans.v (bo true)),(65,Ans.v (bo true))]) (by kernel_rfl) (ai h0 (ai h1 (ai h2 (ai h3 (ai h4 (ai h5 (ai h6 (ai h7 trivial))))))))
theorem f21c_g1_fff (x1:Lexm)(X:Ext)(call:Caller)(lf:Nat)
 (h0:callv X call false 43 [st (Lexm.id x1)] [Ob.cells [st (Lexm.id x1),st (Lexm.cat x1),st (Lexm.stem x1),st (Lexm.par x1),lro (List.length (Lexm.feats x1)) 2 (List.flatMap featC (Lexm.feats x1))]] 0=some (bo true,[Ob.cells [st (Lexm.id x1),st (Lexm.cat x1),st (Lexm.stem x1),st (Lexm.par x1),lro (List.length (Lexm.feats x1)) 2 (List.flatMap featC (Lexm.feats x1))]]))
 (h1:callv X call false 43 [st (Lexm.cat x1)] [Ob.cells [st (Lexm.id x1),st (Lexm.cat x1),st (Lexm.stem x1),st (Lexm.par x1),lro (List.length (Lexm.feats x1)) 2 (List.flatMap featC (Lexm.feats x1))]] 0=some (bo true,[Ob.cells [st (Lexm.id x1),st (Lexm.cat x1),st (Lexm.stem x1),st (Lexm.par x1),lro (List.length (Lexm.feats x1)) 2 (List.flatMap featC (Lexm.feats x1))]]))
 (h2:(ByteArray.toList (Lexm.stem x1) == ByteArray.toList (ByteArray.mk #[45]))=false)
 (h3:callv X call false 44 [st (Lexm.stem x1),st (ByteArray.mk #[32,10])] [Ob.cells [st (Lexm.id x1),st (Lexm.cat x1),st (Lexm.stem x1),st (Lexm.par x1),lro (List.length (Lexm.feats x1)) 2 (List.flatMap featC (Lexm.feats x1))]] 0=some (bo false,[Ob.cells [st (Lexm.id x1),st (Lexm.cat x1),st (Lexm.stem x1),st (Lexm.par x1),lro (List.length (Lexm.feats x1)) 2 (List.flatMap featC (Lexm.feats x1))]]))
 (h4:(ByteArray.toList (Lexm.par x1) == ByteArray.toList (ByteArray.mk #[45]))=false)
 (h5:(!ByteArray.toList (Lexm.par x1) == ByteArray.toList (ByteArray.mk #[]))=false)
 (h6:callv X call false 45 [lro (List.length (Lexm.feats x1)) 2 (List.flatMap featC (Lexm.feats x1))] [Ob.cells [st (Lexm.id x1),st (Lexm.cat x1),st (Lexm.stem x1),st (Lexm.par x1),lro (List.length (Lexm.feats x1)) 2 (List.flatMap featC (Lexm.feats x1))]] 0=some (bo true,[Ob.cells [st (Lexm.id x1),st (Lexm.cat x1),st (Lexm.stem x1),st (Lexm.par x1),lro (List.length (Lexm.feats x1)) 2 (List.flatMap featC (Lexm.feats x1))]])):vexec Tryd.prog X call lf 0 noFg (regN (cutF Tryd.f21) 1) (f21c_S0 x1)=some (Ex.normal,stOf 60 [] [(0,AV.agg [st (Lexm.id x1),st (Lexm.cat x1),st (Lexm.stem x1),st (Lexm.par x1),lro (List.length (Lexm.feats x1)) 2 (List.flatMap featC (Lexm.feats x1))]),(1,AV.ref 0 0),(2,st (ByteArray.mk #[])),(3,AV.ref 0 0),(4,st (Lexm.id x1)),(5,bo true),(6,bo false),(7,bo false),(8,AV.ref 0 1),(9,st (Lexm.cat x1)),(10,bo true),(11,bo false),(12,bo false),(13,bo false),(14,AV.ref 0 2),(15,st (Lexm.stem x1)),(16,bo false),(17,bo false),(18,bo false),(19,AV.ref 0 2),(20,st (Lexm.stem x1)),(21,bo false),(22,bo false),(23,bo false),(24,AV.ref 0 3),(25,st (Lexm.par x1)),(26,bo false),(27,bo false),(28,bo false),(29,AV.ref 0 3),(30,st (Lexm.par x1)),(31,bo false),(32,bo false),(37,bo false),(38,bo false),(39,bo false),(40,AV.ref 0 4),(41,lro (List.length (Lexm.feats x1)) 2 (List.flatMap featC (Lexm.feats x1))),(42,bo true),(43,bo false),(44,bo false)] [Ob.cells [st (Lexm.id x1),st (Lexm.cat x1),st (Lexm.stem x1),st (Lexm.par x1),lro (List.length (Lexm.feats x1)) 2 (List.flatMap featC (Lexm.feats x1))]]) :=
  around_sound (ans:=[(3,Ans.v (bo true)),(11,Ans.v (bo true)),(21,Ans.b false),(29,Ans.v (bo false)),(37,Ans.b false),(45,Ans.b false),(61,Ans.v (bo true))]) (by kernel_rfl) (ai h0 (ai h1 (ai h2 (ai h3 (ai h4 (ai h5 (ai h6 trivial)))))))
def f21c_S1 (x1:Lexm):St :=
  stOf 60 [3,4,5,6,7,8,9,10,11,12,13,14,15,16,17,18,19,20,21,22,23,24,25,26,27,28,29,30,31,32,33,34,35,36,37,38,39,40,41,42,43] [(0,AV.agg [st (Lexm.id x1),st (Lexm.cat x1),st (Lexm.stem x1),st (Lexm.par x1),lro (List.length (Lexm.feats x1)) 2 (List.flatMap featC (Lexm.feats x1))]),(1,AV.ref 0 0),(2,st (ByteArray.mk #[])),(44,bo false)] [Ob.cells [st (Lexm.id x1),st (Lexm.cat x1),st (Lexm.stem x1),st (Lexm.par x1),lro (List.length (Lexm.feats x1)) 2 (List.flatMap featC (Lexm.feats x1))]]
theorem f21c_g3_ (x1:Lexm)(X:Ext)(call:Caller)(lf:Nat)(x51 x54 x57:ByteArray)
 (h0:callv X call true 47 [st (Lexm.stem x1)] [Ob.cells [st (Lexm.id x1),st (Lexm.cat x1),st (Lexm.stem x1),st (Lexm.par x1),lro (List.length (Lexm.feats x1)) 2 (List.flatMap featC (Lexm.feats x1))]] 0=some (st x51,[Ob.cells [st (Lexm.id x1),st (Lexm.cat x1),st (Lexm.stem x1),st (Lexm.par x1),lro (List.length (Lexm.feats x1)) 2 (List.flatMap featC (Lexm.feats x1))]]))
 (h1:callv X call true 47 [st (Lexm.par x1)] [Ob.cells [st (Lexm.id x1),st (Lexm.cat x1),st (Lexm.stem x1),st (Lexm.par x1),lro (List.length (Lexm.feats x1)) 2 (List.flatMap featC (Lexm.feats x1))]] 0=some (st x54,[Ob.cells [st (Lexm.id x1),st (Lexm.cat x1),st (Lexm.stem x1),st (Lexm.par x1),lro (List.length (Lexm.feats x1)) 2 (List.flatMap featC (Lexm.feats x1))]]))
 (h2:callv X call true 48 [lro (List.length (Lexm.feats x1)) 2 (List.flatMap featC (Lexm.feats x1))] [Ob.cells [st (Lexm.id x1),st (Lexm.cat x1),st (Lexm.stem x1),st (Lexm.par x1),lro (List.length (Lexm.feats x1)) 2 (List.flatMap featC (Lexm.feats x1))]] 0=some (st x57,[Ob.cells [st (Lexm.id x1),st (Lexm.cat x1),st (Lexm.stem x1),st (Lexm.par x1),lro (List.length (Lexm.feats x1)) 2 (List.flatMap featC (Lexm.feats x1))]])):vexec Tryd.prog X call lf 0 noFg (regN (cutF Tryd.f21) 3) (f21c_S1 x1)=some (Ex.normal,stOf 60 [3,4,5,6,7,8,9,10,11,12,13,14,15,16,17,18,19,20,21,22,23,24,25,26,27,28,29,30,31,32,33,34,35,36,37,38,39,40,41,42,43] [(0,AV.agg [st (Lexm.id x1),st (Lexm.cat x1),st (Lexm.stem x1),st (Lexm.par x1),lro (List.length (Lexm.feats x1)) 2 (List.flatMap featC (Lexm.feats x1))]),(1,AV.ref 0 0),(2,st (ByteArray.mk #[])),(44,bo false),(45,AV.ref 0 0),(46,st (Lexm.id x1)),(47,AV.ref 0 1),(48,st (Lexm.cat x1)),(49,AV.ref 0 2),(50,st (Lexm.stem x1)),(51,st x51),(52,AV.ref 0 3),(53,st (Lexm.par x1)),(54,st x54),(55,AV.ref 0 4),(56,lro (List.length (Lexm.feats x1)) 2 (List.flatMap featC (Lexm.feats x1))),(57,st x57)] [Ob.cells [st (Lexm.id x1),st (Lexm.cat x1),st (Lexm.stem x1),st (Lexm.par x1),lro (List.length (Lexm.feats x1)) 2 (List.flatMap featC (Lexm.feats x1))]]) :=
  around_sound (ans:=[(7,Ans.v (st x51)),(10,Ans.v (st x54)),(13,Ans.v (st x57))]) (by kernel_rfl) (ai h0 (ai h1 (ai h2 trivial)))
theorem f21_pttt (x1:Lexm)(X:Ext)(call:Caller)(lf:Nat)
 (h0:callv X call false 43 [st (Lexm.id x1)] [Ob.cells [st (Lexm.id x1),st (Lexm.cat x1),st (Lexm.stem x1),st (Lexm.par x1),lro (List.length (Lexm.feats x1)) 2 (List.flatMap featC (Lexm.feats x1))]] 0=some (bo true,[Ob.cells [st (Lexm.id x1),st (Lexm.cat x1),st (Lexm.stem x1),st (Lexm.par x1),lro (List.length (Lexm.feats x1)) 2 (List.flatMap featC (Lexm.feats x1))]]))
 (h1:callv X call false 43 [st (Lexm.cat x1)] [Ob.cells [st (Lexm.id x1),st (Lexm.cat x1),st (Lexm.stem x1),st (Lexm.par x1),lro (List.length (Lexm.feats x1)) 2 (List.flatMap featC (Lexm.feats x1))]] 0=some (bo true,[Ob.cells [st (Lexm.id x1),st (Lexm.cat x1),st (Lexm.stem x1),st (Lexm.par x1),lro (List.length (Lexm.feats x1)) 2 (List.flatMap featC (Lexm.feats x1))]]))
 (h2:(ByteArray.toList (Lexm.stem x1) == ByteArray.toList (ByteArray.mk #[45]))=true):vbody Tryd.prog X call lf noFg Tryd.f21 (codeOf Tryd.f21) [AV.agg (lexC x1)] [] 0=some (st (ByteArray.mk #[]),[Ob.cells [st (Lexm.id x1),st (Lexm.cat x1),st (Lexm.stem x1),st (Lexm.par x1),lro (List.length (Lexm.feats x1)) 2 (List.flatMap featC (Lexm.feats x1))]]) :=
  along_sound (ans:=[(6,Ans.v (bo true)),(14,Ans.v (bo true)),(24,Ans.b true)]) (by kernel_rfl) (ai h0 (ai h1 (ai h2 trivial)))
theorem f21_pttft (x1:Lexm)(X:Ext)(call:Caller)(lf:Nat)
 (h0:callv X call false 43 [st (Lexm.id x1)] [Ob.cells [st (Lexm.id x1),st (Lexm.cat x1),st (Lexm.stem x1),st (Lexm.par x1),lro (List.length (Lexm.feats x1)) 2 (List.flatMap featC (Lexm.feats x1))]] 0=some (bo true,[Ob.cells [st (Lexm.id x1),st (Lexm.cat x1),st (Lexm.stem x1),st (Lexm.par x1),lro (List.length (Lexm.feats x1)) 2 (List.flatMap featC (Lexm.feats x1))]]))
 (h1:callv X call false 43 [st (Lexm.cat x1)] [Ob.cells [st (Lexm.id x1),st (Lexm.cat x1),st (Lexm.stem x1),st (Lexm.par x1),lro (List.length (Lexm.feats x1)) 2 (List.flatMap featC (Lexm.feats x1))]] 0=some (bo true,[Ob.cells [st (Lexm.id x1),st (Lexm.cat x1),st (Lexm.stem x1),st (Lexm.par x1),lro (List.length (Lexm.feats x1)) 2 (List.flatMap featC (Lexm.feats x1))]]))
 (h2:(ByteArray.toList (Lexm.stem x1) == ByteArray.toList (ByteArray.mk #[45]))=false)
 (h3:callv X call false 44 [st (Lexm.stem x1),st (ByteArray.mk #[32,10])] [Ob.cells [st (Lexm.id x1),st (Lexm.cat x1),st (Lexm.stem x1),st (Lexm.par x1),lro (List.length (Lexm.feats x1)) 2 (List.flatMap featC (Lexm.feats x1))]] 0=some (bo true,[Ob.cells [st (Lexm.id x1),st (Lexm.cat x1),st (Lexm.stem x1),st (Lexm.par x1),lro (List.length (Lexm.feats x1)) 2 (List.flatMap featC (Lexm.feats x1))]])):vbody Tryd.prog X call lf noFg Tryd.f21 (codeOf Tryd.f21) [AV.agg (lexC x1)] [] 0=some (st (ByteArray.mk #[]),[Ob.cells [st (Lexm.id x1),st (Lexm.cat x1),st (Lexm.stem x1),st (Lexm.par x1),lro (List.length (Lexm.feats x1)) 2 (List.flatMap featC (Lexm.feats x1))]]) :=
  along_sound (ans:=[(6,Ans.v (bo true)),(14,Ans.v (bo true)),(24,Ans.b false),(32,Ans.v (bo true))]) (by kernel_rfl) (ai h0 (ai h1 (ai h2 (ai h3 trivial))))
theorem f21_pttfft (x1:Lexm)(X:Ext)(call:Caller)(lf:Nat)
 (h0:callv X call false 43 [st (Lexm.id x1)] [Ob.cells [st (Lexm.id x1),st (Lexm.cat x1),st (Lexm.stem x1),st (Lexm.par x1),lro (List.length (Lexm.feats x1)) 2 (List.flatMap featC (Lexm.feats x1))]] 0=some (bo true,[Ob.cells [st (Lexm.id x1),st (Lexm.cat x1),st (Lexm.stem x1),st (Lexm.par x1),lro (List.length (Lexm.feats x1)) 2 (List.flatMap featC (Lexm.feats x1))]]))
 (h1:callv X call false 43 [st (Lexm.cat x1)] [Ob.cells [st (Lexm.id x1),st (Lexm.cat x1),st (Lexm.stem x1),st (Lexm.par x1),lro (List.length (Lexm.feats x1)) 2 (List.flatMap featC (Lexm.feats x1))]] 0=some (bo true,[Ob.cells [st (Lexm.id x1),st (Lexm.cat x1),st (Lexm.stem x1),st (Lexm.par x1),lro (List.length (Lexm.feats x1)) 2 (List.flatMap featC (Lexm.feats x1))]]))
 (h2:(ByteArray.toList (Lexm.stem x1) == ByteArray.toList (ByteArray.mk #[45]))=false)
 (h3:callv X call false 44 [st (Lexm.stem x1),st (ByteArray.mk #[32,10])] [Ob.cells [st (Lexm.id x1),st (Lexm.cat x1),st (Lexm.stem x1),st (Lexm.par x1),lro (List.length (Lexm.feats x1)) 2 (List.flatMap featC (Lexm.feats x1))]] 0=some (bo false,[Ob.cells [st (Lexm.id x1),st (Lexm.cat x1),st (Lexm.stem x1),st (Lexm.par x1),lro (List.length (Lexm.feats x1)) 2 (List.flatMap featC (Lexm.feats x1))]]))
 (h4:(ByteArray.toList (Lexm.par x1) == ByteArray.toList (ByteArray.mk #[45]))=true):vbody Tryd.prog X call lf noFg Tryd.f21 (codeOf Tryd.f21) [AV.agg (lexC x1)] [] 0=some (st (ByteArray.mk #[]),[Ob.cells [st (Lexm.id x1),st (Lexm.cat x1),st (Lexm.stem x1),st (Lexm.par x1),lro (List.length (Lexm.feats x1)) 2 (List.flatMap featC (Lexm.feats x1))]]) :=
  along_sound (ans:=[(6,Ans.v (bo true)),(14,Ans.v (bo true)),(24,Ans.b false),(32,Ans.v (bo false)),(40,Ans.b true)]) (by kernel_rfl) (ai h0 (ai h1 (ai h2 (ai h3 (ai h4 trivial)))))
theorem f21_pttfffttt (x1:Lexm)(X:Ext)(call:Caller)(lf:Nat)(x51 x54 x57 x59:ByteArray)
 (h0:callv X call false 43 [st (Lexm.id x1)] [Ob.cells [st (Lexm.id x1),st (Lexm.cat x1),st (Lexm.stem x1),st (Lexm.par x1),lro (List.length (Lexm.feats x1)) 2 (List.flatMap featC (Lexm.feats x1))]] 0=some (bo true,[Ob.cells [st (Lexm.id x1),st (Lexm.cat x1),st (Lexm.stem x1),st (Lexm.par x1),lro (List.length (Lexm.feats x1)) 2 (List.flatMap featC (Lexm.feats x1))]]))
 (h1:callv X call false 43 [st (Lexm.cat x1)] [Ob.cells [st (Lexm.id x1),st (Lexm.cat x1),st (Lexm.stem x1),st (Lexm.par x1),lro (List.length (Lexm.feats x1)) 2 (List.flatMap featC (Lexm.feats x1))]] 0=some (bo true,[Ob.cells [st (Lexm.id x1),st (Lexm.cat x1),st (Lexm.stem x1),st (Lexm.par x1),lro (List.length (Lexm.feats x1)) 2 (List.flatMap featC (Lexm.feats x1))]]))
 (h2:(ByteArray.toList (Lexm.stem x1) == ByteArray.toList (ByteArray.mk #[45]))=false)
 (h3:callv X call false 44 [st (Lexm.stem x1),st (ByteArray.mk #[32,10])] [Ob.cells [st (Lexm.id x1),st (Lexm.cat x1),st (Lexm.stem x1),st (Lexm.par x1),lro (List.length (Lexm.feats x1)) 2 (List.flatMap featC (Lexm.feats x1))]] 0=some (bo false,[Ob.cells [st (Lexm.id x1),st (Lexm.cat x1),st (Lexm.stem x1),st (Lexm.par x1),lro (List.length (Lexm.feats x1)) 2 (List.flatMap featC (Lexm.feats x1))]]))
 (h4:(ByteArray.toList (Lexm.par x1) == ByteArray.toList (ByteArray.mk #[45]))=false)
 (h5:(!ByteArray.toList (Lexm.par x1) == ByteArray.toList (ByteArray.mk #[]))=true)
 (h6:callv X call false 43 [st (Lexm.par x1)] [Ob.cells [st (Lexm.id x1),st (Lexm.cat x1),st (Lexm.stem x1),st (Lexm.par x1),lro (List.length (Lexm.feats x1)) 2 (List.flatMap featC (Lexm.feats x1))]] 0=some (bo true,[Ob.cells [st (Lexm.id x1),st (Lexm.cat x1),st (Lexm.stem x1),st (Lexm.par x1),lro (List.length (Lexm.feats x1)) 2 (List.flatMap featC (Lexm.feats x1))]]))
 (h7:callv X call false 45 [lro (List.length (Lexm.feats x1)) 2 (List.flatMap featC (Lexm.feats x1))] [Ob.cells [st (Lexm.id x1),st (Lexm.cat x1),st (Lexm.stem x1),st (Lexm.par x1),lro (List.length (Lexm.feats x1)) 2 (List.flatMap featC (Lexm.feats x1))]] 0=some (bo true,[Ob.cells [st (Lexm.id x1),st (Lexm.cat x1),st (Lexm.stem x1),st (Lexm.par x1),lro (List.length (Lexm.feats x1)) 2 (List.flatMap featC (Lexm.feats x1))]]))
 (h8:callv X call true 47 [st (Lexm.stem x1)] [Ob.cells [st (Lexm.id x1),st (Lexm.cat x1),st (Lexm.stem x1),st (Lexm.par x1),lro (List.length (Lexm.feats x1)) 2 (List.flatMap featC (Lexm.feats x1))]] 0=some (st x51,[Ob.cells [st (Lexm.id x1),st (Lexm.cat x1),st (Lexm.stem x1),st (Lexm.par x1),lro (List.length (Lexm.feats x1)) 2 (List.flatMap featC (Lexm.feats x1))]]))
 (h9:callv X call true 47 [st (Lexm.par x1)] [Ob.cells [st (Lexm.id x1),st (Lexm.cat x1),st (Lexm.stem x1),st (Lexm.par x1),lro (List.length (Lexm.feats x1)) 2 (List.flatMap featC (Lexm.feats x1))]] 0=some (st x54,[Ob.cells [st (Lexm.id x1),st (Lexm.cat x1),st (Lexm.stem x1),st (Lexm.par x1),lro (List.length (Lexm.feats x1)) 2 (List.flatMap featC (Lexm.feats x1))]]))
 (h10:callv X call true 48 [lro (List.length (Lexm.feats x1)) 2 (List.flatMap featC (Lexm.feats x1))] [Ob.cells [st (Lexm.id x1),st (Lexm.cat x1),st (Lexm.stem x1),st (Lexm.par x1),lro (List.length (Lexm.feats x1)) 2 (List.flatMap featC (Lexm.feats x1))]] 0=some (st x57,[Ob.cells [st (Lexm.id x1),st (Lexm.cat x1),st (Lexm.stem x1),st (Lexm.par x1),lro (List.length (Lexm.feats x1)) 2 (List.flatMap featC (Lexm.feats x1))]]))
 (h11:callv X call true 46 [AV.list LK.clip 5 1 [st (Lexm.id x1),st (Lexm.cat x1),st x51,st x54,st x57]] [Ob.cells [st (Lexm.id x1),st (Lexm.cat x1),st (Lexm.stem x1),st (Lexm.par x1),lro (List.length (Lexm.feats x1)) 2 (List.flatMap featC (Lexm.feats x1))]] 0=some (st x59,[Ob.cells [st (Lexm.id x1),st (Lexm.cat x1),st (Lexm.stem x1),st (Lexm.par x1),lro (List.length (Lexm.feats x1)) 2 (List.flatMap featC (Lexm.feats x1))]])):vbody Tryd.prog X call lf noFg Tryd.f21 (codeOf Tryd.f21) [AV.agg (lexC x1)] [] 0=some (st x59,[Ob.cells [st (Lexm.id x1),st (Lexm.cat x1),st (Lexm.stem x1),st (Lexm.par x1),lro (List.length (Lexm.feats x1)) 2 (List.flatMap featC (Lexm.feats x1))]]) :=
  along_sound (ans:=[(6,Ans.v (bo true)),(14,Ans.v (bo true)),(24,Ans.b false),(32,Ans.v (bo false)),(40,Ans.b false),(48,Ans.b true),(56,Ans.v (bo true)),(68,Ans.v (bo true)),(80,Ans.v (st x51)),(83,Ans.v (st x54)),(86,Ans.v (st x57)),(88,Ans.v (st x59))]) (by kernel_rfl) (ai h0 (ai h1 (ai h2 (ai h3 (ai h4 (ai h5 (ai h6 (ai h7 (ai h8 (ai h9 (ai h10 (ai h11 trivial))))))))))))
theorem f21_pttfffttf (x1:Lexm)(X:Ext)(call:Caller)(lf:Nat)
 (h0:callv X call false 43 [st (Lexm.id x1)] [Ob.cells [st (Lexm.id x1),st (Lexm.cat x1),st (Lexm.stem x1),st (Lexm.par x1),lro (List.length (Lexm.feats x1)) 2 (List.flatMap featC (Lexm.feats x1))]] 0=some (bo true,[Ob.cells [st (Lexm.id x1),st (Lexm.cat x1),st (Lexm.stem x1),st (Lexm.par x1),lro (List.length (Lexm.feats x1)) 2 (List.flatMap featC (Lexm.feats x1))]]))
 (h1:callv X call false 43 [st (Lexm.cat x1)] [Ob.cells [st (Lexm.id x1),st (Lexm.cat x1),st (Lexm.stem x1),st (Lexm.par x1),lro (List.length (Lexm.feats x1)) 2 (List.flatMap featC (Lexm.feats x1))]] 0=some (bo true,[Ob.cells [st (Lexm.id x1),st (Lexm.cat x1),st (Lexm.stem x1),st (Lexm.par x1),lro (List.length (Lexm.feats x1)) 2 (List.flatMap featC (Lexm.feats x1))]]))
 (h2:(ByteArray.toList (Lexm.stem x1) == ByteArray.toList (ByteArray.mk #[45]))=false)
 (h3:callv X call false 44 [st (Lexm.stem x1),st (ByteArray.mk #[32,10])] [Ob.cells [st (Lexm.id x1),st (Lexm.cat x1),st (Lexm.stem x1),st (Lexm.par x1),lro (List.length (Lexm.feats x1)) 2 (List.flatMap featC (Lexm.feats x1))]] 0=some (bo false,[Ob.cells [st (Lexm.id x1),st (Lexm.cat x1),st (Lexm.stem x1),st (Lexm.par x1),lro (List.length (Lexm.feats x1)) 2 (List.flatMap featC (Lexm.feats x1))]]))
 (h4:(ByteArray.toList (Lexm.par x1) == ByteArray.toList (ByteArray.mk #[45]))=false)
 (h5:(!ByteArray.toList (Lexm.par x1) == ByteArray.toList (ByteArray.mk #[]))=true)
 (h6:callv X call false 43 [st (Lexm.par x1)] [Ob.cells [st (Lexm.id x1),st (Lexm.cat x1),st (Lexm.stem x1),st (Lexm.par x1),lro (List.length (Lexm.feats x1)) 2 (List.flatMap featC (Lexm.feats x1))]] 0=some (bo true,[Ob.cells [st (Lexm.id x1),st (Lexm.cat x1),st (Lexm.stem x1),st (Lexm.par x1),lro (List.length (Lexm.feats x1)) 2 (List.flatMap featC (Lexm.feats x1))]]))
 (h7:callv X call false 45 [lro (List.length (Lexm.feats x1)) 2 (List.flatMap featC (Lexm.feats x1))] [Ob.cells [st (Lexm.id x1),st (Lexm.cat x1),st (Lexm.stem x1),st (Lexm.par x1),lro (List.length (Lexm.feats x1)) 2 (List.flatMap featC (Lexm.feats x1))]] 0=some (bo false,[Ob.cells [st (Lexm.id x1),st (Lexm.cat x1),st (Lexm.stem x1),st (Lexm.par x1),lro (List.length (Lexm.feats x1)) 2 (List.flatMap featC (Lexm.feats x1))]])):vbody Tryd.prog X call lf noFg Tryd.f21 (codeOf Tryd.f21) [AV.agg (lexC x1)] [] 0=some (st (ByteArray.mk #[]),[Ob.cells [st (Lexm.id x1),st (Lexm.cat x1),st (Lexm.stem x1),st (Lexm.par x1),lro (List.length (Lexm.feats x1)) 2 (List.flatMap featC (Lexm.feats x1))]]) :=
  along_sound (ans:=[(6,Ans.v (bo true)),(14,Ans.v (bo true)),(24,Ans.b false),(32,Ans.v (bo false)),(40,Ans.b false),(48,Ans.b true),(56,Ans.v (bo true)),(68,Ans.v (bo false))]) (by kernel_rfl) (ai h0 (ai h1 (ai h2 (ai h3 (ai h4 (ai h5 (ai h6 (ai h7 trivial))))))))
theorem f21_pttffftf (x1:Lexm)(X:Ext)(call:Caller)(lf:Nat)
 (h0:callv X call false 43 [st (Lexm.id x1)] [Ob.cells [st (Lexm.id x1),st (Lexm.cat x1),st (Lexm.stem x1),st (Lexm.par x1),lro (List.length (Lexm.feats x1)) 2 (List.flatMap featC (Lexm.feats x1))]] 0=some (bo true,[Ob.cells [st (Lexm.id x1),st (Lexm.cat x1),st (Lexm.stem x1),st (Lexm.par x1),lro (List.length (Lexm.feats x1)) 2 (List.flatMap featC (Lexm.feats x1))]]))
 (h1:callv X call false 43 [st (Lexm.cat x1)] [Ob.cells [st (Lexm.id x1),st (Lexm.cat x1),st (Lexm.stem x1),st (Lexm.par x1),lro (List.length (Lexm.feats x1)) 2 (List.flatMap featC (Lexm.feats x1))]] 0=some (bo true,[Ob.cells [st (Lexm.id x1),st (Lexm.cat x1),st (Lexm.stem x1),st (Lexm.par x1),lro (List.length (Lexm.feats x1)) 2 (List.flatMap featC (Lexm.feats x1))]]))
 (h2:(ByteArray.toList (Lexm.stem x1) == ByteArray.toList (ByteArray.mk #[45]))=false)
 (h3:callv X call false 44 [st (Lexm.stem x1),st (ByteArray.mk #[32,10])] [Ob.cells [st (Lexm.id x1),st (Lexm.cat x1),st (Lexm.stem x1),st (Lexm.par x1),lro (List.length (Lexm.feats x1)) 2 (List.flatMap featC (Lexm.feats x1))]] 0=some (bo false,[Ob.cells [st (Lexm.id x1),st (Lexm.cat x1),st (Lexm.stem x1),st (Lexm.par x1),lro (List.length (Lexm.feats x1)) 2 (List.flatMap featC (Lexm.feats x1))]]))
 (h4:(ByteArray.toList (Lexm.par x1) == ByteArray.toList (ByteArray.mk #[45]))=false)
 (h5:(!ByteArray.toList (Lexm.par x1) == ByteArray.toList (ByteArray.mk #[]))=true)
 (h6:callv X call false 43 [st (Lexm.par x1)] [Ob.cells [st (Lexm.id x1),st (Lexm.cat x1),st (Lexm.stem x1),st (Lexm.par x1),lro (List.length (Lexm.feats x1)) 2 (List.flatMap featC (Lexm.feats x1))]] 0=some (bo false,[Ob.cells [st (Lexm.id x1),st (Lexm.cat x1),st (Lexm.stem x1),st (Lexm.par x1),lro (List.length (Lexm.feats x1)) 2 (List.flatMap featC (Lexm.feats x1))]])):vbody Tryd.prog X call lf noFg Tryd.f21 (codeOf Tryd.f21) [AV.agg (lexC x1)] [] 0=some (st (ByteArray.mk #[]),[Ob.cells [st (Lexm.id x1),st (Lexm.cat x1),st (Lexm.stem x1),st (Lexm.par x1),lro (List.length (Lexm.feats x1)) 2 (List.flatMap featC (Lexm.feats x1))]]) :=
  along_sound (ans:=[(6,Ans.v (bo true)),(14,Ans.v (bo true)),(24,Ans.b false),(32,Ans.v (bo false)),(40,Ans.b false),(48,Ans.b true),(56,Ans.v (bo false))]) (by kernel_rfl) (ai h0 (ai h1 (ai h2 (ai h3 (ai h4 (ai h5 (ai h6 trivial)))))))
theorem f21_pttfffft (x1:Lexm)(X:Ext)(call:Caller)(lf:Nat)(x51 x54 x57 x59:ByteArray)
 (h0:callv X call false 43 [st (Lexm.id x1)] [Ob.cells [st (Lexm.id x1),st (Lexm.cat x1),st (Lexm.stem x1),st (Lexm.par x1),lro (List.length (Lexm.feats x1)) 2 (List.flatMap featC (Lexm.feats x1))]] 0=some (bo true,[Ob.cells [st (Lexm.id x1),st (Lexm.cat x1),st (Lexm.stem x1),st (Lexm.par x1),lro (List.length (Lexm.feats x1)) 2 (List.flatMap featC (Lexm.feats x1))]]))
 (h1:callv X call false 43 [st (Lexm.cat x1)] [Ob.cells [st (Lexm.id x1),st (Lexm.cat x1),st (Lexm.stem x1),st (Lexm.par x1),lro (List.length (Lexm.feats x1)) 2 (List.flatMap featC (Lexm.feats x1))]] 0=some (bo true,[Ob.cells [st (Lexm.id x1),st (Lexm.cat x1),st (Lexm.stem x1),st (Lexm.par x1),lro (List.length (Lexm.feats x1)) 2 (List.flatMap featC (Lexm.feats x1))]]))
 (h2:(ByteArray.toList (Lexm.stem x1) == ByteArray.toList (ByteArray.mk #[45]))=false)
 (h3:callv X call false 44 [st (Lexm.stem x1),st (ByteArray.mk #[32,10])] [Ob.cells [st (Lexm.id x1),st (Lexm.cat x1),st (Lexm.stem x1),st (Lexm.par x1),lro (List.length (Lexm.feats x1)) 2 (List.flatMap featC (Lexm.feats x1))]] 0=some (bo false,[Ob.cells [st (Lexm.id x1),st (Lexm.cat x1),st (Lexm.stem x1),st (Lexm.par x1),lro (List.length (Lexm.feats x1)) 2 (List.flatMap featC (Lexm.feats x1))]]))
 (h4:(ByteArray.toList (Lexm.par x1) == ByteArray.toList (ByteArray.mk #[45]))=false)
 (h5:(!ByteArray.toList (Lexm.par x1) == ByteArray.toList (ByteArray.mk #[]))=false)
 (h6:callv X call false 45 [lro (List.length (Lexm.feats x1)) 2 (List.flatMap featC (Lexm.feats x1))] [Ob.cells [st (Lexm.id x1),st (Lexm.cat x1),st (Lexm.stem x1),st (Lexm.par x1),lro (List.length (Lexm.feats x1)) 2 (List.flatMap featC (Lexm.feats x1))]] 0=some (bo true,[Ob.cells [st (Lexm.id x1),st (Lexm.cat x1),st (Lexm.stem x1),st (Lexm.par x1),lro (List.length (Lexm.feats x1)) 2 (List.flatMap featC (Lexm.feats x1))]]))
 (h7:callv X call true 47 [st (Lexm.stem x1)] [Ob.cells [st (Lexm.id x1),st (Lexm.cat x1),st (Lexm.stem x1),st (Lexm.par x1),lro (List.length (Lexm.feats x1)) 2 (List.flatMap featC (Lexm.feats x1))]] 0=some (st x51,[Ob.cells [st (Lexm.id x1),st (Lexm.cat x1),st (Lexm.stem x1),st (Lexm.par x1),lro (List.length (Lexm.feats x1)) 2 (List.flatMap featC (Lexm.feats x1))]]))
 (h8:callv X call true 47 [st (Lexm.par x1)] [Ob.cells [st (Lexm.id x1),st (Lexm.cat x1),st (Lexm.stem x1),st (Lexm.par x1),lro (List.length (Lexm.feats x1)) 2 (List.flatMap featC (Lexm.feats x1))]] 0=some (st x54,[Ob.cells [st (Lexm.id x1),st (Lexm.cat x1),st (Lexm.stem x1),st (Lexm.par x1),lro (List.length (Lexm.feats x1)) 2 (List.flatMap featC (Lexm.feats x1))]]))
 (h9:callv X call true 48 [lro (List.length (Lexm.feats x1)) 2 (List.flatMap featC (Lexm.feats x1))] [Ob.cells [st (Lexm.id x1),st (Lexm.cat x1),st (Lexm.stem x1),st (Lexm.par x1),lro (List.length (Lexm.feats x1)) 2 (List.flatMap featC (Lexm.feats x1))]] 0=some (st x57,[Ob.cells [st (Lexm.id x1),st (Lexm.cat x1),st (Lexm.stem x1),st (Lexm.par x1),lro (List.length (Lexm.feats x1)) 2 (List.flatMap featC (Lexm.feats x1))]]))
 (h10:callv X call true 46 [AV.list LK.clip 5 1 [st (Lexm.id x1),st (Lexm.cat x1),st x51,st x54,st x57]] [Ob.cells [st (Lexm.id x1),st (Lexm.cat x1),st (Lexm.stem x1),st (Lexm.par x1),lro (List.length (Lexm.feats x1)) 2 (List.flatMap featC (Lexm.feats x1))]] 0=some (st x59,[Ob.cells [st (Lexm.id x1),st (Lexm.cat x1),st (Lexm.stem x1),st (Lexm.par x1),lro (List.length (Lexm.feats x1)) 2 (List.flatMap featC (Lexm.feats x1))]])):vbody Tryd.prog X call lf noFg Tryd.f21 (codeOf Tryd.f21) [AV.agg (lexC x1)] [] 0=some (st x59,[Ob.cells [st (Lexm.id x1),st (Lexm.cat x1),st (Lexm.stem x1),st (Lexm.par x1),lro (List.length (Lexm.feats x1)) 2 (List.flatMap featC (Lexm.feats x1))]]) :=
  along_sound (ans:=[(6,Ans.v (bo true)),(14,Ans.v (bo true)),(24,Ans.b false),(32,Ans.v (bo false)),(40,Ans.b false),(48,Ans.b false),(64,Ans.v (bo true)),(76,Ans.v (st x51)),(79,Ans.v (st x54)),(82,Ans.v (st x57)),(84,Ans.v (st x59))]) (by kernel_rfl) (ai h0 (ai h1 (ai h2 (ai h3 (ai h4 (ai h5 (ai h6 (ai h7 (ai h8 (ai h9 (ai h10 trivial)))))))))))
theorem f21_pttfffff (x1:Lexm)(X:Ext)(call:Caller)(lf:Nat)
 (h0:callv X call false 43 [st (Lexm.id x1)] [Ob.cells [st (Lexm.id x1),st (Lexm.cat x1),st (Lexm.stem x1),st (Lexm.par x1),lro (List.length (Lexm.feats x1)) 2 (List.flatMap featC (Lexm.feats x1))]] 0=some (bo true,[Ob.cells [st (Lexm.id x1),st (Lexm.cat x1),st (Lexm.stem x1),st (Lexm.par x1),lro (List.length (Lexm.feats x1)) 2 (List.flatMap featC (Lexm.feats x1))]]))
 (h1:callv X call false 43 [st (Lexm.cat x1)] [Ob.cells [st (Lexm.id x1),st (Lexm.cat x1),st (Lexm.stem x1),st (Lexm.par x1),lro (List.length (Lexm.feats x1)) 2 (List.flatMap featC (Lexm.feats x1))]] 0=some (bo true,[Ob.cells [st (Lexm.id x1),st (Lexm.cat x1),st (Lexm.stem x1),st (Lexm.par x1),lro (List.length (Lexm.feats x1)) 2 (List.flatMap featC (Lexm.feats x1))]]))
 (h2:(ByteArray.toList (Lexm.stem x1) == ByteArray.toList (ByteArray.mk #[45]))=false)
 (h3:callv X call false 44 [st (Lexm.stem x1),st (ByteArray.mk #[32,10])] [Ob.cells [st (Lexm.id x1),st (Lexm.cat x1),st (Lexm.stem x1),st (Lexm.par x1),lro (List.length (Lexm.feats x1)) 2 (List.flatMap featC (Lexm.feats x1))]] 0=some (bo false,[Ob.cells [st (Lexm.id x1),st (Lexm.cat x1),st (Lexm.stem x1),st (Lexm.par x1),lro (List.length (Lexm.feats x1)) 2 (List.flatMap featC (Lexm.feats x1))]]))
 (h4:(ByteArray.toList (Lexm.par x1) == ByteArray.toList (ByteArray.mk #[45]))=false)
 (h5:(!ByteArray.toList (Lexm.par x1) == ByteArray.toList (ByteArray.mk #[]))=false)
 (h6:callv X call false 45 [lro (List.length (Lexm.feats x1)) 2 (List.flatMap featC (Lexm.feats x1))] [Ob.cells [st (Lexm.id x1),st (Lexm.cat x1),st (Lexm.stem x1),st (Lexm.par x1),lro (List.length (Lexm.feats x1)) 2 (List.flatMap featC (Lexm.feats x1))]] 0=some (bo false,[Ob.cells [st (Lexm.id x1),st (Lexm.cat x1),st (Lexm.stem x1),st (Lexm.par x1),lro (List.length (Lexm.feats x1)) 2 (List.flatMap featC (Lexm.feats x1))]])):vbody Tryd.prog X call lf noFg Tryd.f21 (codeOf Tryd.f21) [AV.agg (lexC x1)] [] 0=some (st (ByteArray.mk #[]),[Ob.cells [st (Lexm.id x1),st (Lexm.cat x1),st (Lexm.stem x1),st (Lexm.par x1),lro (List.length (Lexm.feats x1)) 2 (List.flatMap featC (Lexm.feats x1))]]) :=
  along_sound (ans:=[(6,Ans.v (bo true)),(14,Ans.v (bo true)),(24,Ans.b false),(32,Ans.v (bo false)),(40,Ans.b false),(48,Ans.b false),(64,Ans.v (bo false))]) (by kernel_rfl) (ai h0 (ai h1 (ai h2 (ai h3 (ai h4 (ai h5 (ai h6 trivial)))))))
theorem f21_ptf (x1:Lexm)(X:Ext)(call:Caller)(lf:Nat)
 (h0:callv X call false 43 [st (Lexm.id x1)] [Ob.cells [st (Lexm.id x1),st (Lexm.cat x1),st (Lexm.stem x1),st (Lexm.par x1),lro (List.length (Lexm.feats x1)) 2 (List.flatMap featC (Lexm.feats x1))]] 0=some (bo true,[Ob.cells [st (Lexm.id x1),st (Lexm.cat x1),st (Lexm.stem x1),st (Lexm.par x1),lro (List.length (Lexm.feats x1)) 2 (List.flatMap featC (Lexm.feats x1))]]))
 (h1:callv X call false 43 [st (Lexm.cat x1)] [Ob.cells [st (Lexm.id x1),st (Lexm.cat x1),st (Lexm.stem x1),st (Lexm.par x1),lro (List.length (Lexm.feats x1)) 2 (List.flatMap featC (Lexm.feats x1))]] 0=some (bo false,[Ob.cells [st (Lexm.id x1),st (Lexm.cat x1),st (Lexm.stem x1),st (Lexm.par x1),lro (List.length (Lexm.feats x1)) 2 (List.flatMap featC (Lexm.feats x1))]])):vbody Tryd.prog X call lf noFg Tryd.f21 (codeOf Tryd.f21) [AV.agg (lexC x1)] [] 0=some (st (ByteArray.mk #[]),[Ob.cells [st (Lexm.id x1),st (Lexm.cat x1),st (Lexm.stem x1),st (Lexm.par x1),lro (List.length (Lexm.feats x1)) 2 (List.flatMap featC (Lexm.feats x1))]]) :=
  along_sound (ans:=[(6,Ans.v (bo true)),(14,Ans.v (bo false))]) (by kernel_rfl) (ai h0 (ai h1 trivial))
theorem f21_pf (x1:Lexm)(X:Ext)(call:Caller)(lf:Nat)
 (h0:callv X call false 43 [st (Lexm.id x1)] [Ob.cells [st (Lexm.id x1),st (Lexm.cat x1),st (Lexm.stem x1),st (Lexm.par x1),lro (List.length (Lexm.feats x1)) 2 (List.flatMap featC (Lexm.feats x1))]] 0=some (bo false,[Ob.cells [st (Lexm.id x1),st (Lexm.cat x1),st (Lexm.stem x1),st (Lexm.par x1),lro (List.length (Lexm.feats x1)) 2 (List.flatMap featC (Lexm.feats x1))]])):vbody Tryd.prog X call lf noFg Tryd.f21 (codeOf Tryd.f21) [AV.agg (lexC x1)] [] 0=some (st (ByteArray.mk #[]),[Ob.cells [st (Lexm.id x1),st (Lexm.cat x1),st (Lexm.stem x1),st (Lexm.par x1),lro (List.length (Lexm.feats x1)) 2 (List.flatMap featC (Lexm.feats x1))]]) :=
  along_sound (ans:=[(6,Ans.v (bo false))]) (by kernel_rfl) (ai h0 trivial)
def f21_q0 (x1:Lexm)(b0 b1 b2 b3 b4 b5:Bool):Nat :=
  (match b0 with
  | true=>(match b1 with
    | true=>(match (ByteArray.toList (Lexm.stem x1) == ByteArray.toList (ByteArray.mk #[45])) with
      | true=>0
      | false=>(match b2 with
        | true=>0
        | false=>(match (ByteArray.toList (Lexm.par x1) == ByteArray.toList (ByteArray.mk #[45])) with
          | true=>0
          | false=>(match (!ByteArray.toList (Lexm.par x1) == ByteArray.toList (ByteArray.mk #[])) with
            | true=>(match b3 with
              | true=>(match b4 with
                | true=>1
                | false=>0)
              | false=>0)
            | false=>(match b5 with
              | true=>1
              | false=>0)))))
    | false=>0)
  | false=>0)
theorem f21_P0 (x1:Lexm)(X:Ext)(call:Caller)(lf:Nat)(x51 x54 x57 x59:ByteArray)(b0 b1 b2 b3 b4 b5:Bool)
 (g0:callv X call false 43 [st (Lexm.id x1)] [Ob.cells [st (Lexm.id x1),st (Lexm.cat x1),st (Lexm.stem x1),st (Lexm.par x1),lro (List.length (Lexm.feats x1)) 2 (List.flatMap featC (Lexm.feats x1))]] 0=some (bo b0,[Ob.cells [st (Lexm.id x1),st (Lexm.cat x1),st (Lexm.stem x1),st (Lexm.par x1),lro (List.length (Lexm.feats x1)) 2 (List.flatMap featC (Lexm.feats x1))]]))
 (g1:b0=true→callv X call false 43 [st (Lexm.cat x1)] [Ob.cells [st (Lexm.id x1),st (Lexm.cat x1),st (Lexm.stem x1),st (Lexm.par x1),lro (List.length (Lexm.feats x1)) 2 (List.flatMap featC (Lexm.feats x1))]] 0=some (bo b1,[Ob.cells [st (Lexm.id x1),st (Lexm.cat x1),st (Lexm.stem x1),st (Lexm.par x1),lro (List.length (Lexm.feats x1)) 2 (List.flatMap featC (Lexm.feats x1))]]))
 (g2:b0=true→b1=true→(ByteArray.toList (Lexm.stem x1) == ByteArray.toList (ByteArray.mk #[45]))=false→callv X call false 44 [st (Lexm.stem x1),st (ByteArray.mk #[32,10])] [Ob.cells [st (Lexm.id x1),st (Lexm.cat x1),st (Lexm.stem x1),st (Lexm.par x1),lro (List.length (Lexm.feats x1)) 2 (List.flatMap featC (Lexm.feats x1))]] 0=some (bo b2,[Ob.cells [st (Lexm.id x1),st (Lexm.cat x1),st (Lexm.stem x1),st (Lexm.par x1),lro (List.length (Lexm.feats x1)) 2 (List.flatMap featC (Lexm.feats x1))]]))
 (g3:b0=true→b1=true→(ByteArray.toList (Lexm.stem x1) == ByteArray.toList (ByteArray.mk #[45]))=false→b2=false→(ByteArray.toList (Lexm.par x1) == ByteArray.toList (ByteArray.mk #[45]))=false→(!ByteArray.toList (Lexm.par x1) == ByteArray.toList (ByteArray.mk #[]))=true→callv X call false 43 [st (Lexm.par x1)] [Ob.cells [st (Lexm.id x1),st (Lexm.cat x1),st (Lexm.stem x1),st (Lexm.par x1),lro (List.length (Lexm.feats x1)) 2 (List.flatMap featC (Lexm.feats x1))]] 0=some (bo b3,[Ob.cells [st (Lexm.id x1),st (Lexm.cat x1),st (Lexm.stem x1),st (Lexm.par x1),lro (List.length (Lexm.feats x1)) 2 (List.flatMap featC (Lexm.feats x1))]]))
 (g4:b0=true→b1=true→(ByteArray.toList (Lexm.stem x1) == ByteArray.toList (ByteArray.mk #[45]))=false→b2=false→(ByteArray.toList (Lexm.par x1) == ByteArray.toList (ByteArray.mk #[45]))=false→(!ByteArray.toList (Lexm.par x1) == ByteArray.toList (ByteArray.mk #[]))=true→b3=true→callv X call false 45 [lro (List.length (Lexm.feats x1)) 2 (List.flatMap featC (Lexm.feats x1))] [Ob.cells [st (Lexm.id x1),st (Lexm.cat x1),st (Lexm.stem x1),st (Lexm.par x1),lro (List.length (Lexm.feats x1)) 2 (List.flatMap featC (Lexm.feats x1))]] 0=some (bo b4,[Ob.cells [st (Lexm.id x1),st (Lexm.cat x1),st (Lexm.stem x1),st (Lexm.par x1),lro (List.length (Lexm.feats x1)) 2 (List.flatMap featC (Lexm.feats x1))]]))
 (g5:b0=true→b1=true→(ByteArray.toList (Lexm.stem x1) == ByteArray.toList (ByteArray.mk #[45]))=false→b2=false→(ByteArray.toList (Lexm.par x1) == ByteArray.toList (ByteArray.mk #[45]))=false→(!ByteArray.toList (Lexm.par x1) == ByteArray.toList (ByteArray.mk #[]))=true→b3=true→b4=true→callv X call true 47 [st (Lexm.stem x1)] [Ob.cells [st (Lexm.id x1),st (Lexm.cat x1),st (Lexm.stem x1),st (Lexm.par x1),lro (List.length (Lexm.feats x1)) 2 (List.flatMap featC (Lexm.feats x1))]] 0=some (st x51,[Ob.cells [st (Lexm.id x1),st (Lexm.cat x1),st (Lexm.stem x1),st (Lexm.par x1),lro (List.length (Lexm.feats x1)) 2 (List.flatMap featC (Lexm.feats x1))]]))
 (g6:b0=true→b1=true→(ByteArray.toList (Lexm.stem x1) == ByteArray.toList (ByteArray.mk #[45]))=false→b2=false→(ByteArray.toList (Lexm.par x1) == ByteArray.toList (ByteArray.mk #[45]))=false→(!ByteArray.toList (Lexm.par x1) == ByteArray.toList (ByteArray.mk #[]))=true→b3=true→b4=true→callv X call true 47 [st (Lexm.par x1)] [Ob.cells [st (Lexm.id x1),st (Lexm.cat x1),st (Lexm.stem x1),st (Lexm.par x1),lro (List.length (Lexm.feats x1)) 2 (List.flatMap featC (Lexm.feats x1))]] 0=some (st x54,[Ob.cells [st (Lexm.id x1),st (Lexm.cat x1),st (Lexm.stem x1),st (Lexm.par x1),lro (List.length (Lexm.feats x1)) 2 (List.flatMap featC (Lexm.feats x1))]]))
 (g7:b0=true→b1=true→(ByteArray.toList (Lexm.stem x1) == ByteArray.toList (ByteArray.mk #[45]))=false→b2=false→(ByteArray.toList (Lexm.par x1) == ByteArray.toList (ByteArray.mk #[45]))=false→(!ByteArray.toList (Lexm.par x1) == ByteArray.toList (ByteArray.mk #[]))=true→b3=true→b4=true→callv X call true 48 [lro (List.length (Lexm.feats x1)) 2 (List.flatMap featC (Lexm.feats x1))] [Ob.cells [st (Lexm.id x1),st (Lexm.cat x1),st (Lexm.stem x1),st (Lexm.par x1),lro (List.length (Lexm.feats x1)) 2 (List.flatMap featC (Lexm.feats x1))]] 0=some (st x57,[Ob.cells [st (Lexm.id x1),st (Lexm.cat x1),st (Lexm.stem x1),st (Lexm.par x1),lro (List.length (Lexm.feats x1)) 2 (List.flatMap featC (Lexm.feats x1))]]))
 (g8:b0=true→b1=true→(ByteArray.toList (Lexm.stem x1) == ByteArray.toList (ByteArray.mk #[45]))=false→b2=false→(ByteArray.toList (Lexm.par x1) == ByteArray.toList (ByteArray.mk #[45]))=false→(!ByteArray.toList (Lexm.par x1) == ByteArray.toList (ByteArray.mk #[]))=true→b3=true→b4=true→callv X call true 46 [AV.list LK.clip 5 1 [st (Lexm.id x1),st (Lexm.cat x1),st x51,st x54,st x57]] [Ob.cells [st (Lexm.id x1),st (Lexm.cat x1),st (Lexm.stem x1),st (Lexm.par x1),lro (List.length (Lexm.feats x1)) 2 (List.flatMap featC (Lexm.feats x1))]] 0=some (st x59,[Ob.cells [st (Lexm.id x1),st (Lexm.cat x1),st (Lexm.stem x1),st (Lexm.par x1),lro (List.length (Lexm.feats x1)) 2 (List.flatMap featC (Lexm.feats x1))]]))
 (g9:b0=true→b1=true→(ByteArray.toList (Lexm.stem x1) == ByteArray.toList (ByteArray.mk #[45]))=false→b2=false→(ByteArray.toList (Lexm.par x1) == ByteArray.toList (ByteArray.mk #[45]))=false→(!ByteArray.toList (Lexm.par x1) == ByteArray.toList (ByteArray.mk #[]))=false→callv X call false 45 [lro (List.length (Lexm.feats x1)) 2 (List.flatMap featC (Lexm.feats x1))] [Ob.cells [st (Lexm.id x1),st (Lexm.cat x1),st (Lexm.stem x1),st (Lexm.par x1),lro (List.length (Lexm.feats x1)) 2 (List.flatMap featC (Lexm.feats x1))]] 0=some (bo b5,[Ob.cells [st (Lexm.id x1),st (Lexm.cat x1),st (Lexm.stem x1),st (Lexm.par x1),lro (List.length (Lexm.feats x1)) 2 (List.flatMap featC (Lexm.feats x1))]]))
 (g10:b0=true→b1=true→(ByteArray.toList (Lexm.stem x1) == ByteArray.toList (ByteArray.mk #[45]))=false→b2=false→(ByteArray.toList (Lexm.par x1) == ByteArray.toList (ByteArray.mk #[45]))=false→(!ByteArray.toList (Lexm.par x1) == ByteArray.toList (ByteArray.mk #[]))=false→b5=true→callv X call true 47 [st (Lexm.stem x1)] [Ob.cells [st (Lexm.id x1),st (Lexm.cat x1),st (Lexm.stem x1),st (Lexm.par x1),lro (List.length (Lexm.feats x1)) 2 (List.flatMap featC (Lexm.feats x1))]] 0=some (st x51,[Ob.cells [st (Lexm.id x1),st (Lexm.cat x1),st (Lexm.stem x1),st (Lexm.par x1),lro (List.length (Lexm.feats x1)) 2 (List.flatMap featC (Lexm.feats x1))]]))
 (g11:b0=true→b1=true→(ByteArray.toList (Lexm.stem x1) == ByteArray.toList (ByteArray.mk #[45]))=false→b2=false→(ByteArray.toList (Lexm.par x1) == ByteArray.toList (ByteArray.mk #[45]))=false→(!ByteArray.toList (Lexm.par x1) == ByteArray.toList (ByteArray.mk #[]))=false→b5=true→callv X call true 47 [st (Lexm.par x1)] [Ob.cells [st (Lexm.id x1),st (Lexm.cat x1),st (Lexm.stem x1),st (Lexm.par x1),lro (List.length (Lexm.feats x1)) 2 (List.flatMap featC (Lexm.feats x1))]] 0=some (st x54,[Ob.cells [st (Lexm.id x1),st (Lexm.cat x1),st (Lexm.stem x1),st (Lexm.par x1),lro (List.length (Lexm.feats x1)) 2 (List.flatMap featC (Lexm.feats x1))]]))
 (g12:b0=true→b1=true→(ByteArray.toList (Lexm.stem x1) == ByteArray.toList (ByteArray.mk #[45]))=false→b2=false→(ByteArray.toList (Lexm.par x1) == ByteArray.toList (ByteArray.mk #[45]))=false→(!ByteArray.toList (Lexm.par x1) == ByteArray.toList (ByteArray.mk #[]))=false→b5=true→callv X call true 48 [lro (List.length (Lexm.feats x1)) 2 (List.flatMap featC (Lexm.feats x1))] [Ob.cells [st (Lexm.id x1),st (Lexm.cat x1),st (Lexm.stem x1),st (Lexm.par x1),lro (List.length (Lexm.feats x1)) 2 (List.flatMap featC (Lexm.feats x1))]] 0=some (st x57,[Ob.cells [st (Lexm.id x1),st (Lexm.cat x1),st (Lexm.stem x1),st (Lexm.par x1),lro (List.length (Lexm.feats x1)) 2 (List.flatMap featC (Lexm.feats x1))]]))
 (g13:b0=true→b1=true→(ByteArray.toList (Lexm.stem x1) == ByteArray.toList (ByteArray.mk #[45]))=false→b2=false→(ByteArray.toList (Lexm.par x1) == ByteArray.toList (ByteArray.mk #[45]))=false→(!ByteArray.toList (Lexm.par x1) == ByteArray.toList (ByteArray.mk #[]))=false→b5=true→callv X call true 46 [AV.list LK.clip 5 1 [st (Lexm.id x1),st (Lexm.cat x1),st x51,st x54,st x57]] [Ob.cells [st (Lexm.id x1),st (Lexm.cat x1),st (Lexm.stem x1),st (Lexm.par x1),lro (List.length (Lexm.feats x1)) 2 (List.flatMap featC (Lexm.feats x1))]] 0=some (st x59,[Ob.cells [st (Lexm.id x1),st (Lexm.cat x1),st (Lexm.stem x1),st (Lexm.par x1),lro (List.length (Lexm.feats x1)) 2 (List.flatMap featC (Lexm.feats x1))]])) :
    (f21_q0 x1 b0 b1 b2 b3 b4 b5=0→vbody Tryd.prog X call lf noFg Tryd.f21 (codeOf Tryd.f21) [AV.agg (lexC x1)] [] 0=some (st (ByteArray.mk #[]),[Ob.cells [st (Lexm.id x1),st (Lexm.cat x1),st (Lexm.stem x1),st (Lexm.par x1),lro (List.length (Lexm.feats x1)) 2 (List.flatMap featC (Lexm.feats x1))]]))∧(f21_q0 x1 b0 b1 b2 b3 b4 b5=1→vbody Tryd.prog X call lf noFg Tryd.f21 (codeOf Tryd.f21) [AV.agg (lexC x1)] [] 0=some (st x59,[Ob.cells [st (Lexm.id x1),st (Lexm.cat x1),st (Lexm.stem x1),st (Lexm.par x1),lro (List.length (Lexm.feats x1)) 2 (List.flatMap featC (Lexm.feats x1))]])):=by
  unfold f21_q0
  cases c0:b0 with
  | true =>
    cases c1:b1 with
    | true =>
      cases c2:(ByteArray.toList (Lexm.stem x1) == ByteArray.toList (ByteArray.mk #[45])) with
      | true =>
        exact ⟨fun _=>f21_pttt x1 X call lf (by rw [c0] at g0; exact g0) (by have:=(g1 c0); rw [c1] at this; exact this) c2,fun h=>absurd (show (0:Nat)=1 from h) (by decide)⟩
      | false =>
        cases c3:b2 with
        | true =>
          exact ⟨fun _=>f21_pttft x1 X call lf (by rw [c0] at g0; exact g0) (by have:=(g1 c0); rw [c1] at this; exact this) c2 (by have:=(g2 c0 c1 c2); rw [c3] at this; exact this),fun h=>absurd (show (0:Nat)=1 from h) (by decide)⟩
        | false =>
          cases c4:(ByteArray.toList (Lexm.par x1) == ByteArray.toList (ByteArray.mk #[45])) with
          | true =>
            exact ⟨fun _=>f21_pttfft x1 X call lf (by rw [c0] at g0; exact g0) (by have:=(g1 c0); rw [c1] at this; exact this) c2 (by have:=(g2 c0 c1 c2); rw [c3] at this; exact this) c4,fun h=>absurd (show (0:Nat)=1 from h) (by decide)⟩
          | false =>
            cases c5:(!ByteArray.toList (Lexm.par x1) == ByteArray.toList (ByteArray.mk #[])) with
            | true =>
              cases c6:b3 with
              | true =>
                cases c7:b4 with
                | true =>
                  exact ⟨fun h=>absurd (show (1:Nat)=0 from h) (by decide),fun _=>f21_pttfffttt x1 X call lf x51 x54 x57 x59 (by rw [c0] at g0; exact g0) (by have:=(g1 c0); rw [c1] at this; exact this) c2 (by have:=(g2 c0 c1 c2); rw [c3] at this; exact this) c4 c5 (by have:=(g3 c0 c1 c2 c3 c4 c5); rw [c6] at this; exact this) (by have:=(g4 c0 c1 c2 c3 c4 c5 c6); rw [c7] at this; exact this) (g5 c0 c1 c2 c3 c4 c5 c6 c7) (g6 c0 c1 c2 c3 c4 c5 c6 c7) (g7 c0 c1 c2 c3 c4 c5 c6 c7) (g8 c0 c1 c2 c3 c4 c5 c6 c7)⟩
                | false =>
                  exact ⟨fun _=>f21_pttfffttf x1 X call lf (by rw [c0] at g0; exact g0) (by have:=(g1 c0); rw [c1] at this; exact this) c2 (by have:=(g2 c0 c1 c2); rw [c3] at this; exact this) c4 c5 (by have:=(g3 c0 c1 c2 c3 c4 c5); rw [c6] at this; exact this) (by have:=(g4 c0 c1 c2 c3 c4 c5 c6); rw [c7] at this; exact this),fun h=>absurd (show (0:Nat)=1 from h) (by decide)⟩
              | false =>
                exact ⟨fun _=>f21_pttffftf x1 X call lf (by rw [c0] at g0; exact g0) (by have:=(g1 c0); rw [c1] at this; exact this) c2 (by have:=(g2 c0 c1 c2); rw [c3] at this; exact this) c4 c5 (by have:=(g3 c0 c1 c2 c3 c4 c5); rw [c6] at this; exact this),fun h=>absurd (show (0:Nat)=1 from h) (by decide)⟩
            | false =>
              cases c6:b5 with
              | true =>
                exact ⟨fun h=>absurd (show (1:Nat)=0 from h) (by decide),fun _=>f21_pttfffft x1 X call lf x51 x54 x57 x59 (by rw [c0] at g0; exact g0) (by have:=(g1 c0); rw [c1] at this; exact this) c2 (by have:=(g2 c0 c1 c2); rw [c3] at this; exact this) c4 c5 (by have:=(g9 c0 c1 c2 c3 c4 c5); rw [c6] at this; exact this) (g10 c0 c1 c2 c3 c4 c5 c6) (g11 c0 c1 c2 c3 c4 c5 c6) (g12 c0 c1 c2 c3 c4 c5 c6) (g13 c0 c1 c2 c3 c4 c5 c6)⟩
              | false =>
                exact ⟨fun _=>f21_pttfffff x1 X call lf (by rw [c0] at g0; exact g0) (by have:=(g1 c0); rw [c1] at this; exact this) c2 (by have:=(g2 c0 c1 c2); rw [c3] at this; exact this) c4 c5 (by have:=(g9 c0 c1 c2 c3 c4 c5); rw [c6] at this; exact this),fun h=>absurd (show (0:Nat)=1 from h) (by decide)⟩
    | false =>
      exact ⟨fun _=>f21_ptf x1 X call lf (by rw [c0] at g0; exact g0) (by have:=(g1 c0); rw [c1] at this; exact this),fun h=>absurd (show (0:Nat)=1 from h) (by decide)⟩
  | false =>
    exact ⟨fun _=>f21_pf x1 X call lf (by rw [c0] at g0; exact g0),fun h=>absurd (show (0:Nat)=1 from h) (by decide)⟩
end Go.Proofs.Lex
end
/- Lexicon: Line. -/
section
open Go Go.Vm Go.Proofs
namespace Go.Proofs.Lex
theorem bs5 (a c d e t:ByteArray) (w:World):(Instr.buildSlice 25 5 #[(0,.string a),(1,.string c),(2,.string d),(3,.string e),(4,.string t)]).run Tryd.prog w = .ok (.slice (some ⟨w.heap.size,0,none⟩) 5 5) (w.alloc (.cells #[.string a,.string c,.string d,.string e,.string t] 9)):=by kernel_rfl
theorem tail21_ops:(opsF Tryd.f21 3).toList.drop 13=[opF Tryd.f21 3 13,opF Tryd.f21 3 14,opF Tryd.f21 3 15]:=by kernel_rfl
theorem tail21_13:(opF Tryd.f21 3 13).op = .buildSlice 25 5 #[(0,.tmp 46),(1,.tmp 48),(2,.tmp 51),(3,.tmp 54),(4,.tmp 57)]∧(opF Tryd.f21 3 13).dst=some 58∧(opF Tryd.f21 3 13).guard=none:=⟨by kernel_rfl,by kernel_rfl,by kernel_rfl⟩
theorem tail21_14:(opF Tryd.f21 3 14).op = .call { callee := .value (.func 46),args := #[.tmp 58],argTypes := #[25] }∧(opF Tryd.f21 3 14).dst=some 59∧(opF Tryd.f21 3 14).guard=none:=⟨by kernel_rfl,by kernel_rfl,by kernel_rfl⟩
theorem tail21_15:(opF Tryd.f21 3 15).op = .assign (.tmp 59)∧(opF Tryd.f21 3 15).dst=some 2∧(opF Tryd.f21 3 15).guard=none:=⟨by kernel_rfl,by kernel_rfl,by kernel_rfl⟩
theorem wanted_none {o:Oper} {ops:Array Oper} {ts:Array Value} (h:o.guard=none):Region.wanted o (yielded ops ts)=true:=by simp [Region.wanted,h]
theorem eval_put {a:Act} {d:Nat} {v:Value} (h:d < a.tmps.size):(a.put (some d) v).eval (.tmp d)=v:=by
  simp [Act.put,Act.eval,Array.getD,h]
set_option maxRecDepth 100000 in
theorem tail21 [Fixed] {ops:Array Oper} {Q:Exit→Act→World→Prop} {a1:Act} {w1:World} {a c d e t J:ByteArray} (hsz:a1.tmps.size=60)
    (h46:a1.eval (.tmp 46) = .string a) (h48:a1.eval (.tmp 48) = .string c) (h51:a1.eval (.tmp 51) = .string d) (h54:a1.eval (.tmp 54) = .string e) (h57:a1.eval (.tmp 57) = .string t)
    (hcall:Calls Tryd.prog 46 #[.slice (some ⟨w1.heap.size,0,none⟩) 5 5] (w1.alloc (.cells #[.string a,.string c,.string d,.string e,.string t] 9)) fun x w' => x = .returned (.string J)∧More (w1.alloc (.cells #[.string a,.string c,.string d,.string e,.string t] 9)) w')
    (hQ:∀ w' a',More (w1.alloc (.cells #[.string a,.string c,.string d,.string e,.string t] 9)) w' → a'.defers=a1.defers→a'.tmps.toList=((a1.tmps.toList.set 58 (.slice (some ⟨w1.heap.size,0,none⟩) 5 5)).set 59 (.string J)).set 2 (.string J)→Q .normal a' w') :
    wpList Tryd.prog ops Q ((opsF Tryd.f21 3).toList.drop 13) a1 w1:=by
  rw [tail21_ops]
  simp only [wpList]
  rw [if_pos (wanted_none tail21_13.2.2)]
  left
  refine wp_value (u := .slice (some ⟨w1.heap.size,0,none⟩) 5 5) (w' := w1.alloc (.cells #[.string a,.string c,.string d,.string e,.string t] 9)) ?_ ?_
  · have : (#[((0 : Nat), Operand.tmp 46), (1, .tmp 48), (2, .tmp 51), (3, .tmp 54), (4, .tmp 57)].map fun (x : Nat × Operand) => (x.1, a1.eval x.2)) = #[(0, .string a), (1, .string c), (2, .string d), (3, .string e), (4, .string t)] := by
      simp [h46,h48,h51,h54,h57]
    have hb:=bs5 a c d e t w1
    rw [← this] at hb
    simp only [execOp,tail21_13.1,Sem.run_bind]
    rw [show (Instr.buildSlice 25 5 (#[((0:Nat),Operand.tmp 46),(1,.tmp 48),(2,.tmp 51),(3,.tmp 54),(4,.tmp 57)].map fun x=>match x with | (i,y)=>(i,a1.eval y))).run Tryd.prog w1=_ from hb]
    rfl
  · rw [tail21_13.2.1, if_pos (wanted_none tail21_14.2.2)]
    left
    refine wp_enter (f:=46) (args := #[.slice (some ⟨w1.heap.size,0,none⟩) 5 5]) (w' := w1.alloc (.cells #[.string a,.string c,.string d,.string e,.string t] 9)) ?_ (Calls.mono hcall ?_)
    · have h58 : (a1.put (some 58) (.slice (some ⟨w1.heap.size, 0, none⟩) 5 5)).eval (.tmp 58) = .slice (some ⟨w1.heap.size, 0, none⟩) 5 5 := eval_put (by omega)
      simp only [execOp,tail21_14.1,resolve,Act.eval,Deferred.ofValue,Sem.run_bind,Sem.run_pure,Result.andThen,invoke]
      have:(#[Operand.tmp 58].map (a1.put (some 58) (.slice (some ⟨w1.heap.size,0,none⟩) 5 5)).eval) = #[.slice (some ⟨w1.heap.size,0,none⟩) 5 5]:=by simp [h58]
      simp only [this,Array.append_empty,Array.empty_append]
      exact callFunc_run ⟨_,Tryd.func46,by kernel_rfl,of_decide_eq_false (by kernel_rfl)⟩
    · rintro x w2 ⟨rfl, hm⟩
      refine ⟨_,rfl,?_⟩
      rw [if_pos (wanted_none tail21_15.2.2)]
      left
      rw [tail21_14.2.1]
      refine wp_value (u := .string J) (w' := w2) ?_ ?_
      · have h59 : ((a1.put (some 58) (.slice (some ⟨w1.heap.size, 0, none⟩) 5 5)).put (some 59) (.string J)).eval (.tmp 59) = .string J := eval_put (by simp [Act.put]; omega)
        simp only [execOp,tail21_15.1,h59,Sem.run_pure]
      · rw [tail21_15.2.1]
        refine hQ w2 _ hm ?_ ?_
        · rfl
        · simp [Act.put]
end Go.Proofs.Lex
end
/- Lexicon: Line, told. -/
section
open Go Go.Vm Go.Proofs
namespace Go.Proofs.Lex
def dash:ByteArray:=⟨#[45]⟩
abbrev bn:ByteArray:=⟨#[32,10]⟩
def anyBN (s:ByteArray):Bool:=Lib.containsAny s.data.toList [32,10]
/-- A lexeme that has a line. -/
def lineOk (x:Lexm):Bool:=nameL x.id && (nameL x.cat && (!decide (x.stem=dash) && (!anyBN x.stem && (!decide (x.par=dash) && ((decide (x.par=emp) || nameL x.par) && validF x.feats)))))
def lineParts (x:Lexm):List ByteArray:=partsL x.id x.cat (dashS x.stem) (dashS x.par) (textS x.feats)
def lineS (x:Lexm):ByteArray:=if lineOk x then ⟨(joinB (lineParts x) blank).toArray⟩ else emp
/-- Sizes that a machine bears; ContainsAny is told. -/
structure okLine (x:Lexm):Prop where
  id:okS x.id
  cat:okS x.cat
  par:okS x.par
  feats:okF x.feats
  any:anyFn [st x.stem,st bn]=some (bo (anyBN x.stem))
  text:lineOk x=true→okT x.feats
  line:lineOk x=true→(joinB (lineParts x) blank).length ≤ big
def avB (l:List UInt8):AV := .str ⟨l.toArray⟩
theorem plainS:Plain encStr avB:=⟨fun C w x=>by simp only [Rep,avB],fun C w x u h=>by simpa only [Rep,avB] using h,fun _=>rfl⟩
def leB (x y:List UInt8):Bool:=decide (x ≤ y)
def strsO:List AV→Option (List ByteArray)
  | []=>some []
  | .str s :: l => match strsO l with
    | some r=>some (s::r)
    | none=>none
  | _=>none
theorem strsO_eq:∀ {cs:List AV} {l:List ByteArray},strsO cs=some l→cs=l.map .str
  | [],l,h=>by simp only [strsO,Option.some.injEq] at h; subst h; rfl
  | c :: cs, l, h => by
    unfold strsO at h
    split at h
    · rename_i e; cases e
    · rename_i s l' e
      simp only [List.cons.injEq] at e
      obtain ⟨rfl,rfl⟩:=e
      split at h
      · rename_i r hr
        simp only [Option.some.injEq] at h
        subst h
        rw [strsO_eq hr]
        rfl
      · cases h
    · cases h
def bytsO (cs : List AV) : Option (List (List UInt8)) := match strsO cs with
  | some l=>some (l.map (·.data.toList))
  | none=>none
theorem bytsO_eq (cs:List AV) (l:List (List UInt8)) (h:bytsO cs=some l):cs=l.map avB:=by
  unfold bytsO at h
  split at h
  · rename_i m hm
    simp only [Option.some.injEq] at h
    subst h
    rw [strsO_eq hm,List.map_map]
    apply List.map_congr_left
    intro x _
    simp [avB]
  · cases h
/-- What a context does of the library's functions. -/
structure XM [Fixed] (X:Ext):Prop extends XL X where
  any:X.pureFn 44=some anyFn
  cut:X.pureFn 84=some cutFn
  join:X.pureFn 55=some joinFn
  split:X.pureFn 53=some splitFn
  sort:X.pureFn 39=none∧X.stFn 39=some (sortFn bytsO avB leB)
def lineC (fn:Func):Code := .seq (.region 0 (opsF fn 0) false) (.seq (.seq (.region 1 (opsF fn 1) false) (.cond (.tmp 44) (.seq (.region 2 (opsF fn 2) false) .ret) .skip)) (.seq (.region 3 (opsF fn 3) true) .ret))
theorem body21:Tryd.f21.body=some (lineC Tryd.f21):=by kernel_rfl
theorem reg21_1:regN (cutF Tryd.f21) 1 = .region 1 (opsF Tryd.f21 1) false:=by kernel_rfl
theorem reg21_3:regN (cutF Tryd.f21) 3 = .region 3 ((opsF Tryd.f21 3).extract 0 13) true:=by kernel_rfl
theorem dr21:drOk (opsF Tryd.f21 3)=true:=by kernel_rfl
theorem tl21:tailOk (opsF Tryd.f21 3) 13=true:=by kernel_rfl
theorem sz21:(opsF Tryd.f21 3).size=16:=by kernel_rfl
theorem gd21:((opsF Tryd.f21 3).toList.take 13).all (fun o=>o.guard.isNone)=true:=by kernel_rfl
theorem eff21:effChain [] ((opsF Tryd.f21 3).extract 0 13)=false:=by kernel_rfl
/-- A drawn region, run in the text's order. -/
theorem vexec_pre {P:Program} {X:Ext} {call:Caller} {lf ro id:Nat} {ops:Array Oper} {S S' : St} (he:effChain [] ops=false) (h:vexec P X call lf ro noFg (.region id ops true) S=some (.normal,S')):vops P X call true ro ops ops.toList S=some S' := by
  simp only [vexec,noFg,vreg,tailL,Bool.true_and,he] at h
  cases hv:vops P X call true ro ops ops.toList S with
  | none=>rw [hv] at h; simp at h
  | some S1 =>
    rw [hv] at h
    simpa [fin,Go.Vm.settle,forget,forgetT] using h
section
variable [Fixed] {X:Ext}
theorem emp_of_name {s:ByteArray} (h:nameL s=true):s ≠ emp:=by
  rintro rfl
  unfold nameL at h
  rw [Bool.and_eq_true,emp_iff.2 (show emp.size=0 from rfl)] at h
  cases h.2
theorem dash_ne {s:ByteArray}:dashS s ≠ emp:=by
  unfold dashS
  split
  · intro h
    have:=congrArg ByteArray.size h
    revert this
    decide
  · assumption
theorem u43 (hL:XL X) {s:ByteArray} (h:okS s) (dr:Bool) (σ:List Ob):callv X (callerOf U1) dr 43 [st s] σ 0=some (bo (nameL s),σ):=by
  obtain ⟨a1,a2,a3⟩:=hL.ok 43 rfl
  exact call_on (B:=aB) (T:=U1) (y:=nameL s) (vs:=[aS.enc s]) a1 a2 a3 rfl (s1_at (A:=aS) (B:=aB) (g:=nameL) (ok:=okS) h)
theorem u45 (hL:XL X) {F:List Feat} (h:okF F) (dr:Bool) (σ:List Ob):callv X (callerOf U1) dr 45 [featsV F] σ 0=some (bo (validF F),σ):=by
  obtain ⟨a1,a2,a3⟩:=hL.ok 45 rfl
  exact call_on (B:=aB) (T:=U1) (y:=validF F) (vs:=[aFs.enc F]) a1 a2 a3 (by simp only [AV.ltAll,aFs.lt,Bool.and_self]) (s1_at (A:=aFs) (B:=aB) (g:=validF) (ok:=okF) h)
theorem u47 (hL:XL X) (s:ByteArray) (dr:Bool) (σ:List Ob):callv X (callerOf U1) dr 47 [st s] σ 0=some (st (dashS s),σ):=by
  obtain ⟨a1,a2,a3⟩:=hL.ok 47 rfl
  exact call_on (B:=aS) (T:=U1) (y:=dashS s) (vs:=[aS.enc s]) a1 a2 a3 rfl (s1_at (A:=aS) (B:=aS) (g:=dashS) (ok:=fun _=>True) trivial)
theorem u48 (hL:XL X) {F:List Feat} (h:okT F) (dr:Bool) (σ:List Ob):callv X (callerOf U1) dr 48 [featsV F] σ 0=some (st (textS F),σ):=by
  obtain ⟨a1,a2,a3⟩:=hL.ok 48 rfl
  exact call_on (B:=aS) (T:=U1) (y:=textS F) (vs:=[aFs.enc F]) a1 a2 a3 (by simp only [AV.ltAll,aFs.lt,Bool.and_self]) (s1_at (A:=aFs) (B:=aS) (g:=textS) (ok:=okT) h)
theorem u44 (hM:XM X) {call:Caller} {s:ByteArray} {b:Bool} (h:anyFn [st s,st bn]=some (bo b)) (σ:List Ob):callv X call false 44 [st s,st bn] σ 0=some (bo b,σ) :=
  call_pure hM.any rfl rfl rfl h
/-- Line, where it is not the empty text: its last region. -/
theorem line_tail (hX:ExtOk Tryd.prog X) (hM:XM X) {x:Lexm} (h:okLine x) (hok:lineOk x=true) :
    SR Tryd.prog 0 [] (.region 3 (opsF Tryd.f21 3) true) (f21c_S1 x) fun z T=>z = .normal∧nth T.tmps 2=st ⟨(joinB (lineParts x) blank).toArray⟩∧T.tmps.length=60:=by
  have hC:=callerOf_ok (U1_ok hX hM.toXL)
  intro C w a Q hat hro hQ
  have hg3:=f21c_g3_ x X (callerOf U1) 0 (dashS x.stem) (dashS x.par) (textS x.feats) (u47 hM.toXL _ _ _) (u47 hM.toXL _ _ _) (u48 hM.toXL (h.text hok) _ _)
  rw [reg21_3] at hg3
  have hpre:=vexec_pre eff21 hg3
  rw [Array.toList_extract] at hpre
  generalize hSm:stOf 60 _ _ _=Sm at hpre
  have hpre' : vops Tryd.prog X (callerOf U1) true 0 (opsF Tryd.f21 3) ((opsF Tryd.f21 3).toList.take 13) (f21c_S1 x) = some Sm := by
    rw [vops_alone (ops' := (opsF Tryd.f21 3).extract 0 13) fun o ho=>by simpa using List.all_eq_true.1 gd21 o ho]
    simpa using hpre
  have hms:13 ≤ (opsF Tryd.f21 3).size:=by rw [sz21]; decide
  have main:=draw_tail (P:=Tryd.prog) (C:=C) (w:=w) (a:=a) (Q:=Q) (ds:=[]) (ops:=opsF Tryd.f21 3) (S:=f21c_S1 x) (Sm:=Sm) (id:=3) (m:=13) (ro:=0) hX.mixed hX hC dr21 hms hpre' tl21 hat hro
  refine main fun w1 a1 hat1 hg1 => ?_
  clear main
  have e46:=ev_run hat1.tmps (x := .tmp 46) (v:=st x.id) (by rw [← hSm]; show _=_; kernel_rfl)
  have e48:=ev_run hat1.tmps (x := .tmp 48) (v:=st x.cat) (by rw [← hSm]; show _=_; kernel_rfl)
  have e51:=ev_run hat1.tmps (x := .tmp 51) (v:=st (dashS x.stem)) (by rw [← hSm]; show _=_; kernel_rfl)
  have e54:=ev_run hat1.tmps (x := .tmp 54) (v:=st (dashS x.par)) (by rw [← hSm]; show _=_; kernel_rfl)
  have e57:=ev_run hat1.tmps (x := .tmp 57) (v:=st (textS x.feats)) (by rw [← hSm]; show _=_; kernel_rfl)
  simp only [Rep] at e46 e48 e51 e54 e57
  have hlen:Sm.tmps.length=60:=by rw [← hSm]; show _=_; kernel_rfl
  have hsz : a1.tmps.size = 60 := by
    have:=hat1.tmps.length
    rw [hlen] at this
    simpa using this.symm
  obtain ⟨hs1,hgr1,_⟩:=more_heap hat1.ok 0 (w' := w1.alloc (.cells #[.string x.id,.string x.cat,.string (dashS x.stem),.string (dashS x.par),.string (textS x.feats)] 9)) rfl rfl rfl (by simp) (fun y hy=>heap_alloc_old w1 _ hy)
  have hn : nameL x.id = true ∧ nameL x.cat = true := by
    unfold lineOk at hok
    simp only [Bool.and_eq_true] at hok
    exact ⟨hok.1,hok.2.1⟩
  refine tail21 hsz e46 e48 e51 e54 e57 (join46 hX hM.toXL hs1 (b:=w1.heap.size) (heap_alloc_new w1 _) (emp_of_name hn.1) (emp_of_name hn.2) dash_ne dash_ne (h.line hok)) fun w2 a2 hm hdf ht => ?_
  have hm2:More w1 w2:=⟨hm.os,hm.tape,hm.output,Nat.le_trans (by simp) hm.size,fun y hy=>(hm.blk y (by simp; omega)).trans (heap_alloc_old w1 _ hy)⟩
  obtain ⟨hs2,hgr2,_⟩:=more_heap hat1.ok 0 hm2.os hm2.tape hm2.output hm2.size hm2.blk
  refine hQ .normal ⟨setN (setN (setN Sm.tmps 58 .any) 59 .any) 2 (st ⟨(joinB (lineParts x) blank).toArray⟩),Sm.st⟩ C w2 a2 ⟨rfl,?_,by simp only [setN_length]; exact hlen⟩ ⟨hat1.st,hs2,?_,hdf.trans hat1.defers⟩ (hg1.trans hat1.ok hgr2)
  · simp only [nth_setN, setN_length, hlen]
    rw [if_pos ⟨trivial,by decide⟩]
  · rw [ht]
    exact set_rep2 (set_rep2 (set_rep2 (RepAll.mono hgr2.keeps _ _ hat1.tmps) (by simp only [Rep])) (by simp only [Rep])) (by simp only [Rep]; rfl)
end
end Go.Proofs.Lex
end
/- Lexicon: the context of all walks. -/
section
open Go Go.Vm Go.Proofs
open Go.RowKit (Below)
namespace Go.Proofs.Lex
def okFn (fn : Func) : Bool := fn.name != "runtime.NumGoroutine" && (match fn.body with | some c => codeOk c | none => true)
def okFu (P:Program) (f:FuncId):Bool:=match P.funcs[f]? with | some fn=>okFn fn | none=>true
theorem okF_some {P : Program} {f : FuncId} {fn : Func} (hf : P.funcs[f]? = some fn) (h : okFu P f = true) : ¬ fn.name = "runtime.NumGoroutine" ∧ ∀ c, fn.body = some c → codeOk c = true := by
  unfold okFu at h
  rw [hf] at h
  simp only [okFn,Bool.and_eq_true,bne_iff_ne,ne_eq] at h
  refine ⟨h.1,fun c hc => ?_⟩
  have h2:=h.2
  rw [hc] at h2
  exact h2
def dom09 (f:FuncId):Bool:=Nat.blt 2 f && Nat.blt f 150
theorem dom_all:((List.range 150).all fun f => !dom09 f || okFu Tryd.prog f)=true:=by kernel_rfl
theorem dom_at {f:FuncId} (hd:dom09 f=true):okFu Tryd.prog f=true:=by
  have hlt : f < 150 := by
    unfold dom09 at hd
    rw [Bool.and_eq_true] at hd
    exact Nat.le_of_ble_eq_true hd.2
  obtain ⟨l150,hl150⟩:∃ l,List.range 150=l:=⟨_,rfl⟩
  have hmem:f ∈ l150:=hl150 ▸ List.mem_range.2 hlt
  have hall:=dom_all
  rw [hl150] at hall
  have:=List.all_eq_true.1 hall f hmem
  simpa [hd] using this
/-- The two tables and the bytealg variable, as a world bears them. -/
@[reducible] def tabFix (W:World):Fixed:=⟨fun b X=>(b=0 ∨ b=1 ∨ b=2)∧W.heap[b]? = some X⟩
theorem cell_move {W w:World} (h:∀ b X,(tabFix W).fix b X→w.heap[b]? = some X) {b o:Nat} {v:Value} (hb:b=0 ∨ b=1 ∨ b=2) (hc:W.cell? ⟨b,o,none⟩=some v):w.cell? ⟨b,o,none⟩=some v:=by
  cases hX:W.heap[b]? with
  | none=>simp [World.cell?,hX] at hc
  | some X =>
    have:=h b X ⟨hb,hX⟩
    rw [← hc]
    simp only [World.cell?,hX,this]
theorem tabs_move {W w:World} (hT:Lib.Utf8Tabs 0 1 W) (h:∀ b X,(tabFix W).fix b X→w.heap[b]? = some X):Lib.Utf8Tabs 0 1 w :=
  ⟨fun c hc=>cell_move h (.inl rfl) (hT.1 c hc),fun i hi=>⟨cell_move h (.inr (.inl rfl)) (hT.2 i hi).1,cell_move h (.inr (.inl rfl)) (hT.2 i hi).2⟩⟩
def pure09 [Fixed] (f:FuncId):Option (List AV→Option AV):=if f=93 then some validFn else if f=84 then some cutFn else if f=44 then some anyFn else if f=55 then some joinFn else if f=53 then some splitFn else none
def st09 (f:FuncId):Option (List AV→List Ob→Nat→Option (AV × List Ob)):=if f=39 then some (sortFn bytsO avB leB) else if f=110 then some (bldCheck 91) else if f=80 then some (bldString 5) else none
def X09 [Fixed]:Ext := { pureFn:=pure09,stFn:=st09,adopt:=fun _=>false,dom:=dom09,fg:=fgX }
theorem bodied {f : FuncId} {fn : Func} (hf : Tryd.prog.funcs[f]? = some fn) (h1 : fn.body.isSome = true) (h2 : decide (fn.name = "runtime.NumGoroutine") = false) : Bodied Tryd.prog f := ⟨fn, hf, h1, of_decide_eq_false h2⟩
theorem lays240:Lays.n240 Tryd.prog Tryd.laysJoin_ren := { Tryd.laysJoin with }
theorem lays169:Lays.n169 Tryd.prog Tryd.laysJoin_ren := { Tryd.laysJoin with }
theorem ext09 {W:World} (hT:Lib.Utf8Tabs 0 1 W) {m:Int} (hM:W.cell? ⟨2,0,none⟩=some (.int .i64 m)) : @ExtOk (tabFix W) Tryd.prog (@X09 (tabFix W)):=by
  letI:=tabFix W
  have hTw:∀ (C:Ctx) (w:World),SOk C w→Lib.Utf8Tabs 0 1 w:=fun C w hs=>tabs_move hT fun b X h=>(hs.fx b X h).1
  have hMw:∀ (C:Ctx) (w:World),SOk C w→∃ m,w.cell? ⟨2,0,none⟩=some (.int .i64 m):=fun C w hs=>⟨m,cell_move (fun b X h=>(hs.fx b X h).1) (.inr (.inr rfl)) hM⟩
  refine ⟨by kernel_rfl,?_,?_,?_⟩
  · intro f fn hd hf
    exact okF_some hf (dom_at (by simpa only [X09] using hd))
  · intro f g hg
    simp only [X09,pure09] at hg
    split at hg
    · rename_i e
      subst e
      simp only [Option.some.injEq] at hg
      subst hg
      exact ⟨bodied Tryd.func93 (by kernel_rfl) (by kernel_rfl),pure93 hTw⟩
    split at hg
    · rename_i e
      subst e
      simp only [Option.some.injEq] at hg
      subst hg
      exact ⟨bodied Tryd.func84 (by kernel_rfl) (by kernel_rfl),pure84 hMw⟩
    split at hg
    · rename_i e
      subst e
      simp only [Option.some.injEq] at hg
      subst hg
      exact ⟨bodied Tryd.func44 (by kernel_rfl) (by kernel_rfl),pure44⟩
    split at hg
    · rename_i e
      subst e
      simp only [Option.some.injEq] at hg
      subst hg
      exact ⟨bodied Tryd.func55 (by kernel_rfl) (by kernel_rfl),pure55⟩
    split at hg
    · rename_i e
      subst e
      simp only [Option.some.injEq] at hg
      subst hg
      exact ⟨bodied Tryd.func53 (by kernel_rfl) (by kernel_rfl),pure53 hMw⟩
    · cases hg
  · intro f g hg
    simp only [X09,st09] at hg
    split at hg
    · rename_i e
      subst e
      simp only [Option.some.injEq] at hg
      subst hg
      exact ⟨bodied Tryd.func39 (by kernel_rfl) (by kernel_rfl),sort_st plainS bytsO_eq (fun blk cap zs w h1 h2 h3=>Any.slices_Sort_string Tryd.laysSortS blk 0 cap zs w h1 h2 h3) (fun p cap w=>Any.slices_Sort_string_none Tryd.laysSortS p cap w)⟩
    split at hg
    · rename_i e
      subst e
      simp only [Option.some.injEq] at hg
      subst hg
      exact ⟨bodied Tryd.func110 (by kernel_rfl) (by kernel_rfl),bldCheck_st (fun b w h=>Any.Builder_copyCheck_used lays240 Tryd.joinExtra.toX72 b w h) (fun b w h1 h2 h3=>Any.Builder_copyCheck_fresh lays240 Tryd.joinExtra.toX72 b w h1 h2 h3)⟩
    split at hg
    · rename_i e
      subst e
      simp only [Option.some.injEq] at hg
      subst hg
      exact ⟨bodied Tryd.func80 (by kernel_rfl) (by kernel_rfl),bldString_st (T:=91) (fun b p t w h=>bld_string_nil lays169 Tryd.joinExtra b p t w h) (fun b g cap p t cur l w h0 h1 h2 h3 h4 h5 h6=>bld_string lays169 Tryd.joinExtra b g cap p t cur l w h0 h1 h2 h3 h4 h5 h6)⟩
    · cases hg
theorem xl09 [Fixed]:XL X09:=by
  refine ⟨fun f hf => ?_,fun f h1 h2 => ?_,fun f=>rfl,⟨rfl,rfl⟩,⟨rfl,rfl⟩⟩
  · have hn : f ≠ 93 ∧ f ≠ 84 ∧ f ≠ 44 ∧ f ≠ 55 ∧ f ≠ 53 ∧ f ≠ 39 ∧ f ≠ 110 ∧ f ≠ 80 := by
      refine ⟨?_,?_,?_,?_,?_,?_,?_,?_⟩ <;> (rintro rfl; revert hf; decide)
    obtain ⟨h1,h2,h3,h4,h5,h6,h7,h8⟩:=hn
    refine ⟨?_,?_,rfl⟩
    · simp only [X09,pure09,h1,h2,h3,h4,h5,if_false]
    · simp only [X09,st09,h6,h7,h8,if_false]
  · have h3 : f < 115 := Nat.le_of_ble_eq_true h2
    have h4 : Nat.blt f 150 = true := by
      have:f < 150:=by omega
      simpa using this
    simp only [X09,dom09,h1,h4,Bool.and_self]
theorem xm09 [Fixed]:XM X09:=⟨xl09,rfl,rfl,rfl,rfl,⟨rfl,rfl⟩⟩
end Go.Proofs.Lex
end
