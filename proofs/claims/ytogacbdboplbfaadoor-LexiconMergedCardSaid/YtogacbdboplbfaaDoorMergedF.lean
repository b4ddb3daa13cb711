/- Part 6 of the texts of this claim: the evaluator, and what it says of the program's functions. -/
import Derived.Test.YtogacbdboplbfaaDoorMergedE
import Derived.Test.YtogacbdboplbfaaDoorMergedD
import Derived.Test.YtogacbdboplbfaaDoorMergedB
import Derived.Test.YtogacbdboplbfaaDoorTie
import Derived.Test.YtogacbdboplbfaaDoorCards
import Derived.Lib.LaidU8T
import Derived.Lib.LaidIn
import Derived.Lay
import Derived.SevenTiedAt
import Derived.HandedShaped
import Derived.Shelf.Vars
set_option linter.unusedSectionVars false
set_option linter.unusedVariables false
set_option linter.unusedSimpArgs false
set_option linter.constructorNameAsVariable false
/- Lexicon: Line, whole. -/
section
open Go Go.Vm Go.Proofs
namespace Go.Proofs.Lex
def keep21:List Nat:=[3,4,5,6,7,8,9,10,11,12,13,14,15,16,17,18,19,20,21,22,23,24,25,26,27,28,29,30,31,32,33,34,35,36,37,38,39,40,41,42,43]
theorem eqD_iff {s:ByteArray}:(s.toList == (ByteArray.mk #[45]).toList)=decide (s=dash):=by
  by_cases e:s=dash
  · rw [decide_eq_true e]; exact eqB_iff.2 e
  · rw [decide_eq_false e]; exact eqB_ne.2 e
theorem eqE_iff {s:ByteArray}:(s.toList == (ByteArray.mk #[]).toList)=decide (s=emp):=by
  by_cases e:s=emp
  · rw [decide_eq_true e]; exact eqB_iff.2 e
  · rw [decide_eq_false e]; exact eqB_ne.2 e
section
variable [Fixed] {X:Ext}
theorem line_no (hX:ExtOk Tryd.prog X) (hM:XM X) {x:Lexm} (h:okLine x) (hok:lineOk x=false):CallAt Tryd.prog 21 [aL.enc x] [] 0 (aS.enc emp) []:=by
  have hC:=callerOf_ok (U1_ok hX hM.toXL)
  have yes : ∀ {b : Bool}, nameL x.id = true → nameL x.cat = true → (x.stem.toList == (ByteArray.mk #[45]).toList) = false → anyBN x.stem = false → (x.par.toList == (ByteArray.mk #[45]).toList) = false → (!x.par.toList == (ByteArray.mk #[]).toList) = b → (b = true → nameL x.par = true) → validF x.feats = true → False := by
    intro b h1 h2 h3 h4 h5 h6 h7 h8
    have : lineOk x = true := by
      rw [eqD_iff] at h3 h5
      rw [eqE_iff] at h6
      unfold lineOk
      rw [h1,h2,h3,h4,h5,h8]
      cases b with
      | true=>rw [h7 rfl]; simp
      | false =>
        have:decide (x.par=emp)=true:=by simpa using h6
        rw [this]; rfl
    rw [hok] at this
    cases this
  have M := f21_P0 x X (callerOf U1) 0 emp emp emp emp (nameL x.id) (nameL x.cat) (anyBN x.stem) (nameL x.par) (validF x.feats) (validF x.feats)
    (u43 hM.toXL h.id _ _) (fun _=>u43 hM.toXL h.cat _ _) (fun _ _ _=>u44 hM h.any _) (fun _ _ _ _ _ _=>u43 hM.toXL h.par _ _) (fun _ _ _ _ _ _ _=>u45 hM.toXL h.feats _ _)
    (fun h1 h2 h3 h4 h5 h6 h7 h8=>(yes h1 h2 h3 h4 h5 h6 (fun _=>h7) h8).elim) (fun h1 h2 h3 h4 h5 h6 h7 h8=>(yes h1 h2 h3 h4 h5 h6 (fun _=>h7) h8).elim) (fun h1 h2 h3 h4 h5 h6 h7 h8=>(yes h1 h2 h3 h4 h5 h6 (fun _=>h7) h8).elim) (fun h1 h2 h3 h4 h5 h6 h7 h8=>(yes h1 h2 h3 h4 h5 h6 (fun _=>h7) h8).elim)
    (fun _ _ _ _ _ _=>u45 hM.toXL h.feats _ _)
    (fun h1 h2 h3 h4 h5 h6 h8=>(yes h1 h2 h3 h4 h5 h6 (fun e=>by cases e) h8).elim) (fun h1 h2 h3 h4 h5 h6 h8=>(yes h1 h2 h3 h4 h5 h6 (fun e=>by cases e) h8).elim) (fun h1 h2 h3 h4 h5 h6 h8=>(yes h1 h2 h3 h4 h5 h6 (fun e=>by cases e) h8).elim) (fun h1 h2 h3 h4 h5 h6 h8=>(yes h1 h2 h3 h4 h5 h6 (fun e=>by cases e) h8).elim)
  refine run_res (B:=aS) hX hC (hM.dom 21 rfl rfl) Tryd.func21 (by kernel_rfl) (M.1 ?_) (aS.de emp)
  unfold f21_q0
  cases h1:nameL x.id with
  | false=>rfl
  | true =>
    cases h2:nameL x.cat with
    | false=>rfl
    | true =>
      cases h3:(x.stem.toList == (ByteArray.mk #[45]).toList) with
      | true=>rfl
      | false =>
        cases h4:anyBN x.stem with
        | true=>rfl
        | false =>
          cases h5:(x.par.toList == (ByteArray.mk #[45]).toList) with
          | true=>rfl
          | false =>
            cases h6:(!x.par.toList == (ByteArray.mk #[]).toList) with
            | true =>
              cases h7:nameL x.par with
              | false=>rfl
              | true =>
                cases h8:validF x.feats with
                | false=>rfl
                | true=>exact (yes h1 h2 h3 h4 h5 h6 (fun _=>h7) h8).elim
            | false =>
              cases h8:validF x.feats with
              | false=>rfl
              | true=>exact (yes h1 h2 h3 h4 h5 h6 (fun e=>by cases e) h8).elim
theorem r21_0 (x:Lexm) {call:Caller}:vexec Tryd.prog X call 0 0 noFg (.region 0 (opsF Tryd.f21 0) false) { tmps:=[.agg (lexC x)] ++ List.replicate (Tryd.f21.ntmps - 1) .undef,st:=[] }=some (.normal,f21c_S0 x):=by kernel_rfl
theorem f21_vend (x:Lexm) (T:St) (J:ByteArray) (h:nth T.tmps 2=st J):∃ σ',vend Tryd.prog Tryd.f21 [] 0 T=some (st J,σ'):=by
  have hr:resultsv Tryd.prog T Tryd.f21.results.toList=some [nth T.tmps 2]:=by kernel_rfl
  unfold vend
  rw [hr,h]
  exact ⟨T.st,vend1_plain (by simp [AV.ownsAll,AV.owns])⟩
theorem line_yes (hX:ExtOk Tryd.prog X) (hM:XM X) {x:Lexm} (h:okLine x) (hok:lineOk x=true):CallAt Tryd.prog 21 [aL.enc x] [] 0 (aS.enc ⟨(joinB (lineParts x) blank).toArray⟩) []:=by
  have hC:=callerOf_ok (U1_ok hX hM.toXL)
  have hp:=hok
  unfold lineOk at hp
  simp only [Bool.and_eq_true,Bool.not_eq_true',Bool.or_eq_true] at hp
  obtain ⟨h1,h2,h3,h4,h5,h6,h8⟩:=hp
  refine call_rel (B:=aS) (fn:=Tryd.f21) (c:=lineC Tryd.f21) (R:=fun z T=>z = .ret∧nth T.tmps 2=st ⟨(joinB (lineParts x) blank).toArray⟩) Tryd.func21 body21 (of_decide_eq_false (by kernel_rfl)) ?_ (fun z T hz => ?_)
  · refine SR.seq (SR.exec hX hC (lf := 0) (fg := noFg) (by kernel_rfl) (r21_0 x)) (fun T hT => ?_) (fun z T hz hh => absurd hh.1 hz)
    obtain ⟨-,rfl⟩:=hT
    refine SR.seq (R1:=fun z T=>z = .normal∧T=f21c_S1 x) ?_ (fun T hT => ?_) (fun z T hz hh=>absurd hh.1 hz)
    · refine SR.seq (R1 := fun z T => z = .normal ∧ forget keep21 T = f21c_S1 x) ?_ (fun T hT => ?_) (fun z T hz hh => absurd hh.1 hz)
      · rw [← reg21_1]
        have e3:(x.stem.toList == (ByteArray.mk #[45]).toList)=false:=by rw [eqD_iff]; exact h3
        have e5:(x.par.toList == (ByteArray.mk #[45]).toList)=false:=by rw [eqD_iff]; exact h5
        have c0:=u43 (X:=X) hM.toXL h.id false [Ob.cells [st x.id,st x.cat,st x.stem,st x.par,lro x.feats.length 2 (x.feats.flatMap featC)]]
        have c1:=u43 (X:=X) hM.toXL h.cat false [Ob.cells [st x.id,st x.cat,st x.stem,st x.par,lro x.feats.length 2 (x.feats.flatMap featC)]]
        have c3:=u44 (call:=callerOf U1) hM h.any [Ob.cells [st x.id,st x.cat,st x.stem,st x.par,lro x.feats.length 2 (x.feats.flatMap featC)]]
        have c6:=u45 (X:=X) hM.toXL h.feats false [Ob.cells [st x.id,st x.cat,st x.stem,st x.par,lro x.feats.length 2 (x.feats.flatMap featC)]]
        rw [h1] at c0
        rw [h2] at c1
        rw [h4] at c3
        rw [h8] at c6
        cases h7:(!x.par.toList == (ByteArray.mk #[]).toList) with
        | true =>
          have hn : nameL x.par = true := by
            rcases h6 with h6 | h6
            · rw [eqE_iff,h6] at h7; cases h7
            · exact h6
          have c5:=u43 (X:=X) hM.toXL h.par false [Ob.cells [st x.id,st x.cat,st x.stem,st x.par,lro x.feats.length 2 (x.feats.flatMap featC)]]
          rw [hn] at c5
          refine (SR.exec hX hC (lf:=0) (fg:=noFg) (by rw [reg21_1]; kernel_rfl) (f21c_g1_fft x X (callerOf U1) 0 c0 c1 e3 c3 e5 h7 c5 c6)).mono ?_
          rintro z T ⟨rfl,rfl⟩
          exact ⟨rfl,by show _=_; kernel_rfl⟩
        | false =>
          refine (SR.exec hX hC (lf:=0) (fg:=noFg) (by rw [reg21_1]; kernel_rfl) (f21c_g1_fff x X (callerOf U1) 0 c0 c1 e3 c3 e5 h7 c6)).mono ?_
          rintro z T ⟨rfl,rfl⟩
          exact ⟨rfl,by show _=_; kernel_rfl⟩
      · obtain ⟨-, hf⟩ := hT
        refine SR.forget keep21 ?_
        rw [hf]
        refine SR.cond (b:=false) (by show _=_; kernel_rfl) ?_
        exact SR.skip ⟨rfl,rfl⟩
    · obtain ⟨-, rfl⟩ := hT
      refine SR.seq (line_tail hX hM h hok) (fun T hT => ?_) (fun z T hz hh=>absurd hh.1 hz)
      exact SR.ret ⟨rfl,hT.2.1⟩
  · obtain ⟨rfl, hz⟩ := hz
    obtain ⟨σ',hv⟩:=f21_vend x T _ hz
    exact ⟨.inr rfl,_,σ',hv,aS.de _⟩
/-- lexicon.Line. -/
theorem call21 (hX:ExtOk Tryd.prog X) (hM:XM X) {x:Lexm} (h:okLine x):CallAt Tryd.prog 21 [aL.enc x] [] 0 (aS.enc (lineS x)) []:=by
  unfold lineS
  cases hok:lineOk x with
  | true=>exact line_yes hX hM h hok
  | false=>exact line_no hX hM h hok
end
end Go.Proofs.Lex
end
/- Lexicon: feature.Parse (printed) -/
section
open Go Go.Vm Go.Proofs
namespace Go.Proofs.Lex
theorem f54_pt (s0:ByteArray)(X:Ext)(call:Caller)(lf:Nat)
 (h0:(ByteArray.toList s0 == ByteArray.toList (ByteArray.mk #[]))=true):vbody Tryd.prog X call lf noFg Tryd.f54 (codeOf Tryd.f54) [st s0] [] 0=some (AV.tup [AV.list LK.nil 0 0 [],i6 0],[]) :=
  along_sound (ans:=[(5,Ans.b true)]) (by kernel_rfl) (ai h0 trivial)
def f54_F0 (s0:ByteArray)(l13:List ByteArray)(S0:Nat→List Ob)(o4:Nat→AV)(i0:Nat):St :=
  stOf 43 [2,3,6,7,8,9,16,17,18,19,20,21,22,23,24,25,26,27,28,29,30,31,32,33,34,35,36,37,38] [(0,st s0),(4,o4 i0),(10,st s0),(11,bo false),(12,st s0),(13,lro l13.length 1 (List.map st l13)),(14,i6 (↑l13.length:Int)),(15,i6 (↑i0:Int))] (S0 i0)
def f54_S0 (s0:ByteArray)(l13:List ByteArray):St :=
  stOf 43 [] [(0,st s0),(2,AV.list LK.nil 0 0 []),(3,i6 0),(4,AV.list LK.nil 0 0 []),(10,st s0),(11,bo false),(12,st s0),(13,lro l13.length 1 (List.map st l13)),(14,i6 (↑l13.length:Int)),(15,i6 0)] []
abbrev f54_D0:List Nat:=[38,37,36,35,34,33,32,3,2,31,30,29,28,27,26,25,9,8,7,24,23,22,19,21,20,6,18,17,16]
theorem f54_L0 (s0:ByteArray)(l13:List ByteArray)(S0:Nat→List Ob)(o4:Nat→AV)(X:Ext)(call:Caller)(lf n:Nat)(x:Ex) (S' : St)
 (e0:o4 0=AV.list LK.nil 0 0 [])
 (e1:S0 0=[])
 (hn:n<lf)
 (hs:∀ j,j<n→∃ S1,vexec Tryd.prog X call lf 0 noFg (loopN Tryd.f54 0) (f54_F0 s0 l13 S0 o4 j)=some (Ex.normal,S1)∧forget f54_D0 S1=(f54_F0 s0 l13 S0 o4 (j + 1)))
 (he:vexec Tryd.prog X call lf 0 noFg (loopN Tryd.f54 0) (f54_F0 s0 l13 S0 o4 n)=some (x,S'))
 (hx:x ≠ Ex.normal):vexec Tryd.prog X call lf 0 noFg (Go.Code.loop (loopN Tryd.f54 0)) (f54_S0 s0 l13)=some (x,S') :=
  loop_runK (by kernel_rfl) (fun j=>(f54_F0 s0 l13 S0 o4 j)) n hn (by show forget f54_D0 (f54_S0 s0 l13)=(f54_F0 s0 l13 S0 o4 0); unfold f54_F0; rw [e0,e1]; show _=_; kernel_rfl) hs he hx
def f54_S1 (s0:ByteArray)(l13:List ByteArray)(S0:Nat→List Ob)(o4:Nat→AV)(i0:Nat)(a:ByteArray)(r17:List AV)(b c:ByteArray)(d:Bool)(n29:Int):St :=
  stOf 43 [32,33,34,35,36,37,38] [(0,st s0),(2,AV.list LK.nil 0 0 []),(3,i6 3),(4,o4 i0),(6,st a),(7,st b),(8,st c),(9,bo true),(10,st s0),(11,bo false),(12,st s0),(13,lro l13.length 1 (List.map st l13)),(14,i6 (↑l13.length:Int)),(15,i6 (↑i0:Int)),(16,bo true),(17,AV.eaddr (st a::r17)),(18,st a),(19,AV.tup [st b,st c,bo d]),(20,st a),(21,AV.tup [st b,st c,bo d]),(22,st b),(23,st c),(24,bo true),(25,bo true),(26,bo false),(27,bo false),(28,o4 i0),(29,i6 n29),(30,bo true),(31,bo true)] (S0 i0)
theorem f54_r0_ttt (s0:ByteArray)(X:Ext)(call:Caller)(lf:Nat)(l13:List ByteArray)(S0:Nat→List Ob)(o4:Nat→AV)(i0:Nat)(a:ByteArray)(r17:List AV)(c d:ByteArray)(e:Bool)(n29:Int)
 (h0:decide ((↑i0:Int)<(↑l13.length:Int))=true)
 (h1:keep (S0 i0) (indexAddrv Tryd.prog 25 (S0 i0) (lro l13.length 1 (List.map st l13)) (i6 (↑i0:Int)))=some (AV.eaddr (st a::r17),S0 i0))
 (h2:callv X call false 84 [st a,st (ByteArray.mk #[61])] (S0 i0) 0=some (AV.tup [st c,st d,bo e],S0 i0))
 (h3:e=true)
 (h4:keep (S0 i0) (lenv Tryd.prog 31 (S0 i0) (o4 i0))=some (i6 n29,S0 i0))
 (h5:(n29 == 8)=true):vexec Tryd.prog X call lf 0 noFg (loopN Tryd.f54 0) (f54_F0 s0 l13 S0 o4 i0)=some (Ex.ret,(f54_S1 s0 l13 S0 o4 i0 a r17 c d e n29)) :=
  around_sound (ans:=[(1,Ans.b true),(4,Ans.v (AV.eaddr (st a::r17))),(9,Ans.v (AV.tup [st c,st d,bo e])),(13,Ans.b true),(24,Ans.v (i6 n29)),(26,Ans.b true)]) (by kernel_rfl) (ai h0 (ai h1 (ai h2 (ai h3 (ai h4 (ai h5 trivial))))))
theorem f54_pflttt (s0:ByteArray)(X:Ext)(call:Caller)(lf:Nat)(l13:List ByteArray)(S0:Nat→List Ob)(o4:Nat→AV)(i0:Nat)(a:ByteArray)(r17:List AV)(c d:ByteArray)(e:Bool)(n29:Int)
 (h0:(ByteArray.toList s0 == ByteArray.toList (ByteArray.mk #[]))=false)
 (h1:callv X call false 53 [st s0,st (ByteArray.mk #[32])] [] 0=some (lro l13.length 1 (List.map st l13),[]))
 (h2:vexec Tryd.prog X call lf 0 noFg (Code.loop (loopN Tryd.f54 0)) (f54_S0 s0 l13)=some (Ex.ret,(f54_S1 s0 l13 S0 o4 i0 a r17 c d e n29))):vbody Tryd.prog X call lf noFg Tryd.f54 (codeOf Tryd.f54) [st s0] [] 0=some (AV.tup [AV.list LK.nil 0 0 [],i6 3],S0 i0) :=
  along_sound (ans:=[(5,Ans.b false),(11,Ans.v (lro l13.length 1 (List.map st l13))),(14,Ans.l Ex.ret (f54_S1 s0 l13 S0 o4 i0 a r17 c d e n29))]) (by kernel_rfl) (ai h0 (ai h1 (ai h2 trivial)))
theorem f54_s0_ttf (s0:ByteArray)(X:Ext)(call:Caller)(lf:Nat)(l13:List ByteArray)(S0:Nat→List Ob)(o4:Nat→AV)(i0:Nat)(a:ByteArray)(r17:List AV)(d e:ByteArray)(g:Bool)(n29:Int)(v37:AV)(s37:List Ob)
 (h0:decide ((↑i0:Int)<(↑l13.length:Int))=true)
 (h1:keep (S0 i0) (indexAddrv Tryd.prog 25 (S0 i0) (lro l13.length 1 (List.map st l13)) (i6 (↑i0:Int)))=some (AV.eaddr (st a::r17),S0 i0))
 (h2:callv X call false 84 [st a,st (ByteArray.mk #[61])] (S0 i0) 0=some (AV.tup [st d,st e,bo g],S0 i0))
 (h3:g=true)
 (h4:keep (S0 i0) (lenv Tryd.prog 31 (S0 i0) (o4 i0))=some (i6 n29,S0 i0))
 (h5:(n29 == 8)=false)
 (h6:appendv Tryd.prog 31 (S0 i0) 0 (o4 i0) (AV.list LK.clip 1 2 [st d,st e])=some (v37,s37))
 (e0:o4 (i0 + 1)=v37)
 (e1:(↑(i0 + 1):Int)=w6 ((↑i0:Int) + 1))
 (e2:S0 (i0 + 1)=s37):∃ S1,vexec Tryd.prog X call lf 0 noFg (loopN Tryd.f54 0) (f54_F0 s0 l13 S0 o4 i0)=some (Ex.normal,S1)∧forget f54_D0 S1=(f54_F0 s0 l13 S0 o4 (i0 + 1)) :=
  ⟨stOf 43 [2,3] [(0,st s0),(4,v37),(6,st a),(7,st d),(8,st e),(9,bo true),(10,st s0),(11,bo false),(12,st s0),(13,lro l13.length 1 (List.map st l13)),(14,i6 (↑l13.length:Int)),(15,i6 (w6 ((↑i0:Int) + 1))),(16,bo true),(17,AV.eaddr (st a::r17)),(18,st a),(19,AV.tup [st d,st e,bo g]),(20,st a),(21,AV.tup [st d,st e,bo g]),(22,st d),(23,st e),(24,bo true),(25,bo true),(26,bo false),(27,bo false),(28,o4 i0),(29,i6 n29),(30,bo false),(31,bo false),(32,o4 i0),(33,st d),(34,st e),(35,AV.agg [st d,st e]),(36,AV.list LK.clip 1 2 [st d,st e]),(37,v37),(38,i6 (w6 ((↑i0:Int) + 1)))] s37,around_sound (ans:=[(1,Ans.b true),(4,Ans.v (AV.eaddr (st a::r17))),(9,Ans.v (AV.tup [st d,st e,bo g])),(13,Ans.b true),(24,Ans.v (i6 n29)),(26,Ans.b false),(35,Ans.c v37 s37)]) (by kernel_rfl) (ai h0 (ai h1 (ai h2 (ai h3 (ai h4 (ai h5 (ai h6 trivial))))))),by unfold f54_F0; rw [e0,e1,e2]; show _=_; kernel_rfl⟩
def f54_S2 (s0:ByteArray)(l13:List ByteArray)(S0:Nat→List Ob)(o4:Nat→AV)(i0:Nat)(a:ByteArray)(r17:List AV)(b c:ByteArray)(d:Bool):St :=
  stOf 43 [32,33,34,35,36,37,38] [(0,st s0),(2,AV.list LK.nil 0 0 []),(3,i6 3),(4,o4 i0),(6,st a),(7,st b),(8,st c),(9,bo false),(10,st s0),(11,bo false),(12,st s0),(13,lro l13.length 1 (List.map st l13)),(14,i6 (↑l13.length:Int)),(15,i6 (↑i0:Int)),(16,bo true),(17,AV.eaddr (st a::r17)),(18,st a),(19,AV.tup [st b,st c,bo d]),(20,st a),(21,AV.tup [st b,st c,bo d]),(22,st b),(23,st c),(24,bo false),(25,bo false),(26,bo true),(27,bo true),(31,bo true)] (S0 i0)
theorem f54_r0_tf (s0:ByteArray)(X:Ext)(call:Caller)(lf:Nat)(l13:List ByteArray)(S0:Nat→List Ob)(o4:Nat→AV)(i0:Nat)(a:ByteArray)(r17:List AV)(c d:ByteArray)(e:Bool)
 (h0:decide ((↑i0:Int)<(↑l13.length:Int))=true)
 (h1:keep (S0 i0) (indexAddrv Tryd.prog 25 (S0 i0) (lro l13.length 1 (List.map st l13)) (i6 (↑i0:Int)))=some (AV.eaddr (st a::r17),S0 i0))
 (h2:callv X call false 84 [st a,st (ByteArray.mk #[61])] (S0 i0) 0=some (AV.tup [st c,st d,bo e],S0 i0))
 (h3:e=false):vexec Tryd.prog X call lf 0 noFg (loopN Tryd.f54 0) (f54_F0 s0 l13 S0 o4 i0)=some (Ex.ret,(f54_S2 s0 l13 S0 o4 i0 a r17 c d e)) :=
  around_sound (ans:=[(1,Ans.b true),(4,Ans.v (AV.eaddr (st a::r17))),(9,Ans.v (AV.tup [st c,st d,bo e])),(13,Ans.b false)]) (by kernel_rfl) (ai h0 (ai h1 (ai h2 (ai h3 trivial))))
theorem f54_pfltf (s0:ByteArray)(X:Ext)(call:Caller)(lf:Nat)(l13:List ByteArray)(S0:Nat→List Ob)(o4:Nat→AV)(i0:Nat)(a:ByteArray)(r17:List AV)(c d:ByteArray)(e:Bool)
 (h0:(ByteArray.toList s0 == ByteArray.toList (ByteArray.mk #[]))=false)
 (h1:callv X call false 53 [st s0,st (ByteArray.mk #[32])] [] 0=some (lro l13.length 1 (List.map st l13),[]))
 (h2:vexec Tryd.prog X call lf 0 noFg (Code.loop (loopN Tryd.f54 0)) (f54_S0 s0 l13)=some (Ex.ret,(f54_S2 s0 l13 S0 o4 i0 a r17 c d e))):vbody Tryd.prog X call lf noFg Tryd.f54 (codeOf Tryd.f54) [st s0] [] 0=some (AV.tup [AV.list LK.nil 0 0 [],i6 3],S0 i0) :=
  along_sound (ans:=[(5,Ans.b false),(11,Ans.v (lro l13.length 1 (List.map st l13))),(14,Ans.l Ex.ret (f54_S2 s0 l13 S0 o4 i0 a r17 c d e))]) (by kernel_rfl) (ai h0 (ai h1 (ai h2 trivial)))
def f54_S3 (s0:ByteArray)(l13:List ByteArray)(S0:Nat→List Ob)(o4:Nat→AV)(i0:Nat):St :=
  stOf 43 [2,3,6,7,8,9,17,18,19,20,21,22,23,24,25,26,27,28,29,30,31,32,33,34,35,36,37,38] [(0,st s0),(4,o4 i0),(10,st s0),(11,bo false),(12,st s0),(13,lro l13.length 1 (List.map st l13)),(14,i6 (↑l13.length:Int)),(15,i6 (↑i0:Int)),(16,bo false)] (S0 i0)
theorem f54_r0_f (s0:ByteArray)(X:Ext)(call:Caller)(lf:Nat)(l13:List ByteArray)(S0:Nat→List Ob)(o4:Nat→AV)(i0:Nat)
 (h0:decide ((↑i0:Int)<(↑l13.length:Int))=false):vexec Tryd.prog X call lf 0 noFg (loopN Tryd.f54 0) (f54_F0 s0 l13 S0 o4 i0)=some (Ex.exit 0,(f54_S3 s0 l13 S0 o4 i0)) :=
  around_sound (ans:=[(1,Ans.b false)]) (by kernel_rfl) (ai h0 trivial)
theorem f54_pflft (s0:ByteArray)(b1:Bool)(T1:List Ob)(X:Ext)(call:Caller)(lf:Nat)(l13:List ByteArray)(S0:Nat→List Ob)(o4:Nat→AV)(i0:Nat)
 (h0:(ByteArray.toList s0 == ByteArray.toList (ByteArray.mk #[]))=false)
 (h1:callv X call false 53 [st s0,st (ByteArray.mk #[32])] [] 0=some (lro l13.length 1 (List.map st l13),[]))
 (h2:vexec Tryd.prog X call lf 0 noFg (Code.loop (loopN Tryd.f54 0)) (f54_S0 s0 l13)=some (Ex.exit 0,(f54_S3 s0 l13 S0 o4 i0)))
 (h3:callv X call false 45 [o4 i0] (S0 i0) 0=some (bo b1,T1))
 (h4:(!b1)=true):vbody Tryd.prog X call lf noFg Tryd.f54 (codeOf Tryd.f54) [st s0] [] 0=some (AV.tup [AV.list LK.nil 0 0 [],i6 3],T1) :=
  along_sound (ans:=[(5,Ans.b false),(11,Ans.v (lro l13.length 1 (List.map st l13))),(14,Ans.l (Ex.exit 0) (f54_S3 s0 l13 S0 o4 i0)),(17,Ans.c (bo b1) T1),(18,Ans.b true)]) (by kernel_rfl) (ai h0 (ai h1 (ai h2 (ai h3 (ai h4 trivial)))))
theorem f54_pflff (s0:ByteArray)(b1:Bool)(T1:List Ob)(X:Ext)(call:Caller)(lf:Nat)(l13:List ByteArray)(S0:Nat→List Ob)(o4:Nat→AV)(i0:Nat)(rE:AV)(sE:List Ob)
 (h0:(ByteArray.toList s0 == ByteArray.toList (ByteArray.mk #[]))=false)
 (h1:callv X call false 53 [st s0,st (ByteArray.mk #[32])] [] 0=some (lro l13.length 1 (List.map st l13),[]))
 (h2:vexec Tryd.prog X call lf 0 noFg (Code.loop (loopN Tryd.f54 0)) (f54_S0 s0 l13)=some (Ex.exit 0,(f54_S3 s0 l13 S0 o4 i0)))
 (h3:callv X call false 45 [o4 i0] (S0 i0) 0=some (bo b1,T1))
 (h4:(!b1)=false)
 (h5:vend1 [] 0 T1 [o4 i0,i6 0]=some (rE,sE)):vbody Tryd.prog X call lf noFg Tryd.f54 (codeOf Tryd.f54) [st s0] [] 0=some (rE,sE) :=
  along_sound (ans:=[(5,Ans.b false),(11,Ans.v (lro l13.length 1 (List.map st l13))),(14,Ans.l (Ex.exit 0) (f54_S3 s0 l13 S0 o4 i0)),(17,Ans.c (bo b1) T1),(18,Ans.b false),(24,Ans.c rE sE)]) (by kernel_rfl) (ai h0 (ai h1 (ai h2 (ai h3 (ai h4 (ai h5 trivial))))))
def f54_o0 (l13:List ByteArray)(i0:Nat)(a:Bool)(n29:Int):Nat :=
  (match decide ((↑i0:Int)<(↑l13.length:Int)) with
  | true=>(match a with
    | true=>(match (n29 == 8) with
      | true=>1
      | false=>0)
    | false=>2)
  | false=>3)
theorem f54_B0 (s0:ByteArray)(X:Ext)(call:Caller)(lf:Nat)(l13:List ByteArray)(S0:Nat→List Ob)(o4:Nat→AV)(i0:Nat)(a:ByteArray)(r17:List AV)(b c:ByteArray)(d:Bool)(n29:Int)(v37:AV)(s37:List Ob)
 (g0:decide ((↑i0:Int)<(↑l13.length:Int))=true→keep (S0 i0) (indexAddrv Tryd.prog 25 (S0 i0) (lro l13.length 1 (List.map st l13)) (i6 (↑i0:Int)))=some (AV.eaddr (st a::r17),S0 i0))
 (g1:decide ((↑i0:Int)<(↑l13.length:Int))=true→callv X call false 84 [st a,st (ByteArray.mk #[61])] (S0 i0) 0=some (AV.tup [st b,st c,bo d],S0 i0))
 (g2:decide ((↑i0:Int)<(↑l13.length:Int))=true→d=true→keep (S0 i0) (lenv Tryd.prog 31 (S0 i0) (o4 i0))=some (i6 n29,S0 i0))
 (g3:decide ((↑i0:Int)<(↑l13.length:Int))=true→d=true→(n29 == 8)=false→appendv Tryd.prog 31 (S0 i0) 0 (o4 i0) (AV.list LK.clip 1 2 [st b,st c])=some (v37,s37))
 (e0:decide ((↑i0:Int)<(↑l13.length:Int))=true→o4 (i0 + 1)=v37)
 (e1:decide ((↑i0:Int)<(↑l13.length:Int))=true→(↑(i0 + 1):Int)=w6 ((↑i0:Int) + 1))
 (e2:decide ((↑i0:Int)<(↑l13.length:Int))=true→S0 (i0 + 1)=s37) :
    (f54_o0 l13 i0 d n29=0→∃ S1,vexec Tryd.prog X call lf 0 noFg (loopN Tryd.f54 0) (f54_F0 s0 l13 S0 o4 i0)=some (Ex.normal,S1)∧forget f54_D0 S1=(f54_F0 s0 l13 S0 o4 (i0 + 1)))∧(f54_o0 l13 i0 d n29=1→vexec Tryd.prog X call lf 0 noFg (loopN Tryd.f54 0) (f54_F0 s0 l13 S0 o4 i0)=some (Ex.ret,(f54_S1 s0 l13 S0 o4 i0 a r17 b c d n29)))∧(f54_o0 l13 i0 d n29=2→vexec Tryd.prog X call lf 0 noFg (loopN Tryd.f54 0) (f54_F0 s0 l13 S0 o4 i0)=some (Ex.ret,(f54_S2 s0 l13 S0 o4 i0 a r17 b c d)))∧(f54_o0 l13 i0 d n29=3→vexec Tryd.prog X call lf 0 noFg (loopN Tryd.f54 0) (f54_F0 s0 l13 S0 o4 i0)=some (Ex.exit 0,(f54_S3 s0 l13 S0 o4 i0))):=by
  refine (Bool.eq_false_or_eq_true (decide ((↑i0:Int)<(↑l13.length:Int)))).elim (fun c0 => ?_) (fun c0 => ?_)
  ·
    refine (Bool.eq_false_or_eq_true (d)).elim (fun c1 => ?_) (fun c1 => ?_)
    ·
      refine (Bool.eq_false_or_eq_true ((n29 == 8))).elim (fun c2 => ?_) (fun c2 => ?_)
      ·
        have ho:f54_o0 l13 i0 d n29=1:=by
          unfold f54_o0
          simp only [c0,c1,c2]
        exact ⟨fun h=>absurd (ho.symm.trans h) (by decide),fun _=>f54_r0_ttt s0 X call lf l13 S0 o4 i0 a r17 b c d n29 c0 (g0 c0) (g1 c0) c1 (g2 c0 c1) c2,fun h=>absurd (ho.symm.trans h) (by decide),fun h=>absurd (ho.symm.trans h) (by decide)⟩
      ·
        have ho:f54_o0 l13 i0 d n29=0:=by
          unfold f54_o0
          simp only [c0,c1,c2]
        exact ⟨fun _=>f54_s0_ttf s0 X call lf l13 S0 o4 i0 a r17 b c d n29 v37 s37 c0 (g0 c0) (g1 c0) c1 (g2 c0 c1) c2 (g3 c0 c1 c2) (e0 c0) (e1 c0) (e2 c0),fun h=>absurd (ho.symm.trans h) (by decide),fun h=>absurd (ho.symm.trans h) (by decide),fun h=>absurd (ho.symm.trans h) (by decide)⟩
    ·
      have ho:f54_o0 l13 i0 d n29=2:=by
        unfold f54_o0
        simp only [c0,c1]
      exact ⟨fun h=>absurd (ho.symm.trans h) (by decide),fun h=>absurd (ho.symm.trans h) (by decide),fun _=>f54_r0_tf s0 X call lf l13 S0 o4 i0 a r17 b c d c0 (g0 c0) (g1 c0) c1,fun h=>absurd (ho.symm.trans h) (by decide)⟩
  ·
    have ho:f54_o0 l13 i0 d n29=3:=by
      unfold f54_o0
      simp only [c0]
    exact ⟨fun h=>absurd (ho.symm.trans h) (by decide),fun h=>absurd (ho.symm.trans h) (by decide),fun h=>absurd (ho.symm.trans h) (by decide),fun _=>f54_r0_f s0 X call lf l13 S0 o4 i0 c0⟩
theorem f54_X0 (s0:ByteArray)(X:Ext)(call:Caller)(lf:Nat)(l13:List ByteArray)(S0:Nat→List Ob)(o4:Nat→AV)(i0:Nat)(a:ByteArray)(r17:List AV)(b c:ByteArray)(d:Bool)(n29:Int)(v37:AV)(s37:List Ob)
 (g0:decide ((↑i0:Int)<(↑l13.length:Int))=true→keep (S0 i0) (indexAddrv Tryd.prog 25 (S0 i0) (lro l13.length 1 (List.map st l13)) (i6 (↑i0:Int)))=some (AV.eaddr (st a::r17),S0 i0))
 (g1:decide ((↑i0:Int)<(↑l13.length:Int))=true→callv X call false 84 [st a,st (ByteArray.mk #[61])] (S0 i0) 0=some (AV.tup [st b,st c,bo d],S0 i0))
 (g2:decide ((↑i0:Int)<(↑l13.length:Int))=true→d=true→keep (S0 i0) (lenv Tryd.prog 31 (S0 i0) (o4 i0))=some (i6 n29,S0 i0))
 (g3:decide ((↑i0:Int)<(↑l13.length:Int))=true→d=true→(n29 == 8)=false→appendv Tryd.prog 31 (S0 i0) 0 (o4 i0) (AV.list LK.clip 1 2 [st b,st c])=some (v37,s37)) :
    (f54_o0 l13 i0 d n29=1→vexec Tryd.prog X call lf 0 noFg (loopN Tryd.f54 0) (f54_F0 s0 l13 S0 o4 i0)=some (Ex.ret,(f54_S1 s0 l13 S0 o4 i0 a r17 b c d n29)))∧(f54_o0 l13 i0 d n29=2→vexec Tryd.prog X call lf 0 noFg (loopN Tryd.f54 0) (f54_F0 s0 l13 S0 o4 i0)=some (Ex.ret,(f54_S2 s0 l13 S0 o4 i0 a r17 b c d)))∧(f54_o0 l13 i0 d n29=3→vexec Tryd.prog X call lf 0 noFg (loopN Tryd.f54 0) (f54_F0 s0 l13 S0 o4 i0)=some (Ex.exit 0,(f54_S3 s0 l13 S0 o4 i0))):=by
  refine (Bool.eq_false_or_eq_true (decide ((↑i0:Int)<(↑l13.length:Int)))).elim (fun c0 => ?_) (fun c0 => ?_)
  ·
    refine (Bool.eq_false_or_eq_true (d)).elim (fun c1 => ?_) (fun c1 => ?_)
    ·
      refine (Bool.eq_false_or_eq_true ((n29 == 8))).elim (fun c2 => ?_) (fun c2 => ?_)
      ·
        have ho:f54_o0 l13 i0 d n29=1:=by
          unfold f54_o0
          simp only [c0,c1,c2]
        exact ⟨fun _=>f54_r0_ttt s0 X call lf l13 S0 o4 i0 a r17 b c d n29 c0 (g0 c0) (g1 c0) c1 (g2 c0 c1) c2,fun h=>absurd (ho.symm.trans h) (by decide),fun h=>absurd (ho.symm.trans h) (by decide)⟩
      ·
        have ho:f54_o0 l13 i0 d n29=0:=by
          unfold f54_o0
          simp only [c0,c1,c2]
        exact ⟨fun h=>absurd (ho.symm.trans h) (by decide),fun h=>absurd (ho.symm.trans h) (by decide),fun h=>absurd (ho.symm.trans h) (by decide)⟩
    ·
      have ho:f54_o0 l13 i0 d n29=2:=by
        unfold f54_o0
        simp only [c0,c1]
      exact ⟨fun h=>absurd (ho.symm.trans h) (by decide),fun _=>f54_r0_tf s0 X call lf l13 S0 o4 i0 a r17 b c d c0 (g0 c0) (g1 c0) c1,fun h=>absurd (ho.symm.trans h) (by decide)⟩
  ·
    have ho:f54_o0 l13 i0 d n29=3:=by
      unfold f54_o0
      simp only [c0]
    exact ⟨fun h=>absurd (ho.symm.trans h) (by decide),fun h=>absurd (ho.symm.trans h) (by decide),fun _=>f54_r0_f s0 X call lf l13 S0 o4 i0 c0⟩
theorem f54_M (s0:ByteArray)(l13:List ByteArray)(S0:Nat→List Ob)(o4:Nat→AV)(X:Ext)(call:Caller)(lf n:Nat)(a:Nat→ByteArray)(r17:Nat→List AV)(b c:Nat→ByteArray)(d:Nat→Bool)(n29:Nat→Int)(v37:Nat→AV)(s37:Nat→List Ob)
 (z0:o4 0=AV.list LK.nil 0 0 [])
 (z1:S0 0=[])
 (hn:n<lf)
 (g0:∀ i0,i0 ≤ n→decide ((↑i0:Int)<(↑l13.length:Int))=true→keep (S0 i0) (indexAddrv Tryd.prog 25 (S0 i0) (lro l13.length 1 (List.map st l13)) (i6 (↑i0:Int)))=some (AV.eaddr (st (a i0)::(r17 i0)),S0 i0))
 (g1:∀ i0,i0 ≤ n→decide ((↑i0:Int)<(↑l13.length:Int))=true→callv X call false 84 [st (a i0),st (ByteArray.mk #[61])] (S0 i0) 0=some (AV.tup [st (b i0),st (c i0),bo (d i0)],S0 i0))
 (g2:∀ i0,i0 ≤ n→decide ((↑i0:Int)<(↑l13.length:Int))=true→(d i0)=true→keep (S0 i0) (lenv Tryd.prog 31 (S0 i0) (o4 i0))=some (i6 (n29 i0),S0 i0))
 (g3:∀ i0,i0 ≤ n→decide ((↑i0:Int)<(↑l13.length:Int))=true→(d i0)=true→((n29 i0) == 8)=false→appendv Tryd.prog 31 (S0 i0) 0 (o4 i0) (AV.list LK.clip 1 2 [st (b i0),st (c i0)])=some ((v37 i0),(s37 i0)))
 (e0:∀ i0,i0<n→decide ((↑i0:Int)<(↑l13.length:Int))=true→o4 (i0 + 1)=(v37 i0))
 (e1:∀ i0,i0<n→decide ((↑i0:Int)<(↑l13.length:Int))=true→(↑(i0 + 1):Int)=w6 ((↑i0:Int) + 1))
 (e2:∀ i0,i0<n→decide ((↑i0:Int)<(↑l13.length:Int))=true→S0 (i0 + 1)=(s37 i0))
 (hz:∀ j,j<n→f54_o0 l13 j (d j) (n29 j)=0) :
    (f54_o0 l13 n (d n) (n29 n)=1→(ByteArray.toList s0 == ByteArray.toList (ByteArray.mk #[]))=false→callv X call false 53 [st s0,st (ByteArray.mk #[32])] [] 0=some (lro l13.length 1 (List.map st l13),[])→vbody Tryd.prog X call lf noFg Tryd.f54 (codeOf Tryd.f54) [st s0] [] 0=some (AV.tup [AV.list LK.nil 0 0 [],i6 3],S0 n))∧(f54_o0 l13 n (d n) (n29 n)=2→(ByteArray.toList s0 == ByteArray.toList (ByteArray.mk #[]))=false→callv X call false 53 [st s0,st (ByteArray.mk #[32])] [] 0=some (lro l13.length 1 (List.map st l13),[])→vbody Tryd.prog X call lf noFg Tryd.f54 (codeOf Tryd.f54) [st s0] [] 0=some (AV.tup [AV.list LK.nil 0 0 [],i6 3],S0 n))∧(f54_o0 l13 n (d n) (n29 n)=3→∀ (b1:Bool),∀ (T1:List Ob),(ByteArray.toList s0 == ByteArray.toList (ByteArray.mk #[]))=false→callv X call false 53 [st s0,st (ByteArray.mk #[32])] [] 0=some (lro l13.length 1 (List.map st l13),[])→callv X call false 45 [o4 n] (S0 n) 0=some (bo b1,T1)→(!b1)=true→vbody Tryd.prog X call lf noFg Tryd.f54 (codeOf Tryd.f54) [st s0] [] 0=some (AV.tup [AV.list LK.nil 0 0 [],i6 3],T1))∧(f54_o0 l13 n (d n) (n29 n)=3→∀ (b1:Bool),∀ (T1:List Ob),∀ (rE:AV),∀ (sE:List Ob),(ByteArray.toList s0 == ByteArray.toList (ByteArray.mk #[]))=false→callv X call false 53 [st s0,st (ByteArray.mk #[32])] [] 0=some (lro l13.length 1 (List.map st l13),[])→callv X call false 45 [o4 n] (S0 n) 0=some (bo b1,T1)→(!b1)=false→vend1 [] 0 T1 [o4 n,i6 0]=some (rE,sE)→vbody Tryd.prog X call lf noFg Tryd.f54 (codeOf Tryd.f54) [st s0] [] 0=some (rE,sE)):=by
  have key:∀ j,j<n→_:=fun j hj=>(f54_B0 s0 X call lf l13 S0 o4 j (a j) (r17 j) (b j) (c j) (d j) (n29 j) (v37 j) (s37 j) (g0 j (Nat.le_of_lt hj)) (g1 j (Nat.le_of_lt hj)) (g2 j (Nat.le_of_lt hj)) (g3 j (Nat.le_of_lt hj)) (e0 j hj) (e1 j hj) (e2 j hj)).1 (hz j hj)
  have kn:=f54_X0 s0 X call lf l13 S0 o4 n (a n) (r17 n) (b n) (c n) (d n) (n29 n) (v37 n) (s37 n) (g0 n (Nat.le_refl n)) (g1 n (Nat.le_refl n)) (g2 n (Nat.le_refl n)) (g3 n (Nat.le_refl n))
  exact ⟨fun hk q0 q1=>f54_pflttt s0 X call lf l13 S0 o4 n (a n) (r17 n) (b n) (c n) (d n) (n29 n) q0 q1 (f54_L0 s0 l13 S0 o4 X call lf n _ _ z0 z1 hn key (kn.1 hk) (by simp)),
    fun hk q0 q1=>f54_pfltf s0 X call lf l13 S0 o4 n (a n) (r17 n) (b n) (c n) (d n) q0 q1 (f54_L0 s0 l13 S0 o4 X call lf n _ _ z0 z1 hn key (kn.2.1 hk) (by simp)),
    fun hk b1 T1 q0 q1 q2 q3=>f54_pflft s0 b1 T1 X call lf l13 S0 o4 n q0 q1 (f54_L0 s0 l13 S0 o4 X call lf n _ _ z0 z1 hn key (kn.2.2 hk) (by simp)) q2 q3,
    fun hk b1 T1 rE sE q0 q1 q2 q3 q4=>f54_pflff s0 b1 T1 X call lf l13 S0 o4 n rE sE q0 q1 (f54_L0 s0 l13 S0 o4 X call lf n _ _ z0 z1 hn key (kn.2.2 hk) (by simp)) q2 q3 q4⟩
end Go.Proofs.Lex
end
/- Lexicon: feature.Parse. -/
section
open Go Go.Vm Go.Proofs
namespace Go.Proofs.Lex
abbrev eqs:ByteArray:=⟨#[61]⟩
def cutB3 (p:ByteArray):List UInt8 × List UInt8 × Bool:=Lib.cut p.data.toList [61]
def cutB (p:ByteArray):Bool:=(cutB3 p).2.2
def featOf (p:ByteArray):Feat:=⟨⟨(cutB3 p).1.toArray⟩,⟨(cutB3 p).2.1.toArray⟩⟩
def featsOf (l:List ByteArray):List Feat:=l.map featOf
/-- The record with a text, from its parts. -/
def partsF (l:List ByteArray):Option (List Feat):=if l.all cutB=true∧l.length ≤ 8∧validF (featsOf l)=true then some (featsOf l) else none
def parseF (s:ByteArray):Option (List Feat):=if s=emp then some [] else partsF (splitL s blank)
/-- A result and its error. -/
def resE {α:Type} (d:α):Option α→α × Int
  | some x=>(x,0)
  | none=>(d,3)
section
variable [Fixed] {X:Ext}
abbrev aFsE:Arg (List Feat × Int):=Arg.tup2 aFs aI
theorem bad_dec:aFsE.dec (.tup [.list .nil 0 0 [],i6 3])=some ([],3):=by rfl
theorem nil_dec:aFsE.dec (.tup [.list .nil 0 0 [],i6 0])=some ([],0):=by rfl
abbrev nil0:AV := .list .nil 0 0 []
theorem len_gr {σ:List Ob} (n:Nat):keep σ (lenv Tryd.prog 31 σ (grV nil0 0 n))=some (i6 n,σ):=by
  unfold lenv
  rw [Tryd.underlying31]
  by_cases h:n=0
  · subst h; rfl
  · rw [grV,if_neg h]; rfl
/-- A row of the call's own, given to a function that is told, and returned. -/
theorem row_call {T:Go.Vm.Spec} {f:FuncId} {F:List Feat} {b:Bool} (hw:X.pureFn f=none∧X.stFn f=none∧X.adopt f=false) (h1:T f [nil0]=some (bo b) ∨ F ≠ []) (h2:T f [featsV F]=some (bo b)) :
    ∃ σ',callv X (callerOf T) false f [grV nil0 0 F.length] (grS cF [] F) 0=some (bo b,σ')∧∃ r σ'',vend1 [] 0 σ' [grV nil0 0 F.length,i6 0]=some (r,σ'')∧aFsE.dec r=some (F,0):=by
  by_cases hF:F.length=0
  · have hF' : F = [] := List.eq_nil_of_length_eq_zero hF
    subst hF'
    have h1:=h1.resolve_right (fun h=>h rfl)
    refine ⟨[],?_,_,_,rfl,rfl⟩
    show callv X (callerOf T) false f [nil0] [] 0=_
    unfold callv
    rw [hw.1,hw.2.1]
    simp only [AV.ltAll,AV.lt,Bool.and_self,if_true,callerOf,h1,AV.pure,hw.2.2,Bool.and_false,Bool.false_eq_true,if_false]
    rfl
  · have hg : grS cF [] F = [.arr F.length 2 (F.flatMap featC)] := by rw [grS, if_neg hF]; rfl
    have hv:grV nil0 0 F.length = .own 0 F.length:=if_neg hF
    rw [hg,hv]
    have hlt : AV.ltAll 0 [featsV F] = true := by
      have:=aFs.lt F
      rw [aFs_enc] at this
      simp only [AV.ltAll,this,Bool.and_self]
    have ht:AV.thawAll [Ob.arr F.length 2 (F.flatMap featC)] [.own 0 F.length]=some [featsV F]:=by simp [AV.thawAll,AV.thaw,featsV]
    refine ⟨[.fro F.length 2 (F.flatMap featC)],?_,.tup [featsV F,i6 0],[.fro F.length 2 (F.flatMap featC)],?_,?_⟩
    · unfold callv
      rw [hw.1,hw.2.1]
      have hn:AV.ltAll 0 [AV.own 0 F.length]=false:=by simp [AV.ltAll,AV.lt,show Nat.blt 0 0=false from rfl]
      have hfz:freezeIds 0 [Ob.arr F.length 2 (F.flatMap featC)] (AV.ownsAll [.own 0 F.length])=some [.fro F.length 2 (F.flatMap featC)]:=by simp [AV.ownsAll,AV.owns,freezeIds,freezeId,setOb]
      simp only [hn,Bool.false_eq_true,if_false,ht,hlt,if_true,hfz,callerOf,h2,AV.pure,AV.lt,hw.2.2]
      rfl
    · simp [vend1,AV.thawAll,AV.thaw,AV.ownsAll,AV.owns,freezeIds,freezeId,resOf,oneOf,unfr,unfr1,featsV]
    · have := aFs.de F
      rw [aFs_enc] at this
      show aFsE.dec (.tup [featsV F,i6 0])=some (F,0)
      have h3:=aFsE.de (F,0)
      exact h3
theorem extract_le (s:ByteArray) (i j:Nat):(s.extract i j).size ≤ s.size:=by
  rw [ByteArray.size_extract]
  omega
theorem splitB_le (sep:ByteArray) (save:Nat):∀ (k:Nat) (s p:ByteArray),p ∈ Lib.splitB sep save k s→p.size ≤ s.size
  | 0, s, p, h => by
    simp only [Lib.splitB,List.mem_singleton] at h
    rw [h]
    exact Nat.le_refl _
  | k + 1, s, p, h => by
    unfold Lib.splitB at h
    split at h
    · simp only [List.mem_singleton] at h
      rw [h]
      exact Nat.le_refl _
    · rcases List.mem_cons.1 h with rfl | h
      · exact extract_le _ _ _
      · exact Nat.le_trans (splitB_le sep save k _ p h) (extract_le _ _ _)
theorem split_le {s p:ByteArray} (h:p ∈ splitL s blank):p.size ≤ s.size:=splitB_le _ _ _ _ _ h
theorem split_len {s:ByteArray}:(splitL s blank).length ≤ s.size + 1:=by
  have h1:(splitL s blank).length=Lib.countB s blank + 1:=Lib.splitB_all blank (by decide) 0 _ s rfl
  have h2:=Lib.countB_le blank (by decide) s.size s (Nat.le_refl _)
  omega
theorem cut_le (l sep:List UInt8):(Lib.cut l sep).1.length ≤ l.length∧(Lib.cut l sep).2.1.length ≤ l.length:=by
  unfold Lib.cut
  split
  · refine ⟨?_, ?_⟩
    · show (l.take _).length ≤ _
      rw [List.length_take]
      exact Nat.min_le_right _ _
    · show (l.drop _).length ≤ _
      rw [List.length_drop]
      exact Nat.sub_le _ _
  · exact ⟨Nat.le_refl _,Nat.zero_le _⟩
theorem featOf_le (p:ByteArray):(featOf p).name.size ≤ p.size∧(featOf p).value.size ≤ p.size:=by
  obtain ⟨h1,h2⟩:=cut_le p.data.toList [61]
  have e:p.data.toList.length=p.size:=by simp
  rw [e] at h1 h2
  constructor
  · show (Lib.cut p.data.toList [61]).1.toArray.size ≤ _
    simpa using h1
  · show (Lib.cut p.data.toList [61]).2.1.toArray.size ≤ _
    simpa using h2
theorem lim_big:lim ≤ big:=by decide
theorem okF_parts {s:ByteArray} (hs:s.size < lim) {l:List ByteArray} (hl:l.length ≤ big) (h:∀ p ∈ l,p ∈ splitL s blank):okF (featsOf l):=by
  refine ⟨by rw [featsOf,List.length_map]; exact hl,fun f hf => ?_⟩
  obtain ⟨p,hp,rfl⟩:=List.mem_map.1 hf
  have h1:=split_le (h p hp)
  have h2:=featOf_le p
  have h3:=lim_big
  omega
theorem cut84 (hM:XM X) {call:Caller} {p:ByteArray} (hp:p.size < lim) (σ:List Ob):callv X call false 84 [st p,st eqs] σ 0=some (.tup [st (featOf p).name,st (featOf p).value,bo (cutB p)],σ):=by
  refine call_pure hM.cut rfl rfl rfl ?_
  unfold cutFn
  simp only
  rw [if_pos hp]
  rfl
theorem split53 (hM:XM X) {call:Caller} {s:ByteArray} (hs:s.size < lim) (σ:List Ob):callv X call false 53 [st s,st blank] σ 0=some (Go.Vm.strs (splitL s blank),σ):=by
  refine call_pure hM.split rfl rfl rfl ?_
  unfold splitFn
  simp only
  rw [if_pos ⟨hs,by decide⟩]
/-- feature.Parse. -/
theorem call54 (hX:ExtOk Tryd.prog X) (hM:XM X) {s:ByteArray} (hs:s.size < lim):CallAt Tryd.prog 54 [aS.enc s] [] 0 (aFsE.enc (resE [] (parseF s))) []:=by
  have hC:=callerOf_ok (U1_ok hX hM.toXL)
  by_cases e:s=emp
  · unfold parseF
    rw [if_pos e]
    exact run_res (B:=aFsE) hX hC (hM.dom 54 rfl rfl) Tryd.func54 (by kernel_rfl) (f54_pt s X (callerOf U1) 0 (eqB_iff.2 e)) nil_dec
  have he:(s.toList == (ByteArray.mk #[]).toList)=false:=eqB_ne.2 e
  unfold parseF
  rw [if_neg e]
  obtain ⟨l,hl⟩:∃ l,splitL s blank=l:=⟨_,rfl⟩
  have hsp:=split53 (call:=callerOf U1) hM hs []
  rw [hl] at hsp ⊢
  have hlen:l.length ≤ s.size + 1:=by rw [← hl]; exact split_len
  have hlim:s.size < 4294967281:=hs
  have hpart : ∀ i, i < l.length → (nS l i).size < lim := fun i hi => by
    have:(nS l i).size ≤ s.size:=split_le (by rw [hl,nS,getD_lt hi]; exact List.getElem_mem hi)
    exact Nat.lt_of_le_of_lt this hs
  have lt_of : ∀ {i0 : Nat}, decide ((↑i0 : Int) < (↑(List.length l) : Int)) = true → i0 < l.length := fun h => by
    have:=of_decide_eq_true h
    omega
  have step : ∀ i, i < l.length → appendv Tryd.prog 31 (grS cF [] (featsOf (l.take i))) 0 (grV nil0 0 (featsOf (l.take i)).length) (.list .clip 1 2 [st (featOf (nS l i)).name, st (featOf (nS l i)).value]) = some (grV nil0 0 (featsOf (l.take (i + 1))).length, grS cF [] (featsOf (l.take (i + 1)))) := by
    intro i hi
    have e : featsOf (l.take (i + 1)) = featsOf (l.take i) ++ [featOf (nS l i)] := by
      unfold featsOf
      rw [List.take_succ_eq_append_getElem hi,List.map_append,nS,getD_lt hi]
      rfl
    rw [e]
    have hle:(featsOf (l.take i)).length ≤ l.length:=by unfold featsOf; simp; omega
    exact gr_step (σ0:=[]) (l:=featsOf (l.take i)) (m:=[featOf (nS l i)]) (lk := .nil) (sz0:=0) rowF (.inl rfl) (appended_row [featOf (nS l i)]) (by show _ ≤ 140737488355328; simp only [List.length_singleton]; omega)
  have hlt:∀ i,i ≤ l.length→(featsOf (l.take i)).length=i:=fun i hi=>by unfold featsOf; simp; omega
  have M := fun n (hn : n ≤ l.length) (hz : ∀ j, j < n → f54_o0 l j (cutB (nS l j)) (featsOf (l.take j)).length = 0) => f54_M s l (fun i => grS cF [] (featsOf (l.take i))) (fun i => grV nil0 0 (featsOf (l.take i)).length) X (callerOf U1) (l.length + 1) n (fun i => nS l i) (fun i => tS l i)
    (fun i=>(featOf (nS l i)).name) (fun i=>(featOf (nS l i)).value) (fun i=>cutB (nS l i)) (fun i=>(featsOf (l.take i)).length) (fun i=>grV nil0 0 (featsOf (l.take (i + 1))).length) (fun i=>grS cF [] (featsOf (l.take (i + 1))))
    rfl rfl (by omega) (fun i _ h=>at_strs (lt_of h)) (fun i _ h=>cut84 hM (hpart i (lt_of h)) _) (fun i _ h _=>len_gr _) (fun i _ h _ _=>step i (lt_of h)) (fun _ _ _=>rfl) (fun i h _=>up (n:=l.length) (by omega) (by show _ ≤ 140737488355328; omega)) (fun _ _ _=>rfl) hz
  have ho : ∀ i, i ≤ l.length → (i < l.length → (cutB (nS l i) = true ∧ i ≠ 8) → f54_o0 l i (cutB (nS l i)) (featsOf (l.take i)).length = 0) ∧ (i < l.length → ¬ (cutB (nS l i) = true ∧ i ≠ 8) → f54_o0 l i (cutB (nS l i)) (featsOf (l.take i)).length = 1 ∨ f54_o0 l i (cutB (nS l i)) (featsOf (l.take i)).length = 2) ∧ (¬ i < l.length → f54_o0 l i (cutB (nS l i)) (featsOf (l.take i)).length = 3) := by
    intro i hi
    rw [hlt i hi]
    unfold f54_o0
    refine ⟨fun h1 h2 => ?_,fun h1 h2 => ?_,fun h1 => ?_⟩
    · rw [decide_eq_true (by omega),h2.1,show ((↑i:Int) == 8)=false from beq_eq_false_iff_ne.2 (by omega)]
    · rw [decide_eq_true (by omega)]
      cases hc:cutB (nS l i) with
      | false=>exact .inr rfl
      | true =>
        have h8 : i = 8 := by
          by_cases h8:i=8
          · exact h8
          · exact absurd ⟨hc,h8⟩ h2
        subst h8
        exact .inl rfl
    · rw [decide_eq_false (by omega)]
  rcases first_fail (p:=fun i=>cutB (nS l i)=true∧i ≠ 8) l.length with hall | ⟨k,hk,hbad,hbef⟩
  · have hn := M l.length (Nat.le_refl _) fun j hj => (ho j (by omega)).1 hj (hall j hj)
    have h3:=(ho l.length (Nat.le_refl _)).2.2 (by omega)
    have hall' : l.all cutB=true:=(all_nth (d:=emp)).2 fun i hi=>(hall i hi).1
    have h8 : l.length ≤ 8 := by
      rcases Nat.lt_or_ge 8 l.length with h | h
      · exact absurd rfl (hall 8 h).2
      · exact h
    rw [List.take_length] at hn h3
    have hokF:okF (featsOf l):=okF_parts hs (by show _ ≤ 140737488355328; omega) fun p hp=>by rw [hl]; exact hp
    have hT:U1 45 [featsV (featsOf l)]=some (bo (validF (featsOf l))):=s1_at (A:=aFs) (B:=aB) (g:=validF) (ok:=okF) hokF
    have hT0 : U1 45 [nil0] = some (bo (validF (featsOf l))) ∨ featsOf l ≠ [] := by
      cases hz:featsOf l with
      | nil =>
        left
        have : s1 aFs aB validF okF [nil0] = some (bo (validF [])) := by
          unfold s1
          rw [sp1_at (x:=([]:List Feat)) (by rfl),if_pos ⟨Nat.zero_le _,fun f hf=>by simp at hf⟩]
          rfl
        exact this
      | cons a b=>right; simp
    obtain ⟨σ',hcall,r,σ'',hv,hd⟩:=row_call (X:=X) (hM.ok 45 rfl) hT0 hT
    unfold partsF
    cases hval:validF (featsOf l) with
    | true =>
      rw [if_pos ⟨hall',h8,rfl⟩]
      rw [hval] at hcall
      exact run_res (B:=aFsE) hX hC (hM.dom 54 rfl rfl) Tryd.func54 (by kernel_rfl) (hn.2.2.2 h3 true σ' r σ'' he hsp hcall rfl hv) hd
    | false =>
      rw [if_neg (by rintro ⟨_,_,h⟩; cases h)]
      rw [hval] at hcall
      exact run_res (B:=aFsE) hX hC (hM.dom 54 rfl rfl) Tryd.func54 (by kernel_rfl) (hn.2.2.1 h3 false σ' he hsp hcall rfl) bad_dec
  · have hn := M k (by omega) fun j hj => (ho j (by omega)).1 (by omega) (hbef j hj)
    have hno : partsF l = none := by
      unfold partsF
      rw [if_neg]
      rintro ⟨h1,h2,_⟩
      exact hbad ⟨(all_nth (d:=emp)).1 h1 k hk,by omega⟩
    rw [hno]
    rcases (ho k (by omega)).2.1 hk hbad with h | h
    · exact run_res (B:=aFsE) hX hC (hM.dom 54 rfl rfl) Tryd.func54 (by kernel_rfl) (hn.1 h he hsp) bad_dec
    · exact run_res (B:=aFsE) hX hC (hM.dom 54 rfl rfl) Tryd.func54 (by kernel_rfl) (hn.2.1 h he hsp) bad_dec
end
end Go.Proofs.Lex
end
/- Lexicon: plain laws: a text cut at its blanks, and joined. -/
section
open Go Go.Vm Go.Proofs
namespace Go.Proofs.Lex
/-- A list of bytes, cut at each blank. -/
def spl:List UInt8→List (List UInt8)
  | []=>[[]]
  | b :: l => if b = 32 then [] :: spl l else match spl l with
    | []=>[[b]]
    | x::r=>(b::x)::r
theorem spl_ne (l:List UInt8):spl l ≠ []:=by
  cases l with
  | nil=>simp [spl]
  | cons b l =>
    unfold spl
    split
    · simp
    · split <;> simp
theorem index_cons (b:UInt8) (l:List UInt8) (c:UInt8):Lib.index (b::l) [c]=if b=c then 0 else if Lib.index l [c] == -1 then -1 else Lib.index l [c] + 1:=by
  rw [Lib.index]
  by_cases h:b=c
  · subst h
    simp [List.isPrefixOf]
  · have hp : ([c] : List UInt8).isPrefixOf (b :: l) = false := by simp [List.isPrefixOf, Ne.symm h]
    rw [hp,if_neg h]
    simp
theorem index_nil (c:UInt8):Lib.index [] [c] = -1:=by
  rw [Lib.index]
  simp
theorem spl_miss:∀ {l:List UInt8},Lib.index l [32] = -1→spl l=[l]
  | [],_=>rfl
  | b :: l, h => by
    rw [index_cons] at h
    split at h
    · cases h
    · rename_i hb
      have hl : Lib.index l [32] = -1 := by
        split at h
        · rename_i e; exact beq_iff_eq.1 e
        · have := Lib.index_ge l [32]
          omega
      unfold spl
      rw [if_neg hb,spl_miss hl]
theorem spl_hit:∀ {l:List UInt8} {i:Nat},Lib.index l [32]=i→spl l=l.take i::spl (l.drop (i + 1))
  | [],i,h=>by rw [index_nil] at h; omega
  | b :: l, i, h => by
    rw [index_cons] at h
    split at h
    · rename_i hb
      have:i=0:=by omega
      subst this
      show (if b=32 then []::spl l else match spl l with | []=>[[b]] | x::r=>(b::x)::r)=_
      rw [if_pos hb]
      rfl
    · rename_i hb
      split at h
      · omega
      · rename_i e
        have hne:Lib.index l [32] ≠ -1:=fun e' => e (beq_iff_eq.2 e')
        have hge:=Lib.index_ge l [32]
        obtain ⟨j,rfl⟩:∃ j,i=j + 1:=⟨i - 1,by omega⟩
        have hl:Lib.index l [32]=j:=by omega
        have ih:=spl_hit hl
        show (if b=32 then []::spl l else match spl l with | []=>[[b]] | x::r=>(b::x)::r)=_
        rw [if_neg hb,ih]
        rfl
theorem ex_list (s:ByteArray) (i j:Nat):(s.extract i j).data.toList=(s.data.toList.take j).drop i:=by
  rw [ByteArray.data_extract,Array.toList_extract]
  simp [List.extract,List.drop_take]
theorem splitB_spl:∀ (k:Nat) (s:ByteArray),Lib.countB s blank=k→(Lib.splitB blank 0 k s).map (·.data.toList)=spl s.data.toList:=by
  intro k
  induction k with
  | zero =>
    intro s hk
    rcases Lib.indexB_cases s blank with hix | ⟨i,hix,_⟩
    · rw [spl_miss hix]; rfl
    · have := Lib.countB_hit s blank i (by decide) hix
      omega
  | succ k ih =>
    intro s hk
    rcases Lib.indexB_cases s blank with hix | ⟨i,hix,hroom⟩
    · rw [Lib.countB_miss s blank hix] at hk; omega
    · have hc := Lib.countB_hit s blank i (by decide) hix
      have hsz:s.data.toList.length=s.size:=by simp
      rw [Lib.splitB_hit blank 0 k s i hix,List.map_cons,ih _ (by omega),spl_hit (i:=i) hix]
      congr 1
      · rw [ex_list,Nat.add_zero,List.drop_zero]
      · rw [ex_list]
        congr 1
        rw [List.take_of_length_le (by omega)]
        rfl
theorem split_spl (s:ByteArray):(splitL s blank).map (·.data.toList)=spl s.data.toList:=splitB_spl _ s rfl
theorem join_spl:∀ (l:List UInt8),Lib.join (spl l) [32]=l
  | []=>rfl
  | b :: l => by
    have ih:=join_spl l
    unfold spl
    split
    · rename_i hb
      subst hb
      rw [Lib.join_cons]
      cases h:spl l with
      | nil=>exact absurd h (spl_ne l)
      | cons x r =>
        rw [h,Lib.join_cons] at ih
        show [] ++ ([32] ++ x ++ Lib.joinTail [32] r)=_
        rw [← ih]
        simp
    · cases h : spl l with
      | nil=>exact absurd h (spl_ne l)
      | cons x r =>
        rw [h,Lib.join_cons] at ih
        show Lib.join ((b::x)::r) [32]=_
        rw [Lib.join_cons,← ih]
        rfl
theorem joinB_split (s:ByteArray):joinB (splitL s blank) blank=s.data.toList:=by
  unfold joinB
  rw [split_spl]
  exact join_spl _
theorem join_tail_le (x:List UInt8) (r:List (List UInt8)):(Lib.join r [32]).length ≤ (Lib.join (x::r) [32]).length:=by
  cases r with
  | nil=>exact Nat.zero_le _
  | cons y r =>
    rw [Lib.join_cons,Lib.join_cons]
    show _ ≤ (x ++ ([32] ++ y ++ Lib.joinTail [32] r)).length
    simp only [List.length_append]
    omega
theorem join_drop_le:∀ (n:Nat) (r:List (List UInt8)),(Lib.join (r.drop n) [32]).length ≤ (Lib.join r [32]).length
  | 0,r=>Nat.le_refl _
  | n + 1,[]=>Nat.le_refl _
  | n + 1,x::r=>Nat.le_trans (join_drop_le n r) (join_tail_le x r)
theorem joinB_drop_le (s:ByteArray) (n:Nat):(joinB ((splitL s blank).drop n) blank).length ≤ s.size:=by
  have h:=join_drop_le n ((splitL s blank).map (·.data.toList))
  rw [← List.map_drop] at h
  have e : (Lib.join ((splitL s blank).map (·.data.toList)) [32]).length = s.size := by
    have:=congrArg List.length (joinB_split s)
    rw [show s.data.toList.length=s.size by simp] at this
    exact this
  rw [e] at h
  exact h
theorem join_le {B:Nat}:∀ (r:List (List UInt8)),(∀ x ∈ r,x.length ≤ B)→(Lib.join r [32]).length ≤ r.length * (B + 1)
  | [],_=>Nat.zero_le _
  | x :: r, h => by
    have ih:=join_le r fun y hy=>h y (List.mem_cons_of_mem _ hy)
    have hx:=h x (List.mem_cons_self ..)
    have : (Lib.join (x :: r) [32]).length ≤ x.length + 1 + (Lib.join r [32]).length := by
      cases r with
      | nil=>rw [Lib.join_one]; omega
      | cons y r =>
        rw [Lib.join_cons,Lib.join_cons]
        show (x ++ ([32] ++ y ++ Lib.joinTail [32] r)).length ≤ _
        simp only [List.length_append,List.length_cons,List.length_nil]
        omega
    rw [List.length_cons,Nat.succ_mul]
    omega
end Go.Proofs.Lex
end
/- Lexicon: ParseLine (printed) -/
section
open Go Go.Vm Go.Proofs
namespace Go.Proofs.Lex
def fg23:Nat→List Nat
  | 2005=>[1000002]
  | _=>[]
theorem f23_pt (s0:ByteArray)(X:Ext)(call:Caller)(lf:Nat)(l9:List ByteArray)
 (h0:callv X call false 53 [st s0,st (ByteArray.mk #[32])] [Ob.cells [st (ByteArray.mk #[]),st (ByteArray.mk #[]),st (ByteArray.mk #[]),st (ByteArray.mk #[]),AV.list LK.nil 0 0 []]] 0=some (lro l9.length 1 (List.map st l9),[Ob.cells [st (ByteArray.mk #[]),st (ByteArray.mk #[]),st (ByteArray.mk #[]),st (ByteArray.mk #[]),AV.list LK.nil 0 0 []]]))
 (h1:decide ((↑l9.length:Int)<4)=true):vbody Tryd.prog X call lf fg23 Tryd.f23 (codeOf Tryd.f23) [st s0] [] 0=some (AV.tup [AV.agg [st (ByteArray.mk #[]),st (ByteArray.mk #[]),st (ByteArray.mk #[]),st (ByteArray.mk #[]),AV.list LK.nil 0 0 []],i6 3],[Ob.cells [st (ByteArray.mk #[]),st (ByteArray.mk #[]),st (ByteArray.mk #[]),st (ByteArray.mk #[]),AV.list LK.nil 0 0 []]]) :=
  along_sound (ans:=[(5,Ans.v (lro l9.length 1 (List.map st l9))),(10,Ans.b true)]) (by kernel_rfl) (ai h0 (ai h1 trivial))
theorem f23_pft (s0:ByteArray)(X:Ext)(call:Caller)(lf:Nat)(l9 l16:List ByteArray)(k16:LK)(x17:ByteArray)(a:Nat)(c:List AV)(d:Int)(e:ByteArray)(r22:List AV)(g:ByteArray)(r25:List AV)(h:ByteArray)(r28:List AV)(x30 j:ByteArray)(r32:List AV)(x34:ByteArray)
 (h0:callv X call false 53 [st s0,st (ByteArray.mk #[32])] [Ob.cells [st (ByteArray.mk #[]),st (ByteArray.mk #[]),st (ByteArray.mk #[]),st (ByteArray.mk #[]),AV.list LK.nil 0 0 []]] 0=some (lro l9.length 1 (List.map st l9),[Ob.cells [st (ByteArray.mk #[]),st (ByteArray.mk #[]),st (ByteArray.mk #[]),st (ByteArray.mk #[]),AV.list LK.nil 0 0 []]]))
 (h1:decide ((↑l9.length:Int)<4)=false)
 (h2:slc Tryd.prog 25 [Ob.cells [st (ByteArray.mk #[]),st (ByteArray.mk #[]),st (ByteArray.mk #[]),st (ByteArray.mk #[]),AV.list LK.nil 0 0 []]] false 0 (lro l9.length 1 (List.map st l9)) (some (i6 4)) none none=some (AV.list k16 l16.length 1 (List.map st l16),[Ob.cells [st (ByteArray.mk #[]),st (ByteArray.mk #[]),st (ByteArray.mk #[]),st (ByteArray.mk #[]),AV.list LK.nil 0 0 []]]))
 (h3:callv X call false 55 [AV.list k16 l16.length 1 (List.map st l16),st (ByteArray.mk #[32])] [Ob.cells [st (ByteArray.mk #[]),st (ByteArray.mk #[]),st (ByteArray.mk #[]),st (ByteArray.mk #[]),AV.list LK.nil 0 0 []]] 0=some (st x17,[Ob.cells [st (ByteArray.mk #[]),st (ByteArray.mk #[]),st (ByteArray.mk #[]),st (ByteArray.mk #[]),AV.list LK.nil 0 0 []]]))
 (h4:callv X call false 54 [st x17] [Ob.cells [st (ByteArray.mk #[]),st (ByteArray.mk #[]),st (ByteArray.mk #[]),st (ByteArray.mk #[]),AV.list LK.nil 0 0 []]] 0=some (AV.tup [lro a 2 c,i6 d],[Ob.cells [st (ByteArray.mk #[]),st (ByteArray.mk #[]),st (ByteArray.mk #[]),st (ByteArray.mk #[]),AV.list LK.nil 0 0 []]]))
 (h5:keep [Ob.cells [st (ByteArray.mk #[]),st (ByteArray.mk #[]),st (ByteArray.mk #[]),st (ByteArray.mk #[]),AV.list LK.nil 0 0 []]] (indexAddrv Tryd.prog 25 [Ob.cells [st (ByteArray.mk #[]),st (ByteArray.mk #[]),st (ByteArray.mk #[]),st (ByteArray.mk #[]),AV.list LK.nil 0 0 []]] (lro l9.length 1 (List.map st l9)) (i6 0))=some (AV.eaddr (st e::r22),[Ob.cells [st (ByteArray.mk #[]),st (ByteArray.mk #[]),st (ByteArray.mk #[]),st (ByteArray.mk #[]),AV.list LK.nil 0 0 []]]))
 (h6:keep [Ob.cells [st (ByteArray.mk #[]),st (ByteArray.mk #[]),st (ByteArray.mk #[]),st (ByteArray.mk #[]),AV.list LK.nil 0 0 []]] (indexAddrv Tryd.prog 25 [Ob.cells [st (ByteArray.mk #[]),st (ByteArray.mk #[]),st (ByteArray.mk #[]),st (ByteArray.mk #[]),AV.list LK.nil 0 0 []]] (lro l9.length 1 (List.map st l9)) (i6 1))=some (AV.eaddr (st g::r25),[Ob.cells [st (ByteArray.mk #[]),st (ByteArray.mk #[]),st (ByteArray.mk #[]),st (ByteArray.mk #[]),AV.list LK.nil 0 0 []]]))
 (h7:keep [Ob.cells [st (ByteArray.mk #[]),st (ByteArray.mk #[]),st (ByteArray.mk #[]),st (ByteArray.mk #[]),AV.list LK.nil 0 0 []]] (indexAddrv Tryd.prog 25 [Ob.cells [st (ByteArray.mk #[]),st (ByteArray.mk #[]),st (ByteArray.mk #[]),st (ByteArray.mk #[]),AV.list LK.nil 0 0 []]] (lro l9.length 1 (List.map st l9)) (i6 2))=some (AV.eaddr (st h::r28),[Ob.cells [st (ByteArray.mk #[]),st (ByteArray.mk #[]),st (ByteArray.mk #[]),st (ByteArray.mk #[]),AV.list LK.nil 0 0 []]]))
 (h8:callv X (call0 call) true 56 [st h] [Ob.cells [st (ByteArray.mk #[]),st (ByteArray.mk #[]),st (ByteArray.mk #[]),st (ByteArray.mk #[]),AV.list LK.nil 0 0 []]] 0=some (st x30,[Ob.cells [st (ByteArray.mk #[]),st (ByteArray.mk #[]),st (ByteArray.mk #[]),st (ByteArray.mk #[]),AV.list LK.nil 0 0 []]]))
 (h9:keep [Ob.cells [st (ByteArray.mk #[]),st (ByteArray.mk #[]),st (ByteArray.mk #[]),st (ByteArray.mk #[]),AV.list LK.nil 0 0 []]] (indexAddrv Tryd.prog 25 [Ob.cells [st (ByteArray.mk #[]),st (ByteArray.mk #[]),st (ByteArray.mk #[]),st (ByteArray.mk #[]),AV.list LK.nil 0 0 []]] (lro l9.length 1 (List.map st l9)) (i6 3))=some (AV.eaddr (st j::r32),[Ob.cells [st (ByteArray.mk #[]),st (ByteArray.mk #[]),st (ByteArray.mk #[]),st (ByteArray.mk #[]),AV.list LK.nil 0 0 []]]))
 (h10:callv X (call0 call) true 56 [st j] [Ob.cells [st (ByteArray.mk #[]),st (ByteArray.mk #[]),st (ByteArray.mk #[]),st (ByteArray.mk #[]),AV.list LK.nil 0 0 []]] 0=some (st x34,[Ob.cells [st (ByteArray.mk #[]),st (ByteArray.mk #[]),st (ByteArray.mk #[]),st (ByteArray.mk #[]),AV.list LK.nil 0 0 []]]))
 (h11:(d != 0)=true):vbody Tryd.prog X call lf fg23 Tryd.f23 (codeOf Tryd.f23) [st s0] [] 0=some (AV.tup [AV.agg [st (ByteArray.mk #[]),st (ByteArray.mk #[]),st (ByteArray.mk #[]),st (ByteArray.mk #[]),AV.list LK.nil 0 0 []],i6 3],[Ob.cells [st (ByteArray.mk #[]),st (ByteArray.mk #[]),st (ByteArray.mk #[]),st (ByteArray.mk #[]),AV.list LK.nil 0 0 []],Ob.cells [st e,st g,st x30,st x34,lro a 2 c]]) :=
  along_sound (ans:=[(5,Ans.v (lro l9.length 1 (List.map st l9))),(10,Ans.b false),(14,Ans.v (AV.list k16 l16.length 1 (List.map st l16))),(15,Ans.v (st x17)),(16,Ans.v (AV.tup [lro a 2 c,i6 d])),(24,Ans.v (AV.eaddr (st e::r22))),(27,Ans.v (AV.eaddr (st g::r25))),(30,Ans.v (AV.eaddr (st h::r28))),(32,Ans.v (st x30)),(34,Ans.v (AV.eaddr (st j::r32))),(36,Ans.v (st x34)),(43,Ans.b true)]) (by kernel_rfl) (ai h0 (ai h1 (ai h2 (ai h3 (ai h4 (ai h5 (ai h6 (ai h7 (ai h8 (ai h9 (ai h10 (ai h11 trivial))))))))))))
theorem f23_pfft (s0:ByteArray)(X:Ext)(call:Caller)(lf:Nat)(l9 l16:List ByteArray)(k16:LK)(x17:ByteArray)(a:Nat)(c:List AV)(d:Int)(e:ByteArray)(r22:List AV)(g:ByteArray)(r25:List AV)(h:ByteArray)(r28:List AV)(x30 j:ByteArray)(r32:List AV)(x34 x41:ByteArray)
 (h0:callv X call false 53 [st s0,st (ByteArray.mk #[32])] [Ob.cells [st (ByteArray.mk #[]),st (ByteArray.mk #[]),st (ByteArray.mk #[]),st (ByteArray.mk #[]),AV.list LK.nil 0 0 []]] 0=some (lro l9.length 1 (List.map st l9),[Ob.cells [st (ByteArray.mk #[]),st (ByteArray.mk #[]),st (ByteArray.mk #[]),st (ByteArray.mk #[]),AV.list LK.nil 0 0 []]]))
 (h1:decide ((↑l9.length:Int)<4)=false)
 (h2:slc Tryd.prog 25 [Ob.cells [st (ByteArray.mk #[]),st (ByteArray.mk #[]),st (ByteArray.mk #[]),st (ByteArray.mk #[]),AV.list LK.nil 0 0 []]] false 0 (lro l9.length 1 (List.map st l9)) (some (i6 4)) none none=some (AV.list k16 l16.length 1 (List.map st l16),[Ob.cells [st (ByteArray.mk #[]),st (ByteArray.mk #[]),st (ByteArray.mk #[]),st (ByteArray.mk #[]),AV.list LK.nil 0 0 []]]))
 (h3:callv X call false 55 [AV.list k16 l16.length 1 (List.map st l16),st (ByteArray.mk #[32])] [Ob.cells [st (ByteArray.mk #[]),st (ByteArray.mk #[]),st (ByteArray.mk #[]),st (ByteArray.mk #[]),AV.list LK.nil 0 0 []]] 0=some (st x17,[Ob.cells [st (ByteArray.mk #[]),st (ByteArray.mk #[]),st (ByteArray.mk #[]),st (ByteArray.mk #[]),AV.list LK.nil 0 0 []]]))
 (h4:callv X call false 54 [st x17] [Ob.cells [st (ByteArray.mk #[]),st (ByteArray.mk #[]),st (ByteArray.mk #[]),st (ByteArray.mk #[]),AV.list LK.nil 0 0 []]] 0=some (AV.tup [lro a 2 c,i6 d],[Ob.cells [st (ByteArray.mk #[]),st (ByteArray.mk #[]),st (ByteArray.mk #[]),st (ByteArray.mk #[]),AV.list LK.nil 0 0 []]]))
 (h5:keep [Ob.cells [st (ByteArray.mk #[]),st (ByteArray.mk #[]),st (ByteArray.mk #[]),st (ByteArray.mk #[]),AV.list LK.nil 0 0 []]] (indexAddrv Tryd.prog 25 [Ob.cells [st (ByteArray.mk #[]),st (ByteArray.mk #[]),st (ByteArray.mk #[]),st (ByteArray.mk #[]),AV.list LK.nil 0 0 []]] (lro l9.length 1 (List.map st l9)) (i6 0))=some (AV.eaddr (st e::r22),[Ob.cells [st (ByteArray.mk #[]),st (ByteArray.mk #[]),st (ByteArray.mk #[]),st (ByteArray.mk #[]),AV.list LK.nil 0 0 []]]))
 (h6:keep [Ob.cells [st (ByteArray.mk #[]),st (ByteArray.mk #[]),st (ByteArray.mk #[]),st (ByteArray.mk #[]),AV.list LK.nil 0 0 []]] (indexAddrv Tryd.prog 25 [Ob.cells [st (ByteArray.mk #[]),st (ByteArray.mk #[]),st (ByteArray.mk #[]),st (ByteArray.mk #[]),AV.list LK.nil 0 0 []]] (lro l9.length 1 (List.map st l9)) (i6 1))=some (AV.eaddr (st g::r25),[Ob.cells [st (ByteArray.mk #[]),st (ByteArray.mk #[]),st (ByteArray.mk #[]),st (ByteArray.mk #[]),AV.list LK.nil 0 0 []]]))
 (h7:keep [Ob.cells [st (ByteArray.mk #[]),st (ByteArray.mk #[]),st (ByteArray.mk #[]),st (ByteArray.mk #[]),AV.list LK.nil 0 0 []]] (indexAddrv Tryd.prog 25 [Ob.cells [st (ByteArray.mk #[]),st (ByteArray.mk #[]),st (ByteArray.mk #[]),st (ByteArray.mk #[]),AV.list LK.nil 0 0 []]] (lro l9.length 1 (List.map st l9)) (i6 2))=some (AV.eaddr (st h::r28),[Ob.cells [st (ByteArray.mk #[]),st (ByteArray.mk #[]),st (ByteArray.mk #[]),st (ByteArray.mk #[]),AV.list LK.nil 0 0 []]]))
 (h8:callv X (call0 call) true 56 [st h] [Ob.cells [st (ByteArray.mk #[]),st (ByteArray.mk #[]),st (ByteArray.mk #[]),st (ByteArray.mk #[]),AV.list LK.nil 0 0 []]] 0=some (st x30,[Ob.cells [st (ByteArray.mk #[]),st (ByteArray.mk #[]),st (ByteArray.mk #[]),st (ByteArray.mk #[]),AV.list LK.nil 0 0 []]]))
 (h9:keep [Ob.cells [st (ByteArray.mk #[]),st (ByteArray.mk #[]),st (ByteArray.mk #[]),st (ByteArray.mk #[]),AV.list LK.nil 0 0 []]] (indexAddrv Tryd.prog 25 [Ob.cells [st (ByteArray.mk #[]),st (ByteArray.mk #[]),st (ByteArray.mk #[]),st (ByteArray.mk #[]),AV.list LK.nil 0 0 []]] (lro l9.length 1 (List.map st l9)) (i6 3))=some (AV.eaddr (st j::r32),[Ob.cells [st (ByteArray.mk #[]),st (ByteArray.mk #[]),st (ByteArray.mk #[]),st (ByteArray.mk #[]),AV.list LK.nil 0 0 []]]))
 (h10:callv X (call0 call) true 56 [st j] [Ob.cells [st (ByteArray.mk #[]),st (ByteArray.mk #[]),st (ByteArray.mk #[]),st (ByteArray.mk #[]),AV.list LK.nil 0 0 []]] 0=some (st x34,[Ob.cells [st (ByteArray.mk #[]),st (ByteArray.mk #[]),st (ByteArray.mk #[]),st (ByteArray.mk #[]),AV.list LK.nil 0 0 []]]))
 (h11:(d != 0)=false)
 (h12:callv X call false 21 [AV.agg [st e,st g,st x30,st x34,lro a 2 c]] [Ob.cells [st (ByteArray.mk #[]),st (ByteArray.mk #[]),st (ByteArray.mk #[]),st (ByteArray.mk #[]),AV.list LK.nil 0 0 []],Ob.cells [st e,st g,st x30,st x34,lro a 2 c]] 0=some (st x41,[Ob.cells [st (ByteArray.mk #[]),st (ByteArray.mk #[]),st (ByteArray.mk #[]),st (ByteArray.mk #[]),AV.list LK.nil 0 0 []],Ob.cells [st e,st g,st x30,st x34,lro a 2 c]]))
 (h13:(!ByteArray.toList x41 == ByteArray.toList s0)=true):vbody Tryd.prog X call lf fg23 Tryd.f23 (codeOf Tryd.f23) [st s0] [] 0=some (AV.tup [AV.agg [st (ByteArray.mk #[]),st (ByteArray.mk #[]),st (ByteArray.mk #[]),st (ByteArray.mk #[]),AV.list LK.nil 0 0 []],i6 3],[Ob.cells [st (ByteArray.mk #[]),st (ByteArray.mk #[]),st (ByteArray.mk #[]),st (ByteArray.mk #[]),AV.list LK.nil 0 0 []],Ob.cells [st e,st g,st x30,st x34,lro a 2 c]]) :=
  along_sound (ans:=[(5,Ans.v (lro l9.length 1 (List.map st l9))),(10,Ans.b false),(14,Ans.v (AV.list k16 l16.length 1 (List.map st l16))),(15,Ans.v (st x17)),(16,Ans.v (AV.tup [lro a 2 c,i6 d])),(24,Ans.v (AV.eaddr (st e::r22))),(27,Ans.v (AV.eaddr (st g::r25))),(30,Ans.v (AV.eaddr (st h::r28))),(32,Ans.v (st x30)),(34,Ans.v (AV.eaddr (st j::r32))),(36,Ans.v (st x34)),(43,Ans.b false),(48,Ans.v (st x41)),(52,Ans.b true)]) (by kernel_rfl) (ai h0 (ai h1 (ai h2 (ai h3 (ai h4 (ai h5 (ai h6 (ai h7 (ai h8 (ai h9 (ai h10 (ai h11 (ai h12 (ai h13 trivial))))))))))))))
theorem f23_pfff (s0:ByteArray)(X:Ext)(call:Caller)(lf:Nat)(l9 l16:List ByteArray)(k16:LK)(x17:ByteArray)(a:Nat)(d:List AV)(e:Int)(g:ByteArray)(r22:List AV)(h:ByteArray)(r25:List AV)(j:ByteArray)(r28:List AV)(x30 k:ByteArray)(r32:List AV)(x34 x41:ByteArray)(rE:AV)(sE:List Ob)
 (h0:callv X call false 53 [st s0,st (ByteArray.mk #[32])] [Ob.cells [st (ByteArray.mk #[]),st (ByteArray.mk #[]),st (ByteArray.mk #[]),st (ByteArray.mk #[]),AV.list LK.nil 0 0 []]] 0=some (lro l9.length 1 (List.map st l9),[Ob.cells [st (ByteArray.mk #[]),st (ByteArray.mk #[]),st (ByteArray.mk #[]),st (ByteArray.mk #[]),AV.list LK.nil 0 0 []]]))
 (h1:decide ((↑l9.length:Int)<4)=false)
 (h2:slc Tryd.prog 25 [Ob.cells [st (ByteArray.mk #[]),st (ByteArray.mk #[]),st (ByteArray.mk #[]),st (ByteArray.mk #[]),AV.list LK.nil 0 0 []]] false 0 (lro l9.length 1 (List.map st l9)) (some (i6 4)) none none=some (AV.list k16 l16.length 1 (List.map st l16),[Ob.cells [st (ByteArray.mk #[]),st (ByteArray.mk #[]),st (ByteArray.mk #[]),st (ByteArray.mk #[]),AV.list LK.nil 0 0 []]]))
 (h3:callv X call false 55 [AV.list k16 l16.length 1 (List.map st l16),st (ByteArray.mk #[32])] [Ob.cells [st (ByteArray.mk #[]),st (ByteArray.mk #[]),st (ByteArray.mk #[]),st (ByteArray.mk #[]),AV.list LK.nil 0 0 []]] 0=some (st x17,[Ob.cells [st (ByteArray.mk #[]),st (ByteArray.mk #[]),st (ByteArray.mk #[]),st (ByteArray.mk #[]),AV.list LK.nil 0 0 []]]))
 (h4:callv X call false 54 [st x17] [Ob.cells [st (ByteArray.mk #[]),st (ByteArray.mk #[]),st (ByteArray.mk #[]),st (ByteArray.mk #[]),AV.list LK.nil 0 0 []]] 0=some (AV.tup [lro a 2 d,i6 e],[Ob.cells [st (ByteArray.mk #[]),st (ByteArray.mk #[]),st (ByteArray.mk #[]),st (ByteArray.mk #[]),AV.list LK.nil 0 0 []]]))
 (h5:keep [Ob.cells [st (ByteArray.mk #[]),st (ByteArray.mk #[]),st (ByteArray.mk #[]),st (ByteArray.mk #[]),AV.list LK.nil 0 0 []]] (indexAddrv Tryd.prog 25 [Ob.cells [st (ByteArray.mk #[]),st (ByteArray.mk #[]),st (ByteArray.mk #[]),st (ByteArray.mk #[]),AV.list LK.nil 0 0 []]] (lro l9.length 1 (List.map st l9)) (i6 0))=some (AV.eaddr (st g::r22),[Ob.cells [st (ByteArray.mk #[]),st (ByteArray.mk #[]),st (ByteArray.mk #[]),st (ByteArray.mk #[]),AV.list LK.nil 0 0 []]]))
 (h6:keep [Ob.cells [st (ByteArray.mk #[]),st (ByteArray.mk #[]),st (ByteArray.mk #[]),st (ByteArray.mk #[]),AV.list LK.nil 0 0 []]] (indexAddrv Tryd.prog 25 [Ob.cells [st (ByteArray.mk #[]),st (ByteArray.mk #[]),st (ByteArray.mk #[]),st (ByteArray.mk #[]),AV.list LK.nil 0 0 []]] (lro l9.length 1 (List.map st l9)) (i6 1))=some (AV.eaddr (st h::r25),[Ob.cells [st (ByteArray.mk #[]),st (ByteArray.mk #[]),st (ByteArray.mk #[]),st (ByteArray.mk #[]),AV.list LK.nil 0 0 []]]))
 (h7:keep [Ob.cells [st (ByteArray.mk #[]),st (ByteArray.mk #[]),st (ByteArray.mk #[]),st (ByteArray.mk #[]),AV.list LK.nil 0 0 []]] (indexAddrv Tryd.prog 25 [Ob.cells [st (ByteArray.mk #[]),st (ByteArray.mk #[]),st (ByteArray.mk #[]),st (ByteArray.mk #[]),AV.list LK.nil 0 0 []]] (lro l9.length 1 (List.map st l9)) (i6 2))=some (AV.eaddr (st j::r28),[Ob.cells [st (ByteArray.mk #[]),st (ByteArray.mk #[]),st (ByteArray.mk #[]),st (ByteArray.mk #[]),AV.list LK.nil 0 0 []]]))
 (h8:callv X (call0 call) true 56 [st j] [Ob.cells [st (ByteArray.mk #[]),st (ByteArray.mk #[]),st (ByteArray.mk #[]),st (ByteArray.mk #[]),AV.list LK.nil 0 0 []]] 0=some (st x30,[Ob.cells [st (ByteArray.mk #[]),st (ByteArray.mk #[]),st (ByteArray.mk #[]),st (ByteArray.mk #[]),AV.list LK.nil 0 0 []]]))
 (h9:keep [Ob.cells [st (ByteArray.mk #[]),st (ByteArray.mk #[]),st (ByteArray.mk #[]),st (ByteArray.mk #[]),AV.list LK.nil 0 0 []]] (indexAddrv Tryd.prog 25 [Ob.cells [st (ByteArray.mk #[]),st (ByteArray.mk #[]),st (ByteArray.mk #[]),st (ByteArray.mk #[]),AV.list LK.nil 0 0 []]] (lro l9.length 1 (List.map st l9)) (i6 3))=some (AV.eaddr (st k::r32),[Ob.cells [st (ByteArray.mk #[]),st (ByteArray.mk #[]),st (ByteArray.mk #[]),st (ByteArray.mk #[]),AV.list LK.nil 0 0 []]]))
 (h10:callv X (call0 call) true 56 [st k] [Ob.cells [st (ByteArray.mk #[]),st (ByteArray.mk #[]),st (ByteArray.mk #[]),st (ByteArray.mk #[]),AV.list LK.nil 0 0 []]] 0=some (st x34,[Ob.cells [st (ByteArray.mk #[]),st (ByteArray.mk #[]),st (ByteArray.mk #[]),st (ByteArray.mk #[]),AV.list LK.nil 0 0 []]]))
 (h11:(e != 0)=false)
 (h12:callv X call false 21 [AV.agg [st g,st h,st x30,st x34,lro a 2 d]] [Ob.cells [st (ByteArray.mk #[]),st (ByteArray.mk #[]),st (ByteArray.mk #[]),st (ByteArray.mk #[]),AV.list LK.nil 0 0 []],Ob.cells [st g,st h,st x30,st x34,lro a 2 d]] 0=some (st x41,[Ob.cells [st (ByteArray.mk #[]),st (ByteArray.mk #[]),st (ByteArray.mk #[]),st (ByteArray.mk #[]),AV.list LK.nil 0 0 []],Ob.cells [st g,st h,st x30,st x34,lro a 2 d]]))
 (h13:(!ByteArray.toList x41 == ByteArray.toList s0)=false)
 (h14:vend1 [] 0 [Ob.cells [st g,st h,st x30,st x34,lro a 2 d],Ob.cells [st g,st h,st x30,st x34,lro a 2 d]] [AV.agg [st g,st h,st x30,st x34,lro a 2 d],i6 0]=some (rE,sE)):vbody Tryd.prog X call lf fg23 Tryd.f23 (codeOf Tryd.f23) [st s0] [] 0=some (rE,sE) :=
  along_sound (ans:=[(5,Ans.v (lro l9.length 1 (List.map st l9))),(10,Ans.b false),(14,Ans.v (AV.list k16 l16.length 1 (List.map st l16))),(15,Ans.v (st x17)),(16,Ans.v (AV.tup [lro a 2 d,i6 e])),(24,Ans.v (AV.eaddr (st g::r22))),(27,Ans.v (AV.eaddr (st h::r25))),(30,Ans.v (AV.eaddr (st j::r28))),(32,Ans.v (st x30)),(34,Ans.v (AV.eaddr (st k::r32))),(36,Ans.v (st x34)),(43,Ans.b false),(48,Ans.v (st x41)),(52,Ans.b false),(59,Ans.c rE sE)]) (by kernel_rfl) (ai h0 (ai h1 (ai h2 (ai h3 (ai h4 (ai h5 (ai h6 (ai h7 (ai h8 (ai h9 (ai h10 (ai h11 (ai h12 (ai h13 (ai h14 trivial)))))))))))))))
def f23_q0 (s0:ByteArray)(l9:List ByteArray)(a:Int)(x41:ByteArray):Nat :=
  (match decide ((↑l9.length:Int)<4) with
  | true=>0
  | false=>(match (a != 0) with
    | true=>1
    | false=>(match (!ByteArray.toList x41 == ByteArray.toList s0) with
      | true=>1
      | false=>2)))
theorem f23_P0 (s0:ByteArray)(X:Ext)(call:Caller)(lf:Nat)(l9 l16:List ByteArray)(k16:LK)(x17:ByteArray)(a:Nat)(b:List AV)(c:Int)(d:ByteArray)(r22:List AV)(e:ByteArray)(r25:List AV)(g:ByteArray)(r28:List AV)(x30 j:ByteArray)(r32:List AV)(x34 x41:ByteArray)(rE:AV)(sE:List Ob)
 (g0:callv X call false 53 [st s0,st (ByteArray.mk #[32])] [Ob.cells [st (ByteArray.mk #[]),st (ByteArray.mk #[]),st (ByteArray.mk #[]),st (ByteArray.mk #[]),AV.list LK.nil 0 0 []]] 0=some (lro l9.length 1 (List.map st l9),[Ob.cells [st (ByteArray.mk #[]),st (ByteArray.mk #[]),st (ByteArray.mk #[]),st (ByteArray.mk #[]),AV.list LK.nil 0 0 []]]))
 (g1:decide ((↑l9.length:Int)<4)=false→slc Tryd.prog 25 [Ob.cells [st (ByteArray.mk #[]),st (ByteArray.mk #[]),st (ByteArray.mk #[]),st (ByteArray.mk #[]),AV.list LK.nil 0 0 []]] false 0 (lro l9.length 1 (List.map st l9)) (some (i6 4)) none none=some (AV.list k16 l16.length 1 (List.map st l16),[Ob.cells [st (ByteArray.mk #[]),st (ByteArray.mk #[]),st (ByteArray.mk #[]),st (ByteArray.mk #[]),AV.list LK.nil 0 0 []]]))
 (g2:decide ((↑l9.length:Int)<4)=false→callv X call false 55 [AV.list k16 l16.length 1 (List.map st l16),st (ByteArray.mk #[32])] [Ob.cells [st (ByteArray.mk #[]),st (ByteArray.mk #[]),st (ByteArray.mk #[]),st (ByteArray.mk #[]),AV.list LK.nil 0 0 []]] 0=some (st x17,[Ob.cells [st (ByteArray.mk #[]),st (ByteArray.mk #[]),st (ByteArray.mk #[]),st (ByteArray.mk #[]),AV.list LK.nil 0 0 []]]))
 (g3:decide ((↑l9.length:Int)<4)=false→callv X call false 54 [st x17] [Ob.cells [st (ByteArray.mk #[]),st (ByteArray.mk #[]),st (ByteArray.mk #[]),st (ByteArray.mk #[]),AV.list LK.nil 0 0 []]] 0=some (AV.tup [lro a 2 b,i6 c],[Ob.cells [st (ByteArray.mk #[]),st (ByteArray.mk #[]),st (ByteArray.mk #[]),st (ByteArray.mk #[]),AV.list LK.nil 0 0 []]]))
 (g4:decide ((↑l9.length:Int)<4)=false→keep [Ob.cells [st (ByteArray.mk #[]),st (ByteArray.mk #[]),st (ByteArray.mk #[]),st (ByteArray.mk #[]),AV.list LK.nil 0 0 []]] (indexAddrv Tryd.prog 25 [Ob.cells [st (ByteArray.mk #[]),st (ByteArray.mk #[]),st (ByteArray.mk #[]),st (ByteArray.mk #[]),AV.list LK.nil 0 0 []]] (lro l9.length 1 (List.map st l9)) (i6 0))=some (AV.eaddr (st d::r22),[Ob.cells [st (ByteArray.mk #[]),st (ByteArray.mk #[]),st (ByteArray.mk #[]),st (ByteArray.mk #[]),AV.list LK.nil 0 0 []]]))
 (g5:decide ((↑l9.length:Int)<4)=false→keep [Ob.cells [st (ByteArray.mk #[]),st (ByteArray.mk #[]),st (ByteArray.mk #[]),st (ByteArray.mk #[]),AV.list LK.nil 0 0 []]] (indexAddrv Tryd.prog 25 [Ob.cells [st (ByteArray.mk #[]),st (ByteArray.mk #[]),st (ByteArray.mk #[]),st (ByteArray.mk #[]),AV.list LK.nil 0 0 []]] (lro l9.length 1 (List.map st l9)) (i6 1))=some (AV.eaddr (st e::r25),[Ob.cells [st (ByteArray.mk #[]),st (ByteArray.mk #[]),st (ByteArray.mk #[]),st (ByteArray.mk #[]),AV.list LK.nil 0 0 []]]))
 (g6:decide ((↑l9.length:Int)<4)=false→keep [Ob.cells [st (ByteArray.mk #[]),st (ByteArray.mk #[]),st (ByteArray.mk #[]),st (ByteArray.mk #[]),AV.list LK.nil 0 0 []]] (indexAddrv Tryd.prog 25 [Ob.cells [st (ByteArray.mk #[]),st (ByteArray.mk #[]),st (ByteArray.mk #[]),st (ByteArray.mk #[]),AV.list LK.nil 0 0 []]] (lro l9.length 1 (List.map st l9)) (i6 2))=some (AV.eaddr (st g::r28),[Ob.cells [st (ByteArray.mk #[]),st (ByteArray.mk #[]),st (ByteArray.mk #[]),st (ByteArray.mk #[]),AV.list LK.nil 0 0 []]]))
 (g7:decide ((↑l9.length:Int)<4)=false→callv X (call0 call) true 56 [st g] [Ob.cells [st (ByteArray.mk #[]),st (ByteArray.mk #[]),st (ByteArray.mk #[]),st (ByteArray.mk #[]),AV.list LK.nil 0 0 []]] 0=some (st x30,[Ob.cells [st (ByteArray.mk #[]),st (ByteArray.mk #[]),st (ByteArray.mk #[]),st (ByteArray.mk #[]),AV.list LK.nil 0 0 []]]))
 (g8:decide ((↑l9.length:Int)<4)=false→keep [Ob.cells [st (ByteArray.mk #[]),st (ByteArray.mk #[]),st (ByteArray.mk #[]),st (ByteArray.mk #[]),AV.list LK.nil 0 0 []]] (indexAddrv Tryd.prog 25 [Ob.cells [st (ByteArray.mk #[]),st (ByteArray.mk #[]),st (ByteArray.mk #[]),st (ByteArray.mk #[]),AV.list LK.nil 0 0 []]] (lro l9.length 1 (List.map st l9)) (i6 3))=some (AV.eaddr (st j::r32),[Ob.cells [st (ByteArray.mk #[]),st (ByteArray.mk #[]),st (ByteArray.mk #[]),st (ByteArray.mk #[]),AV.list LK.nil 0 0 []]]))
 (g9:decide ((↑l9.length:Int)<4)=false→callv X (call0 call) true 56 [st j] [Ob.cells [st (ByteArray.mk #[]),st (ByteArray.mk #[]),st (ByteArray.mk #[]),st (ByteArray.mk #[]),AV.list LK.nil 0 0 []]] 0=some (st x34,[Ob.cells [st (ByteArray.mk #[]),st (ByteArray.mk #[]),st (ByteArray.mk #[]),st (ByteArray.mk #[]),AV.list LK.nil 0 0 []]]))
 (g10:decide ((↑l9.length:Int)<4)=false→(c != 0)=false→callv X call false 21 [AV.agg [st d,st e,st x30,st x34,lro a 2 b]] [Ob.cells [st (ByteArray.mk #[]),st (ByteArray.mk #[]),st (ByteArray.mk #[]),st (ByteArray.mk #[]),AV.list LK.nil 0 0 []],Ob.cells [st d,st e,st x30,st x34,lro a 2 b]] 0=some (st x41,[Ob.cells [st (ByteArray.mk #[]),st (ByteArray.mk #[]),st (ByteArray.mk #[]),st (ByteArray.mk #[]),AV.list LK.nil 0 0 []],Ob.cells [st d,st e,st x30,st x34,lro a 2 b]]))
 (g11:decide ((↑l9.length:Int)<4)=false→(c != 0)=false→(!ByteArray.toList x41 == ByteArray.toList s0)=false→vend1 [] 0 [Ob.cells [st d,st e,st x30,st x34,lro a 2 b],Ob.cells [st d,st e,st x30,st x34,lro a 2 b]] [AV.agg [st d,st e,st x30,st x34,lro a 2 b],i6 0]=some (rE,sE)) :
    (f23_q0 s0 l9 c x41=0→vbody Tryd.prog X call lf fg23 Tryd.f23 (codeOf Tryd.f23) [st s0] [] 0=some (AV.tup [AV.agg [st (ByteArray.mk #[]),st (ByteArray.mk #[]),st (ByteArray.mk #[]),st (ByteArray.mk #[]),AV.list LK.nil 0 0 []],i6 3],[Ob.cells [st (ByteArray.mk #[]),st (ByteArray.mk #[]),st (ByteArray.mk #[]),st (ByteArray.mk #[]),AV.list LK.nil 0 0 []]]))∧(f23_q0 s0 l9 c x41=1→vbody Tryd.prog X call lf fg23 Tryd.f23 (codeOf Tryd.f23) [st s0] [] 0=some (AV.tup [AV.agg [st (ByteArray.mk #[]),st (ByteArray.mk #[]),st (ByteArray.mk #[]),st (ByteArray.mk #[]),AV.list LK.nil 0 0 []],i6 3],[Ob.cells [st (ByteArray.mk #[]),st (ByteArray.mk #[]),st (ByteArray.mk #[]),st (ByteArray.mk #[]),AV.list LK.nil 0 0 []],Ob.cells [st d,st e,st x30,st x34,lro a 2 b]]))∧(f23_q0 s0 l9 c x41=2→vbody Tryd.prog X call lf fg23 Tryd.f23 (codeOf Tryd.f23) [st s0] [] 0=some (rE,sE)):=by
  unfold f23_q0
  cases c0:decide ((↑l9.length:Int)<4) with
  | true =>
    exact ⟨fun _=>f23_pt s0 X call lf l9 g0 c0,fun h=>absurd (show (0:Nat)=1 from h) (by decide),fun h=>absurd (show (0:Nat)=2 from h) (by decide)⟩
  | false =>
    cases c1:(c != 0) with
    | true =>
      exact ⟨fun h=>absurd (show (1:Nat)=0 from h) (by decide),fun _=>f23_pft s0 X call lf l9 l16 k16 x17 a b c d r22 e r25 g r28 x30 j r32 x34 g0 c0 (g1 c0) (g2 c0) (g3 c0) (g4 c0) (g5 c0) (g6 c0) (g7 c0) (g8 c0) (g9 c0) c1,fun h=>absurd (show (1:Nat)=2 from h) (by decide)⟩
    | false =>
      cases c2:(!ByteArray.toList x41 == ByteArray.toList s0) with
      | true =>
        exact ⟨fun h=>absurd (show (1:Nat)=0 from h) (by decide),fun _=>f23_pfft s0 X call lf l9 l16 k16 x17 a b c d r22 e r25 g r28 x30 j r32 x34 x41 g0 c0 (g1 c0) (g2 c0) (g3 c0) (g4 c0) (g5 c0) (g6 c0) (g7 c0) (g8 c0) (g9 c0) c1 (g10 c0 c1) c2,fun h=>absurd (show (1:Nat)=2 from h) (by decide)⟩
      | false =>
        exact ⟨fun h=>absurd (show (2:Nat)=0 from h) (by decide),fun h=>absurd (show (2:Nat)=1 from h) (by decide),fun _=>f23_pfff s0 X call lf l9 l16 k16 x17 a b c d r22 e r25 g r28 x30 j r32 x34 x41 rE sE g0 c0 (g1 c0) (g2 c0) (g3 c0) (g4 c0) (g5 c0) (g6 c0) (g7 c0) (g8 c0) (g9 c0) c1 (g10 c0 c1) c2 (g11 c0 c1 c2)⟩
end Go.Proofs.Lex
end
/- Lexicon: ParseLine. -/
section
open Go Go.Vm Go.Proofs
namespace Go.Proofs.Lex
def candF (l:List ByteArray) (F:List Feat):Lexm:=⟨nS l 0,nS l 1,undashS (nS l 2),undashS (nS l 3),F⟩
def restS (l:List ByteArray):ByteArray:=⟨(joinB (l.drop 4) blank).toArray⟩
def parseP (s:ByteArray) (l:List ByteArray):Option Lexm:=if l.length < 4 then none else match parseF (restS l) with
  | none=>none
  | some F=>if lineS (candF l F)=s then some (candF l F) else none
def parseL (s:ByteArray):Option Lexm:=parseP s (splitL s blank)
/-- A text that is short enough, and of whose third part ContainsAny tells. -/
def okPar (s:ByteArray):Prop:=s.size < lim∧anyFn [st (undashS (nS (splitL s blank) 2)),st bn]=some (bo (anyBN (undashS (nS (splitL s blank) 2))))
theorem textN_bound {B:Nat} {F:List Feat} (h:∀ f ∈ F,f.name.size ≤ B∧f.value.size ≤ B):∀ i,i ≤ F.length→(textN F i).length ≤ i * (2 * B + 2)
  | 0,_=>Nat.zero_le _
  | i + 1, hi => by
    have ih:=textN_bound h i (by omega)
    have hm:=h (nF F i) (by rw [nF,getD_lt (by omega)]; exact List.getElem_mem _)
    have hc : (cond (decide (0 < i)) (textN F i ++ [32]) []).length ≤ (textN F i).length + 1 := by
      cases decide (0 < i)
      · exact Nat.zero_le _
      · simp
    have e1:(nF F i).name.data.toList.length=(nF F i).name.size:=by simp
    have e2:(nF F i).value.data.toList.length=(nF F i).value.size:=by simp
    simp only [textN,List.length_append,List.length_cons,List.length_nil,e1,e2]
    rw [Nat.succ_mul]
    omega
section
variable [Fixed]
/-- What a parsed record's sizes are. -/
theorem parseF_ok {s:ByteArray} {F:List Feat} (hs:s.size < lim) (h:parseF s=some F):okF F∧F.length ≤ 8∧∀ f ∈ F,f.name.size ≤ lim∧f.value.size ≤ lim:=by
  unfold parseF at h
  split at h
  · simp only [Option.some.injEq] at h
    subst h
    exact ⟨⟨Nat.zero_le _,fun f hf=>by simp at hf⟩,Nat.zero_le _,fun f hf=>by simp at hf⟩
  · unfold partsF at h
    split at h
    · rename_i hc
      simp only [Option.some.injEq] at h
      subst h
      have h8:(featsOf (splitL s blank)).length ≤ 8:=by rw [featsOf,List.length_map]; exact hc.2.1
      refine ⟨okF_parts hs (Nat.le_trans hc.2.1 (by decide)) fun p hp=>hp,h8,fun f hf => ?_⟩
      obtain ⟨p,hp,rfl⟩:=List.mem_map.1 hf
      have h1:=split_le hp
      have h2:=featOf_le p
      omega
    · cases h
theorem okT_small {F:List Feat} (h8:F.length ≤ 8) (h:∀ f ∈ F,f.name.size ≤ lim∧f.value.size ≤ lim):okT F∧(textS F).size ≤ 8 * (2 * lim + 2):=by
  have h1:=textN_bound h F.length (Nat.le_refl _)
  have h2:F.length * (2 * lim + 2) ≤ 8 * (2 * lim + 2):=Nat.mul_le_mul_right _ h8
  have h3:(textF F).length ≤ 8 * (2 * lim + 2):=Nat.le_trans h1 h2
  refine ⟨⟨Nat.le_trans h8 (by decide),?_⟩,?_⟩
  · have : (8 * (2 * lim + 2)) * 2 ≤ big := by decide
    omega
  · show (textF F).toArray.size ≤ _
    simpa using h3
theorem dashS_le {s:ByteArray} {B:Nat} (h:s.size ≤ B) (hB:1 ≤ B):(dashS s).size ≤ B:=by
  unfold dashS
  split
  · exact hB
  · exact h
theorem undashS_le {s:ByteArray} {B:Nat} (h:s.size ≤ B):(undashS s).size ≤ B:=by
  unfold undashS
  split
  · exact Nat.zero_le _
  · exact h
theorem line_len {x:Lexm} {B:Nat} (h1:x.id.size ≤ B) (h2:x.cat.size ≤ B) (h3:x.stem.size ≤ B) (h4:x.par.size ≤ B) (h5:(textS x.feats).size ≤ B) (hB:1 ≤ B):(joinB (lineParts x) blank).length ≤ 5 * (B + 1):=by
  have hl : ∀ y ∈ (lineParts x).map (·.data.toList), y.length ≤ B := by
    intro y hy
    obtain ⟨z,hz,rfl⟩:=List.mem_map.1 hy
    have e:z.data.toList.length=z.size:=by simp
    rw [e]
    unfold lineParts partsL at hz
    have hd3:=dashS_le h3 hB
    have hd4:=dashS_le h4 hB
    split at hz <;> simp only [List.mem_cons,List.not_mem_nil,or_false] at hz
    · rcases hz with rfl | rfl | rfl | rfl <;> assumption
    · rcases hz with rfl | rfl | rfl | rfl | rfl <;> assumption
  have h6:=join_le _ hl
  have hn : ((lineParts x).map (·.data.toList)).length ≤ 5 := by
    rw [List.length_map]
    unfold lineParts partsL
    split <;> simp
  exact Nat.le_trans h6 (Nat.mul_le_mul_right _ hn)
theorem part_le {s:ByteArray} {l:List ByteArray} (hl:splitL s blank=l) {i:Nat} (hi:i < l.length):(nS l i).size ≤ s.size:=split_le (by rw [hl,nS,getD_lt hi]; exact List.getElem_mem hi)
theorem okLine_cand {s:ByteArray} (hp:okPar s) {F:List Feat} (h4 : ¬ (splitL s blank).length < 4) (hF:okF F∧F.length ≤ 8∧∀ f ∈ F,f.name.size ≤ lim∧f.value.size ≤ lim):okLine (candF (splitL s blank) F):=by
  have hs:s.size < lim:=hp.1
  have hb:=lim_big
  have p:∀ i,i < 4→(nS (splitL s blank) i).size ≤ s.size:=fun i hi=>part_le rfl (by omega)
  obtain ⟨hT,hts⟩:=okT_small hF.2.1 hF.2.2
  have hlim:lim ≤ 8 * (2 * lim + 2):=by decide
  refine ⟨?_,?_,?_,hF.1,hp.2,fun _=>hT,fun _ => ?_⟩
  · have:=p 0 (by omega); show (nS (splitL s blank) 0).size ≤ big; omega
  · have:=p 1 (by omega); show (nS (splitL s blank) 1).size ≤ big; omega
  · have:=undashS_le (p 3 (by omega)); show (undashS (nS (splitL s blank) 3)).size ≤ big; omega
  · refine Nat.le_trans (line_len (B := 8 * (2 * lim + 2)) ?_ ?_ ?_ ?_ hts (by decide)) (by decide)
    · have:=p 0 (by omega); show (nS (splitL s blank) 0).size ≤ _; omega
    · have:=p 1 (by omega); show (nS (splitL s blank) 1).size ≤ _; omega
    · have:=undashS_le (p 2 (by omega)); show (undashS (nS (splitL s blank) 2)).size ≤ _; omega
    · have:=undashS_le (p 3 (by omega)); show (undashS (nS (splitL s blank) 3)).size ≤ _; omega
end
section
variable [Fixed] {X:Ext}
abbrev aLE:Arg (Lexm × Int):=Arg.tup2 aL aI
theorem callOn0 {α:Type} {T:Go.Vm.Spec} {f:FuncId} {vs:List AV} {y:α} {B:Arg α} {σ:List Ob} {ro:Nat} {dr:Bool} (h1:X.pureFn f=none) (h2:X.stFn f=none) (ha:X.adopt f=false) (hl:AV.ltAll 0 vs=true) (h:T f vs=some (B.enc y)) :
    callv X (call0 (callerOf T)) dr f vs σ ro=some (B.enc y,σ):=by
  have hp:(B.enc y).pure=true:=B.lt y
  unfold callv
  rw [h1,h2]
  simp only [hl,if_true,call0,callerOf,h,hp,ha,Bool.and_false,Bool.false_eq_true,if_false,B.ro]
theorem slc_from {l:List ByteArray} {σ:List Ob} (h:4 ≤ l.length):slc Tryd.prog 25 σ false 0 (lro l.length 1 (l.map st)) (some (i6 4)) none none=some (.list .ro (l.drop 4).length 1 ((l.drop 4).map st),σ):=by
  unfold slc cutOwn
  simp only
  unfold byValue1
  have ho:AV.owns (lro l.length 1 (l.map st))=[]:=owns_strs l
  rw [ho]
  simp only [Bool.false_eq_true,if_false,if_true]
  unfold slicev
  rw [Tryd.underlying25]
  simp only [cells9,info9]
  simp [boundv,keep]
  rw [if_pos (by omega)]
  simp [List.take_of_length_le]
theorem join55 (hM:XM X) {call:Caller} {l:List ByteArray} (h1:l.length ≤ 140737488355328) (h2:(joinB l blank).length ≤ 140737488355328) (σ:List Ob) :
    callv X call false 55 [.list .ro l.length 1 (l.map st),st blank] σ 0=some (st ⟨(joinB l blank).toArray⟩,σ):=by
  refine call_pure hM.join ?_ ?_ ?_ ?_
  · have := aSs.lt l
    rw [aSs_enc] at this
    have h3:AV.lt 0 (AV.list .ro l.length 1 (l.map st))=true:=this
    show (AV.lt 0 (AV.list .ro l.length 1 (l.map st)) && (AV.lt 0 (st blank) && true))=true
    rw [h3]
    rfl
  · simp only [AV.ownsAll, AV.owns, List.append_nil]
    exact owns_strs l
  · exact thawAll_id _ (by simp only [AV.ownsAll,AV.owns,List.append_nil]; exact owns_strs l)
  · unfold joinFn
    have:aSs.dec (.list .ro l.length 1 (l.map st))=some l:=aSs_dec
    simp only [this]
    rw [if_pos ⟨h1,h2⟩]
end
end Go.Proofs.Lex
end
/- Lexicon: ParseLine, told. -/
section
open Go Go.Vm Go.Proofs
namespace Go.Proofs.Lex
section
variable [Fixed] {X:Ext}
def fsE (s:ByteArray):List Feat × Int:=resE [] (parseF s)
theorem badL_dec:aLE.dec (.tup [.agg [st emp,st emp,st emp,st emp,.list .nil 0 0 []],i6 3])=some (d0L,3):=by rfl
/-- What ParseLine of this text asks. -/
def U23 (x0:Lexm):Go.Vm.Spec:=(U1.on 54 (s1 aS aFsE fsE fun s=>s.size < lim)).on 21 (s1 aL aS lineS fun x=>x=x0)
theorem U23_ok (hX:ExtOk Tryd.prog X) (hM:XM X) {x0:Lexm} (h:okLine x0):SpecOk Tryd.prog (U23 x0) :=
  SpecOk.s1 (SpecOk.s1 (U1_ok hX hM.toXL) fun _ h=>call54 hX hM h) fun x hx=>by subst hx; exact call21 hX hM h
theorem v54 (hM:XM X) {x0:Lexm} {s:ByteArray} (hs:s.size < lim) (σ:List Ob):callv X (callerOf (U23 x0)) false 54 [st s] σ 0=some (aFsE.enc (fsE s),σ):=by
  obtain ⟨a1,a2,a3⟩:=hM.ok 54 rfl
  exact call_on (B:=aFsE) (T:=U23 x0) (y:=fsE s) (vs:=[aS.enc s]) a1 a2 a3 rfl (s1_at (A:=aS) (B:=aFsE) (g:=fsE) (ok:=fun s=>s.size < lim) hs)
theorem v21 (hM:XM X) {x0:Lexm} (σ:List Ob):callv X (callerOf (U23 x0)) false 21 [.agg (lexC x0)] σ 0=some (st (lineS x0),σ):=by
  obtain ⟨a1,a2,a3⟩:=hM.ok 21 rfl
  exact call_on (B:=aS) (T:=U23 x0) (y:=lineS x0) (vs:=[aL.enc x0]) a1 a2 a3 (by simp only [AV.ltAll,aL.lt,Bool.and_self]) (s1_at (A:=aL) (B:=aS) (g:=lineS) (ok:=fun x=>x=x0) rfl)
theorem v56 (hM:XM X) {x0:Lexm} (s:ByteArray) (σ:List Ob):callv X (call0 (callerOf (U23 x0))) true 56 [st s] σ 0=some (st (undashS s),σ):=by
  obtain ⟨a1,a2,a3⟩:=hM.ok 56 rfl
  exact callOn0 (B:=aS) (T:=U23 x0) (y:=undashS s) (vs:=[aS.enc s]) a1 a2 a3 rfl (s1_at (A:=aS) (B:=aS) (g:=undashS) (ok:=fun _=>True) trivial)
theorem any_all {s:ByteArray} (h:s.size < lim):anyFn [st s,st bn]=some (bo (anyBN s)):=by
  exact if_pos (⟨h,rfl⟩:s.size < lim∧bn=⟨#[32,10]⟩)
theorem any_ascii {s:ByteArray} (h:s.size < lim) (_:asciiB s=true):anyFn [st s,st bn]=some (bo (anyBN s)):=any_all h
theorem okLine_d0:okLine d0L:=⟨Nat.zero_le _,Nat.zero_le _,Nat.zero_le _,⟨Nat.zero_le _,fun f hf=>by simp [d0L] at hf⟩,any_ascii (by decide) (by decide),fun _=>⟨Nat.zero_le _,Nat.zero_le _⟩,fun h=>by revert h; unfold lineOk; rw [show nameL d0L.id=false from by unfold nameL; rw [emp_iff.2 (show d0L.id.size=0 from rfl)]; simp]; simp⟩
/-- lexicon.ParseLine. -/
theorem call23 (hX:ExtOk Tryd.prog X) (hM:XM X) {s:ByteArray} (hp:okPar s):CallAt Tryd.prog 23 [aS.enc s] [] 0 (aLE.enc (resE d0L (parseL s))) []:=by
  unfold parseL
  obtain ⟨l,hl⟩:∃ l,splitL s blank=l:=⟨_,rfl⟩
  have hlen:l.length ≤ s.size + 1:=by rw [← hl]; exact split_len
  have hs:s.size < 4294967281:=hp.1
  by_cases h4:l.length < 4
  · have hC := callerOf_ok (U23_ok hX hM okLine_d0)
    have hsp:=split53 (call:=callerOf (U23 d0L)) hM hp.1
    rw [hl] at hsp
    rw [hl]
    unfold parseP
    rw [if_pos h4]
    exact run_res (B:=aLE) hX hC (hM.dom 23 rfl rfl) Tryd.func23 (by kernel_rfl) (f23_pt s X (callerOf (U23 d0L)) 0 l (hsp _) (decide_eq_true (by omega))) badL_dec
  have hrest : (restS l).size ≤ s.size := by
    have:=joinB_drop_le s 4
    rw [hl] at this
    show (joinB (l.drop 4) blank).toArray.size ≤ _
    simpa using this
  have hj : (joinB (l.drop 4) blank).length ≤ 140737488355328 := by
    have:=joinB_drop_le s 4
    rw [hl] at this
    omega
  have hrl:(restS l).size < lim:=Nat.lt_of_le_of_lt hrest hp.1
  -- the candidate
  have hok : okLine (candF l (fsE (restS l)).1) := by
    have hF : okF (fsE (restS l)).1 ∧ (fsE (restS l)).1.length ≤ 8 ∧ ∀ f ∈ (fsE (restS l)).1, f.name.size ≤ lim ∧ f.value.size ≤ lim := by
      unfold fsE
      cases h:parseF (restS l) with
      | none=>exact ⟨⟨Nat.zero_le _,fun f hf=>by simp [resE] at hf⟩,Nat.zero_le _,fun f hf=>by simp [resE] at hf⟩
      | some F=>exact parseF_ok hrl h
    have:=okLine_cand hp (F:=(fsE (restS l)).1) (by rw [hl]; exact h4) hF
    rwa [hl] at this
  obtain ⟨x0,hx0⟩:∃ x0,candF l (fsE (restS l)).1=x0:=⟨_,rfl⟩
  rw [hx0] at hok
  have hC:=callerOf_ok (U23_ok hX hM hok)
  have hsp:=split53 (call:=callerOf (U23 x0)) hM hp.1
  rw [hl] at hsp
  rw [hl]
  have hxc:lexC x0=[st (nS l 0),st (nS l 1),st (undashS (nS l 2)),st (undashS (nS l 3)),featsV (fsE (restS l)).1]:=by rw [← hx0]; rfl
  have h21:=v21 (X:=X) hM (x0:=x0)
  rw [hxc] at h21
  have M := f23_P0 s X (callerOf (U23 x0)) 0 l (l.drop 4) .ro (restS l) (fsE (restS l)).1.length ((fsE (restS l)).1.flatMap featC) (fsE (restS l)).2 (nS l 0) (tS l 0) (nS l 1) (tS l 1) (nS l 2) (tS l 2) (undashS (nS l 2)) (nS l 3) (tS l 3) (undashS (nS l 3)) (lineS x0)
    (.tup [.agg (lexC x0),i6 0]) [Ob.cells (lexC x0),Ob.cells (lexC x0)]
    (hsp _) (fun _=>slc_from (by omega)) (fun _=>join55 hM (by rw [List.length_drop]; omega) hj _) (fun _=>v54 hM hrl _)
    (fun _=>at_strs (i:=0) (by omega)) (fun _=>at_strs (i:=1) (by omega)) (fun _=>at_strs (i:=2) (by omega)) (fun _=>v56 hM _ _) (fun _=>at_strs (i:=3) (by omega)) (fun _=>v56 hM _ _)
    (fun _ _ => h21 _) (fun _ _ _ => by
      have ho : AV.ownsAll [AV.agg (lexC x0), i6 0] = [] := by
        simp only [AV.ownsAll,AV.owns,owns_lex,List.append_nil]
      have:=vend1_plain (σ:=[Ob.cells (lexC x0),Ob.cells (lexC x0)]) ho
      rw [hxc] at this ⊢
      exact this)
  unfold parseP
  rw [if_neg h4]
  have hd4:decide ((↑(List.length l):Int) < 4)=false:=decide_eq_false (by omega)
  cases h:parseF (restS l) with
  | none =>
    have he:(fsE (restS l)).2=3:=by unfold fsE; rw [h]; rfl
    exact run_res (B:=aLE) hX hC (hM.dom 23 rfl rfl) Tryd.func23 (by kernel_rfl) (M.2.1 (by unfold f23_q0; rw [hd4,he]; rfl)) badL_dec
  | some F =>
    have he:(fsE (restS l)).2=0:=by unfold fsE; rw [h]; rfl
    have hF:(fsE (restS l)).1=F:=by unfold fsE; rw [h]; rfl
    have hxF:candF l F=x0:=by rw [← hx0,hF]
    simp only
    rw [hxF]
    by_cases hline:lineS x0=s
    · rw [if_pos hline]
      refine run_res (B:=aLE) hX hC (hM.dom 23 rfl rfl) Tryd.func23 (by kernel_rfl) (M.2.2 (by unfold f23_q0; rw [hd4,he,eqB_iff.2 hline]; rfl)) ?_
      exact aLE.de (x0,0)
    · rw [if_neg hline]
      exact run_res (B:=aLE) hX hC (hM.dom 23 rfl rfl) Tryd.func23 (by kernel_rfl) (M.2.1 (by unfold f23_q0; rw [hd4,he,eqB_ne.2 hline]; rfl)) badL_dec
end
end Go.Proofs.Lex
end
/- Lexicon: Categories, its first loop (printed) -/
section
open Go Go.Vm Go.Proofs
namespace Go.Proofs.Lex
def fg16:Nat→List Nat
  | 5004=>[1]
  | _=>[]
def f16_F0 (L0:List Lexm)(S0:Nat→List Ob)(i0:Nat):St :=
  stOf 32 [5,12,13,14,15,16,17,18] [(0,lro L0.length 5 (List.flatMap lexC L0)),(2,AV.list LK.nil 0 0 []),(3,AV.map 0),(8,AV.map 0),(9,lro L0.length 5 (List.flatMap lexC L0)),(10,i6 (↑L0.length:Int)),(11,i6 (↑i0:Int))] (S0 i0)
def f16_S0 (L0:List Lexm):St :=
  stOf 32 [] [(0,lro L0.length 5 (List.flatMap lexC L0)),(2,AV.list LK.nil 0 0 []),(3,AV.map 0),(8,AV.map 0),(9,lro L0.length 5 (List.flatMap lexC L0)),(10,i6 (↑L0.length:Int)),(11,i6 0)] [Ob.mapo []]
abbrev f16_D0:List Nat:=[18,17,16,15,5,14,13,12]
theorem f16_L0 (L0:List Lexm)(S0:Nat→List Ob)(X:Ext)(call:Caller)(lf n:Nat)(x:Ex) (S' : St)
 (e0:S0 0=[Ob.mapo []])
 (hn:n<lf)
 (hs:∀ j,j<n→∃ S1,vexec Tryd.prog X call lf 0 fg16 (loopN Tryd.f16 0) (f16_F0 L0 S0 j)=some (Ex.normal,S1)∧forget f16_D0 S1=(f16_F0 L0 S0 (j + 1)))
 (he:vexec Tryd.prog X call lf 0 fg16 (loopN Tryd.f16 0) (f16_F0 L0 S0 n)=some (x,S'))
 (hx:x ≠ Ex.normal):vexec Tryd.prog X call lf 0 fg16 (Go.Code.loop (loopN Tryd.f16 0)) (f16_S0 L0)=some (x,S') :=
  loop_runK (by kernel_rfl) (fun j=>(f16_F0 L0 S0 j)) n hn (by show forget f16_D0 (f16_S0 L0)=(f16_F0 L0 S0 0); unfold f16_F0; rw [e0]; show _=_; kernel_rfl) hs he hx
theorem f16_s0_t (L0:List Lexm)(X:Ext)(call:Caller)(lf:Nat)(S0:Nat→List Ob)(i0:Nat)(a d e g:ByteArray)(h:Nat)(j r13:List AV)(sq10:List Ob)
 (h0:decide ((↑i0:Int)<(↑L0.length:Int))=true)
 (h1:keep (S0 i0) (indexAddrv Tryd.prog 22 (S0 i0) (lro L0.length 5 (List.flatMap lexC L0)) (i6 (↑i0:Int)))=some (AV.eaddr (st a::st d::st e::st g::lro h 2 j::r13),S0 i0))
 (h2:unit1 (mapUpdatev Tryd.prog 58 (S0 i0) 0 (AV.map 0) (st d) (bo true))=some (AV.undef,sq10))
 (e0:(↑(i0 + 1):Int)=w6 ((↑i0:Int) + 1))
 (e1:S0 (i0 + 1)=sq10):∃ S1,vexec Tryd.prog X call lf 0 fg16 (loopN Tryd.f16 0) (f16_F0 L0 S0 i0)=some (Ex.normal,S1)∧forget f16_D0 S1=(f16_F0 L0 S0 (i0 + 1)) :=
  ⟨stOf 32 [] [(0,lro L0.length 5 (List.flatMap lexC L0)),(2,AV.list LK.nil 0 0 []),(3,AV.map 0),(5,AV.eaddr [st a,st d,st e,st g,lro h 2 j]),(8,AV.map 0),(9,lro L0.length 5 (List.flatMap lexC L0)),(10,i6 (↑L0.length:Int)),(11,i6 (w6 ((↑i0:Int) + 1))),(12,bo true),(13,AV.eaddr (st a::st d::st e::st g::lro h 2 j::r13)),(14,AV.agg [st a,st d,st e,st g,lro h 2 j]),(15,AV.map 0),(16,AV.eaddr [st d,st e,st g,lro h 2 j]),(17,st d),(18,i6 (w6 ((↑i0:Int) + 1)))] sq10,around_sound (ans:=[(1,Ans.b true),(4,Ans.v (AV.eaddr (st a::st d::st e::st g::lro h 2 j::r13))),(10,Ans.c AV.undef sq10)]) (by kernel_rfl) (ai h0 (ai h1 (ai h2 trivial))),by unfold f16_F0; rw [e0,e1]; show _=_; kernel_rfl⟩
theorem f16_r0_f (L0:List Lexm)(X:Ext)(call:Caller)(lf:Nat)(S0:Nat→List Ob)(i0:Nat)
 (h0:decide ((↑i0:Int)<(↑L0.length:Int))=false):vexec Tryd.prog X call lf 0 fg16 (loopN Tryd.f16 0) (f16_F0 L0 S0 i0)=some (Ex.exit 0,stOf 32 [5,13,14,15,16,17,18] [(0,lro L0.length 5 (List.flatMap lexC L0)),(2,AV.list LK.nil 0 0 []),(3,AV.map 0),(8,AV.map 0),(9,lro L0.length 5 (List.flatMap lexC L0)),(10,i6 (↑L0.length:Int)),(11,i6 (↑i0:Int)),(12,bo false)] (S0 i0)) :=
  around_sound (ans:=[(1,Ans.b false)]) (by kernel_rfl) (ai h0 trivial)
def f16_o0 (L0:List Lexm)(i0:Nat):Nat :=
  (match decide ((↑i0:Int)<(↑L0.length:Int)) with
  | true=>0
  | false=>1)
theorem f16_B0 (L0:List Lexm)(X:Ext)(call:Caller)(lf:Nat)(S0:Nat→List Ob)(i0:Nat)(a b c d:ByteArray)(e:Nat)(g r13:List AV)(sq10:List Ob)
 (g0:decide ((↑i0:Int)<(↑L0.length:Int))=true→keep (S0 i0) (indexAddrv Tryd.prog 22 (S0 i0) (lro L0.length 5 (List.flatMap lexC L0)) (i6 (↑i0:Int)))=some (AV.eaddr (st a::st b::st c::st d::lro e 2 g::r13),S0 i0))
 (g1:decide ((↑i0:Int)<(↑L0.length:Int))=true→unit1 (mapUpdatev Tryd.prog 58 (S0 i0) 0 (AV.map 0) (st b) (bo true))=some (AV.undef,sq10))
 (e0:decide ((↑i0:Int)<(↑L0.length:Int))=true→(↑(i0 + 1):Int)=w6 ((↑i0:Int) + 1))
 (e1:decide ((↑i0:Int)<(↑L0.length:Int))=true→S0 (i0 + 1)=sq10) :
    (f16_o0 L0 i0=0→∃ S1,vexec Tryd.prog X call lf 0 fg16 (loopN Tryd.f16 0) (f16_F0 L0 S0 i0)=some (Ex.normal,S1)∧forget f16_D0 S1=(f16_F0 L0 S0 (i0 + 1)))∧(f16_o0 L0 i0=1→vexec Tryd.prog X call lf 0 fg16 (loopN Tryd.f16 0) (f16_F0 L0 S0 i0)=some (Ex.exit 0,stOf 32 [5,13,14,15,16,17,18] [(0,lro L0.length 5 (List.flatMap lexC L0)),(2,AV.list LK.nil 0 0 []),(3,AV.map 0),(8,AV.map 0),(9,lro L0.length 5 (List.flatMap lexC L0)),(10,i6 (↑L0.length:Int)),(11,i6 (↑i0:Int)),(12,bo false)] (S0 i0))):=by
  unfold f16_o0
  cases c0:decide ((↑i0:Int)<(↑L0.length:Int)) with
  | true =>
    exact ⟨fun _=>f16_s0_t L0 X call lf S0 i0 a b c d e g r13 sq10 c0 (g0 c0) (g1 c0) (e0 c0) (e1 c0),fun h=>absurd (show (0:Nat)=1 from h) (by decide)⟩
  | false =>
    exact ⟨fun h=>absurd (show (1:Nat)=0 from h) (by decide),fun _=>f16_r0_f L0 X call lf S0 i0 c0⟩
end Go.Proofs.Lex
end
/- Lexicon: Categories. -/
section
open Go Go.Vm Go.Proofs
namespace Go.Proofs.Lex
def putS (l:List ByteArray) (c:ByteArray):List ByteArray:=if l.any (fun x=>decide (x=c))=true then l else l ++ [c]
/-- The categories of the first lexemes, in the order of their first. -/
def catsN (L:List Lexm):Nat→List ByteArray
  | 0=>[]
  | i + 1=>putS (catsN L i) (nL L i).cat
def esOf (l:List ByteArray):List (AV × AV):=l.map fun c=>(st c,bo true)
theorem putEs_es (c:ByteArray):∀ (l:List ByteArray),putEs (st c) (bo true) (esOf l)=some (esOf (putS l c))
  | []=>rfl
  | x :: l => by
    have ih:=putEs_es c l
    show putEs (st c) (bo true) ((st x,bo true)::esOf l)=_
    unfold putEs
    by_cases h:c=x
    · subst h
      simp only [lookupEs,if_true]
      unfold putS
      rw [if_pos (by simp)]
      rfl
    · have hl : lookupEs (st c) [(st x, bo true)] = some none := by simp [lookupEs, h]
      simp only [hl,ih]
      unfold putS
      have hx : (x :: l).any (fun y => decide (y = c)) = l.any (fun y => decide (y = c)) := by
        rw [List.any_cons,decide_eq_false (fun e=>h e.symm),Bool.false_or]
      rw [hx]
      cases l.any (fun y=>decide (y=c)) <;> rfl
theorem put58 (c:ByteArray) (l:List ByteArray):unit1 (mapUpdatev Tryd.prog 58 [.mapo (esOf l)] 0 (.map 0) (st c) (bo true))=some (.undef,[.mapo (esOf (putS l c))]):=by
  have hu:Tryd.prog.underlying 58=some (.map 9 4):=by kernel_rfl
  unfold mapUpdatev
  rw [hu]
  simp only [Tryd.underlying9,List.getElem?_cons_zero]
  rw [if_pos ⟨rfl,Nat.le_refl _⟩,putEs_es]
  rfl
def keyS (e:AV × AV):ByteArray:=match e.1 with
  | .str s=>s
  | _=>emp
def catC (fn:Func):Code := .seq (.region 0 (opsF fn 0) false) (.seq (.region 1 (opsF fn 1) false) (.seq (.seq (.region 2 (opsF fn 2) false) (.block 0 (.loop (loopN fn 0)))) (.seq (.region 7 (opsF fn 7) false) (.seq (.seq (.region 8 (opsF fn 8) false) (.block 2 (.loop (.seq (.region 9 (opsF fn 9) false) (.seq (.cond (.tmp 22) .skip (.exit 2)) (.block 3 (.seq (.region 10 (opsF fn 10) false) (.region 11 (opsF fn 11) false)))))))) (.seq (.region 12 (opsF fn 12) false) (.seq (.region 13 (opsF fn 13) false) .ret))))))
theorem body16:Tryd.f16.body=some (catC Tryd.f16):=by kernel_rfl
def any16:List Nat:=[5,8,9,10,11,12,13,14,15,16,17,18]
def dk16:List Nat:=[7,21,22,23,24,25,26,27,28]
/-- Behind the first loop. -/
def A16 (L:List Lexm) (c:List ByteArray):St:=stOf 32 any16 [(0,lexsV L),(2,nil0),(3,.map 0)] [.mapo (esOf c)]
def B16 (L:List Lexm) (c:List ByteArray):St:=stOf 32 any16 [(0,lexsV L),(2,nil0),(3,.map 0),(6,nil0)] [.mapo (esOf c)]
def strG (c:List ByteArray) (l:List ByteArray):List Ob:=grS Cod.str [.mapo (esOf c)] l
/-- At the second loop's head. -/
def F16 (L:List Lexm) (c:List ByteArray) (done:List (AV × AV)) (r:Nat):St :=
  stOf 32 (any16 ++ dk16) [(0,lexsV L),(2,nil0),(3,.map 0),(6,grV nil0 1 (done.map keyS).length),(19,.map 0),(20,ptrV r)] (strG c (done.map keyS))
section
variable {X:Ext} {call:Caller} {lf:Nat}
theorem r16_0 (L:List Lexm):vexec Tryd.prog X call lf 0 fg16 (.region 0 (opsF Tryd.f16 0) false) { tmps:=[lexsV L] ++ List.replicate 31 .undef,st:=[] }=some (.normal,stOf 32 [] [(0,lexsV L),(2,nil0)] []):=by kernel_rfl
theorem r16_1 (L:List Lexm):vexec Tryd.prog X call lf 0 fg16 (.region 1 (opsF Tryd.f16 1) false) (stOf 32 [] [(0,lexsV L),(2,nil0)] [])=some (.normal,stOf 32 [] [(0,lexsV L),(2,nil0),(3,.map 0),(8,.map 0)] [.mapo []]):=by kernel_rfl
theorem r16_2 (L:List Lexm):vexec Tryd.prog X call lf 0 fg16 (.region 2 (opsF Tryd.f16 2) false) (stOf 32 [] [(0,lexsV L),(2,nil0),(3,.map 0),(8,.map 0)] [.mapo []])=some (.normal,f16_S0 L):=by kernel_rfl
def X16 (L:List Lexm) (σ:List Ob) (i:Nat):St:=stOf 32 [5,13,14,15,16,17,18] [(0,lro (List.length L) 5 (List.flatMap lexC L)),(2,AV.list LK.nil 0 0 []),(3,AV.map 0),(8,AV.map 0),(9,lro (List.length L) 5 (List.flatMap lexC L)),(10,i6 (↑(List.length L):Int)),(11,i6 (↑i:Int)),(12,bo false)] σ
/-- The first loop. -/
theorem loop16 {L:List Lexm} (hl:L.length ≤ big) (hlf:L.length < lf):vexec Tryd.prog X call lf 0 fg16 (.loop (loopN Tryd.f16 0)) (f16_S0 L)=some (.exit 0,X16 L [.mapo (esOf (catsN L L.length))] L.length):=by
  have lt_of : ∀ {i0 : Nat}, decide ((↑i0 : Int) < (↑(List.length L) : Int)) = true → i0 < L.length := fun h => by
    have:=of_decide_eq_true h
    omega
  refine f16_L0 L (fun i=>[.mapo (esOf (catsN L i))]) X call lf L.length _ _ rfl hlf (fun j hj => ?_) ?_ (by simp)
  · exact (f16_B0 L X call lf (fun i => [.mapo (esOf (catsN L i))]) j (nL L j).id (nL L j).cat (nL L j).stem (nL L j).par (nL L j).feats.length ((nL L j).feats.flatMap featC) (tL L j) [.mapo (esOf (catsN L (j + 1)))]
      (fun h=>at_lex (lt_of h)) (fun _=>put58 _ _) (fun _=>up hj hl) (fun _=>rfl)).1 (by unfold f16_o0; rw [decide_eq_true (by omega)])
  · exact f16_r0_f L X call lf (fun i=>[.mapo (esOf (catsN L i))]) L.length (decide_eq_false (by omega))
theorem seq16 {L:List Lexm} (hl:L.length ≤ big) (hlf:L.length < lf):vexec Tryd.prog X call lf 0 fg16 (.seq (.region 2 (opsF Tryd.f16 2) false) (.block 0 (.loop (loopN Tryd.f16 0)))) (stOf 32 [] [(0,lexsV L),(2,nil0),(3,.map 0),(8,.map 0)] [.mapo []])=some (.normal,X16 L [.mapo (esOf (catsN L L.length))] L.length):=by
  have h1:=r16_2 (X:=X) (call:=call) (lf:=lf) L
  have h2:=loop16 (X:=X) (call:=call) hl hlf
  generalize Code.loop (loopN Tryd.f16 0)=c at h2 ⊢
  rw [vexec,h1]
  simp only
  rw [vexec,h2]
  simp
theorem r16_7 (L:List Lexm) (c:List ByteArray):vexec Tryd.prog X call lf 0 fg16 (.region 7 (opsF Tryd.f16 7) false) (A16 L c)=some (.normal,B16 L c):=by kernel_rfl
theorem x16_a (L:List Lexm) (c:List ByteArray) (i:Nat):forget any16 (X16 L [.mapo (esOf c)] i)=A16 L c:=by kernel_rfl
theorem r16_11 (L:List Lexm) (c:List ByteArray) (done:List (AV × AV)) (k:ByteArray) (r:Nat) (v:AV) (σ:List Ob) (h:appendv Tryd.prog 25 (strG c (done.map keyS)) 1 (grV nil0 1 (done.map keyS).length) (.list .clip 1 1 [st k])=some (v,σ)) :
    vexec Tryd.prog X call lf 1 fg16 (.region 11 (opsF Tryd.f16 11) false) (stOf 32 (any16 ++ [25, 26, 27, 28]) [(0, lexsV L), (2, nil0), (3, .map 0), (6, grV nil0 1 (done.map keyS).length), (7, st k), (19, .map 0), (20, ptrV r), (21, .tup [bo true, st k, bo true]), (22, bo true), (23, .tup [st k, bo true]), (24, st k)] (strG c (done.map keyS))) =
      some (.normal,stOf 32 any16 [(0,lexsV L),(2,nil0),(3,.map 0),(6,v),(7,st k),(19,.map 0),(20,ptrV r),(21,.tup [bo true,st k,bo true]),(22,bo true),(23,.tup [st k,bo true]),(24,st k),(25,grV nil0 1 (done.map keyS).length),(26,st k),(27,.list .clip 1 1 [st k]),(28,v)] σ) :=
  around_sound (ans:=[(4,Ans.c v σ)]) (by kernel_rfl) (And.intro h trivial)
end
end Go.Proofs.Lex
end
/- Lexicon: Categories, told. -/
section
open Go Go.Vm Go.Proofs
namespace Go.Proofs.Lex
/-- In the order of bytes. -/
def sortS (l:List ByteArray):List ByteArray:=((l.map (·.data.toList)).mergeSort leB).map fun b=>⟨b.toArray⟩
theorem sortS_len (l:List ByteArray):(sortS l).length=l.length:=by
  unfold sortS
  rw [List.length_map,List.length_mergeSort,List.length_map]
theorem leB_trans (a b c:List UInt8) (h:leB a b=true) (k:leB b c=true):leB a c=true:=by
  simp only [leB,decide_eq_true_eq] at *
  exact List.le_trans h k
theorem leB_total (a b:List UInt8):(leB a b || leB b a)=true:=by
  rcases List.le_total a b with h | h <;> simp [leB,h]
theorem sortS_perm {l m:List ByteArray} (h:l.Perm m):sortS l=sortS m:=by
  unfold sortS
  congr 1
  refine List.Perm.eq_of_pairwise (le:=fun a b=>leB a b=true) (fun a b _ _ h k => ?_) (List.pairwise_mergeSort leB_trans leB_total _) (List.pairwise_mergeSort leB_trans leB_total _) ?_
  · simp only [leB, decide_eq_true_eq] at h k
    exact List.le_antisymm h k
  · exact (List.mergeSort_perm _ _).trans ((h.map _).trans (List.mergeSort_perm _ _).symm)
theorem keys_es (c:List ByteArray):(esOf c).map keyS=c:=by
  unfold esOf
  rw [List.map_map]
  have:(keyS ∘ fun c=>(st c,bo true))=id:=by funext x; rfl
  rw [this,List.map_id]
theorem catsN_len (L:List Lexm):∀ i,(catsN L i).length ≤ i
  | 0=>Nat.le_refl _
  | i + 1 => by
    have ih:=catsN_len L i
    unfold catsN putS
    split
    · omega
    · rw [List.length_append,List.length_singleton]; omega
section
variable [Fixed] {X:Ext} {call:Caller} {lf:Nat}
theorem ops16_8:(opsF Tryd.f16 8).toList=[opF Tryd.f16 8 0] ++ [opF Tryd.f16 8 1]:=by kernel_rfl
theorem ops16_9:(opsF Tryd.f16 9).toList=[opF Tryd.f16 9 0,opF Tryd.f16 9 1]:=by kernel_rfl
theorem ops16_10:(opsF Tryd.f16 10).toList=opF Tryd.f16 10 0::[opF Tryd.f16 10 1,opF Tryd.f16 10 2]:=by kernel_rfl
def T16 (L:List Lexm) (c:List ByteArray):St:=stOf 32 any16 [(0,lexsV L),(2,nil0),(3,.map 0),(6,nil0),(19,.map 0)] [.mapo (esOf c)]
theorem range16 (hX:ExtOk Tryd.prog X) (hC:CallOk Tryd.prog call) (L:List Lexm) {c:List ByteArray} (hc:(c.length + 1) * 17 ≤ big) :
    RangeAt Tryd.prog X call 0 [] (opsF Tryd.f16 8) (opsF Tryd.f16 9) (opsF Tryd.f16 10) (.region 11 (opsF Tryd.f16 11) false) 22 (B16 L c) 0 (esOf c) dk16 (F16 L c) 21 (fun _=>False):=by
  refine ⟨⟨[opF Tryd.f16 8 0],opF Tryd.f16 8 1,58,9,4,.tmp 19,T16 L c,20,opF Tryd.f16 9 0,opF Tryd.f16 9 1,opF Tryd.f16 10 0,[opF Tryd.f16 10 1,opF Tryd.f16 10 2],23,ops16_8,?_,by kernel_rfl,by kernel_rfl,by kernel_rfl,by kernel_rfl,?_,?_,ops16_9,by kernel_rfl,by kernel_rfl,by kernel_rfl,by kernel_rfl,by kernel_rfl,by kernel_rfl,ops16_10,by kernel_rfl,by kernel_rfl,by kernel_rfl,?_,?_,by decide,by decide,?_,?_⟩,?_⟩
  · show _=_; kernel_rfl
  · show _=_; kernel_rfl
  · rfl
  · intro r; show _=_; kernel_rfl
  · intro done r; show _=_; kernel_rfl
  · intro done r
    have:(F16 L c done r).tmps.length=32:=by show _=_; kernel_rfl
    exact ⟨by rw [this]; decide,by rw [this]; decide⟩
  · intro done e tl r hp
    have hmem:e ∈ esOf c:=hp.subset (by simp)
    obtain ⟨k,_,rfl⟩:=List.mem_map.1 hmem
    have hlen : done.length < c.length := by
      have:=hp.length_eq
      simp only [List.length_append,List.length_cons,esOf,List.length_map] at this
      omega
    refine ⟨stOf 32 (any16 ++ [25,26,27,28]) [(0,lexsV L),(2,nil0),(3,.map 0),(6,grV nil0 1 (done.map keyS).length),(7,st k),(19,.map 0),(20,ptrV r),(21,.tup [bo true,st k,bo true]),(22,bo true),(23,.tup [st k,bo true]),(24,st k)] (strG c (done.map keyS)),?_,?_⟩
    · show _=_; kernel_rfl
    · have hg := gr_stepR (σ0 := [Ob.mapo (esOf c)]) (ro := 1) (l := done.map keyS) (m := [k]) (lk := .nil) (sz0 := 0) rowS (.inl rfl) (Nat.le_refl _) (appended_row (lk := .clip) [k]) (by
        show (_ + 1) * (16 + 1) ≤ big
        have hc' : (c.length + 1) * 17 ≤ 140737488355328:=hc
        have:(done.map keyS).length < c.length:=by rw [List.length_map]; exact hlen
        show _ ≤ 140737488355328
        omega)
      refine (SR.exec hX hC (lf:=0) (fg:=fg16) (by kernel_rfl) (r16_11 L c done k r _ _ hg)).mono ?_
      rintro x T ⟨rfl,rfl⟩
      refine .inl ⟨rfl,?_⟩
      have e:(done ++ [(st k,bo true)]).map keyS=done.map keyS ++ [k]:=by rw [List.map_append]; rfl
      unfold F16
      rw [e]
      show _=_
      kernel_rfl
  · intro done r
    show (strG c (done.map keyS))[0]? = _
    unfold strG grS
    split <;> rfl
theorem bytsO_str:∀ (l:List ByteArray),bytsO (l.flatMap Cod.str.enc)=some (l.map (·.data.toList)):=by
  intro l
  have h : ∀ (l : List ByteArray), strsO (l.flatMap Cod.str.enc) = some l := by
    intro l
    induction l with
    | nil=>rfl
    | cons x l ih =>
      show strsO (AV.str x::l.flatMap Cod.str.enc)=_
      unfold strsO
      rw [ih]
  unfold bytsO
  rw [h]
/-- Sort, given the row. -/
theorem sort39 (hM:XM X) (c l:List ByteArray) (hl:l.length ≤ big):callv X call false 39 [grV nil0 1 l.length] (strG c l) 0=some (.tup [],strG c (sortS l)):=by
  unfold callv
  rw [hM.sort.1,hM.sort.2]
  by_cases h:l.length=0
  · have h' : l = [] := List.eq_nil_of_length_eq_zero h
    subst h'
    have e:sortS []=[]:=by unfold sortS; simp
    rw [e]
    rfl
  · have hv : grV nil0 1 l.length = .own 1 l.length := if_neg h
    have hg:strG c l=[Ob.mapo (esOf c),.arr l.length 1 (l.flatMap Cod.str.enc)]:=by unfold strG grS; rw [if_neg h]; rfl
    have hg2 : strG c (sortS l) = [Ob.mapo (esOf c), .arr l.length 1 ((sortS l).flatMap Cod.str.enc)] := by
      unfold strG grS
      rw [sortS_len,if_neg h]
      rfl
    rw [hv,hg,hg2]
    have ho : ownRow bytsO [Ob.mapo (esOf c), .arr l.length 1 (l.flatMap Cod.str.enc)] 0 (.own 1 l.length) = some (1, l.map (·.data.toList)) := by
      unfold ownRow
      simp only [List.getElem?_cons_succ,List.getElem?_cons_zero,bytsO_str]
      rw [if_pos ⟨trivial,trivial,Nat.zero_le _,by rw [List.length_map],hl⟩]
    show sortFn bytsO avB leB [.own 1 l.length] _ 0=_
    unfold sortFn
    simp only [isNil,Bool.false_eq_true,if_false,ho,List.length_map,setOb]
    have : ((l.map (·.data.toList)).mergeSort leB).map avB = (sortS l).flatMap Cod.str.enc := by
      unfold sortS
      generalize (l.map (·.data.toList)).mergeSort leB=m
      induction m with
      | nil=>rfl
      | cons x m ih=>rw [List.map_cons,List.map_cons,List.flatMap_cons,ih]; rfl
    rw [this]
def G16 (L:List Lexm) (c:List ByteArray) (done:List (AV × AV)) (r:Nat):St:=⟨setN (setN (F16 L c done r).tmps 21 (.tup [bo false])) 22 (bo false),(F16 L c done r).st⟩
def H16 (L:List Lexm) (l:List ByteArray) (r:Nat) (σ:List Ob):St:=stOf 32 (any16 ++ [7,23,24,25,26,27,28]) [(0,lexsV L),(2,nil0),(3,.map 0),(6,grV nil0 1 l.length),(19,.map 0),(20,ptrV r),(21,.tup [bo false]),(22,bo false),(29,grV nil0 1 l.length),(30,.tup [])] σ
theorem r16_12 (L:List Lexm) (c:List ByteArray) (done:List (AV × AV)) (r:Nat) (σ:List Ob) (h:callv X call false 39 [grV nil0 1 (done.map keyS).length] (strG c (done.map keyS)) 0=some (.tup [],σ)) :
    vexec Tryd.prog X call lf 0 fg16 (.region 12 (opsF Tryd.f16 12) false) (G16 L c done r)=some (.normal,H16 L (done.map keyS) r σ) :=
  around_sound (ans:=[(2,Ans.c (.tup []) σ)]) (by kernel_rfl) (And.intro h trivial)
theorem r16_13 (L:List Lexm) (l:List ByteArray) (r:Nat) (σ:List Ob):vexec Tryd.prog X call lf 0 fg16 (.region 13 (opsF Tryd.f16 13) false) (H16 L l r σ)=some (.normal,⟨setN (setN (H16 L l r σ).tmps 31 (grV nil0 1 l.length)) 2 (grV nil0 1 l.length),σ⟩):=by kernel_rfl
theorem vend16 (T:St) (v:AV) (h:nth T.tmps 2=v) {r:AV × List Ob} (hv:vend1 [] 0 T.st [v]=some r):vend Tryd.prog Tryd.f16 [] 0 T=some r:=by
  have hr:resultsv Tryd.prog T Tryd.f16.results.toList=some [nth T.tmps 2]:=by kernel_rfl
  unfold vend
  rw [hr,h]
  exact hv
/-- The categories of a list. -/
def catsS (L:List Lexm):List ByteArray:=sortS (catsN L L.length)
/-- lexicon.Categories. -/
theorem call16 (hX:ExtOk Tryd.prog X) (hM:XM X) {L:List Lexm} (hl:(L.length + 1) * 17 ≤ big):CallAt Tryd.prog 16 [aLs.enc L] [] 0 (aSs.enc (catsS L)) []:=by
  have hl' : (L.length + 1) * 17 ≤ 140737488355328:=hl
  have hC:=callerOf_ok (SpecOk.none' (P:=Tryd.prog))
  have hlb:L.length ≤ big:=by show _ ≤ 140737488355328; omega
  have hcl:=catsN_len L L.length
  refine call_rel (B:=aSs) (fn:=Tryd.f16) (c:=catC Tryd.f16) (R:=fun x T=>x = .ret∧∃ l,l.Perm (catsN L L.length)∧nth T.tmps 2=grV nil0 1 l.length∧T.st=strG (catsN L L.length) (sortS l)) Tryd.func16 body16 (of_decide_eq_false (by kernel_rfl)) ?_ (fun x T h => ?_)
  · refine SR.seq (SR.exec hX hC (lf := 0) (fg := fg16) (by kernel_rfl) (r16_0 L)) (fun T hT => ?_) (fun z T hz hh => absurd hh.1 hz)
    obtain ⟨-,rfl⟩:=hT
    refine SR.seq (SR.exec hX hC (lf:=0) (fg:=fg16) (by kernel_rfl) (r16_1 L)) (fun T hT => ?_) (fun z T hz hh=>absurd hh.1 hz)
    obtain ⟨-,rfl⟩:=hT
    refine SR.seq (SR.exec hX hC (lf:=L.length + 1) (fg:=fg16) (by kernel_rfl) (seq16 hlb (by omega))) (fun T hT => ?_) (fun z T hz hh=>absurd hh.1 hz)
    obtain ⟨-,rfl⟩:=hT
    refine SR.forget any16 ?_
    rw [x16_a]
    refine SR.seq (SR.exec hX hC (lf:=0) (fg:=fg16) (by kernel_rfl) (r16_7 L _)) (fun T hT => ?_) (fun z T hz hh=>absurd hh.1 hz)
    obtain ⟨-,rfl⟩:=hT
    refine SR.seq (SR.ranges hX hC (range16 hX hC L (c:=catsN L L.length) (by show _ ≤ 140737488355328; omega)) (Nat.zero_le _)) (fun T hT => ?_) (fun z T hz hh => ?_)
    · rcases hT with ⟨-, done, r, hp, rfl⟩ | ⟨h, _⟩
      · have hp2 : (done.map keyS).Perm (catsN L L.length) := by
          have:=hp.map keyS
          rwa [keys_es] at this
        have hs:=sort39 (call:=callerOf fun _ _=>none) hM (catsN L L.length) (done.map keyS) (by rw [hp2.length_eq]; omega)
        refine SR.seq (SR.exec hX hC (lf:=0) (fg:=fg16) (by kernel_rfl) (r16_12 L (catsN L L.length) done r _ hs)) (fun T hT => ?_) (fun z T hz hh=>absurd hh.1 hz)
        obtain ⟨-,rfl⟩:=hT
        refine SR.seq (SR.exec hX hC (lf:=0) (fg:=fg16) (by kernel_rfl) (r16_13 L (done.map keyS) r _)) (fun T hT => ?_) (fun z T hz hh=>absurd hh.1 hz)
        obtain ⟨-,rfl⟩:=hT
        exact SR.ret ⟨rfl,done.map keyS,hp2,by show _=_; kernel_rfl,rfl⟩
      · cases h
    · rcases hh with ⟨h, _⟩ | ⟨_, h⟩
      · exact absurd h hz
      · exact h.elim
  · obtain ⟨rfl, l, hp, h2, h3⟩ := h
    obtain ⟨r,σ',hv,hd,-⟩:=gr_end (A:=Cod.str) (lk := .nil) (sz0:=0) (σ1:=[]) (σ0:=[Ob.mapo (esOf (catsN L L.length))]) (sortS l)
    refine ⟨.inr rfl,r,_,vend16 T _ h2 (r:=(r,[Ob.mapo (esOf (catsN L L.length))] ++ σ')) ?_,?_⟩
    · rw [h3]
      have:=sortS_len l
      rw [this] at hv
      exact hv
    · have hd' : aSs.dec r = some (sortS l) := hd
      rw [hd',sortS_perm hp]
      rfl
end
end Go.Proofs.Lex
end
/- Lexicon: the chapter's example: its homonyms. -/
section
open Go Go.Vm Go.Proofs
namespace Go.Proofs.Lex
def fg18:Nat→List Nat
  | 5004=>[1]
  | 5010=>[1]
  | 2005=>[1000000]
  | _=>[]
def ex1:Lexm:=⟨⟨#[120,49]⟩,⟨#[110]⟩,⟨#[98,97,116]⟩,⟨#[110,111,117,110]⟩,[⟨⟨#[103,101,110,100,101,114]⟩,⟨#[102]⟩⟩]⟩
def ex2:Lexm:=⟨⟨#[120,50]⟩,⟨#[110]⟩,⟨#[116,97,98]⟩,⟨#[110,111,117,110]⟩,[]⟩
def ex3:Lexm:=⟨⟨#[120,51]⟩,⟨#[118]⟩,⟨#[98,97,116]⟩,emp,[]⟩
def exL:List Lexm:=[ex1,ex2,ex3]
theorem hom_ex [Fixed]:(vbody Tryd.prog X09 (vcallL Tryd.prog X09 (fun _ _=>none) 10 2) 10 fg18 Tryd.f18 (codeOf Tryd.f18) [lexsV exL] [] 0).map (fun p=>aSss.dec p.1)=some (some [[ex1.id,ex3.id]]):=by kernel_rfl
end Go.Proofs.Lex
end
/- Lexicon: awake (printed) -/
section
open Go Go.Vm Go.Proofs
namespace Go.Proofs.Lex
theorem f14_p (X:Ext)(call:Caller)(lf:Nat)
 (h0:callv X call false 23 [st (ByteArray.mk #[120,51,32,118,32,98,97,116,32,45])] [] 0=some (AV.tup [AV.agg [st (Lexm.id ex3),st (Lexm.cat ex3),st (Lexm.stem ex3),st (Lexm.par ex3),lro 0 2 []],i6 0],[]))
 (h1:callv X call false 18 [AV.list LK.clip 3 5 [st (ByteArray.mk #[120,49]),st (ByteArray.mk #[110]),st (ByteArray.mk #[98,97,116]),st (ByteArray.mk #[110,111,117,110]),AV.list LK.clip 1 2 [st (ByteArray.mk #[103,101,110,100,101,114]),st (ByteArray.mk #[102])],st (ByteArray.mk #[120,50]),st (ByteArray.mk #[110]),st (ByteArray.mk #[116,97,98]),st (ByteArray.mk #[110,111,117,110]),AV.list LK.nil 0 0 [],st (ByteArray.mk #[120,51]),st (ByteArray.mk #[118]),st (ByteArray.mk #[98,97,116]),st (ByteArray.mk #[]),AV.list LK.nil 0 0 []]] [Ob.cells [st (Lexm.id ex3),st (Lexm.cat ex3),st (Lexm.stem ex3),st (Lexm.par ex3),lro 0 2 []]] 0=some (lro 1 1 [lro 2 1 [st (Lexm.id ex1),st (Lexm.id ex3)]],[Ob.cells [st (Lexm.id ex3),st (Lexm.cat ex3),st (Lexm.stem ex3),st (Lexm.par ex3),lro 0 2 []]]))
 (h2:callv X call false 28 [AV.list LK.clip 3 5 [st (ByteArray.mk #[120,49]),st (ByteArray.mk #[110]),st (ByteArray.mk #[98,97,116]),st (ByteArray.mk #[110,111,117,110]),AV.list LK.clip 1 2 [st (ByteArray.mk #[103,101,110,100,101,114]),st (ByteArray.mk #[102])],st (ByteArray.mk #[120,50]),st (ByteArray.mk #[110]),st (ByteArray.mk #[116,97,98]),st (ByteArray.mk #[110,111,117,110]),AV.list LK.nil 0 0 [],st (ByteArray.mk #[120,51]),st (ByteArray.mk #[118]),st (ByteArray.mk #[98,97,116]),st (ByteArray.mk #[]),AV.list LK.nil 0 0 []],st (ByteArray.mk #[120,50])] [Ob.cells [st (Lexm.id ex3),st (Lexm.cat ex3),st (Lexm.stem ex3),st (Lexm.par ex3),lro 0 2 []]] 0=some (i6 1,[Ob.cells [st (Lexm.id ex3),st (Lexm.cat ex3),st (Lexm.stem ex3),st (Lexm.par ex3),lro 0 2 []]]))
 (h3:callv X call false 17 [AV.list LK.clip 3 5 [st (ByteArray.mk #[120,49]),st (ByteArray.mk #[110]),st (ByteArray.mk #[98,97,116]),st (ByteArray.mk #[110,111,117,110]),AV.list LK.clip 1 2 [st (ByteArray.mk #[103,101,110,100,101,114]),st (ByteArray.mk #[102])],st (ByteArray.mk #[120,50]),st (ByteArray.mk #[110]),st (ByteArray.mk #[116,97,98]),st (ByteArray.mk #[110,111,117,110]),AV.list LK.nil 0 0 [],st (ByteArray.mk #[120,51]),st (ByteArray.mk #[118]),st (ByteArray.mk #[98,97,116]),st (ByteArray.mk #[]),AV.list LK.nil 0 0 []],st (ByteArray.mk #[110])] [Ob.cells [st (Lexm.id ex3),st (Lexm.cat ex3),st (Lexm.stem ex3),st (Lexm.par ex3),lro 0 2 []]] 0=some (lro 2 5 [st (Lexm.id ex1),st (Lexm.cat ex1),st (Lexm.stem ex1),st (Lexm.par ex1),lro 1 2 [st (Feat.name (Feat.mk (ByteArray.mk #[103,101,110,100,101,114]) (ByteArray.mk #[102]))),st (Feat.value (Feat.mk (ByteArray.mk #[103,101,110,100,101,114]) (ByteArray.mk #[102])))],st (Lexm.id ex2),st (Lexm.cat ex2),st (Lexm.stem ex2),st (Lexm.par ex2),lro 0 2 []],[Ob.cells [st (Lexm.id ex3),st (Lexm.cat ex3),st (Lexm.stem ex3),st (Lexm.par ex3),lro 0 2 []]]))
 (h4:callv X call false 21 [AV.agg [st (ByteArray.mk #[120,49]),st (ByteArray.mk #[110]),st (ByteArray.mk #[98,97,116]),st (ByteArray.mk #[110,111,117,110]),AV.list LK.clip 1 2 [st (ByteArray.mk #[103,101,110,100,101,114]),st (ByteArray.mk #[102])]]] [Ob.cells [st (Lexm.id ex3),st (Lexm.cat ex3),st (Lexm.stem ex3),st (Lexm.par ex3),lro 0 2 []]] 0=some (st (ByteArray.mk #[120,49,32,110,32,98,97,116,32,110,111,117,110,32,103,101,110,100,101,114,61,102]),[Ob.cells [st (Lexm.id ex3),st (Lexm.cat ex3),st (Lexm.stem ex3),st (Lexm.par ex3),lro 0 2 []]]))
 (h5:callv X call false 16 [AV.list LK.clip 3 5 [st (ByteArray.mk #[120,49]),st (ByteArray.mk #[110]),st (ByteArray.mk #[98,97,116]),st (ByteArray.mk #[110,111,117,110]),AV.list LK.clip 1 2 [st (ByteArray.mk #[103,101,110,100,101,114]),st (ByteArray.mk #[102])],st (ByteArray.mk #[120,50]),st (ByteArray.mk #[110]),st (ByteArray.mk #[116,97,98]),st (ByteArray.mk #[110,111,117,110]),AV.list LK.nil 0 0 [],st (ByteArray.mk #[120,51]),st (ByteArray.mk #[118]),st (ByteArray.mk #[98,97,116]),st (ByteArray.mk #[]),AV.list LK.nil 0 0 []]] [Ob.cells [st (Lexm.id ex3),st (Lexm.cat ex3),st (Lexm.stem ex3),st (Lexm.par ex3),lro 0 2 []]] 0=some (lro 2 1 [st (ByteArray.mk #[110]),st (ByteArray.mk #[118])],[Ob.cells [st (Lexm.id ex3),st (Lexm.cat ex3),st (Lexm.stem ex3),st (Lexm.par ex3),lro 0 2 []]])):vbody Tryd.prog X call lf noFg Tryd.f14 (codeOf Tryd.f14) [] [] 0=some (bo true,[Ob.cells [st (Lexm.id ex3),st (Lexm.cat ex3),st (Lexm.stem ex3),st (Lexm.par ex3),lro 0 2 []]]) :=
  along_sound (ans:=[(11,Ans.v (AV.tup [AV.agg [st (Lexm.id ex3),st (Lexm.cat ex3),st (Lexm.stem ex3),st (Lexm.par ex3),lro 0 2 []],i6 0])),(20,Ans.v (lro 1 1 [lro 2 1 [st (Lexm.id ex1),st (Lexm.id ex3)]])),(24,Ans.v (i6 1)),(30,Ans.v (lro 2 5 [st (Lexm.id ex1),st (Lexm.cat ex1),st (Lexm.stem ex1),st (Lexm.par ex1),lro 1 2 [st (Feat.name (Feat.mk (ByteArray.mk #[103,101,110,100,101,114]) (ByteArray.mk #[102]))),st (Feat.value (Feat.mk (ByteArray.mk #[103,101,110,100,101,114]) (ByteArray.mk #[102])))],st (Lexm.id ex2),st (Lexm.cat ex2),st (Lexm.stem ex2),st (Lexm.par ex2),lro 0 2 []])),(64,Ans.v (st (ByteArray.mk #[120,49,32,110,32,98,97,116,32,110,111,117,110,32,103,101,110,100,101,114,61,102]))),(86,Ans.v (lro 2 1 [st (ByteArray.mk #[110]),st (ByteArray.mk #[118])]))]) (by kernel_rfl) (ai h0 (ai h1 (ai h2 (ai h3 (ai h4 (ai h5 trivial))))))
end Go.Proofs.Lex
end
/- Lexicon: laws (printed) -/
section
open Go Go.Vm Go.Proofs
namespace Go.Proofs.Lex
end Go.Proofs.Lex
end
/- Lexicon: LexiconSelects, but for the example (awake). -/
section
open Go Go.Vm Go.Proofs
namespace Go.Proofs.Lex
section
variable [Fixed] {X:Ext}
end
end Go.Proofs.Lex
end
/- Lexicon: LexiconFind and LexiconNarrows, but for the example (awake). -/
section
open Go Go.Vm Go.Proofs
namespace Go.Proofs.Lex
section
variable [Fixed] {X:Ext}
end
end Go.Proofs.Lex
end
/- Lexicon: the chapter's example holds. -/
section
open Go Go.Vm Go.Proofs
namespace Go.Proofs.Lex
def exT:ByteArray:=⟨#[120,51,32,118,32,98,97,116,32,45]⟩
def exLine:ByteArray:=⟨#[120,49,32,110,32,98,97,116,32,110,111,117,110,32,103,101,110,100,101,114,61,102]⟩
def exA:AV := .list .clip 3 5 [st ⟨#[120,49]⟩,st ⟨#[110]⟩,st ⟨#[98,97,116]⟩,st ⟨#[110,111,117,110]⟩,.list .clip 1 2 [st ⟨#[103,101,110,100,101,114]⟩,st ⟨#[102]⟩],st ⟨#[120,50]⟩,st ⟨#[110]⟩,st ⟨#[116,97,98]⟩,st ⟨#[110,111,117,110]⟩,nil0,st ⟨#[120,51]⟩,st ⟨#[118]⟩,st ⟨#[98,97,116]⟩,st ⟨#[]⟩,nil0]
section
variable [Fixed]
theorem ex_parse:parseL exT=some ex3:=by kernel_rfl
theorem ex_line:lineS ex1=exLine:=by kernel_rfl
theorem ex_dec:aLs.dec exA=some exL:=by kernel_rfl
theorem ex_cats:catsS exL=[⟨#[110]⟩,⟨#[118]⟩]:=by
  have h:catsN exL exL.length=[⟨#[110]⟩,⟨#[118]⟩]:=by kernel_rfl
  unfold catsS
  rw [h]
  unfold sortS
  have h2:([⟨#[110]⟩,⟨#[118]⟩]:List ByteArray).map (·.data.toList)=[[110],[118]]:=by kernel_rfl
  rw [h2]
  have h3:([[110],[118]]:List (List UInt8)).mergeSort leB=[[110],[118]]:=List.mergeSort_of_pairwise (by simp [leB]; decide)
  rw [h3]
  rfl
theorem ex_idx:idxP (fun x=>decide (x.id=⟨#[120,50]⟩)) exL=1:=by kernel_rfl
theorem ex_cat:exL.filter (fun x=>decide (x.cat=⟨#[110]⟩))=[ex1,ex2]:=by kernel_rfl
theorem ex_okPar:okPar exT:=⟨by decide,any_ascii (by decide +kernel) (by decide +kernel)⟩
theorem ex_okLine:okLine ex1:=⟨by decide +kernel,by decide +kernel,by decide +kernel,by decide +kernel,any_ascii (by decide +kernel) (by decide +kernel),fun _=>by decide +kernel,fun _=>by decide +kernel⟩
theorem ex_okLs:okLs exL:=by decide +kernel
abbrev x2S:ByteArray:=⟨#[120,50]⟩
abbrev nS1:ByteArray:=⟨#[110]⟩
theorem s1_dec {α β:Type} {A:Arg α} {B:Arg β} {g:α→β} {ok:α→Prop} [DecidablePred ok] {v:AV} {x:α} (h:A.dec v=some x) (hok:ok x):s1 A B g ok [v]=some (B.enc (g x)):=by
  unfold s1
  rw [sp1_at h,if_pos hok]
/-- What the example asks. -/
def TEx:Go.Vm.Spec:=((((((Go.Vm.Spec.on (fun _ _=>none) 23 (s1 aS aLE (fun s=>resE d0L (parseL s)) fun s=>s=exT)).on 18 (s1 aLs aSss (fun _=>[[ex1.id,ex3.id]]) fun L=>L=exL)).on 28 (sp2 aLs aS fun L s=>if L=exL∧s=x2S then some (aI.enc 1) else none)).on 17 (sp2 aLs aS fun L s=>if L=exL∧s=nS1 then some (aLs.enc [ex1,ex2]) else none)).on 21 (s1 aL aS lineS fun x=>x=ex1)).on 16 (s1 aLs aSs catsS fun L=>L=exL))
theorem call18_ex (hX:ExtOk Tryd.prog X09):CallAt Tryd.prog 18 [aLs.enc exL] [] 0 (aSss.enc [[ex1.id,ex3.id]]) []:=by
  have hC:=vcallL_ok hX (SpecOk.none' (P:=Tryd.prog)) 10 2
  have h:=hom_ex
  cases hv:vbody Tryd.prog X09 (vcallL Tryd.prog X09 (fun _ _=>none) 10 2) 10 fg18 Tryd.f18 (codeOf Tryd.f18) [lexsV exL] [] 0 with
  | none=>rw [hv] at h; cases h
  | some p =>
    rw [hv] at h
    simp only [Option.map_some,Option.some.injEq] at h
    exact run_res (B:=aSss) hX hC (xl09.dom 18 rfl rfl) Tryd.func18 (by kernel_rfl) hv h
theorem TEx_ok (hX:ExtOk Tryd.prog X09):SpecOk Tryd.prog TEx:=by
  refine SpecOk.s1 (SpecOk.s1 (SpecOk.on2 (SpecOk.on2 (SpecOk.s1 (SpecOk.s1 SpecOk.none' fun s hs => ?_) fun L hL => ?_) fun L s r h => ?_) fun L s r h => ?_) fun x hx => ?_) fun L hL => ?_
  · subst hs
    exact call23 hX xm09 ex_okPar
  · subst hL
    exact call18_ex hX
  · split at h
    · rename_i hh
      obtain ⟨rfl,rfl⟩:=hh
      simp only [Option.some.injEq] at h
      subst h
      have:=call28 hX xl09 (L:=exL) (s:=x2S) (by decide)
      rwa [ex_idx] at this
    · cases h
  · split at h
    · rename_i hh
      obtain ⟨rfl,rfl⟩:=hh
      simp only [Option.some.injEq] at h
      subst h
      have:=call17 hX xl09 (L:=exL) (s:=nS1) ex_okLs
      rwa [ex_cat] at this
    · cases h
  · subst hx
    exact call21 hX xm09 ex_okLine
  · subst hL
    exact call16 hX xm09 (by decide)
/-- The chapter's example holds. -/
theorem awake14 (hX:ExtOk Tryd.prog X09):CallAt Tryd.prog 14 [] [] 0 (bo true) []:=by
  have hC:=callerOf_ok (TEx_ok hX)
  have t23 : TEx 23 [st exT] = some (aLE.enc (ex3, 0)) := by
    have:=s1_at (A:=aS) (B:=aLE) (g:=fun s=>resE d0L (parseL s)) (ok:=fun s=>s=exT) (x:=exT) rfl
    simp only [ex_parse] at this
    exact this
  have t18:TEx 18 [exA]=some (aSss.enc [[ex1.id,ex3.id]]):=s1_dec (A:=aLs) (B:=aSss) (g:=fun _=>[[ex1.id,ex3.id]]) (ok:=fun L=>L=exL) ex_dec rfl
  have t28:TEx 28 [exA,st x2S]=some (aI.enc 1):=(sp2_at (A:=aLs) (B:=aS) (g:=fun L s=>if L=exL∧s=x2S then some (aI.enc 1) else none) ex_dec (aS.de x2S)).trans (if_pos ⟨rfl,rfl⟩)
  have t17:TEx 17 [exA,st nS1]=some (aLs.enc [ex1,ex2]):=(sp2_at (A:=aLs) (B:=aS) (g:=fun L s=>if L=exL∧s=nS1 then some (aLs.enc [ex1,ex2]) else none) ex_dec (aS.de nS1)).trans (if_pos ⟨rfl,rfl⟩)
  have d21:aL.dec (.agg [st ⟨#[120,49]⟩,st ⟨#[110]⟩,st ⟨#[98,97,116]⟩,st ⟨#[110,111,117,110]⟩,.list .clip 1 2 [st ⟨#[103,101,110,100,101,114]⟩,st ⟨#[102]⟩]])=some ex1:=by kernel_rfl
  have t21 : TEx 21 [.agg [st ⟨#[120, 49]⟩, st ⟨#[110]⟩, st ⟨#[98, 97, 116]⟩, st ⟨#[110, 111, 117, 110]⟩, .list .clip 1 2 [st ⟨#[103, 101, 110, 100, 101, 114]⟩, st ⟨#[102]⟩]]] = some (aS.enc exLine) := by
    rw [← ex_line]
    exact s1_dec (A:=aL) (B:=aS) (g:=lineS) (ok:=fun x=>x=ex1) d21 rfl
  have t16 : TEx 16 [exA] = some (aSs.enc [⟨#[110]⟩, ⟨#[118]⟩]) := by
    rw [← ex_cats]
    exact s1_dec (A:=aLs) (B:=aSs) (g:=catsS) (ok:=fun L=>L=exL) ex_dec rfl
  have c : ∀ {α : Type} {B : Arg α} {f : FuncId} {vs : List AV} {y : α} (σ : List Ob), lexW f = true → AV.ltAll 0 vs = true → TEx f vs = some (B.enc y) → callv X09 (callerOf TEx) false f vs σ 0 = some (B.enc y, σ) := by
    intro α B f vs y σ hw hl h
    obtain ⟨a1,a2,a3⟩:=xl09.ok f hw
    exact call_on a1 a2 a3 hl h
  have h:=f14_p X09 (callerOf TEx) 0 (c _ rfl rfl t23) (c _ rfl rfl t18) (c _ rfl rfl t28) (c _ rfl rfl t17) (c _ rfl rfl t21) (c _ rfl rfl t16)
  exact run_res (B:=aB) (y:=true) hX hC (xl09.dom 14 rfl rfl) Tryd.func14 (by kernel_rfl) h rfl
end
end Go.Proofs.Lex
end
/- Lexicon: laws over lists of whatever length: a list that is not short is told at once. -/
section
open Go Go.Vm Go.Proofs
namespace Go.Proofs.Lex
theorem okLs_few {L:List Lexm} (h:fewL L=true):okLs L:=by
  unfold fewL at h
  rw [Bool.and_eq_true] at h
  have h300:=of_decide_eq_true h.2
  refine ⟨by show _ ≤ 140737488355328; omega,fun x hx => ?_⟩
  have hs:=List.all_eq_true.1 h.1 x hx
  unfold shortL at hs
  simp only [Bool.and_eq_true,Bool.not_eq_true',decide_eq_false_iff_not] at hs
  have hs5:=hs.2
  show x.feats.length * 33 ≤ 140737488355328
  omega
section
variable [Fixed] {X:Ext}
/-- The example, and the test of a list. -/
def TB:Go.Vm.Spec:=(Go.Vm.Spec.on (fun _ _=>none) 15 (s1 aLs aB fewL fun L=>L.length ≤ big)).on 14 fun vs=>match vs with
  | []=>some (bo true)
  | _=>none
theorem TB_ok (hX:ExtOk Tryd.prog X) (hL:XL X) (h14:CallAt Tryd.prog 14 [] [] 0 (bo true) []):SpecOk Tryd.prog TB:=by
  refine SpecOk.on (SpecOk.s1 SpecOk.none' fun L h=>call15 hX hL h) fun vs r h => ?_
  split at h
  · simp only [Option.some.injEq] at h
    subst h
    exact h14
  · cases h
variable (hX:ExtOk Tryd.prog X) (hL:XL X) (h14:CallAt Tryd.prog 14 [] [] 0 (bo true) [])
include hX hL h14
end
end Go.Proofs.Lex
end
/- Lexicon: from the readings of a row to lexemes; the tables; what a law's row asks. -/
section
open Go Go.Vm Go.Proofs Go.Proofs.YtogacbdboplbfaaDoor
open Go.RowKit Go.ChangeShapes Go.WideShapes Go.Lib Go.Shelf
namespace Go.Proofs.Lex
theorem str_shape {B:Nat} {x:List AV} (hx:Shape Tryd.prog B 9 x):∃ s:ByteArray,x=[.str s]∧s.size ≤ B:=by
  cases hx with
  | str hu s hs=>exact ⟨s,rfl,hs⟩
  | int hu=>rw [Tryd.underlying9] at hu; cases hu
  | bool hu=>rw [Tryd.underlying9] at hu; cases hu
  | slice hu=>rw [Tryd.underlying9] at hu; cases hu
  | struct hu=>rw [Tryd.underlying9] at hu; cases hu
theorem many_shape {α:Type} {enc:α→List AV} {Q:α→Prop} {B:Nat} {t:TypeId} (h1:∀ x,Shape Tryd.prog B t x→∃ a,x=enc a∧Q a) :
    ∀ {xs:List (List AV)},(∀ x,x ∈ xs→Shape Tryd.prog B t x)→∃ l:List α,l.length=xs.length∧xs.flatten=l.flatMap enc∧∀ a ∈ l,Q a
  | [],_=>⟨[],rfl,rfl,fun a h=>by simp at h⟩
  | x :: xs, h => by
    obtain ⟨l,k1,k2,k3⟩:=many_shape h1 (xs:=xs) fun y hy=>h y (List.mem_cons_of_mem _ hy)
    obtain ⟨a,rfl,ha⟩:=h1 x (h x (List.mem_cons_self ..))
    refine ⟨a::l,by simp [k1],by simp [k2],fun b hb => ?_⟩
    rcases List.mem_cons.1 hb with rfl | hb
    · exact ha
    · exact k3 b hb
theorem row_shape {α:Type} {enc:α→List AV} {Q:α→Prop} {B kb k:Nat} {T t:TypeId} (hT:Tryd.prog.underlying T=some (.slice t)) (hc:Tryd.prog.cellsOf t=k) (hb:Tryd.prog.bytesOf t=kb) (h1:∀ x,Shape Tryd.prog B t x→∃ a,x=enc a∧Q a)
    {x:List AV} (hx:Shape Tryd.prog B T x):∃ l:List α,x=[.list .ro l.length k (l.flatMap enc)]∧(∀ a ∈ l,Q a)∧l.length * kb ≤ B:=by
  cases hx with
  | slice hu xs hxs hbb =>
    rw [hT] at hu
    simp only [Option.some.injEq,TypeDesc.slice.injEq] at hu
    subst hu
    obtain ⟨l,k1,k2,k3⟩:=many_shape h1 hxs
    rw [hb] at hbb
    exact ⟨l,by rw [k2,hc,← k1],k3,by rw [k1]; exact hbb⟩
  | int hu=>rw [hT] at hu; cases hu
  | bool hu=>rw [hT] at hu; cases hu
  | str hu=>rw [hT] at hu; cases hu
  | struct hu=>rw [hT] at hu; cases hu
theorem feat_shape {B:Nat} (x:List AV) (hx:Shape Tryd.prog B 57 x):∃ f:Feat,x=featC f∧(f.name.size ≤ B∧f.value.size ≤ B):=by
  have h57:=Tryd.underlying57
  cases hx with
  | struct hu ps hl hp =>
    rw [h57] at hu
    simp only [Option.some.injEq,TypeDesc.struct.injEq] at hu
    subst hu
    match ps,hl with
    | [p0, p1], _ =>
      obtain ⟨a,rfl,ha⟩:=str_shape (hp 0 _ _ rfl rfl)
      obtain ⟨b,rfl,hb⟩:=str_shape (hp 1 _ _ rfl rfl)
      exact ⟨⟨a,b⟩,rfl,ha,hb⟩
  | int hu=>rw [h57] at hu; cases hu
  | bool hu=>rw [h57] at hu; cases hu
  | str hu=>rw [h57] at hu; cases hu
  | slice hu=>rw [h57] at hu; cases hu
/-- What a world says of features. -/
def FeatsIn (B:Nat) (F:List Feat):Prop:=(∀ f ∈ F,f.name.size ≤ B∧f.value.size ≤ B)∧F.length * 32 ≤ B
theorem feats_shape {B:Nat} {x:List AV} (hx:Shape Tryd.prog B 31 x):∃ F:List Feat,x=[featsV F]∧FeatsIn B F:=by
  obtain ⟨l,rfl,h1,h2⟩:=row_shape Tryd.underlying31 cells57 bytes57 feat_shape hx
  exact ⟨l,rfl,h1,h2⟩
def LexIn (B:Nat) (x:Lexm):Prop:=x.id.size ≤ B∧x.cat.size ≤ B∧x.stem.size ≤ B∧x.par.size ≤ B∧FeatsIn B x.feats
theorem lex_shape {B:Nat} (x:List AV) (hx:Shape Tryd.prog B 33 x):∃ y:Lexm,x=lexC y∧LexIn B y:=by
  have h33:=Tryd.underlying33
  cases hx with
  | struct hu ps hl hp =>
    rw [h33] at hu
    simp only [Option.some.injEq,TypeDesc.struct.injEq] at hu
    subst hu
    match ps,hl with
    | [p0, p1, p2, p3, p4], _ =>
      obtain ⟨a,rfl,ha⟩:=str_shape (hp 0 _ _ rfl rfl)
      obtain ⟨b,rfl,hb⟩:=str_shape (hp 1 _ _ rfl rfl)
      obtain ⟨c,rfl,hc⟩:=str_shape (hp 2 _ _ rfl rfl)
      obtain ⟨d,rfl,hd⟩:=str_shape (hp 3 _ _ rfl rfl)
      obtain ⟨F,rfl,hF⟩:=feats_shape (hp 4 _ _ rfl rfl)
      exact ⟨⟨a,b,c,d,F⟩,rfl,ha,hb,hc,hd,hF⟩
  | int hu=>rw [h33] at hu; cases hu
  | bool hu=>rw [h33] at hu; cases hu
  | str hu=>rw [h33] at hu; cases hu
  | slice hu=>rw [h33] at hu; cases hu
theorem arg_str {B:Nat} {v:AV} (h:ArgIs Tryd.prog B 9 v):∃ s:ByteArray,v=st s∧s.size ≤ B:=by
  obtain ⟨s,hs,h1⟩:=str_shape (h.one Tryd.underlying9 rfl)
  simp only [List.cons.injEq,and_true] at hs
  exact ⟨s,hs,h1⟩
theorem arg_lexs {B:Nat} {v:AV} (h:ArgIs Tryd.prog B 22 v):∃ L:List Lexm,v=lexsV L∧(∀ x ∈ L,LexIn B x)∧L.length * 88 ≤ B:=by
  obtain ⟨L,hL,h1,h2⟩:=row_shape Tryd.underlying22 cells33 bytes33 lex_shape (h.one Tryd.underlying22 rfl)
  simp only [List.cons.injEq,and_true] at hL
  exact ⟨L,hL,h1,h2⟩
/-! ### the tables, and the variable of which only the kind is known -/
abbrev laidL : List (String × DataW Unit) := [("unicode/utf8.acceptRanges", Rows.laid_unicode_utf8_acceptRanges), ("unicode/utf8.first", Rows.laid_unicode_utf8_first)]
theorem accept_eq:Rows.laid_unicode_utf8_acceptRanges (H:=Unit)=Lib.acceptData:=by kernel_rfl
theorem first_eq:Rows.laid_unicode_utf8_first=Lib.firstData:=by kernel_rfl
theorem tabs_of {W:World} (hL:laidMet Tryd.prog laidL W):Lib.Utf8Tabs 0 1 W:=by
  have h1 : (("unicode/utf8.first", Lib.firstData) : String × DataW Unit) ∈ laidL := by rw [← first_eq]; exact .tail _ (.head _)
  have h2 : (("unicode/utf8.acceptRanges", Lib.acceptData) : String × DataW Unit) ∈ laidL := by rw [← accept_eq]; exact .head _
  exact utf8Tabs_of_readsT (U8Types.of196 Tryd.laysValid) ⟨by kernel_rfl,by kernel_rfl,by kernel_rfl,by kernel_rfl,by kernel_rfl,by kernel_rfl,by kernel_rfl⟩ (Lib.laidMet.reads hL h1) (Lib.laidMet.reads hL h2)
theorem laidOut:laidOutB Tryd.prog=true:=by kernel_rfl
theorem own:ownKnob Tryd.prog.godebug=none:=by kernel_rfl
theorem maxLen_of {W:World} (h:W.ShapedOpen Tryd.prog):∃ m,W.cell? ⟨2,0,none⟩=some (.int .i64 m) :=
  cell_of_shapedOpen_int (t:=3) (zero := #[.int .i64 0]) h (by decide +kernel) (by kernel_rfl) rfl (by kernel_rfl) (by kernel_rfl) Tryd.underlying3
noncomputable def wit (os:Os):World:=World.laidAll Tryd.prog os laidL
theorem wit_met (os:Os) (args:Array Value):laidMet Tryd.prog laidL ((wit os).forCall (fun _ _=>0) ⟨#[],args,[]⟩).memory :=
  laidMet_laidAll args (by kernel_rfl) (by kernel_rfl)
theorem laidH {W:World} (h:laidMet Tryd.prog laidL W):laidMetH Tryd.prog laidL W:=by
  have e:(laidL.filter fun x=>x.2.handleName?.isSome)=[]:=by kernel_rfl
  unfold laidMetH
  rw [e]
  exact h
theorem laidH_of {W:World} (h:laidMetH Tryd.prog laidL W):laidMet Tryd.prog laidL W:=by
  have e:(laidL.filter fun x=>x.2.handleName?.isSome)=[]:=by kernel_rfl
  unfold laidMetH at h
  rw [e] at h
  exact h
section
variable {H:Type} {enc:TypeId × Value→H}
/-- A row's wrap that keeps both the conditions on what lies laid and the world's shape. -/
theorem returns_and_shaped {a:Assume} {C:Checked} {os:Os} {f:FuncId} {fn:Func} {s:ChangeSpec} {conds:List PathCond} {apart fresh handsOn again:Bool} {X:World→Array Value→Prop}
    (hX:∀ (w w' : World) (args:Array Value),w.heap=w'.heap→X w args→X w' args)
    (own:ownKnob C.prog.godebug=none) (started:os.Started) (noInit:C.prog.inits.idxOf? f=none) (hfn:C.prog.funcs[f]? = some fn)
    (witness : ∃ (w : World) (tape : Tape) (i : Input), w.os = os ∧ (w.forCall tape i).Shaped C.prog ∧ i.vars = [] ∧ Input.okWide C.prog (w.forCall tape i) .any w.heap.size f i ∧
      ((s.pre enc C.prog fn conds apart (w.forCall tape i).memory i.args∧X (w.forCall tape i).memory i.args)∧sizedMet enc C.prog fn (OpenSpec.ofChange s) apart (w.forCall tape i).memory i.args)∧a.holds C.prog (lone (Frame.enter C.prog f i.args .normal) [] (w.forCall tape i)))
    (contract : ∀ (W : World) (base : Nat) (args : Array Value) (ds gs : List (DataW H)) (before : List MemPlace),
      (∀ (j:Nat) t v,fn.params[j]? = some t→args[j]? = some v→Value.okWide C.prog W .any base t v) →
      DataW.Whole enc C.prog fn.params.toList s.vars apart W args.toList ds gs before →
      (DataW.weightsEach C.prog (fn.params.toList ++ s.plain.varTypes C.prog) (ds ++ gs)).all (· ≤ reachBytes)=true→X W args→W.ShapedOpen C.prog →
      Calls C.prog f args W fun e W' => ∃ v,e = .returned v∧s.post enc C.prog fn apart fresh handsOn again W args v W') :
    ReturnsInHanded a C os f .any (fun w args=>(s.pre enc C.prog fn conds apart w args∧X w args)∧sizedMet enc C.prog fn (OpenSpec.ofChange s) apart w args) (s.post enc C.prog fn apart fresh handsOn again):=by
  refine returnsInHanded_of_calls own started noInit witness ?_
  intro w tape i _ hsh _ hok hpre _
  obtain ⟨_,_,_,fn',hfn',_,_,_,_,hval⟩:=hok
  have e:fn' = fn:=Option.some.inj (hfn'.symm.trans hfn)
  subst e
  obtain ⟨⟨⟨ds,gs,before,hw,_⟩,hx⟩,hz⟩:=hpre
  have hw' := DataW.Whole.of_heap (w' := w.forCall tape i) (by rfl) hw
  refine (contract (w.forCall tape i) w.heap.size i.args ds gs before hval hw' (hz.weights hw) (hX _ _ _ (by rfl) hx) hsh).mono fun e W' ⟨v,he,hp⟩ => ?_
  subst he
  exact ChangeSpec.post_blind hp
end
theorem big_of {n k:Nat} (hk:1 ≤ k) (h:n * k ≤ reachBytes):n ≤ big:=by
  have h1:n * 1 ≤ n * k:=Nat.mul_le_mul_left n hk
  have h2:reachBytes ≤ 140737488355328:=by decide
  show n ≤ 140737488355328
  omega
end Go.Proofs.Lex
end
