/- Part 9 of the texts of this claim: the evaluator, and what it says of the program's functions. -/
import Derived.Test.YtfjmemmjjihohaaDoorValidH
set_option linter.unusedSectionVars false
set_option linter.unusedVariables false
set_option linter.unusedSimpArgs false
set_option linter.constructorNameAsVariable false
/- Signature: the law of Valid, walked (printed) -/
section
open Go Go.Vm Go.Proofs
namespace Go.Proofs.Sig
theorem f3_pt (x0:Sgn) (X:Ext) (call:Caller) (lf:Nat)
  (h0:callv X call false 12 [] [Ob.cells [lro (List.length (Sgn.sorts x0)) 1 (List.map st (Sgn.sorts x0)),lro (List.length (Sgn.consts x0)) 2 (List.flatMap cstC (Sgn.consts x0)),lro (List.length (Sgn.preds x0)) 2 (List.flatMap prdC (Sgn.preds x0))]] 0=some (bo true,[Ob.cells [lro (List.length (Sgn.sorts x0)) 1 (List.map st (Sgn.sorts x0)),lro (List.length (Sgn.consts x0)) 2 (List.flatMap cstC (Sgn.consts x0)),lro (List.length (Sgn.preds x0)) 2 (List.flatMap prdC (Sgn.preds x0))]]))
  (h1:callv X call false 13 [AV.agg [lro (List.length (Sgn.sorts x0)) 1 (List.map st (Sgn.sorts x0)),lro (List.length (Sgn.consts x0)) 2 (List.flatMap cstC (Sgn.consts x0)),lro (List.length (Sgn.preds x0)) 2 (List.flatMap prdC (Sgn.preds x0))]] [Ob.cells [lro (List.length (Sgn.sorts x0)) 1 (List.map st (Sgn.sorts x0)),lro (List.length (Sgn.consts x0)) 2 (List.flatMap cstC (Sgn.consts x0)),lro (List.length (Sgn.preds x0)) 2 (List.flatMap prdC (Sgn.preds x0))]] 0=some (bo (fewB x0),[Ob.cells [lro (List.length (Sgn.sorts x0)) 1 (List.map st (Sgn.sorts x0)),lro (List.length (Sgn.consts x0)) 2 (List.flatMap cstC (Sgn.consts x0)),lro (List.length (Sgn.preds x0)) 2 (List.flatMap prdC (Sgn.preds x0))]]))
  (h2:(!fewB x0)=true)
  (h3:callv X call false 12 [] [Ob.cells [lro (List.length (Sgn.sorts x0)) 1 (List.map st (Sgn.sorts x0)),lro (List.length (Sgn.consts x0)) 2 (List.flatMap cstC (Sgn.consts x0)),lro (List.length (Sgn.preds x0)) 2 (List.flatMap prdC (Sgn.preds x0))]] 0=some (bo true,[Ob.cells [lro (List.length (Sgn.sorts x0)) 1 (List.map st (Sgn.sorts x0)),lro (List.length (Sgn.consts x0)) 2 (List.flatMap cstC (Sgn.consts x0)),lro (List.length (Sgn.preds x0)) 2 (List.flatMap prdC (Sgn.preds x0))]])):vbody Tryd.prog X call lf noFg Tryd.f3 (codeOf Tryd.f3) [AV.agg (sgnC x0)] [] 0=some (bo true,[Ob.cells [lro (List.length (Sgn.sorts x0)) 1 (List.map st (Sgn.sorts x0)),lro (List.length (Sgn.consts x0)) 2 (List.flatMap cstC (Sgn.consts x0)),lro (List.length (Sgn.preds x0)) 2 (List.flatMap prdC (Sgn.preds x0))]]) :=
  along_sound (ans:=[(4,Ans.v (bo true)),(10,Ans.v (bo (fewB x0))),(12,Ans.b true),(16,Ans.v (bo true))]) (by kernel_rfl) (And.intro h0 (And.intro h1 (And.intro h2 (And.intro h3 trivial))))
theorem f3_pft (x0:Sgn) (X:Ext) (call:Caller) (lf:Nat)
  (h0:callv X call false 12 [] [Ob.cells [lro (List.length (Sgn.sorts x0)) 1 (List.map st (Sgn.sorts x0)),lro (List.length (Sgn.consts x0)) 2 (List.flatMap cstC (Sgn.consts x0)),lro (List.length (Sgn.preds x0)) 2 (List.flatMap prdC (Sgn.preds x0))]] 0=some (bo true,[Ob.cells [lro (List.length (Sgn.sorts x0)) 1 (List.map st (Sgn.sorts x0)),lro (List.length (Sgn.consts x0)) 2 (List.flatMap cstC (Sgn.consts x0)),lro (List.length (Sgn.preds x0)) 2 (List.flatMap prdC (Sgn.preds x0))]]))
  (h1:callv X call false 13 [AV.agg [lro (List.length (Sgn.sorts x0)) 1 (List.map st (Sgn.sorts x0)),lro (List.length (Sgn.consts x0)) 2 (List.flatMap cstC (Sgn.consts x0)),lro (List.length (Sgn.preds x0)) 2 (List.flatMap prdC (Sgn.preds x0))]] [Ob.cells [lro (List.length (Sgn.sorts x0)) 1 (List.map st (Sgn.sorts x0)),lro (List.length (Sgn.consts x0)) 2 (List.flatMap cstC (Sgn.consts x0)),lro (List.length (Sgn.preds x0)) 2 (List.flatMap prdC (Sgn.preds x0))]] 0=some (bo (fewB x0),[Ob.cells [lro (List.length (Sgn.sorts x0)) 1 (List.map st (Sgn.sorts x0)),lro (List.length (Sgn.consts x0)) 2 (List.flatMap cstC (Sgn.consts x0)),lro (List.length (Sgn.preds x0)) 2 (List.flatMap prdC (Sgn.preds x0))]]))
  (h2:(!fewB x0)=false)
  (h3:callv X call true 14 [AV.agg [lro (List.length (Sgn.sorts x0)) 1 (List.map st (Sgn.sorts x0)),lro (List.length (Sgn.consts x0)) 2 (List.flatMap cstC (Sgn.consts x0)),lro (List.length (Sgn.preds x0)) 2 (List.flatMap prdC (Sgn.preds x0))]] [Ob.cells [lro (List.length (Sgn.sorts x0)) 1 (List.map st (Sgn.sorts x0)),lro (List.length (Sgn.consts x0)) 2 (List.flatMap cstC (Sgn.consts x0)),lro (List.length (Sgn.preds x0)) 2 (List.flatMap prdC (Sgn.preds x0))]] 0=some (bo (validB x0),[Ob.cells [lro (List.length (Sgn.sorts x0)) 1 (List.map st (Sgn.sorts x0)),lro (List.length (Sgn.consts x0)) 2 (List.flatMap cstC (Sgn.consts x0)),lro (List.length (Sgn.preds x0)) 2 (List.flatMap prdC (Sgn.preds x0))]]))
  (h4:callv X call true 15 [AV.agg [lro (List.length (Sgn.sorts x0)) 1 (List.map st (Sgn.sorts x0)),lro (List.length (Sgn.consts x0)) 2 (List.flatMap cstC (Sgn.consts x0)),lro (List.length (Sgn.preds x0)) 2 (List.flatMap prdC (Sgn.preds x0))]] [Ob.cells [lro (List.length (Sgn.sorts x0)) 1 (List.map st (Sgn.sorts x0)),lro (List.length (Sgn.consts x0)) 2 (List.flatMap cstC (Sgn.consts x0)),lro (List.length (Sgn.preds x0)) 2 (List.flatMap prdC (Sgn.preds x0))]] 0=some (bo (validB x0),[Ob.cells [lro (List.length (Sgn.sorts x0)) 1 (List.map st (Sgn.sorts x0)),lro (List.length (Sgn.consts x0)) 2 (List.flatMap cstC (Sgn.consts x0)),lro (List.length (Sgn.preds x0)) 2 (List.flatMap prdC (Sgn.preds x0))]]))
  (h5:(validB x0 == validB x0)=true):vbody Tryd.prog X call lf noFg Tryd.f3 (codeOf Tryd.f3) [AV.agg (sgnC x0)] [] 0=some (bo true,[Ob.cells [lro (List.length (Sgn.sorts x0)) 1 (List.map st (Sgn.sorts x0)),lro (List.length (Sgn.consts x0)) 2 (List.flatMap cstC (Sgn.consts x0)),lro (List.length (Sgn.preds x0)) 2 (List.flatMap prdC (Sgn.preds x0))]]) :=
  along_sound (ans:=[(4,Ans.v (bo true)),(10,Ans.v (bo (fewB x0))),(12,Ans.b false),(17,Ans.v (bo (validB x0))),(19,Ans.v (bo (validB x0))),(20,Ans.b true)]) (by kernel_rfl) (And.intro h0 (And.intro h1 (And.intro h2 (And.intro h3 (And.intro h4 (And.intro h5 trivial))))))
end Go.Proofs.Sig
end
/- Signature: the law of Valid. -/
section
open Go Go.Vm Go.Proofs
namespace Go.Proofs.Sig
variable [Fixed] {X:Ext}
theorem law3 (hX:ExtOk Tryd.prog X) (hM:XS X) (ha:∀ f,X.adopt f=false) (x:Sgn):CallAt Tryd.prog 3 [.agg (sgnC x)] [] 0 (bo true) []:=by
  have hC:CallOk Tryd.prog (callerOf S4):=callerOf_ok (S4_ok hX hM ha)
  have c12:=cAt hM ha (call:=callerOf S4) (B:=aB) (dr:=false) (σ:=[Ob.cells (sgnC x)]) rfl rfl (caller_at S4_12)
  have c13:=cAt hM ha (call:=callerOf S4) (B:=aB) (dr:=false) (σ:=[Ob.cells (sgnC x)]) rfl (ltG x) (caller_at (S4_S3 (S3_S2 (S2_13 x) rfl rfl rfl) rfl))
  suffices hv : ∃ σ', vbody Tryd.prog X (callerOf S4) 0 noFg Tryd.f3 (codeOf Tryd.f3) [.agg (sgnC x)] [] 0 = some (bo true, σ') by
    obtain ⟨σ',hv⟩:=hv
    exact run_res (B:=aB) (y:=true) hX hC (hM.dom 3 rfl rfl) Tryd.func3 (by kernel_rfl) hv rfl
  cases hf:fewB x with
  | false=>exact ⟨_,f3_pt x X (callerOf S4) 0 c12 c13 (by rw [hf]; rfl) c12⟩
  | true =>
    have c14:=cAt hM ha (call:=callerOf S4) (B:=aB) (dr:=true) (σ:=[Ob.cells (sgnC x)]) rfl (ltG x) (caller_at (S4_S3 (S3_14 (few_ok hf)) rfl))
    have c15:=cAt hM ha (call:=callerOf S4) (B:=aB) (dr:=true) (σ:=[Ob.cells (sgnC x)]) rfl (ltG x) (caller_at (S4_S3 (S3_15 (few_ok hf)) rfl))
    exact ⟨_,f3_pft x X (callerOf S4) 0 c12 c13 (by rw [hf]; rfl) c14 c15 (by simp)⟩
end Go.Proofs.Sig
end
