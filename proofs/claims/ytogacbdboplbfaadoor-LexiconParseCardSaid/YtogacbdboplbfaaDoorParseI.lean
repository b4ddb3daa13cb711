/- LexiconParse: for every input the law returns true, and its arguments read as before. Conditions: those of the given row alone (the two tables of the library are laid as the program's text lays them). -/
import Derived.Test.YtogacbdboplbfaaDoorParseG
import Derived.Test.YtogacbdboplbfaaDoorParseH
set_option linter.unusedSectionVars false
set_option linter.unusedVariables false
set_option linter.unusedSimpArgs false
set_option linter.constructorNameAsVariable false
open Go Go.Vm Go.Proofs Go.Proofs.YtogacbdboplbfaaDoor
open Go.RowKit Go.ChangeShapes Go.WideShapes Go.Lib Go.Shelf
namespace Go.Proofs.Lex.lexiconParse
set_option maxRecDepth 100000 in
theorem lifted (os : Os) (started : os.Started) (H : Type) (enc : TypeId × Value → H) :
    ReturnsInHanded {} Tryd.checked os 6 .any (fun w args => (Rows.lexiconParseSpec.pre enc Tryd.prog Tryd.f6 [] false w args ∧ laidMetH Tryd.prog laidL w) ∧ sizedMet enc Tryd.prog Tryd.f6 (OpenSpec.ofChange Rows.lexiconParseSpec) false w args)
      (Rows.lexiconParseSpec.post enc Tryd.prog Tryd.f6 false true false false) := by
  refine returns_and_shaped (C := Tryd.checked) (X := fun w _ => laidMetH Tryd.prog laidL w) (fun _ _ _ hh h => h.of_heap hh) own started (by kernel_rfl) Tryd.func6
    (ChangeSpec.witness_at (enc := enc) (C := Tryd.checked) (os := os) (X := fun w _ => laidMetH Tryd.prog laidL w) false (wit os) #[.string ⟨#[]⟩] 8 (World.laidAll_os _ _ _) (by kernel_rfl) (by kernel_rfl) (by kernel_rfl) (by kernel_rfl) (by kernel_rfl) (laidH (wit_met os _))) ?_
  intro W base args ds gs before hval hW hsz hL hSh
  have hT := tabs_of (laidH_of hL)
  obtain ⟨m, hM⟩ := maxLen_of hSh
  letI : Fixed := tabFix W
  have hX := ext09 hT hM
  have h14 := awake14 hX
  exact law_calls (all := tys) (tb := 4) (base := base) tys_ok (by kernel_rfl) laidOut rfl (fun ds hd => by
      match ds, hd with
      | [d0], _ => rfl) rfl Tryd.underlying4 (fun b X h => h.2) hval hW hsz (fun avs ha => by
      rw [show Tryd.f6.params.toList = [9] by rw [Tryd.params6]] at ha
      obtain ⟨a0, rfl, h0⟩ := shape1 ha
      obtain ⟨a0, rfl, x0⟩ := arg_str h0
      exact law6a hX xm09 h14)
theorem row : Rows.LexiconParseSaid :=
  OpenClaim.holds_of_wide 6 Tryd.f6 rfl rfl rfl rfl rfl rfl rfl ⟨rfl, rfl, rfl, rfl, rfl⟩ rfl rfl rfl rfl rfl (by kernel_rfl) Tryd.func6 (by kernel_rfl)
    (of_decide_eq_true (by kernel_rfl)) (by unfold Func.isWrapper; rw [if_neg (of_decide_eq_false (by kernel_rfl))]; exact ⟨rfl, rfl⟩)
    (fun os started H enc _ => lifted os started H enc)
theorem card : Rows.LexiconParseCardSaid :=
  Claim7.holds_tied_plain_at .later [] [.data, .pinned] true (true, "608dd65cf956335b5e3e5cdd3e836b91cd68d22b0d9bfb7cd9b16f3a19afc47a") false
    row (fun _ h => by cases h) (by kernel_rfl) (fun _ h => by cases h) lexiconParse_row_tie rfl ⟨rfl, rfl⟩ (by kernel_rfl) rfl
    (fun f fn hf hfn => by
      obtain rfl : f = 6 := Option.some.inj ((show Tryd.prog.funcNamed "pentaglot/pentaglotlaw09.LexiconParse" = some 6 by kernel_rfl).symm.trans hf) |>.symm
      obtain rfl : fn = Tryd.f6 := (Option.some.inj (Tryd.func6.symm.trans hfn)).symm
      exact ⟨by kernel_rfl, fun j t ht => by
        rw [Tryd.params6] at ht
        have h3 : t = 9 := by
          rcases j with _ | j
          · exact (by simpa using ht.symm)
          · simp at ht
        rcases h3 with rfl
        · exact (show Tryd.prog.wantsStandIn 9 = false by kernel_rfl)⟩)
    (by kernel_rfl)
end Go.Proofs.Lex.lexiconParse
namespace Go.Proofs.YtogacbdboplbfaaDoor
theorem lexiconParse_holds : Rows.LexiconParseCardSaid := Lex.lexiconParse.card
end Go.Proofs.YtogacbdboplbfaaDoor
#print axioms Go.Proofs.YtogacbdboplbfaaDoor.lexiconParse_holds
