/- LexiconValid: for every input the law returns true, and its arguments read as before. Conditions: those of the given row alone (the two tables of the library are laid as the program's text lays them). -/
import Derived.Test.YtogacbdboplbfaaGreatDoorValidG
import Derived.Test.YtogacbdboplbfaaGreatDoorValidH
set_option linter.unusedSectionVars false
set_option linter.unusedVariables false
set_option linter.unusedSimpArgs false
set_option linter.constructorNameAsVariable false
open Go Go.Vm Go.Proofs Go.Proofs.YtogacbdboplbfaaGreatDoor
open Go.RowKit Go.ChangeShapes Go.WideShapes Go.Lib Go.Shelf
namespace Go.Proofs.Lex.lexiconValid
set_option maxRecDepth 100000 in
theorem lifted (os : Os) (started : os.Started) (H : Type) (enc : TypeId × Value → H) :
    ReturnsInHanded {} Tryz.checked os 3 .any (fun w args => (Rows.lexiconValidSpec.pre enc Tryz.prog Tryz.f3 [] false w args ∧ laidMetH Tryz.prog laidL w) ∧ sizedMet enc Tryz.prog Tryz.f3 (OpenSpec.ofChange Rows.lexiconValidSpec) false w args)
      (Rows.lexiconValidSpec.post enc Tryz.prog Tryz.f3 false true false false) := by
  refine returns_and_shaped (C := Tryz.checked) (X := fun w _ => laidMetH Tryz.prog laidL w) (fun _ _ _ hh h => h.of_heap hh) own started (by kernel_rfl) Tryz.func3
    (ChangeSpec.witness_at (enc := enc) (C := Tryz.checked) (os := os) (X := fun w _ => laidMetH Tryz.prog laidL w) false (wit os) #[.slice none 0 0, .slice none 0 0] 8 (World.laidAll_os _ _ _) (by kernel_rfl) (by kernel_rfl) (by kernel_rfl) (by kernel_rfl) (by kernel_rfl) (laidH (wit_met os _))) ?_
  intro W base args ds gs before hval hW hsz hL hSh
  have hT := tabs_of (laidH_of hL)
  obtain ⟨m, hM⟩ := maxLen_of hSh
  letI : Fixed := tabFix W
  have hX := ext09 hT hM
  have h14 := awake14 hX
  exact law_calls (all := tysT) (tb := 4) (base := base) tysT_ok (by kernel_rfl) laidOut rfl (fun ds hd => by
      match ds, hd with
      | [d0, d1], _ => rfl) rfl Tryz.underlying4 (fun b X h => h.2) hval hW hsz (fun avs ha => by
      rw [show Tryz.f3.params.toList = [22, 23] by rw [Tryz.params3]] at ha
      obtain ⟨a0, a1, rfl, h0, h1⟩ := shape2 ha
      obtain ⟨a0, rfl, x0⟩ := arg_letts h0
      obtain ⟨a1, rfl, x1, y1⟩ := arg_lexs h1
      exact law3v hX xv09 h14 (big_of (by decide) x0) (big_of (by decide) y1) (fun x hx => okV_of (by decide) (x1 x hx)))
theorem row : Rows.LexiconValidSaid :=
  OpenClaim.holds_of_wide 3 Tryz.f3 rfl rfl rfl rfl rfl rfl rfl ⟨rfl, rfl, rfl, rfl, rfl⟩ rfl rfl rfl rfl rfl (by kernel_rfl) Tryz.func3 (by kernel_rfl)
    (of_decide_eq_true (by kernel_rfl)) (by unfold Func.isWrapper; rw [if_neg (of_decide_eq_false (by kernel_rfl))]; exact ⟨rfl, rfl⟩)
    (fun os started H enc _ => lifted os started H enc)
theorem card : Rows.LexiconValidCardSaid :=
  Claim7.holds_tied_plain_at .later [] [.data, .pinned] true (true, "4195649bd4c6c8ac4f56a85e29111fa821835e11630a4ca134f553c0c01b4313") false
    row (fun _ h => by cases h) (by kernel_rfl) (fun _ h => by cases h) lexiconValid_row_tie rfl ⟨rfl, rfl⟩ (by kernel_rfl) rfl
    (fun f fn hf hfn => by
      obtain rfl : f = 3 := Option.some.inj ((show Tryz.prog.funcNamed "pentaglot/pentaglotlaw09.LexiconValid" = some 3 by kernel_rfl).symm.trans hf) |>.symm
      obtain rfl : fn = Tryz.f3 := (Option.some.inj (Tryz.func3.symm.trans hfn)).symm
      exact ⟨by kernel_rfl, fun j t ht => by
        rw [Tryz.params3] at ht
        have h3 : t = 22 ∨ t = 23 := by
          rcases j with _ | _ | j
          · exact (.inl (by simpa using ht.symm))
          · exact (.inr (by simpa using ht.symm))
          · simp at ht
        rcases h3 with rfl | rfl
        · exact (show Tryz.prog.wantsStandIn 22 = false by kernel_rfl)
        · exact (show Tryz.prog.wantsStandIn 23 = false by kernel_rfl)⟩)
    (by kernel_rfl)
end Go.Proofs.Lex.lexiconValid
namespace Go.Proofs.YtogacbdboplbfaaGreatDoor
theorem lexiconValid_holds : Rows.LexiconValidCardSaid := Lex.lexiconValid.card
end Go.Proofs.YtogacbdboplbfaaGreatDoor
#print axioms Go.Proofs.YtogacbdboplbfaaGreatDoor.lexiconValid_holds
