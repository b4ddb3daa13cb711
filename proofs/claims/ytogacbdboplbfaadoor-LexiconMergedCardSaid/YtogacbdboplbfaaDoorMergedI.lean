/- LexiconMerged: for every input the law returns true, and its arguments read as before. Conditions: those of the given row alone (the two tables of the library are laid as the program's text lays them). -/
import Derived.Test.YtogacbdboplbfaaDoorMergedG
import Derived.Test.YtogacbdboplbfaaDoorMergedH
set_option linter.unusedSectionVars false
set_option linter.unusedVariables false
set_option linter.unusedSimpArgs false
set_option linter.constructorNameAsVariable false
open Go Go.Vm Go.Proofs Go.Proofs.YtogacbdboplbfaaDoor
open Go.RowKit Go.ChangeShapes Go.WideShapes Go.Lib Go.Shelf
namespace Go.Proofs.Lex.lexiconMerged
set_option maxRecDepth 100000 in
theorem lifted (os : Os) (started : os.Started) (H : Type) (enc : TypeId × Value → H) :
    ReturnsInHanded {} Tryd.checked os 13 .any (fun w args => (Rows.lexiconMergedSpec.pre enc Tryd.prog Tryd.f13 [] false w args ∧ laidMetH Tryd.prog laidL w) ∧ sizedMet enc Tryd.prog Tryd.f13 (OpenSpec.ofChange Rows.lexiconMergedSpec) false w args)
      (Rows.lexiconMergedSpec.post enc Tryd.prog Tryd.f13 false true false false) := by
  refine returns_and_shaped (C := Tryd.checked) (X := fun w _ => laidMetH Tryd.prog laidL w) (fun _ _ _ hh h => h.of_heap hh) own started (by kernel_rfl) Tryd.func13
    (ChangeSpec.witness_at (enc := enc) (C := Tryd.checked) (os := os) (X := fun w _ => laidMetH Tryd.prog laidL w) false (wit os) #[.slice none 0 0, .slice none 0 0, .slice none 0 0, .string ⟨#[]⟩] 8 (World.laidAll_os _ _ _) (by kernel_rfl) (by kernel_rfl) (by kernel_rfl) (by kernel_rfl) (by kernel_rfl) (laidH (wit_met os _))) ?_
  intro W base args ds gs before hval hW hsz hL hSh
  have hT := tabs_of (laidH_of hL)
  obtain ⟨m, hM⟩ := maxLen_of hSh
  letI : Fixed := tabFix W
  have hX := ext09 hT hM
  have h14 := awake14 hX
  exact law_calls (all := tysT) (tb := 4) (base := base) tysT_ok (by kernel_rfl) laidOut rfl (fun ds hd => by
      match ds, hd with
      | [d0, d1, d2, d3], _ => rfl) rfl Tryd.underlying4 (fun b X h => h.2) hval hW hsz (fun avs ha => by
      rw [show Tryd.f13.params.toList = [52, 22, 22, 9] by rw [Tryd.params13]] at ha
      obtain ⟨a0, a1, a2, a3, rfl, h0, h1, h2, h3⟩ := shape4 ha
      obtain ⟨a0, rfl, x0⟩ := arg_letts h0
      obtain ⟨a1, rfl, x1, y1⟩ := arg_lexs h1
      obtain ⟨a2, rfl, x2, y2⟩ := arg_lexs h2
      obtain ⟨a3, rfl, x3⟩ := arg_str h3
      exact law13a hX xv09 h14 (big_of (by decide) x0) (big_of (by decide) y1) (big_of (by decide) y2) (fun x hx => okV_of (by decide) (x1 x hx)) (fun x hx => okV_of (by decide) (x2 x hx)))
theorem row : Rows.LexiconMergedSaid :=
  OpenClaim.holds_of_wide 13 Tryd.f13 rfl rfl rfl rfl rfl rfl rfl ⟨rfl, rfl, rfl, rfl, rfl⟩ rfl rfl rfl rfl rfl (by kernel_rfl) Tryd.func13 (by kernel_rfl)
    (of_decide_eq_true (by kernel_rfl)) (by unfold Func.isWrapper; rw [if_neg (of_decide_eq_false (by kernel_rfl))]; exact ⟨rfl, rfl⟩)
    (fun os started H enc _ => lifted os started H enc)
theorem card : Rows.LexiconMergedCardSaid :=
  Claim7.holds_tied_plain_at .later [] [.data, .pinned] true (true, "608dd65cf956335b5e3e5cdd3e836b91cd68d22b0d9bfb7cd9b16f3a19afc47a") false
    row (fun _ h => by cases h) (by kernel_rfl) (fun _ h => by cases h) lexiconMerged_row_tie rfl ⟨rfl, rfl⟩ (by kernel_rfl) rfl
    (fun f fn hf hfn => by
      obtain rfl : f = 13 := Option.some.inj ((show Tryd.prog.funcNamed "pentaglot/pentaglotlaw09.LexiconMerged" = some 13 by kernel_rfl).symm.trans hf) |>.symm
      obtain rfl : fn = Tryd.f13 := (Option.some.inj (Tryd.func13.symm.trans hfn)).symm
      exact ⟨by kernel_rfl, fun j t ht => by
        rw [Tryd.params13] at ht
        have h3 : t = 52 ∨ t = 22 ∨ t = 22 ∨ t = 9 := by
          rcases j with _ | _ | _ | _ | j
          · exact (.inl (by simpa using ht.symm))
          · exact (.inr (.inl (by simpa using ht.symm)))
          · exact (.inr (.inr (.inl (by simpa using ht.symm))))
          · exact (.inr (.inr (.inr (by simpa using ht.symm))))
          · simp at ht
        rcases h3 with rfl | rfl | rfl | rfl
        · exact (show Tryd.prog.wantsStandIn 52 = false by kernel_rfl)
        · exact (show Tryd.prog.wantsStandIn 22 = false by kernel_rfl)
        · exact (show Tryd.prog.wantsStandIn 22 = false by kernel_rfl)
        · exact (show Tryd.prog.wantsStandIn 9 = false by kernel_rfl)⟩)
    (by kernel_rfl)
end Go.Proofs.Lex.lexiconMerged
namespace Go.Proofs.YtogacbdboplbfaaDoor
theorem lexiconMerged_holds : Rows.LexiconMergedCardSaid := Lex.lexiconMerged.card
end Go.Proofs.YtogacbdboplbfaaDoor
#print axioms Go.Proofs.YtogacbdboplbfaaDoor.lexiconMerged_holds
