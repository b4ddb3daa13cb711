/- NumeralVocabulary: for every input the law returns true, and its arguments read as before. Conditions: those of the given row alone (the two tables of the library are laid as the program's text lays them). -/
import Derived.Test.YtdkoncfpkhapjaaDoorXD
import Derived.Test.YtdkoncfpkhapjaaDoorXG
set_option linter.unusedSectionVars false
set_option linter.unusedVariables false
set_option linter.unusedSimpArgs false
set_option linter.constructorNameAsVariable false
open Go Go.Vm Go.Proofs Go.Proofs.YtdkoncfpkhapjaaDoor
open Go.RowKit Go.ChangeShapes Go.WideShapes Go.Lib Go.Shelf
namespace Go.Proofs.Num.numeralVocabulary
set_option maxRecDepth 100000 in
theorem lifted (os : Os) (started : os.Started) (H : Type) (enc : TypeId × Value → H) :
    ReturnsInHanded {} Tryd.checked os 9 .any (fun w args => (Rows.numeralVocabularySpec.pre enc Tryd.prog Tryd.f9 [] false w args ∧ laidMetH Tryd.prog laidL w) ∧ sizedMet enc Tryd.prog Tryd.f9 (OpenSpec.ofChange Rows.numeralVocabularySpec) false w args)
      (Rows.numeralVocabularySpec.post enc Tryd.prog Tryd.f9 false true false false) := by
  refine returnsInHanded_of_change_and (C := Tryd.checked) (X := fun w _ => laidMetH Tryd.prog laidL w) (fun _ _ _ hh h => h.of_heap hh) own started (by kernel_rfl) Tryd.func9
    (ChangeSpec.witness_at (enc := enc) (C := Tryd.checked) (os := os) (X := fun w _ => laidMetH Tryd.prog laidL w) false (wit os) #[.agg #[.int .i64 0, .slice none 0 0, .slice none 0 0, .bool false, .string ⟨#[]⟩, .int .i64 0, .string ⟨#[]⟩, .bool false], .int .u16 0] 8 (World.laidAll_os _ _ _) (by kernel_rfl) (by kernel_rfl) (by kernel_rfl) (by kernel_rfl) (by kernel_rfl) (laidH (wit_met os _))) ?_
  intro W base args ds gs before hval hW _ hsz hL _
  have hT := tabs_of (laidH_of hL)
  letI : Fixed := tabFix W
  exact law_calls (all := tys) (tb := 4) (base := base) tys_ok (by kernel_rfl) laidOut rfl (fun ds hd => by
      match ds, hd with
      | [d0, d1], _ => rfl) rfl Tryd.underlying4 (fun b X h => h.2) hval hW hsz (fun avs ha => by
      rw [show Tryd.f9.params.toList = [24, 37] by rw [Tryd.params9]] at ha
      obtain ⟨a0, a1, rfl, h0, h1⟩ := shape2 ha
      obtain ⟨a0, rfl, x0, y0⟩ := arg_sys h0
      obtain ⟨a1, rfl, x1, y1⟩ := arg_int Tryd.underlying37 h1
      exact law_voc (ext15 hT) (ext16 hT) x0 x1 y1)
theorem row : Rows.NumeralVocabularySaid :=
  OpenClaim.holds_of_wide 9 Tryd.f9 rfl rfl rfl rfl rfl rfl rfl ⟨rfl, rfl, rfl, rfl, rfl⟩ rfl rfl rfl rfl rfl (by kernel_rfl) Tryd.func9 (by kernel_rfl)
    (of_decide_eq_true (by kernel_rfl)) (by unfold Func.isWrapper; rw [if_neg (of_decide_eq_false (by kernel_rfl))]; exact ⟨rfl, rfl⟩)
    (fun os started H enc _ => lifted os started H enc)
theorem card : Rows.NumeralVocabularyCardSaid :=
  Claim7.holds_tied_plain_at .later [] [.data, .pinned] true (true, "d0df6cbbfeed023b3f95bfdb8bcb5b3a80a95d1b76a7fc8891020f81e4adb7f3") false
    row (fun _ h => by cases h) (by kernel_rfl) (fun _ h => by cases h) numeralVocabulary_row_tie rfl ⟨rfl, rfl⟩ (by kernel_rfl) rfl
    (fun f fn hf hfn => by
      obtain rfl : f = 9 := Option.some.inj ((show Tryd.prog.funcNamed "pentaglot/pentaglotlaw15.NumeralVocabulary" = some 9 by kernel_rfl).symm.trans hf) |>.symm
      obtain rfl : fn = Tryd.f9 := (Option.some.inj (Tryd.func9.symm.trans hfn)).symm
      exact ⟨by kernel_rfl, fun j t ht => by
        rw [Tryd.params9] at ht
        have h3 : t = 24 ∨ t = 37 := by
          rcases j with _ | _ | j
          · exact (.inl (by simpa using ht.symm))
          · exact (.inr (by simpa using ht.symm))
          · simp at ht
        rcases h3 with rfl | rfl
        · exact (show Tryd.prog.wantsStandIn 24 = false by kernel_rfl)
        · exact (show Tryd.prog.wantsStandIn 37 = false by kernel_rfl)⟩)
    (by kernel_rfl)
end Go.Proofs.Num.numeralVocabulary
namespace Go.Proofs.YtdkoncfpkhapjaaDoor
theorem numeralVocabulary_holds : Rows.NumeralVocabularyCardSaid := Num.numeralVocabulary.card
end Go.Proofs.YtdkoncfpkhapjaaDoor
#print axioms Go.Proofs.YtdkoncfpkhapjaaDoor.numeralVocabulary_holds
