/- SignatureFirst: for every input the law returns true, and its arguments read as before. Conditions: those of the given row alone (the two tables of the library are laid as the program's text lays them). -/
import Derived.Test.YtfjmemmjjihohaaDoorFirstH
import Derived.Test.YtfjmemmjjihohaaDoorFirstG
set_option linter.unusedSectionVars false
set_option linter.unusedVariables false
set_option linter.unusedSimpArgs false
set_option linter.constructorNameAsVariable false
open Go Go.Vm Go.Proofs Go.Proofs.YtfjmemmjjihohaaDoor
open Go.RowKit Go.ChangeShapes Go.WideShapes Go.Lib Go.Shelf
namespace Go.Proofs.Sig.signatureFirst
set_option maxRecDepth 100000 in
theorem lifted (os : Os) (started : os.Started) (H : Type) (enc : TypeId × Value → H) :
    ReturnsInHanded {} Tryd.checked os 5 .any (fun w args => (Rows.signatureFirstSpec.pre enc Tryd.prog Tryd.f5 [] false w args ∧ laidMetH Tryd.prog laidL w) ∧ sizedMet enc Tryd.prog Tryd.f5 (OpenSpec.ofChange Rows.signatureFirstSpec) false w args)
      (Rows.signatureFirstSpec.post enc Tryd.prog Tryd.f5 false true false false) := by
  refine returns_and_shaped (C := Tryd.checked) (X := fun w _ => laidMetH Tryd.prog laidL w) (fun _ _ _ hh h => h.of_heap hh) own started (by kernel_rfl) Tryd.func5
    (ChangeSpec.witness_at (enc := enc) (C := Tryd.checked) (os := os) (X := fun w _ => laidMetH Tryd.prog laidL w) false (wit os) #[.string ⟨#[]⟩] 8 (World.laidAll_os _ _ _) (by kernel_rfl) (by kernel_rfl) (by kernel_rfl) (by kernel_rfl) (by kernel_rfl) (laidH (wit_met os _))) ?_
  intro W base args ds gs before hval hW hsz hL hSh
  obtain ⟨m, hM⟩ := maxLen_of hSh
  letI : Fixed := tabFix W
  have hX := ext21 hM []
  exact law_calls (all := tys) (tb := 4) (base := base) tys_ok (by kernel_rfl) laidOut rfl (fun ds hd => by
      match ds, hd with
      | [d0], _ => rfl) rfl Tryd.underlying4 (fun b X h => h.2) hval hW hsz (fun avs ha => by
      rw [show Tryd.f5.params.toList = [9] by rw [Tryd.params5]] at ha
      obtain ⟨a0, rfl, h0⟩ := shape1 ha
      obtain ⟨a0, rfl, x0⟩ := arg_str h0
      exact law5 hX (xs21 []) (fun _ => rfl) a0)
theorem row : Rows.SignatureFirstSaid :=
  OpenClaim.holds_of_wide 5 Tryd.f5 rfl rfl rfl rfl rfl rfl rfl ⟨rfl, rfl, rfl, rfl, rfl⟩ rfl rfl rfl rfl rfl (by kernel_rfl) Tryd.func5 (by kernel_rfl)
    (of_decide_eq_true (by kernel_rfl)) (by unfold Func.isWrapper; rw [if_neg (of_decide_eq_false (by kernel_rfl))]; exact ⟨rfl, rfl⟩)
    (fun os started H enc _ => lifted os started H enc)
theorem card : Rows.SignatureFirstCardSaid :=
  Claim7.holds_tied_plain_at .later [] [.data, .pinned] true (true, "3a5adb5657fb29cb654cec624df6ddbb038963ed0bbd9d400de0b3b0076d315f") true
    row (fun _ h => by cases h) (by kernel_rfl) (fun _ h => by cases h) signatureFirst_row_tie rfl ⟨rfl, rfl⟩ (by kernel_rfl) rfl
    (fun f fn hf hfn => by
      obtain rfl : f = 5 := Option.some.inj ((show Tryd.prog.funcNamed "pentaglot/pentaglotlaw21.SignatureFirst" = some 5 by kernel_rfl).symm.trans hf) |>.symm
      obtain rfl : fn = Tryd.f5 := (Option.some.inj (Tryd.func5.symm.trans hfn)).symm
      exact ⟨by kernel_rfl, fun j t ht => by
        rw [Tryd.params5] at ht
        have h3 : t = 9 := by
          rcases j with _ | j
          · exact (by simpa using ht.symm)
          · simp at ht
        rcases h3 with rfl
        · exact (show Tryd.prog.wantsStandIn 9 = false by kernel_rfl)⟩)
    (by kernel_rfl)
end Go.Proofs.Sig.signatureFirst
namespace Go.Proofs.YtfjmemmjjihohaaDoor
theorem signatureFirst_holds : Rows.SignatureFirstCardSaid := Sig.signatureFirst.card
end Go.Proofs.YtfjmemmjjihohaaDoor
#print axioms Go.Proofs.YtfjmemmjjihohaaDoor.signatureFirst_holds
