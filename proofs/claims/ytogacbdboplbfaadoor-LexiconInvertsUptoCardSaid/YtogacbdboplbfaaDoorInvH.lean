/- LexiconInverts, second form: where what is read is of little bulk the law returns true, and its arguments read as before. Conditions: those of the given row alone (the two tables of the library are laid as the program's text lays them). -/
import Derived.Test.YtogacbdboplbfaaDoorInvG
set_option linter.unusedSectionVars false
set_option linter.unusedVariables false
set_option linter.unusedSimpArgs false
set_option linter.constructorNameAsVariable false
open Go Go.Vm Go.Proofs Go.Proofs.YtogacbdboplbfaaDoor
open Go.RowKit Go.ChangeShapes Go.WideShapes Go.Lib Go.Shelf
namespace Go.Proofs.Lex.lexiconInvertsUpto
set_option maxRecDepth 100000 in
theorem lifted (os : Os) (started : os.Started) (H : Type) (enc : TypeId × Value → H) (F : Stop.Interp) :
    ReturnsInHanded {} Tryd.checked os 7 .any (fun w args => ((Rows.OpenSpec.upto Rows.lexiconInvertsSpec).pre enc Tryd.prog Tryd.f7 [] false w args ∧ laidMetH Tryd.prog laidL w) ∧ sizedMet enc Tryd.prog Tryd.f7 (Rows.OpenSpec.upto Rows.lexiconInvertsSpec) false w args)
      (((Rows.OpenSpec.upto Rows.lexiconInvertsSpec).at F).post enc Tryd.prog Tryd.f7 false true false false) := by
  refine upto_returns (s := Rows.lexiconInvertsSpec) F rfl started (by kernel_rfl) Tryd.func7 #[.agg #[.string ⟨#[]⟩, .string ⟨#[]⟩, .string ⟨#[]⟩, .string ⟨#[]⟩, .slice none 0 0], .string ⟨#[]⟩] (by kernel_rfl) (by kernel_rfl) (by kernel_rfl) (by kernel_rfl) (by kernel_rfl) ?_
  intro W base args ds gs before hval hW hkk hL hSh
  have hT := tabs_of (laidH_of hL)
  obtain ⟨m, hM⟩ := maxLen_of hSh
  letI : Fixed := tabFix W
  have hX := ext09 hT hM
  have h14 := awake14 hX
  have hgs : gs = [] := by
    obtain ⟨_, _, _, hV, _⟩ := hW
    exact (trodVars_none hV).1
  subst hgs
  have hpt : Tryd.f7.params.toList = [33, 9] := by rw [Tryd.params7]
  refine law_calls (all := tys) (B := bulkB) (tb := 4) (base := base) tys_ok (by kernel_rfl) laidOut rfl (fun ds hd => by
      match ds, hd with
      | [d0, d1], _ => rfl) rfl Tryd.underlying4 (fun b X h => h.2) hval hW (small_weights ?_ hkk) (fun avs ha => by
      rw [hpt] at ha
      obtain ⟨a0, a1, rfl, h0, h1⟩ := shape2 ha
      obtain ⟨a0, rfl, x0⟩ := arg_lex h0
      obtain ⟨a1, rfl, x1⟩ := arg_str h1
      exact law7u hX xm09 h14 (smallF x0))
  intro t ht
  have hvt : (ChangeSpec.plain Rows.lexiconInvertsSpec).varTypes Tryd.checked.prog = [] := rfl
  rw [hvt, List.append_nil, hpt] at ht
  simp only [List.mem_cons, List.not_mem_nil, or_false] at ht
  rcases ht with rfl | rfl <;> decide
theorem row : Rows.LexiconInvertsUptoSaid :=
  OpenClaim.holds_of_cond 7 Tryd.f7 rfl rfl rfl rfl rfl rfl rfl ⟨rfl, rfl, rfl, rfl, rfl⟩ rfl rfl rfl rfl rfl (by kernel_rfl) Tryd.func7 (by kernel_rfl)
    (of_decide_eq_true (by kernel_rfl)) (by unfold Func.isWrapper; rw [if_neg (of_decide_eq_false (by kernel_rfl))]; exact ⟨rfl, rfl⟩)
    (fun os started H enc _ F => lifted os started H enc F)
theorem card : Rows.LexiconInvertsUptoCardSaid :=
  Claim7.holds_tied_plain_at .later [] [.data, .pinned] true (true, "608dd65cf956335b5e3e5cdd3e836b91cd68d22b0d9bfb7cd9b16f3a19afc47a") false
    row (fun _ h => by cases h) (by kernel_rfl) (fun _ h => by cases h) lexiconInvertsUpto_row_tie rfl ⟨rfl, rfl⟩ (by kernel_rfl) rfl
    (fun f fn hf hfn => by
      obtain rfl : f = 7 := Option.some.inj ((show Tryd.prog.funcNamed "pentaglot/pentaglotlaw09.LexiconInverts" = some 7 by kernel_rfl).symm.trans hf) |>.symm
      obtain rfl : fn = Tryd.f7 := (Option.some.inj (Tryd.func7.symm.trans hfn)).symm
      exact ⟨by kernel_rfl, fun j t ht => by
        rw [Tryd.params7] at ht
        have h3 : t = 33 ∨ t = 9 := by
          rcases j with _ | _ | j
          · exact (.inl (by simpa using ht.symm))
          · exact (.inr (by simpa using ht.symm))
          · simp at ht
        rcases h3 with rfl | rfl
        · exact (show Tryd.prog.wantsStandIn 33 = false by kernel_rfl)
        · exact (show Tryd.prog.wantsStandIn 9 = false by kernel_rfl)⟩)
    (by kernel_rfl)
end Go.Proofs.Lex.lexiconInvertsUpto
namespace Go.Proofs.YtogacbdboplbfaaDoor
theorem lexiconInvertsUpto_holds : Rows.LexiconInvertsUptoCardSaid := Lex.lexiconInvertsUpto.card
end Go.Proofs.YtogacbdboplbfaaDoor
#print axioms Go.Proofs.YtogacbdboplbfaaDoor.lexiconInvertsUpto_holds
