/- NumeralClash, second form: where what is read is of little bulk the law returns true, and its arguments read as before. Conditions: those of the given row alone (the two tables of the library are laid as the program's text lays them). -/
import Derived.Test.YtdkoncfpkhapjaaDoorXG
set_option linter.unusedSectionVars false
set_option linter.unusedVariables false
set_option linter.unusedSimpArgs false
set_option linter.constructorNameAsVariable false
open Go Go.Vm Go.Proofs Go.Proofs.YtdkoncfpkhapjaaDoor
open Go.RowKit Go.ChangeShapes Go.WideShapes Go.Lib Go.Shelf
namespace Go.Proofs.Num.numeralClashUpto
set_option maxRecDepth 100000 in
theorem lifted (os : Os) (started : os.Started) (H : Type) (enc : TypeId × Value → H) (F : Stop.Interp) :
    ReturnsInHanded {} Tryd.checked os 10 .any (fun w args => ((Rows.OpenSpec.upto Rows.numeralClashSpec).pre enc Tryd.prog Tryd.f10 [] false w args ∧ laidMetH Tryd.prog laidL w) ∧ sizedMet enc Tryd.prog Tryd.f10 (Rows.OpenSpec.upto Rows.numeralClashSpec) false w args)
      (((Rows.OpenSpec.upto Rows.numeralClashSpec).at F).post enc Tryd.prog Tryd.f10 false true false false) := by
  refine upto_returns (s := Rows.numeralClashSpec) F rfl started (by kernel_rfl) Tryd.func10 #[.agg #[.int .i64 0, .slice none 0 0, .slice none 0 0, .bool false, .string ⟨#[]⟩, .int .i64 0, .string ⟨#[]⟩, .bool false], .int .i64 0] (by kernel_rfl) (by kernel_rfl) (by kernel_rfl) (by kernel_rfl) (by kernel_rfl) ?_
  intro W base args ds gs before hval hW hkk hL
  have hT := tabs_of (laidH_of hL)
  letI : Fixed := tabFix W
  have hgs : gs = [] := by
    obtain ⟨_, _, _, hV, _⟩ := hW
    exact (trodVars_none hV).1
  subst hgs
  have hpt : Tryd.f10.params.toList = [24, 3] := by rw [Tryd.params10]
  refine law_calls (all := tys) (B := bulkB) (tb := 4) (base := base) tys_ok (by kernel_rfl) laidOut rfl (fun ds hd => by
      match ds, hd with
      | [d0, d1], _ => rfl) rfl Tryd.underlying4 (fun b X h => h.2) hval hW (small_weights ?_ hkk) (fun avs ha => by
      rw [hpt] at ha
      obtain ⟨a0, a1, rfl, h0, h1⟩ := shape2 ha
      obtain ⟨a0, rfl, x0, y0⟩ := arg_sysU h0
      obtain ⟨a1, rfl, x1, y1⟩ := arg_int Tryd.underlying3 h1
      exact law_clash (ext15 hT) (ext16 hT) x0 y0 x1)
  intro t ht
  have hvt : (ChangeSpec.plain Rows.numeralClashSpec).varTypes Tryd.checked.prog = [] := rfl
  rw [hvt, List.append_nil, hpt] at ht
  simp only [List.mem_cons, List.not_mem_nil, or_false] at ht
  rcases ht with rfl | rfl <;> decide
theorem row : Rows.NumeralClashUptoSaid :=
  OpenClaim.holds_of_cond 10 Tryd.f10 rfl rfl rfl rfl rfl rfl rfl ⟨rfl, rfl, rfl, rfl, rfl⟩ rfl rfl rfl rfl rfl (by kernel_rfl) Tryd.func10 (by kernel_rfl)
    (of_decide_eq_true (by kernel_rfl)) (by unfold Func.isWrapper; rw [if_neg (of_decide_eq_false (by kernel_rfl))]; exact ⟨rfl, rfl⟩)
    (fun os started H enc _ F => lifted os started H enc F)
theorem card : Rows.NumeralClashUptoCardSaid :=
  Claim7.holds_tied_plain_at .later [] [.data, .pinned] true (true, "d0df6cbbfeed023b3f95bfdb8bcb5b3a80a95d1b76a7fc8891020f81e4adb7f3") false
    row (fun _ h => by cases h) (by kernel_rfl) (fun _ h => by cases h) numeralClashUpto_row_tie rfl ⟨rfl, rfl⟩ (by kernel_rfl) rfl
    (fun f fn hf hfn => by
      obtain rfl : f = 10 := Option.some.inj ((show Tryd.prog.funcNamed "pentaglot/pentaglotlaw15.NumeralClash" = some 10 by kernel_rfl).symm.trans hf) |>.symm
      obtain rfl : fn = Tryd.f10 := (Option.some.inj (Tryd.func10.symm.trans hfn)).symm
      exact ⟨by kernel_rfl, fun j t ht => by
        rw [Tryd.params10] at ht
        have h3 : t = 24 ∨ t = 3 := by
          rcases j with _ | _ | j
          · exact (.inl (by simpa using ht.symm))
          · exact (.inr (by simpa using ht.symm))
          · simp at ht
        rcases h3 with rfl | rfl
        · exact (show Tryd.prog.wantsStandIn 24 = false by kernel_rfl)
        · exact (show Tryd.prog.wantsStandIn 3 = false by kernel_rfl)⟩)
    (by kernel_rfl)
end Go.Proofs.Num.numeralClashUpto
namespace Go.Proofs.YtdkoncfpkhapjaaDoor
theorem numeralClashUpto_holds : Rows.NumeralClashUptoCardSaid := Num.numeralClashUpto.card
end Go.Proofs.YtdkoncfpkhapjaaDoor
#print axioms Go.Proofs.YtdkoncfpkhapjaaDoor.numeralClashUpto_holds
