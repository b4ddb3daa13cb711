/- NumeralUnique, second form: where what is read is of little bulk the law returns true, and its arguments read as before. Conditions: those of the given row alone (the two tables of the library are laid as the program's text lays them). -/
import Derived.Test.YtdkoncfpkhapjaaDoorXG
set_option linter.unusedSectionVars false
set_option linter.unusedVariables false
set_option linter.unusedSimpArgs false
set_option linter.constructorNameAsVariable false
open Go Go.Vm Go.Proofs Go.Proofs.YtdkoncfpkhapjaaDoor
open Go.RowKit Go.ChangeShapes Go.WideShapes Go.Lib Go.Shelf
namespace Go.Proofs.Num.numeralUniqueUpto
set_option maxRecDepth 100000 in
theorem lifted (os : Os) (started : os.Started) (H : Type) (enc : TypeId × Value → H) (F : Stop.Interp) :
    ReturnsInHanded {} Tryd.checked os 11 .any (fun w args => ((Rows.OpenSpec.upto Rows.numeralUniqueSpec).pre enc Tryd.prog Tryd.f11 [] false w args ∧ laidMetH Tryd.prog laidL w) ∧ sizedMet enc Tryd.prog Tryd.f11 (Rows.OpenSpec.upto Rows.numeralUniqueSpec) false w args)
      (((Rows.OpenSpec.upto Rows.numeralUniqueSpec).at F).post enc Tryd.prog Tryd.f11 false true false false) := by
  refine upto_returns (s := Rows.numeralUniqueSpec) F rfl started (by kernel_rfl) Tryd.func11 #[.agg #[.int .i64 0, .slice none 0 0, .slice none 0 0, .bool false, .string ⟨#[]⟩, .int .i64 0, .string ⟨#[]⟩, .bool false], .int .u16 0, .int .u16 0] (by kernel_rfl) (by kernel_rfl) (by kernel_rfl) (by kernel_rfl) (by kernel_rfl) ?_
  intro W base args ds gs before hval hW hkk hL
  have hT := tabs_of (laidH_of hL)
  letI : Fixed := tabFix W
  have hgs : gs = [] := by
    obtain ⟨_, _, _, hV, _⟩ := hW
    exact (trodVars_none hV).1
  subst hgs
  have hpt : Tryd.f11.params.toList = [24, 37, 37] := by rw [Tryd.params11]
  refine law_calls (all := tys) (B := bulkB) (tb := 4) (base := base) tys_ok (by kernel_rfl) laidOut rfl (fun ds hd => by
      match ds, hd with
      | [d0, d1, d2], _ => rfl) rfl Tryd.underlying4 (fun b X h => h.2) hval hW (small_weights ?_ hkk) (fun avs ha => by
      rw [hpt] at ha
      obtain ⟨a0, a1, a2, rfl, h0, h1, h2⟩ := shape3 ha
      obtain ⟨a0, rfl, x0, y0⟩ := arg_sysU h0
      obtain ⟨a1, rfl, x1, y1⟩ := arg_int Tryd.underlying37 h1
      obtain ⟨a2, rfl, x2, y2⟩ := arg_int Tryd.underlying37 h2
      exact law_unique (ext15 hT) (ext16 hT) x0 y0 x1 y1 x2 y2)
  intro t ht
  have hvt : (ChangeSpec.plain Rows.numeralUniqueSpec).varTypes Tryd.checked.prog = [] := rfl
  rw [hvt, List.append_nil, hpt] at ht
  simp only [List.mem_cons, List.not_mem_nil, or_false] at ht
  rcases ht with rfl | rfl | rfl <;> decide
theorem row : Rows.NumeralUniqueUptoSaid :=
  OpenClaim.holds_of_cond 11 Tryd.f11 rfl rfl rfl rfl rfl rfl rfl ⟨rfl, rfl, rfl, rfl, rfl⟩ rfl rfl rfl rfl rfl (by kernel_rfl) Tryd.func11 (by kernel_rfl)
    (of_decide_eq_true (by kernel_rfl)) (by unfold Func.isWrapper; rw [if_neg (of_decide_eq_false (by kernel_rfl))]; exact ⟨rfl, rfl⟩)
    (fun os started H enc _ F => lifted os started H enc F)
theorem card : Rows.NumeralUniqueUptoCardSaid :=
  Claim7.holds_tied_plain_at .later [] [.data, .pinned] true (true, "d0df6cbbfeed023b3f95bfdb8bcb5b3a80a95d1b76a7fc8891020f81e4adb7f3") false
    row (fun _ h => by cases h) (by kernel_rfl) (fun _ h => by cases h) numeralUniqueUpto_row_tie rfl ⟨rfl, rfl⟩ (by kernel_rfl) rfl
    (fun f fn hf hfn => by
      obtain rfl : f = 11 := Option.some.inj ((show Tryd.prog.funcNamed "pentaglot/pentaglotlaw15.NumeralUnique" = some 11 by kernel_rfl).symm.trans hf) |>.symm
      obtain rfl : fn = Tryd.f11 := (Option.some.inj (Tryd.func11.symm.trans hfn)).symm
      exact ⟨by kernel_rfl, fun j t ht => by
        rw [Tryd.params11] at ht
        have h3 : t = 24 ∨ t = 37 ∨ t = 37 := by
          rcases j with _ | _ | _ | j
          · exact (.inl (by simpa using ht.symm))
          · exact (.inr (.inl (by simpa using ht.symm)))
          · exact (.inr (.inr (by simpa using ht.symm)))
          · simp at ht
        rcases h3 with rfl | rfl | rfl
        · exact (show Tryd.prog.wantsStandIn 24 = false by kernel_rfl)
        · exact (show Tryd.prog.wantsStandIn 37 = false by kernel_rfl)
        · exact (show Tryd.prog.wantsStandIn 37 = false by kernel_rfl)⟩)
    (by kernel_rfl)
end Go.Proofs.Num.numeralUniqueUpto
namespace Go.Proofs.YtdkoncfpkhapjaaDoor
theorem numeralUniqueUpto_holds : Rows.NumeralUniqueUptoCardSaid := Num.numeralUniqueUpto.card
end Go.Proofs.YtdkoncfpkhapjaaDoor
#print axioms Go.Proofs.YtdkoncfpkhapjaaDoor.numeralUniqueUpto_holds
