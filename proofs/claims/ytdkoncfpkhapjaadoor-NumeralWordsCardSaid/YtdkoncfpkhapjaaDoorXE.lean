/- NumeralWords: for every numeral system and every number the law returns true, and its arguments read as before. Conditions: those of the given row alone (the two tables of the library are laid as the program's text lays them). -/
import Derived.Test.YtdkoncfpkhapjaaDoorXD
set_option linter.unusedSectionVars false
set_option linter.unusedVariables false
set_option linter.unusedSimpArgs false
set_option linter.constructorNameAsVariable false
open Go Go.Vm Go.Proofs Go.Proofs.YtdkoncfpkhapjaaDoor
open Go.RowKit Go.ChangeShapes Go.WideShapes Go.Lib Go.Shelf
namespace Go.Proofs.Num
set_option maxRecDepth 100000 in
theorem nw_shape {avs : List AV} (h : ShapeArgs Tryd.prog Tryd.f3.params.toList avs) : ∃ (s : NSys) (n : Int), avs = [AV.agg (sysC s), i6 n] ∧ okS s = true := by
  rw [show Tryd.f3.params.toList = [24, 3] by rw [Tryd.params3]] at h
  obtain ⟨a, b, rfl, ha, hb⟩ := shape2 h
  obtain ⟨s, rfl, hs, _⟩ := arg_sys ha
  obtain ⟨n, rfl, _⟩ := arg_int Tryd.underlying3 hb
  exact ⟨s, n, rfl, hs⟩
set_option maxRecDepth 100000 in
theorem nw_lifted (os : Os) (started : os.Started) (H : Type) (enc : TypeId × Value → H) :
    ReturnsInHanded {} Tryd.checked os 3 .any (fun w args => (Rows.numeralWordsSpec.pre enc Tryd.prog Tryd.f3 [] false w args ∧ laidMetH Tryd.prog laidL w) ∧ sizedMet enc Tryd.prog Tryd.f3 (OpenSpec.ofChange Rows.numeralWordsSpec) false w args)
      (Rows.numeralWordsSpec.post enc Tryd.prog Tryd.f3 false true false false) := by
  refine returnsInHanded_of_change_and (C := Tryd.checked) (X := fun w _ => laidMetH Tryd.prog laidL w) (fun _ _ _ hh h => h.of_heap hh) own started (by kernel_rfl) Tryd.func3
    (ChangeSpec.witness_at (enc := enc) (C := Tryd.checked) (os := os) (X := fun w _ => laidMetH Tryd.prog laidL w) false (wit os) #[.agg #[.int .i64 0, .slice none 0 0, .slice none 0 0, .bool false, .string ⟨#[]⟩, .int .i64 0, .string ⟨#[]⟩, .bool false], .int .i64 0] 8 (World.laidAll_os _ _ _) (by kernel_rfl) (by kernel_rfl) (by kernel_rfl) (by kernel_rfl) (by kernel_rfl) (laidH (wit_met os _))) ?_
  intro W base args ds gs before hval hW _ hsz hL _
  have hT := tabs_of (laidH_of hL)
  letI : Fixed := tabFix W
  exact law_calls (all := tys) (tb := 4) (base := base) tys_ok (by kernel_rfl) laidOut rfl (fun ds hd => by
      match ds, hd with
      | [d1, d2], _ => rfl) rfl Tryd.underlying4 (fun b X h => h.2) hval hW hsz (fun avs ha => by
      obtain ⟨s, n, rfl, hs⟩ := nw_shape ha
      exact law_words (ext15 hT) hs n)
theorem nw_row : Rows.NumeralWordsSaid :=
  OpenClaim.holds_of_wide 3 Tryd.f3 rfl rfl rfl rfl rfl rfl rfl ⟨rfl, rfl, rfl, rfl, rfl⟩ rfl rfl rfl rfl rfl (by kernel_rfl) Tryd.func3 (by kernel_rfl)
    (of_decide_eq_true (by kernel_rfl)) (by unfold Func.isWrapper; rw [if_neg (of_decide_eq_false (by kernel_rfl))]; exact ⟨rfl, rfl⟩)
    (fun os started H enc _ => nw_lifted os started H enc)
theorem nw_card : Rows.NumeralWordsCardSaid :=
  Claim7.holds_tied_plain_at .later [] [.data, .pinned] true (true, "d0df6cbbfeed023b3f95bfdb8bcb5b3a80a95d1b76a7fc8891020f81e4adb7f3") false
    nw_row (fun _ h => by cases h) (by kernel_rfl) (fun _ h => by cases h) numeralWords_row_tie rfl ⟨rfl, rfl⟩ (by kernel_rfl) rfl
    (fun f fn hf hfn => by
      obtain rfl : f = 3 := Option.some.inj ((show Tryd.prog.funcNamed "pentaglot/pentaglotlaw15.NumeralWords" = some 3 by kernel_rfl).symm.trans hf) |>.symm
      obtain rfl : fn = Tryd.f3 := (Option.some.inj (Tryd.func3.symm.trans hfn)).symm
      exact ⟨by kernel_rfl, fun j t ht => by
        rw [Tryd.params3] at ht
        have h3 : t = 24 ∨ t = 3 := by
          rcases j with _ | _ | j
          · exact .inl (by simpa using ht.symm)
          · exact .inr (by simpa using ht.symm)
          · simp at ht
        rcases h3 with rfl | rfl
        · exact (show Tryd.prog.wantsStandIn 24 = false by kernel_rfl)
        · exact (show Tryd.prog.wantsStandIn 3 = false by kernel_rfl)⟩)
    (by kernel_rfl)
end Go.Proofs.Num
namespace Go.Proofs.YtdkoncfpkhapjaaDoor
theorem numeralWords_holds : Rows.NumeralWordsCardSaid := Num.nw_card
end Go.Proofs.YtdkoncfpkhapjaaDoor
#print axioms Go.Proofs.YtdkoncfpkhapjaaDoor.numeralWords_holds
