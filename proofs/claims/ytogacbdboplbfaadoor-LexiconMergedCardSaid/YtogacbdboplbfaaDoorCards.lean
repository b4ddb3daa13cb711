/-
  DERIVED. GIVEN WITH THE SEED: THE CARDS: each row of YtogacbdboplbfaaDoorRows.lean that lists a variable, with what it lists TIED to the program's text (the seventh form; the later family's looks); each row that meets fmt, with fmt's text TOLD by the authors' own Lean function (tested against real Go, not proved from fmt's source: count such statements apart). THE CARD IS WHAT COUNTS. Prove the row's statement (the work); the ties are given (YtogacbdboplbfaaDoorTie.lean); close each card by the builder's one call (the guide's Derived/Test/ToyasCard.lean, 'card_holds'). Laid BY PROGRAM, IN A SANDBOX (cutbox-door.mjs). By AI agents, Wed Nov 11 2026. No macro, syntax, notation, axiom, sorry.
-/
import Derived.Test.YtogacbdboplbfaaDoorRows
import GoSem.ClaimSeven
namespace Go.Proofs.YtogacbdboplbfaaDoor
namespace Rows

/-- THE TIED CARD OF 'pentaglotlaw09.LexiconCategories'. -/
def lexiconCategoriesCard : Claim7 := { stood := { row := lexiconCategoriesRow, standIns := [], harness := (true, "608dd65cf956335b5e3e5cdd3e836b91cd68d22b0d9bfb7cd9b16f3a19afc47a"), looks := false }, kinds := [], alts := [], laidByText := true, laidKinds := [.data, .pinned], laidTests := true, laidLooks := .later }
def LexiconCategoriesCardSaid : Prop := Claim7.holds Tryd.pinned (.plain (OpenSpec.ofChange lexiconCategoriesSpec)) lexiconCategoriesCard

/-- THE TIED CARD OF 'pentaglotlaw09.LexiconHomonyms'. -/
def lexiconHomonymsCard : Claim7 := { stood := { row := lexiconHomonymsRow, standIns := [], harness := (true, "608dd65cf956335b5e3e5cdd3e836b91cd68d22b0d9bfb7cd9b16f3a19afc47a"), looks := false }, kinds := [], alts := [], laidByText := true, laidKinds := [.data, .pinned], laidTests := true, laidLooks := .later }
def LexiconHomonymsCardSaid : Prop := Claim7.holds Tryd.pinned (.plain (OpenSpec.ofChange lexiconHomonymsSpec)) lexiconHomonymsCard

/-- THE TIED CARD OF 'pentaglotlaw09.LexiconLine'. -/
def lexiconLineCard : Claim7 := { stood := { row := lexiconLineRow, standIns := [], harness := (true, "608dd65cf956335b5e3e5cdd3e836b91cd68d22b0d9bfb7cd9b16f3a19afc47a"), looks := false }, kinds := [], alts := [], laidByText := true, laidKinds := [.data, .pinned], laidTests := true, laidLooks := .later }
def LexiconLineCardSaid : Prop := Claim7.holds Tryd.pinned (.plain (OpenSpec.ofChange lexiconLineSpec)) lexiconLineCard

/-- THE TIED CARD OF 'pentaglotlaw09.LexiconParse'. -/
def lexiconParseCard : Claim7 := { stood := { row := lexiconParseRow, standIns := [], harness := (true, "608dd65cf956335b5e3e5cdd3e836b91cd68d22b0d9bfb7cd9b16f3a19afc47a"), looks := false }, kinds := [], alts := [], laidByText := true, laidKinds := [.data, .pinned], laidTests := true, laidLooks := .later }
def LexiconParseCardSaid : Prop := Claim7.holds Tryd.pinned (.plain (OpenSpec.ofChange lexiconParseSpec)) lexiconParseCard

/-- THE TIED CARD OF 'pentaglotlaw09.LexiconInverts'. -/
def lexiconInvertsCard : Claim7 := { stood := { row := lexiconInvertsRow, standIns := [], harness := (true, "608dd65cf956335b5e3e5cdd3e836b91cd68d22b0d9bfb7cd9b16f3a19afc47a"), looks := false }, kinds := [], alts := [], laidByText := true, laidKinds := [.data, .pinned], laidTests := true, laidLooks := .later }
def LexiconInvertsCardSaid : Prop := Claim7.holds Tryd.pinned (.plain (OpenSpec.ofChange lexiconInvertsSpec)) lexiconInvertsCard

/-- THE TIED CARD OF 'pentaglotlaw09.LexiconFind'. -/
def lexiconFindCard : Claim7 := { stood := { row := lexiconFindRow, standIns := [], harness := (true, "608dd65cf956335b5e3e5cdd3e836b91cd68d22b0d9bfb7cd9b16f3a19afc47a"), looks := false }, kinds := [], alts := [], laidByText := true, laidKinds := [.data, .pinned], laidTests := true, laidLooks := .later }
def LexiconFindCardSaid : Prop := Claim7.holds Tryd.pinned (.plain (OpenSpec.ofChange lexiconFindSpec)) lexiconFindCard

/-- THE TIED CARD OF 'pentaglotlaw09.LexiconNarrows'. -/
def lexiconNarrowsCard : Claim7 := { stood := { row := lexiconNarrowsRow, standIns := [], harness := (true, "608dd65cf956335b5e3e5cdd3e836b91cd68d22b0d9bfb7cd9b16f3a19afc47a"), looks := false }, kinds := [], alts := [], laidByText := true, laidKinds := [.data, .pinned], laidTests := true, laidLooks := .later }
def LexiconNarrowsCardSaid : Prop := Claim7.holds Tryd.pinned (.plain (OpenSpec.ofChange lexiconNarrowsSpec)) lexiconNarrowsCard

/-- THE TIED CARD OF 'pentaglotlaw09.LexiconSelects'. -/
def lexiconSelectsCard : Claim7 := { stood := { row := lexiconSelectsRow, standIns := [], harness := (true, "608dd65cf956335b5e3e5cdd3e836b91cd68d22b0d9bfb7cd9b16f3a19afc47a"), looks := false }, kinds := [], alts := [], laidByText := true, laidKinds := [.data, .pinned], laidTests := true, laidLooks := .later }
def LexiconSelectsCardSaid : Prop := Claim7.holds Tryd.pinned (.plain (OpenSpec.ofChange lexiconSelectsSpec)) lexiconSelectsCard

/-- THE TIED CARD OF 'pentaglotlaw09.LexiconMerge'. -/
def lexiconMergeCard : Claim7 := { stood := { row := lexiconMergeRow, standIns := [], harness := (true, "608dd65cf956335b5e3e5cdd3e836b91cd68d22b0d9bfb7cd9b16f3a19afc47a"), looks := false }, kinds := [], alts := [], laidByText := true, laidKinds := [.data, .pinned], laidTests := true, laidLooks := .later }
def LexiconMergeCardSaid : Prop := Claim7.holds Tryd.pinned (.plain (OpenSpec.ofChange lexiconMergeSpec)) lexiconMergeCard

/-- THE TIED CARD OF 'pentaglotlaw09.LexiconOwn'. -/
def lexiconOwnCard : Claim7 := { stood := { row := lexiconOwnRow, standIns := [], harness := (true, "608dd65cf956335b5e3e5cdd3e836b91cd68d22b0d9bfb7cd9b16f3a19afc47a"), looks := false }, kinds := [], alts := [], laidByText := true, laidKinds := [.data, .pinned], laidTests := true, laidLooks := .later }
def LexiconOwnCardSaid : Prop := Claim7.holds Tryd.pinned (.plain (OpenSpec.ofChange lexiconOwnSpec)) lexiconOwnCard

/-- THE TIED CARD OF 'pentaglotlaw09.LexiconMerged'. -/
def lexiconMergedCard : Claim7 := { stood := { row := lexiconMergedRow, standIns := [], harness := (true, "608dd65cf956335b5e3e5cdd3e836b91cd68d22b0d9bfb7cd9b16f3a19afc47a"), looks := false }, kinds := [], alts := [], laidByText := true, laidKinds := [.data, .pinned], laidTests := true, laidLooks := .later }
def LexiconMergedCardSaid : Prop := Claim7.holds Tryd.pinned (.plain (OpenSpec.ofChange lexiconMergedSpec)) lexiconMergedCard

/-- THE SECOND FORM's CARD OF 'pentaglotlaw09.LexiconCategories'. -/
def lexiconCategoriesUptoCard : Claim7 := { stood := { row := lexiconCategoriesUptoRow, standIns := [], harness := (true, "608dd65cf956335b5e3e5cdd3e836b91cd68d22b0d9bfb7cd9b16f3a19afc47a"), looks := false }, kinds := [], alts := [], laidByText := true, laidKinds := [.data, .pinned], laidTests := true, laidLooks := .later }
def LexiconCategoriesUptoCardSaid : Prop := Claim7.holds Tryd.pinned (.plain (OpenSpec.upto lexiconCategoriesSpec)) lexiconCategoriesUptoCard

/-- THE SECOND FORM's CARD OF 'pentaglotlaw09.LexiconHomonyms'. -/
def lexiconHomonymsUptoCard : Claim7 := { stood := { row := lexiconHomonymsUptoRow, standIns := [], harness := (true, "608dd65cf956335b5e3e5cdd3e836b91cd68d22b0d9bfb7cd9b16f3a19afc47a"), looks := false }, kinds := [], alts := [], laidByText := true, laidKinds := [.data, .pinned], laidTests := true, laidLooks := .later }
def LexiconHomonymsUptoCardSaid : Prop := Claim7.holds Tryd.pinned (.plain (OpenSpec.upto lexiconHomonymsSpec)) lexiconHomonymsUptoCard

/-- THE SECOND FORM's CARD OF 'pentaglotlaw09.LexiconLine'. -/
def lexiconLineUptoCard : Claim7 := { stood := { row := lexiconLineUptoRow, standIns := [], harness := (true, "608dd65cf956335b5e3e5cdd3e836b91cd68d22b0d9bfb7cd9b16f3a19afc47a"), looks := false }, kinds := [], alts := [], laidByText := true, laidKinds := [.data, .pinned], laidTests := true, laidLooks := .later }
def LexiconLineUptoCardSaid : Prop := Claim7.holds Tryd.pinned (.plain (OpenSpec.upto lexiconLineSpec)) lexiconLineUptoCard

/-- THE SECOND FORM's CARD OF 'pentaglotlaw09.LexiconParse'. -/
def lexiconParseUptoCard : Claim7 := { stood := { row := lexiconParseUptoRow, standIns := [], harness := (true, "608dd65cf956335b5e3e5cdd3e836b91cd68d22b0d9bfb7cd9b16f3a19afc47a"), looks := false }, kinds := [], alts := [], laidByText := true, laidKinds := [.data, .pinned], laidTests := true, laidLooks := .later }
def LexiconParseUptoCardSaid : Prop := Claim7.holds Tryd.pinned (.plain (OpenSpec.upto lexiconParseSpec)) lexiconParseUptoCard

/-- THE SECOND FORM's CARD OF 'pentaglotlaw09.LexiconInverts'. -/
def lexiconInvertsUptoCard : Claim7 := { stood := { row := lexiconInvertsUptoRow, standIns := [], harness := (true, "608dd65cf956335b5e3e5cdd3e836b91cd68d22b0d9bfb7cd9b16f3a19afc47a"), looks := false }, kinds := [], alts := [], laidByText := true, laidKinds := [.data, .pinned], laidTests := true, laidLooks := .later }
def LexiconInvertsUptoCardSaid : Prop := Claim7.holds Tryd.pinned (.plain (OpenSpec.upto lexiconInvertsSpec)) lexiconInvertsUptoCard

/-- THE SECOND FORM's CARD OF 'pentaglotlaw09.LexiconFind'. -/
def lexiconFindUptoCard : Claim7 := { stood := { row := lexiconFindUptoRow, standIns := [], harness := (true, "608dd65cf956335b5e3e5cdd3e836b91cd68d22b0d9bfb7cd9b16f3a19afc47a"), looks := false }, kinds := [], alts := [], laidByText := true, laidKinds := [.data, .pinned], laidTests := true, laidLooks := .later }
def LexiconFindUptoCardSaid : Prop := Claim7.holds Tryd.pinned (.plain (OpenSpec.upto lexiconFindSpec)) lexiconFindUptoCard

/-- THE SECOND FORM's CARD OF 'pentaglotlaw09.LexiconNarrows'. -/
def lexiconNarrowsUptoCard : Claim7 := { stood := { row := lexiconNarrowsUptoRow, standIns := [], harness := (true, "608dd65cf956335b5e3e5cdd3e836b91cd68d22b0d9bfb7cd9b16f3a19afc47a"), looks := false }, kinds := [], alts := [], laidByText := true, laidKinds := [.data, .pinned], laidTests := true, laidLooks := .later }
def LexiconNarrowsUptoCardSaid : Prop := Claim7.holds Tryd.pinned (.plain (OpenSpec.upto lexiconNarrowsSpec)) lexiconNarrowsUptoCard

/-- THE SECOND FORM's CARD OF 'pentaglotlaw09.LexiconSelects'. -/
def lexiconSelectsUptoCard : Claim7 := { stood := { row := lexiconSelectsUptoRow, standIns := [], harness := (true, "608dd65cf956335b5e3e5cdd3e836b91cd68d22b0d9bfb7cd9b16f3a19afc47a"), looks := false }, kinds := [], alts := [], laidByText := true, laidKinds := [.data, .pinned], laidTests := true, laidLooks := .later }
def LexiconSelectsUptoCardSaid : Prop := Claim7.holds Tryd.pinned (.plain (OpenSpec.upto lexiconSelectsSpec)) lexiconSelectsUptoCard

/-- THE SECOND FORM's CARD OF 'pentaglotlaw09.LexiconMerge'. -/
def lexiconMergeUptoCard : Claim7 := { stood := { row := lexiconMergeUptoRow, standIns := [], harness := (true, "608dd65cf956335b5e3e5cdd3e836b91cd68d22b0d9bfb7cd9b16f3a19afc47a"), looks := false }, kinds := [], alts := [], laidByText := true, laidKinds := [.data, .pinned], laidTests := true, laidLooks := .later }
def LexiconMergeUptoCardSaid : Prop := Claim7.holds Tryd.pinned (.plain (OpenSpec.upto lexiconMergeSpec)) lexiconMergeUptoCard

/-- THE SECOND FORM's CARD OF 'pentaglotlaw09.LexiconOwn'. -/
def lexiconOwnUptoCard : Claim7 := { stood := { row := lexiconOwnUptoRow, standIns := [], harness := (true, "608dd65cf956335b5e3e5cdd3e836b91cd68d22b0d9bfb7cd9b16f3a19afc47a"), looks := false }, kinds := [], alts := [], laidByText := true, laidKinds := [.data, .pinned], laidTests := true, laidLooks := .later }
def LexiconOwnUptoCardSaid : Prop := Claim7.holds Tryd.pinned (.plain (OpenSpec.upto lexiconOwnSpec)) lexiconOwnUptoCard

/-- THE SECOND FORM's CARD OF 'pentaglotlaw09.LexiconMerged'. -/
def lexiconMergedUptoCard : Claim7 := { stood := { row := lexiconMergedUptoRow, standIns := [], harness := (true, "608dd65cf956335b5e3e5cdd3e836b91cd68d22b0d9bfb7cd9b16f3a19afc47a"), looks := false }, kinds := [], alts := [], laidByText := true, laidKinds := [.data, .pinned], laidTests := true, laidLooks := .later }
def LexiconMergedUptoCardSaid : Prop := Claim7.holds Tryd.pinned (.plain (OpenSpec.upto lexiconMergedSpec)) lexiconMergedUptoCard
end Rows
end Go.Proofs.YtogacbdboplbfaaDoor
