/-
  DERIVED. GIVEN WITH THE SEED: THE CARDS: each row of YtdkoncfpkhapjaaDoorRows.lean that lists a variable, with what it lists TIED to the program's text (the seventh form; the later family's looks); each row that meets fmt, with fmt's text TOLD by the authors' own Lean function (tested against real Go, not proved from fmt's source: count such statements apart). THE CARD IS WHAT COUNTS. Prove the row's statement (the work); the ties are given (YtdkoncfpkhapjaaDoorTie.lean); close each card by the builder's one call (the guide's Derived/Test/ToyasCard.lean, 'card_holds'). Laid BY PROGRAM, IN A SANDBOX (cutbox-door.mjs). By AI agents, Wed Nov 11 2026. No macro, syntax, notation, axiom, sorry.
-/
import Derived.Test.YtdkoncfpkhapjaaDoorRows
import GoSem.ClaimSeven
namespace Go.Proofs.YtdkoncfpkhapjaaDoor
namespace Rows

/-- THE TIED CARD OF 'pentaglotlaw15.NumeralWords'. -/
def numeralWordsCard : Claim7 := { stood := { row := numeralWordsRow, standIns := [], harness := (true, "d0df6cbbfeed023b3f95bfdb8bcb5b3a80a95d1b76a7fc8891020f81e4adb7f3"), looks := false }, kinds := [], alts := [], laidByText := true, laidKinds := [.data, .pinned], laidTests := true, laidLooks := .later }
def NumeralWordsCardSaid : Prop := Claim7.holds Tryd.pinned (.plain (OpenSpec.ofChange numeralWordsSpec)) numeralWordsCard

/-- THE TIED CARD OF 'pentaglotlaw15.NumeralParse'. -/
def numeralParseCard : Claim7 := { stood := { row := numeralParseRow, standIns := [], harness := (true, "d0df6cbbfeed023b3f95bfdb8bcb5b3a80a95d1b76a7fc8891020f81e4adb7f3"), looks := false }, kinds := [], alts := [], laidByText := true, laidKinds := [.data, .pinned], laidTests := true, laidLooks := .later }
def NumeralParseCardSaid : Prop := Claim7.holds Tryd.pinned (.plain (OpenSpec.ofChange numeralParseSpec)) numeralParseCard

/-- THE TIED CARD OF 'pentaglotlaw15.NumeralReadsBack'. -/
def numeralReadsBackCard : Claim7 := { stood := { row := numeralReadsBackRow, standIns := [], harness := (true, "d0df6cbbfeed023b3f95bfdb8bcb5b3a80a95d1b76a7fc8891020f81e4adb7f3"), looks := false }, kinds := [], alts := [], laidByText := true, laidKinds := [.data, .pinned], laidTests := true, laidLooks := .later }
def NumeralReadsBackCardSaid : Prop := Claim7.holds Tryd.pinned (.plain (OpenSpec.ofChange numeralReadsBackSpec)) numeralReadsBackCard

/-- THE TIED CARD OF 'pentaglotlaw15.NumeralParts'. -/
def numeralPartsCard : Claim7 := { stood := { row := numeralPartsRow, standIns := [], harness := (true, "d0df6cbbfeed023b3f95bfdb8bcb5b3a80a95d1b76a7fc8891020f81e4adb7f3"), looks := false }, kinds := [], alts := [], laidByText := true, laidKinds := [.data, .pinned], laidTests := true, laidLooks := .later }
def NumeralPartsCardSaid : Prop := Claim7.holds Tryd.pinned (.plain (OpenSpec.ofChange numeralPartsSpec)) numeralPartsCard

/-- THE TIED CARD OF 'pentaglotlaw15.NumeralSubtracts'. -/
def numeralSubtractsCard : Claim7 := { stood := { row := numeralSubtractsRow, standIns := [], harness := (true, "d0df6cbbfeed023b3f95bfdb8bcb5b3a80a95d1b76a7fc8891020f81e4adb7f3"), looks := false }, kinds := [], alts := [], laidByText := true, laidKinds := [.data, .pinned], laidTests := true, laidLooks := .later }
def NumeralSubtractsCardSaid : Prop := Claim7.holds Tryd.pinned (.plain (OpenSpec.ofChange numeralSubtractsSpec)) numeralSubtractsCard

/-- THE TIED CARD OF 'pentaglotlaw15.NumeralLongest'. -/
def numeralLongestCard : Claim7 := { stood := { row := numeralLongestRow, standIns := [], harness := (true, "d0df6cbbfeed023b3f95bfdb8bcb5b3a80a95d1b76a7fc8891020f81e4adb7f3"), looks := false }, kinds := [], alts := [], laidByText := true, laidKinds := [.data, .pinned], laidTests := true, laidLooks := .later }
def NumeralLongestCardSaid : Prop := Claim7.holds Tryd.pinned (.plain (OpenSpec.ofChange numeralLongestSpec)) numeralLongestCard

/-- THE TIED CARD OF 'pentaglotlaw15.NumeralVocabulary'. -/
def numeralVocabularyCard : Claim7 := { stood := { row := numeralVocabularyRow, standIns := [], harness := (true, "d0df6cbbfeed023b3f95bfdb8bcb5b3a80a95d1b76a7fc8891020f81e4adb7f3"), looks := false }, kinds := [], alts := [], laidByText := true, laidKinds := [.data, .pinned], laidTests := true, laidLooks := .later }
def NumeralVocabularyCardSaid : Prop := Claim7.holds Tryd.pinned (.plain (OpenSpec.ofChange numeralVocabularySpec)) numeralVocabularyCard

/-- THE TIED CARD OF 'pentaglotlaw15.NumeralClash'. -/
def numeralClashCard : Claim7 := { stood := { row := numeralClashRow, standIns := [], harness := (true, "d0df6cbbfeed023b3f95bfdb8bcb5b3a80a95d1b76a7fc8891020f81e4adb7f3"), looks := false }, kinds := [], alts := [], laidByText := true, laidKinds := [.data, .pinned], laidTests := true, laidLooks := .later }
def NumeralClashCardSaid : Prop := Claim7.holds Tryd.pinned (.plain (OpenSpec.ofChange numeralClashSpec)) numeralClashCard

/-- THE TIED CARD OF 'pentaglotlaw15.NumeralUnique'. -/
def numeralUniqueCard : Claim7 := { stood := { row := numeralUniqueRow, standIns := [], harness := (true, "d0df6cbbfeed023b3f95bfdb8bcb5b3a80a95d1b76a7fc8891020f81e4adb7f3"), looks := false }, kinds := [], alts := [], laidByText := true, laidKinds := [.data, .pinned], laidTests := true, laidLooks := .later }
def NumeralUniqueCardSaid : Prop := Claim7.holds Tryd.pinned (.plain (OpenSpec.ofChange numeralUniqueSpec)) numeralUniqueCard

/-- THE TIED CARD OF 'pentaglotlaw15.NumeralValid'. -/
def numeralValidCard : Claim7 := { stood := { row := numeralValidRow, standIns := [], harness := (true, "d0df6cbbfeed023b3f95bfdb8bcb5b3a80a95d1b76a7fc8891020f81e4adb7f3"), looks := false }, kinds := [], alts := [], laidByText := true, laidKinds := [.data, .pinned], laidTests := true, laidLooks := .later }
def NumeralValidCardSaid : Prop := Claim7.holds Tryd.pinned (.plain (OpenSpec.ofChange numeralValidSpec)) numeralValidCard

/-- THE SECOND FORM's CARD OF 'pentaglotlaw15.NumeralWords'. -/
def numeralWordsUptoCard : Claim7 := { stood := { row := numeralWordsUptoRow, standIns := [], harness := (true, "d0df6cbbfeed023b3f95bfdb8bcb5b3a80a95d1b76a7fc8891020f81e4adb7f3"), looks := false }, kinds := [], alts := [], laidByText := true, laidKinds := [.data, .pinned], laidTests := true, laidLooks := .later }
def NumeralWordsUptoCardSaid : Prop := Claim7.holds Tryd.pinned (.plain (OpenSpec.upto numeralWordsSpec)) numeralWordsUptoCard

/-- THE SECOND FORM's CARD OF 'pentaglotlaw15.NumeralParse'. -/
def numeralParseUptoCard : Claim7 := { stood := { row := numeralParseUptoRow, standIns := [], harness := (true, "d0df6cbbfeed023b3f95bfdb8bcb5b3a80a95d1b76a7fc8891020f81e4adb7f3"), looks := false }, kinds := [], alts := [], laidByText := true, laidKinds := [.data, .pinned], laidTests := true, laidLooks := .later }
def NumeralParseUptoCardSaid : Prop := Claim7.holds Tryd.pinned (.plain (OpenSpec.upto numeralParseSpec)) numeralParseUptoCard

/-- THE SECOND FORM's CARD OF 'pentaglotlaw15.NumeralReadsBack'. -/
def numeralReadsBackUptoCard : Claim7 := { stood := { row := numeralReadsBackUptoRow, standIns := [], harness := (true, "d0df6cbbfeed023b3f95bfdb8bcb5b3a80a95d1b76a7fc8891020f81e4adb7f3"), looks := false }, kinds := [], alts := [], laidByText := true, laidKinds := [.data, .pinned], laidTests := true, laidLooks := .later }
def NumeralReadsBackUptoCardSaid : Prop := Claim7.holds Tryd.pinned (.plain (OpenSpec.upto numeralReadsBackSpec)) numeralReadsBackUptoCard

/-- THE SECOND FORM's CARD OF 'pentaglotlaw15.NumeralParts'. -/
def numeralPartsUptoCard : Claim7 := { stood := { row := numeralPartsUptoRow, standIns := [], harness := (true, "d0df6cbbfeed023b3f95bfdb8bcb5b3a80a95d1b76a7fc8891020f81e4adb7f3"), looks := false }, kinds := [], alts := [], laidByText := true, laidKinds := [.data, .pinned], laidTests := true, laidLooks := .later }
def NumeralPartsUptoCardSaid : Prop := Claim7.holds Tryd.pinned (.plain (OpenSpec.upto numeralPartsSpec)) numeralPartsUptoCard

/-- THE SECOND FORM's CARD OF 'pentaglotlaw15.NumeralSubtracts'. -/
def numeralSubtractsUptoCard : Claim7 := { stood := { row := numeralSubtractsUptoRow, standIns := [], harness := (true, "d0df6cbbfeed023b3f95bfdb8bcb5b3a80a95d1b76a7fc8891020f81e4adb7f3"), looks := false }, kinds := [], alts := [], laidByText := true, laidKinds := [.data, .pinned], laidTests := true, laidLooks := .later }
def NumeralSubtractsUptoCardSaid : Prop := Claim7.holds Tryd.pinned (.plain (OpenSpec.upto numeralSubtractsSpec)) numeralSubtractsUptoCard

/-- THE SECOND FORM's CARD OF 'pentaglotlaw15.NumeralLongest'. -/
def numeralLongestUptoCard : Claim7 := { stood := { row := numeralLongestUptoRow, standIns := [], harness := (true, "d0df6cbbfeed023b3f95bfdb8bcb5b3a80a95d1b76a7fc8891020f81e4adb7f3"), looks := false }, kinds := [], alts := [], laidByText := true, laidKinds := [.data, .pinned], laidTests := true, laidLooks := .later }
def NumeralLongestUptoCardSaid : Prop := Claim7.holds Tryd.pinned (.plain (OpenSpec.upto numeralLongestSpec)) numeralLongestUptoCard

/-- THE SECOND FORM's CARD OF 'pentaglotlaw15.NumeralVocabulary'. -/
def numeralVocabularyUptoCard : Claim7 := { stood := { row := numeralVocabularyUptoRow, standIns := [], harness := (true, "d0df6cbbfeed023b3f95bfdb8bcb5b3a80a95d1b76a7fc8891020f81e4adb7f3"), looks := false }, kinds := [], alts := [], laidByText := true, laidKinds := [.data, .pinned], laidTests := true, laidLooks := .later }
def NumeralVocabularyUptoCardSaid : Prop := Claim7.holds Tryd.pinned (.plain (OpenSpec.upto numeralVocabularySpec)) numeralVocabularyUptoCard

/-- THE SECOND FORM's CARD OF 'pentaglotlaw15.NumeralClash'. -/
def numeralClashUptoCard : Claim7 := { stood := { row := numeralClashUptoRow, standIns := [], harness := (true, "d0df6cbbfeed023b3f95bfdb8bcb5b3a80a95d1b76a7fc8891020f81e4adb7f3"), looks := false }, kinds := [], alts := [], laidByText := true, laidKinds := [.data, .pinned], laidTests := true, laidLooks := .later }
def NumeralClashUptoCardSaid : Prop := Claim7.holds Tryd.pinned (.plain (OpenSpec.upto numeralClashSpec)) numeralClashUptoCard

/-- THE SECOND FORM's CARD OF 'pentaglotlaw15.NumeralUnique'. -/
def numeralUniqueUptoCard : Claim7 := { stood := { row := numeralUniqueUptoRow, standIns := [], harness := (true, "d0df6cbbfeed023b3f95bfdb8bcb5b3a80a95d1b76a7fc8891020f81e4adb7f3"), looks := false }, kinds := [], alts := [], laidByText := true, laidKinds := [.data, .pinned], laidTests := true, laidLooks := .later }
def NumeralUniqueUptoCardSaid : Prop := Claim7.holds Tryd.pinned (.plain (OpenSpec.upto numeralUniqueSpec)) numeralUniqueUptoCard

/-- THE SECOND FORM's CARD OF 'pentaglotlaw15.NumeralValid'. -/
def numeralValidUptoCard : Claim7 := { stood := { row := numeralValidUptoRow, standIns := [], harness := (true, "d0df6cbbfeed023b3f95bfdb8bcb5b3a80a95d1b76a7fc8891020f81e4adb7f3"), looks := false }, kinds := [], alts := [], laidByText := true, laidKinds := [.data, .pinned], laidTests := true, laidLooks := .later }
def NumeralValidUptoCardSaid : Prop := Claim7.holds Tryd.pinned (.plain (OpenSpec.upto numeralValidSpec)) numeralValidUptoCard
end Rows
end Go.Proofs.YtdkoncfpkhapjaaDoor
