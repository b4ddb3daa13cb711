/-
  NARROWER THAN 'FOR EVERY INPUT', by the rows' own cells (each row's printed sentence says how): NumeralWords: laid · NumeralParse: laid · NumeralReadsBack: laid · NumeralParts: laid · NumeralSubtracts: laid · NumeralLongest: laid · NumeralVocabulary: laid · NumeralClash: laid · NumeralUnique: laid · NumeralValid: laid.
  DERIVED. THE GIVEN ROWS OF THIS SEAT. 10 by the template 'for every input the law returns true; each argument reads behind the call as it read before'; 0 by the template 'total and deterministic' (their statements: YtdkoncfpkhapjaaDoorTotals.lean).
  GIVEN WITH THE SEED: the statements are not yours to turn. If you find one false, say at which input.
  Laid BY PROGRAM, IN A SANDBOX (cutbox-rows.mjs): the forced cells as the released guide's own fill.sh prints them over the translation 7094c55f9ad63dba… (all of the seat's roots in one cut). By AI agents, Wed Nov 11 2026. No macro, syntax, notation, axiom, sorry.
-/
import Derived.Test.YtdkoncfpkhapjaaDoorChecked
import GoSem.PinnedTables
import GoSem.Claim
import GoSem.ClaimJoined
import GoSem.ClaimMapViews
import Derived.JoinedTies
import Derived.KernelRfl
namespace Go.Proofs.YtdkoncfpkhapjaaDoor
/- THE CELL 'sum', in the pinned program and in every row, IS THE sha256 OF THE DUMP (.gsa) THAT YtdkoncfpkhapjaaDoorProg.lean LOADS. Nothing in Lean hashes anything: it is a label: what it is worth is what the hold of that sum in a sandbox is worth. -/
noncomputable def Tryd.pinned : Pinned := { name := "ytdkoncfpkhapjaadoor", sum := "7094c55f9ad63dba3d52b9d74b4c076555340d27966d9488df88df8fc3b619fb", checked := Tryd.checked }
namespace Rows
def none {H : Type} : Left H := { results := [], args := [] }

/- WHAT THE LISTED PACKAGE-LEVEL VARIABLES READ AS WHEN THE CALL BEGINS. Each datum BY PROGRAM (the guide's laid-datum.mjs) off the statement by which the dump's own 'gosem.cut.vars' lays the variable. In a bare row this is a premise. The card (YtdkoncfpkhapjaaDoorCards.lean) ties it to the program's text. -/
def laid_unicode_utf8_acceptRanges {H : Type} : DataW H := .agg [.agg [.lit (.int .u8 128), .lit (.int .u8 191)], .agg [.lit (.int .u8 160), .lit (.int .u8 191)], .agg [.lit (.int .u8 128), .lit (.int .u8 159)], .agg [.lit (.int .u8 144), .lit (.int .u8 191)], .agg [.lit (.int .u8 128), .lit (.int .u8 143)], .agg [.lit (.int .u8 0), .lit (.int .u8 0)], .agg [.lit (.int .u8 0), .lit (.int .u8 0)], .agg [.lit (.int .u8 0), .lit (.int .u8 0)], .agg [.lit (.int .u8 0), .lit (.int .u8 0)], .agg [.lit (.int .u8 0), .lit (.int .u8 0)], .agg [.lit (.int .u8 0), .lit (.int .u8 0)], .agg [.lit (.int .u8 0), .lit (.int .u8 0)], .agg [.lit (.int .u8 0), .lit (.int .u8 0)], .agg [.lit (.int .u8 0), .lit (.int .u8 0)], .agg [.lit (.int .u8 0), .lit (.int .u8 0)], .agg [.lit (.int .u8 0), .lit (.int .u8 0)]]
/-- One of Go's own tables, pinned by name: the form's constant. -/
def laid_unicode_utf8_first : DataW Unit := Go.Pinned.utf8First

/-- 'pentaglotlaw15.NumeralWords': WHATEVER THE INPUT: true; the input reads as it did. -/
def numeralWordsSpec : ChangeSpec := { name := "numeralWords", fn := fun _ => fun
  | [d1, d2] => { results := [.lit (.bool true)], args := [d1, d2] }
  | _ => none }
def numeralWordsRow : OpenClaim := { program := "ytdkoncfpkhapjaadoor", sum := "7094c55f9ad63dba3d52b9d74b4c076555340d27966d9488df88df8fc3b619fb", func := "pentaglot/pentaglotlaw15.NumeralWords", spec := "numeralWords", unfollowed := true, recurses := true, named := ["unicode/utf8.first", "unicode/utf8.acceptRanges"], apart := false, laid := [("unicode/utf8.acceptRanges", laid_unicode_utf8_acceptRanges), ("unicode/utf8.first", laid_unicode_utf8_first)] }
def NumeralWordsSaid : Prop := numeralWordsRow.holds Tryd.pinned (OpenSpec.ofChange numeralWordsSpec)

/-- ITS FALSE NEIGHBOUR: 'it returns false'. Refute it at one input. -/
def numeralWordsWrong : ChangeSpec := { name := "numeralWords", fn := fun _ => fun
  | [d1, d2] => { results := [.lit (.bool false)], args := [d1, d2] }
  | _ => none }
def NumeralWordsWrongFalsely : Prop := numeralWordsRow.holds Tryd.pinned (OpenSpec.ofChange numeralWordsWrong)

/-- 'pentaglotlaw15.NumeralParse': WHATEVER THE INPUT: true; the input reads as it did. -/
def numeralParseSpec : ChangeSpec := { name := "numeralParse", fn := fun _ => fun
  | [d1, d2] => { results := [.lit (.bool true)], args := [d1, d2] }
  | _ => none }
def numeralParseRow : OpenClaim := { program := "ytdkoncfpkhapjaadoor", sum := "7094c55f9ad63dba3d52b9d74b4c076555340d27966d9488df88df8fc3b619fb", func := "pentaglot/pentaglotlaw15.NumeralParse", spec := "numeralParse", unfollowed := true, recurses := true, named := ["unicode/utf8.first", "unicode/utf8.acceptRanges"], apart := false, laid := [("unicode/utf8.acceptRanges", laid_unicode_utf8_acceptRanges), ("unicode/utf8.first", laid_unicode_utf8_first)] }
def NumeralParseSaid : Prop := numeralParseRow.holds Tryd.pinned (OpenSpec.ofChange numeralParseSpec)

/-- ITS FALSE NEIGHBOUR: 'it returns false'. Refute it at one input. -/
def numeralParseWrong : ChangeSpec := { name := "numeralParse", fn := fun _ => fun
  | [d1, d2] => { results := [.lit (.bool false)], args := [d1, d2] }
  | _ => none }
def NumeralParseWrongFalsely : Prop := numeralParseRow.holds Tryd.pinned (OpenSpec.ofChange numeralParseWrong)

/-- 'pentaglotlaw15.NumeralReadsBack': WHATEVER THE INPUT: true; the input reads as it did. -/
def numeralReadsBackSpec : ChangeSpec := { name := "numeralReadsBack", fn := fun _ => fun
  | [d1, d2] => { results := [.lit (.bool true)], args := [d1, d2] }
  | _ => none }
def numeralReadsBackRow : OpenClaim := { program := "ytdkoncfpkhapjaadoor", sum := "7094c55f9ad63dba3d52b9d74b4c076555340d27966d9488df88df8fc3b619fb", func := "pentaglot/pentaglotlaw15.NumeralReadsBack", spec := "numeralReadsBack", unfollowed := true, recurses := true, named := ["unicode/utf8.first", "unicode/utf8.acceptRanges"], apart := false, laid := [("unicode/utf8.acceptRanges", laid_unicode_utf8_acceptRanges), ("unicode/utf8.first", laid_unicode_utf8_first)] }
def NumeralReadsBackSaid : Prop := numeralReadsBackRow.holds Tryd.pinned (OpenSpec.ofChange numeralReadsBackSpec)

/-- ITS FALSE NEIGHBOUR: 'it returns false'. Refute it at one input. -/
def numeralReadsBackWrong : ChangeSpec := { name := "numeralReadsBack", fn := fun _ => fun
  | [d1, d2] => { results := [.lit (.bool false)], args := [d1, d2] }
  | _ => none }
def NumeralReadsBackWrongFalsely : Prop := numeralReadsBackRow.holds Tryd.pinned (OpenSpec.ofChange numeralReadsBackWrong)

/-- 'pentaglotlaw15.NumeralParts': WHATEVER THE INPUT: true; the input reads as it did. -/
def numeralPartsSpec : ChangeSpec := { name := "numeralParts", fn := fun _ => fun
  | [d1, d2] => { results := [.lit (.bool true)], args := [d1, d2] }
  | _ => none }
def numeralPartsRow : OpenClaim := { program := "ytdkoncfpkhapjaadoor", sum := "7094c55f9ad63dba3d52b9d74b4c076555340d27966d9488df88df8fc3b619fb", func := "pentaglot/pentaglotlaw15.NumeralParts", spec := "numeralParts", unfollowed := true, recurses := true, named := ["unicode/utf8.first", "unicode/utf8.acceptRanges"], apart := false, laid := [("unicode/utf8.acceptRanges", laid_unicode_utf8_acceptRanges), ("unicode/utf8.first", laid_unicode_utf8_first)] }
def NumeralPartsSaid : Prop := numeralPartsRow.holds Tryd.pinned (OpenSpec.ofChange numeralPartsSpec)

/-- ITS FALSE NEIGHBOUR: 'it returns false'. Refute it at one input. -/
def numeralPartsWrong : ChangeSpec := { name := "numeralParts", fn := fun _ => fun
  | [d1, d2] => { results := [.lit (.bool false)], args := [d1, d2] }
  | _ => none }
def NumeralPartsWrongFalsely : Prop := numeralPartsRow.holds Tryd.pinned (OpenSpec.ofChange numeralPartsWrong)

/-- 'pentaglotlaw15.NumeralSubtracts': WHATEVER THE INPUT: true; the input reads as it did. -/
def numeralSubtractsSpec : ChangeSpec := { name := "numeralSubtracts", fn := fun _ => fun
  | [d1, d2, d3, d4] => { results := [.lit (.bool true)], args := [d1, d2, d3, d4] }
  | _ => none }
def numeralSubtractsRow : OpenClaim := { program := "ytdkoncfpkhapjaadoor", sum := "7094c55f9ad63dba3d52b9d74b4c076555340d27966d9488df88df8fc3b619fb", func := "pentaglot/pentaglotlaw15.NumeralSubtracts", spec := "numeralSubtracts", unfollowed := true, recurses := true, named := ["unicode/utf8.first", "unicode/utf8.acceptRanges"], apart := false, laid := [("unicode/utf8.acceptRanges", laid_unicode_utf8_acceptRanges), ("unicode/utf8.first", laid_unicode_utf8_first)] }
def NumeralSubtractsSaid : Prop := numeralSubtractsRow.holds Tryd.pinned (OpenSpec.ofChange numeralSubtractsSpec)

/-- ITS FALSE NEIGHBOUR: 'it returns false'. Refute it at one input. -/
def numeralSubtractsWrong : ChangeSpec := { name := "numeralSubtracts", fn := fun _ => fun
  | [d1, d2, d3, d4] => { results := [.lit (.bool false)], args := [d1, d2, d3, d4] }
  | _ => none }
def NumeralSubtractsWrongFalsely : Prop := numeralSubtractsRow.holds Tryd.pinned (OpenSpec.ofChange numeralSubtractsWrong)

/-- 'pentaglotlaw15.NumeralLongest': WHATEVER THE INPUT: true; the input reads as it did. -/
def numeralLongestSpec : ChangeSpec := { name := "numeralLongest", fn := fun _ => fun
  | [d1, d2, d3] => { results := [.lit (.bool true)], args := [d1, d2, d3] }
  | _ => none }
def numeralLongestRow : OpenClaim := { program := "ytdkoncfpkhapjaadoor", sum := "7094c55f9ad63dba3d52b9d74b4c076555340d27966d9488df88df8fc3b619fb", func := "pentaglot/pentaglotlaw15.NumeralLongest", spec := "numeralLongest", unfollowed := true, recurses := true, named := ["unicode/utf8.first", "unicode/utf8.acceptRanges"], apart := false, laid := [("unicode/utf8.acceptRanges", laid_unicode_utf8_acceptRanges), ("unicode/utf8.first", laid_unicode_utf8_first)] }
def NumeralLongestSaid : Prop := numeralLongestRow.holds Tryd.pinned (OpenSpec.ofChange numeralLongestSpec)

/-- ITS FALSE NEIGHBOUR: 'it returns false'. Refute it at one input. -/
def numeralLongestWrong : ChangeSpec := { name := "numeralLongest", fn := fun _ => fun
  | [d1, d2, d3] => { results := [.lit (.bool false)], args := [d1, d2, d3] }
  | _ => none }
def NumeralLongestWrongFalsely : Prop := numeralLongestRow.holds Tryd.pinned (OpenSpec.ofChange numeralLongestWrong)

/-- 'pentaglotlaw15.NumeralVocabulary': WHATEVER THE INPUT: true; the input reads as it did. -/
def numeralVocabularySpec : ChangeSpec := { name := "numeralVocabulary", fn := fun _ => fun
  | [d1, d2] => { results := [.lit (.bool true)], args := [d1, d2] }
  | _ => none }
def numeralVocabularyRow : OpenClaim := { program := "ytdkoncfpkhapjaadoor", sum := "7094c55f9ad63dba3d52b9d74b4c076555340d27966d9488df88df8fc3b619fb", func := "pentaglot/pentaglotlaw15.NumeralVocabulary", spec := "numeralVocabulary", unfollowed := true, recurses := true, named := ["unicode/utf8.first", "unicode/utf8.acceptRanges"], apart := false, laid := [("unicode/utf8.acceptRanges", laid_unicode_utf8_acceptRanges), ("unicode/utf8.first", laid_unicode_utf8_first)] }
def NumeralVocabularySaid : Prop := numeralVocabularyRow.holds Tryd.pinned (OpenSpec.ofChange numeralVocabularySpec)

/-- ITS FALSE NEIGHBOUR: 'it returns false'. Refute it at one input. -/
def numeralVocabularyWrong : ChangeSpec := { name := "numeralVocabulary", fn := fun _ => fun
  | [d1, d2] => { results := [.lit (.bool false)], args := [d1, d2] }
  | _ => none }
def NumeralVocabularyWrongFalsely : Prop := numeralVocabularyRow.holds Tryd.pinned (OpenSpec.ofChange numeralVocabularyWrong)

/-- 'pentaglotlaw15.NumeralClash': WHATEVER THE INPUT: true; the input reads as it did. -/
def numeralClashSpec : ChangeSpec := { name := "numeralClash", fn := fun _ => fun
  | [d1, d2] => { results := [.lit (.bool true)], args := [d1, d2] }
  | _ => none }
def numeralClashRow : OpenClaim := { program := "ytdkoncfpkhapjaadoor", sum := "7094c55f9ad63dba3d52b9d74b4c076555340d27966d9488df88df8fc3b619fb", func := "pentaglot/pentaglotlaw15.NumeralClash", spec := "numeralClash", inPlace := ["internal/abi.NoEscape", "internal/bytealg.MakeNoZero"], unfollowed := true, recurses := true, named := ["unicode/utf8.first", "unicode/utf8.acceptRanges"], apart := false, laid := [("unicode/utf8.acceptRanges", laid_unicode_utf8_acceptRanges), ("unicode/utf8.first", laid_unicode_utf8_first)] }
def NumeralClashSaid : Prop := numeralClashRow.holds Tryd.pinned (OpenSpec.ofChange numeralClashSpec)

/-- ITS FALSE NEIGHBOUR: 'it returns false'. Refute it at one input. -/
def numeralClashWrong : ChangeSpec := { name := "numeralClash", fn := fun _ => fun
  | [d1, d2] => { results := [.lit (.bool false)], args := [d1, d2] }
  | _ => none }
def NumeralClashWrongFalsely : Prop := numeralClashRow.holds Tryd.pinned (OpenSpec.ofChange numeralClashWrong)

/-- 'pentaglotlaw15.NumeralUnique': WHATEVER THE INPUT: true; the input reads as it did. -/
def numeralUniqueSpec : ChangeSpec := { name := "numeralUnique", fn := fun _ => fun
  | [d1, d2, d3] => { results := [.lit (.bool true)], args := [d1, d2, d3] }
  | _ => none }
def numeralUniqueRow : OpenClaim := { program := "ytdkoncfpkhapjaadoor", sum := "7094c55f9ad63dba3d52b9d74b4c076555340d27966d9488df88df8fc3b619fb", func := "pentaglot/pentaglotlaw15.NumeralUnique", spec := "numeralUnique", inPlace := ["internal/abi.NoEscape", "internal/bytealg.MakeNoZero"], unfollowed := true, recurses := true, named := ["unicode/utf8.first", "unicode/utf8.acceptRanges"], apart := false, laid := [("unicode/utf8.acceptRanges", laid_unicode_utf8_acceptRanges), ("unicode/utf8.first", laid_unicode_utf8_first)] }
def NumeralUniqueSaid : Prop := numeralUniqueRow.holds Tryd.pinned (OpenSpec.ofChange numeralUniqueSpec)

/-- ITS FALSE NEIGHBOUR: 'it returns false'. Refute it at one input. -/
def numeralUniqueWrong : ChangeSpec := { name := "numeralUnique", fn := fun _ => fun
  | [d1, d2, d3] => { results := [.lit (.bool false)], args := [d1, d2, d3] }
  | _ => none }
def NumeralUniqueWrongFalsely : Prop := numeralUniqueRow.holds Tryd.pinned (OpenSpec.ofChange numeralUniqueWrong)

/-- 'pentaglotlaw15.NumeralValid': WHATEVER THE INPUT: true; the input reads as it did. -/
def numeralValidSpec : ChangeSpec := { name := "numeralValid", fn := fun _ => fun
  | [d1, d2] => { results := [.lit (.bool true)], args := [d1, d2] }
  | _ => none }
def numeralValidRow : OpenClaim := { program := "ytdkoncfpkhapjaadoor", sum := "7094c55f9ad63dba3d52b9d74b4c076555340d27966d9488df88df8fc3b619fb", func := "pentaglot/pentaglotlaw15.NumeralValid", spec := "numeralValid", inPlace := ["internal/abi.NoEscape", "internal/bytealg.MakeNoZero"], unfollowed := true, recurses := true, named := ["unicode/utf8.first", "unicode/utf8.acceptRanges"], apart := false, laid := [("unicode/utf8.acceptRanges", laid_unicode_utf8_acceptRanges), ("unicode/utf8.first", laid_unicode_utf8_first)] }
def NumeralValidSaid : Prop := numeralValidRow.holds Tryd.pinned (OpenSpec.ofChange numeralValidSpec)

/-- ITS FALSE NEIGHBOUR: 'it returns false'. Refute it at one input. -/
def numeralValidWrong : ChangeSpec := { name := "numeralValid", fn := fun _ => fun
  | [d1, d2] => { results := [.lit (.bool false)], args := [d1, d2] }
  | _ => none }
def NumeralValidWrongFalsely : Prop := numeralValidRow.holds Tryd.pinned (OpenSpec.ofChange numeralValidWrong)

/- THE SECOND FORM. 'bulk': how many values and letters a reading holds, each counted each time it is reached (what is shared counts as often as it is met; a slice's spare places count too). A statement '..UptoSaid' is the law's where the arguments, and the package variables that the reading takes, are together of bulk at most 1048576: NARROWER than '..Said'. Prove '..Said' where nothing that the law and all that it calls make is longer than what came in: it says more and counts as full. Else prove '..UptoSaid'. A law counts once. -/
mutual
def uptoBulk {H : Type} : DataW H → Nat
  | .lit (.string bytes) => bytes.length + 1
  | .lit _ => 1
  | .nil => 1
  | .ptr d => uptoBulk d + 1
  | .slice elems spare => uptoBulkAll elems + uptoBulkAll spare + 1
  | .agg parts => uptoBulkAll parts + 1
  | .iface _ d => uptoBulk d + 1
  | .map entries => uptoBulkEntries entries + 1
  | .held _ => 1
def uptoBulkAll {H : Type} : List (DataW H) → Nat
  | [] => 0
  | d :: r => uptoBulk d + uptoBulkAll r
def uptoBulkEntries {H : Type} : List (Lit × DataW H) → Nat
  | [] => 0
  | x :: r => uptoBulkEntry x + uptoBulkEntries r
def uptoBulkEntry {H : Type} : Lit × DataW H → Nat
  | (.string bytes, d) => bytes.length + uptoBulk d + 1
  | (_, d) => uptoBulk d + 1
 end
def uptoSmall : (H : Type) → List (DataW H) → Bool := fun _ ds => decide (uptoBulkAll ds ≤ 1048576)
def OpenSpec.upto (s : _root_.Go.ChangeSpec) : _root_.Go.OpenSpec := { _root_.Go.OpenSpec.ofChange s with cond := some uptoSmall }

/-- 'pentaglotlaw15.NumeralWords', WHERE WHAT IT READS IS OF BULK AT MOST 1048576: true; the input reads as it did. -/
def numeralWordsUptoRow : OpenClaim := { program := "ytdkoncfpkhapjaadoor", sum := "7094c55f9ad63dba3d52b9d74b4c076555340d27966d9488df88df8fc3b619fb", func := "pentaglot/pentaglotlaw15.NumeralWords", spec := "numeralWords", unfollowed := true, recurses := true, named := ["unicode/utf8.first", "unicode/utf8.acceptRanges"], apart := false, laid := [("unicode/utf8.acceptRanges", laid_unicode_utf8_acceptRanges), ("unicode/utf8.first", laid_unicode_utf8_first)], narrowed := true }
def NumeralWordsUptoSaid : Prop := numeralWordsUptoRow.holds Tryd.pinned (OpenSpec.upto numeralWordsSpec)

/-- 'pentaglotlaw15.NumeralParse', WHERE WHAT IT READS IS OF BULK AT MOST 1048576: true; the input reads as it did. -/
def numeralParseUptoRow : OpenClaim := { program := "ytdkoncfpkhapjaadoor", sum := "7094c55f9ad63dba3d52b9d74b4c076555340d27966d9488df88df8fc3b619fb", func := "pentaglot/pentaglotlaw15.NumeralParse", spec := "numeralParse", unfollowed := true, recurses := true, named := ["unicode/utf8.first", "unicode/utf8.acceptRanges"], apart := false, laid := [("unicode/utf8.acceptRanges", laid_unicode_utf8_acceptRanges), ("unicode/utf8.first", laid_unicode_utf8_first)], narrowed := true }
def NumeralParseUptoSaid : Prop := numeralParseUptoRow.holds Tryd.pinned (OpenSpec.upto numeralParseSpec)

/-- 'pentaglotlaw15.NumeralReadsBack', WHERE WHAT IT READS IS OF BULK AT MOST 1048576: true; the input reads as it did. -/
def numeralReadsBackUptoRow : OpenClaim := { program := "ytdkoncfpkhapjaadoor", sum := "7094c55f9ad63dba3d52b9d74b4c076555340d27966d9488df88df8fc3b619fb", func := "pentaglot/pentaglotlaw15.NumeralReadsBack", spec := "numeralReadsBack", unfollowed := true, recurses := true, named := ["unicode/utf8.first", "unicode/utf8.acceptRanges"], apart := false, laid := [("unicode/utf8.acceptRanges", laid_unicode_utf8_acceptRanges), ("unicode/utf8.first", laid_unicode_utf8_first)], narrowed := true }
def NumeralReadsBackUptoSaid : Prop := numeralReadsBackUptoRow.holds Tryd.pinned (OpenSpec.upto numeralReadsBackSpec)

/-- 'pentaglotlaw15.NumeralParts', WHERE WHAT IT READS IS OF BULK AT MOST 1048576: true; the input reads as it did. -/
def numeralPartsUptoRow : OpenClaim := { program := "ytdkoncfpkhapjaadoor", sum := "7094c55f9ad63dba3d52b9d74b4c076555340d27966d9488df88df8fc3b619fb", func := "pentaglot/pentaglotlaw15.NumeralParts", spec := "numeralParts", unfollowed := true, recurses := true, named := ["unicode/utf8.first", "unicode/utf8.acceptRanges"], apart := false, laid := [("unicode/utf8.acceptRanges", laid_unicode_utf8_acceptRanges), ("unicode/utf8.first", laid_unicode_utf8_first)], narrowed := true }
def NumeralPartsUptoSaid : Prop := numeralPartsUptoRow.holds Tryd.pinned (OpenSpec.upto numeralPartsSpec)

/-- 'pentaglotlaw15.NumeralSubtracts', WHERE WHAT IT READS IS OF BULK AT MOST 1048576: true; the input reads as it did. -/
def numeralSubtractsUptoRow : OpenClaim := { program := "ytdkoncfpkhapjaadoor", sum := "7094c55f9ad63dba3d52b9d74b4c076555340d27966d9488df88df8fc3b619fb", func := "pentaglot/pentaglotlaw15.NumeralSubtracts", spec := "numeralSubtracts", unfollowed := true, recurses := true, named := ["unicode/utf8.first", "unicode/utf8.acceptRanges"], apart := false, laid := [("unicode/utf8.acceptRanges", laid_unicode_utf8_acceptRanges), ("unicode/utf8.first", laid_unicode_utf8_first)], narrowed := true }
def NumeralSubtractsUptoSaid : Prop := numeralSubtractsUptoRow.holds Tryd.pinned (OpenSpec.upto numeralSubtractsSpec)

/-- 'pentaglotlaw15.NumeralLongest', WHERE WHAT IT READS IS OF BULK AT MOST 1048576: true; the input reads as it did. -/
def numeralLongestUptoRow : OpenClaim := { program := "ytdkoncfpkhapjaadoor", sum := "7094c55f9ad63dba3d52b9d74b4c076555340d27966d9488df88df8fc3b619fb", func := "pentaglot/pentaglotlaw15.NumeralLongest", spec := "numeralLongest", unfollowed := true, recurses := true, named := ["unicode/utf8.first", "unicode/utf8.acceptRanges"], apart := false, laid := [("unicode/utf8.acceptRanges", laid_unicode_utf8_acceptRanges), ("unicode/utf8.first", laid_unicode_utf8_first)], narrowed := true }
def NumeralLongestUptoSaid : Prop := numeralLongestUptoRow.holds Tryd.pinned (OpenSpec.upto numeralLongestSpec)

/-- 'pentaglotlaw15.NumeralVocabulary', WHERE WHAT IT READS IS OF BULK AT MOST 1048576: true; the input reads as it did. -/
def numeralVocabularyUptoRow : OpenClaim := { program := "ytdkoncfpkhapjaadoor", sum := "7094c55f9ad63dba3d52b9d74b4c076555340d27966d9488df88df8fc3b619fb", func := "pentaglot/pentaglotlaw15.NumeralVocabulary", spec := "numeralVocabulary", unfollowed := true, recurses := true, named := ["unicode/utf8.first", "unicode/utf8.acceptRanges"], apart := false, laid := [("unicode/utf8.acceptRanges", laid_unicode_utf8_acceptRanges), ("unicode/utf8.first", laid_unicode_utf8_first)], narrowed := true }
def NumeralVocabularyUptoSaid : Prop := numeralVocabularyUptoRow.holds Tryd.pinned (OpenSpec.upto numeralVocabularySpec)

/-- 'pentaglotlaw15.NumeralClash', WHERE WHAT IT READS IS OF BULK AT MOST 1048576: true; the input reads as it did. -/
def numeralClashUptoRow : OpenClaim := { program := "ytdkoncfpkhapjaadoor", sum := "7094c55f9ad63dba3d52b9d74b4c076555340d27966d9488df88df8fc3b619fb", func := "pentaglot/pentaglotlaw15.NumeralClash", spec := "numeralClash", inPlace := ["internal/abi.NoEscape", "internal/bytealg.MakeNoZero"], unfollowed := true, recurses := true, named := ["unicode/utf8.first", "unicode/utf8.acceptRanges"], apart := false, laid := [("unicode/utf8.acceptRanges", laid_unicode_utf8_acceptRanges), ("unicode/utf8.first", laid_unicode_utf8_first)], narrowed := true }
def NumeralClashUptoSaid : Prop := numeralClashUptoRow.holds Tryd.pinned (OpenSpec.upto numeralClashSpec)

/-- 'pentaglotlaw15.NumeralUnique', WHERE WHAT IT READS IS OF BULK AT MOST 1048576: true; the input reads as it did. -/
def numeralUniqueUptoRow : OpenClaim := { program := "ytdkoncfpkhapjaadoor", sum := "7094c55f9ad63dba3d52b9d74b4c076555340d27966d9488df88df8fc3b619fb", func := "pentaglot/pentaglotlaw15.NumeralUnique", spec := "numeralUnique", inPlace := ["internal/abi.NoEscape", "internal/bytealg.MakeNoZero"], unfollowed := true, recurses := true, named := ["unicode/utf8.first", "unicode/utf8.acceptRanges"], apart := false, laid := [("unicode/utf8.acceptRanges", laid_unicode_utf8_acceptRanges), ("unicode/utf8.first", laid_unicode_utf8_first)], narrowed := true }
def NumeralUniqueUptoSaid : Prop := numeralUniqueUptoRow.holds Tryd.pinned (OpenSpec.upto numeralUniqueSpec)

/-- 'pentaglotlaw15.NumeralValid', WHERE WHAT IT READS IS OF BULK AT MOST 1048576: true; the input reads as it did. -/
def numeralValidUptoRow : OpenClaim := { program := "ytdkoncfpkhapjaadoor", sum := "7094c55f9ad63dba3d52b9d74b4c076555340d27966d9488df88df8fc3b619fb", func := "pentaglot/pentaglotlaw15.NumeralValid", spec := "numeralValid", inPlace := ["internal/abi.NoEscape", "internal/bytealg.MakeNoZero"], unfollowed := true, recurses := true, named := ["unicode/utf8.first", "unicode/utf8.acceptRanges"], apart := false, laid := [("unicode/utf8.acceptRanges", laid_unicode_utf8_acceptRanges), ("unicode/utf8.first", laid_unicode_utf8_first)], narrowed := true }
def NumeralValidUptoSaid : Prop := numeralValidUptoRow.holds Tryd.pinned (OpenSpec.upto numeralValidSpec)

end Rows
end Go.Proofs.YtdkoncfpkhapjaaDoor
