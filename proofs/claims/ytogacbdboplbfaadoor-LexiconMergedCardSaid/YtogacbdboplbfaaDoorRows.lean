/-
  NARROWER THAN 'FOR EVERY INPUT', by the rows' own cells (each row's printed sentence says how): LexiconCategories: laid · LexiconHomonyms: laid · LexiconLine: laid · LexiconParse: laid · LexiconInverts: laid · LexiconFind: laid · LexiconNarrows: laid · LexiconSelects: laid · LexiconMerge: laid · LexiconOwn: laid · LexiconMerged: laid.
  DERIVED. THE GIVEN ROWS OF THIS SEAT. 11 by the template 'for every input the law returns true; each argument reads behind the call as it read before'; 0 by the template 'total and deterministic' (their statements: YtogacbdboplbfaaDoorTotals.lean).
  GIVEN WITH THE SEED: the statements are not yours to turn. If you find one false, say at which input.
  Laid BY PROGRAM, IN A SANDBOX (cutbox-rows.mjs): the forced cells as the released guide's own fill.sh prints them over the translation 3673b6ed67f0b02e… (all of the seat's roots in one cut). By AI agents, Wed Nov 11 2026. No macro, syntax, notation, axiom, sorry.
-/
import Derived.Test.YtogacbdboplbfaaDoorChecked
import GoSem.PinnedTables
import GoSem.Claim
import GoSem.ClaimJoined
import GoSem.ClaimMapViews
import Derived.JoinedTies
import Derived.KernelRfl
namespace Go.Proofs.YtogacbdboplbfaaDoor
/- THE CELL 'sum', in the pinned program and in every row, IS THE sha256 OF THE DUMP (.gsa) THAT YtogacbdboplbfaaDoorProg.lean LOADS. Nothing in Lean hashes anything: it is a label: what it is worth is what the hold of that sum in a sandbox is worth. -/
noncomputable def Tryd.pinned : Pinned := { name := "ytogacbdboplbfaadoor", sum := "3673b6ed67f0b02e82e9aceb2e41a35e566e25e233f2026853285b51da7cc8a8", checked := Tryd.checked }
namespace Rows
def none {H : Type} : Left H := { results := [], args := [] }

/- WHAT THE LISTED PACKAGE-LEVEL VARIABLES READ AS WHEN THE CALL BEGINS. Each datum BY PROGRAM (the guide's laid-datum.mjs) off the statement by which the dump's own 'gosem.cut.vars' lays the variable. In a bare row this is a premise. The card (YtogacbdboplbfaaDoorCards.lean) ties it to the program's text. -/
def laid_unicode_utf8_acceptRanges {H : Type} : DataW H := .agg [.agg [.lit (.int .u8 128), .lit (.int .u8 191)], .agg [.lit (.int .u8 160), .lit (.int .u8 191)], .agg [.lit (.int .u8 128), .lit (.int .u8 159)], .agg [.lit (.int .u8 144), .lit (.int .u8 191)], .agg [.lit (.int .u8 128), .lit (.int .u8 143)], .agg [.lit (.int .u8 0), .lit (.int .u8 0)], .agg [.lit (.int .u8 0), .lit (.int .u8 0)], .agg [.lit (.int .u8 0), .lit (.int .u8 0)], .agg [.lit (.int .u8 0), .lit (.int .u8 0)], .agg [.lit (.int .u8 0), .lit (.int .u8 0)], .agg [.lit (.int .u8 0), .lit (.int .u8 0)], .agg [.lit (.int .u8 0), .lit (.int .u8 0)], .agg [.lit (.int .u8 0), .lit (.int .u8 0)], .agg [.lit (.int .u8 0), .lit (.int .u8 0)], .agg [.lit (.int .u8 0), .lit (.int .u8 0)], .agg [.lit (.int .u8 0), .lit (.int .u8 0)]]
/-- One of Go's own tables, pinned by name: the form's constant. -/
def laid_unicode_utf8_first : DataW Unit := Go.Pinned.utf8First

/-- 'pentaglotlaw09.LexiconCategories': WHATEVER THE INPUT: true; the input reads as it did. -/
def lexiconCategoriesSpec : ChangeSpec := { name := "lexiconCategories", fn := fun _ => fun
  | [d] => { results := [.lit (.bool true)], args := [d] }
  | _ => none }
def lexiconCategoriesRow : OpenClaim := { program := "ytogacbdboplbfaadoor", sum := "3673b6ed67f0b02e82e9aceb2e41a35e566e25e233f2026853285b51da7cc8a8", func := "pentaglot/pentaglotlaw09.LexiconCategories", spec := "lexiconCategories", inPlace := ["internal/bytealg.CountString", "internal/bytealg.IndexByteString", "internal/bytealg.IndexString", "internal/abi.NoEscape", "internal/bytealg.MakeNoZero"], unfollowed := true, recurses := true, named := ["unicode/utf8.first", "unicode/utf8.acceptRanges", "internal/bytealg.MaxLen"], apart := false, laid := [("unicode/utf8.acceptRanges", laid_unicode_utf8_acceptRanges), ("unicode/utf8.first", laid_unicode_utf8_first)] }
def LexiconCategoriesSaid : Prop := lexiconCategoriesRow.holds Tryd.pinned (OpenSpec.ofChange lexiconCategoriesSpec)

/-- ITS FALSE NEIGHBOUR: 'it returns false'. Refute it at one input. -/
def lexiconCategoriesWrong : ChangeSpec := { name := "lexiconCategories", fn := fun _ => fun
  | [d] => { results := [.lit (.bool false)], args := [d] }
  | _ => none }
def LexiconCategoriesWrongFalsely : Prop := lexiconCategoriesRow.holds Tryd.pinned (OpenSpec.ofChange lexiconCategoriesWrong)

/-- 'pentaglotlaw09.LexiconHomonyms': WHATEVER THE INPUT: true; the input reads as it did. -/
def lexiconHomonymsSpec : ChangeSpec := { name := "lexiconHomonyms", fn := fun _ => fun
  | [d] => { results := [.lit (.bool true)], args := [d] }
  | _ => none }
def lexiconHomonymsRow : OpenClaim := { program := "ytogacbdboplbfaadoor", sum := "3673b6ed67f0b02e82e9aceb2e41a35e566e25e233f2026853285b51da7cc8a8", func := "pentaglot/pentaglotlaw09.LexiconHomonyms", spec := "lexiconHomonyms", inPlace := ["internal/bytealg.CountString", "internal/bytealg.IndexByteString", "internal/bytealg.IndexString", "internal/abi.NoEscape", "internal/bytealg.MakeNoZero"], unfollowed := true, recurses := true, named := ["unicode/utf8.first", "unicode/utf8.acceptRanges", "internal/bytealg.MaxLen"], apart := false, laid := [("unicode/utf8.acceptRanges", laid_unicode_utf8_acceptRanges), ("unicode/utf8.first", laid_unicode_utf8_first)] }
def LexiconHomonymsSaid : Prop := lexiconHomonymsRow.holds Tryd.pinned (OpenSpec.ofChange lexiconHomonymsSpec)

/-- ITS FALSE NEIGHBOUR: 'it returns false'. Refute it at one input. -/
def lexiconHomonymsWrong : ChangeSpec := { name := "lexiconHomonyms", fn := fun _ => fun
  | [d] => { results := [.lit (.bool false)], args := [d] }
  | _ => none }
def LexiconHomonymsWrongFalsely : Prop := lexiconHomonymsRow.holds Tryd.pinned (OpenSpec.ofChange lexiconHomonymsWrong)

/-- 'pentaglotlaw09.LexiconLine': WHATEVER THE INPUT: true; the input reads as it did. -/
def lexiconLineSpec : ChangeSpec := { name := "lexiconLine", fn := fun _ => fun
  | [d] => { results := [.lit (.bool true)], args := [d] }
  | _ => none }
def lexiconLineRow : OpenClaim := { program := "ytogacbdboplbfaadoor", sum := "3673b6ed67f0b02e82e9aceb2e41a35e566e25e233f2026853285b51da7cc8a8", func := "pentaglot/pentaglotlaw09.LexiconLine", spec := "lexiconLine", inPlace := ["internal/bytealg.CountString", "internal/bytealg.IndexByteString", "internal/bytealg.IndexString", "internal/abi.NoEscape", "internal/bytealg.MakeNoZero"], unfollowed := true, recurses := true, named := ["unicode/utf8.first", "unicode/utf8.acceptRanges", "internal/bytealg.MaxLen"], apart := false, laid := [("unicode/utf8.acceptRanges", laid_unicode_utf8_acceptRanges), ("unicode/utf8.first", laid_unicode_utf8_first)] }
def LexiconLineSaid : Prop := lexiconLineRow.holds Tryd.pinned (OpenSpec.ofChange lexiconLineSpec)

/-- ITS FALSE NEIGHBOUR: 'it returns false'. Refute it at one input. -/
def lexiconLineWrong : ChangeSpec := { name := "lexiconLine", fn := fun _ => fun
  | [d] => { results := [.lit (.bool false)], args := [d] }
  | _ => none }
def LexiconLineWrongFalsely : Prop := lexiconLineRow.holds Tryd.pinned (OpenSpec.ofChange lexiconLineWrong)

/-- 'pentaglotlaw09.LexiconParse': WHATEVER THE INPUT: true; the input reads as it did. -/
def lexiconParseSpec : ChangeSpec := { name := "lexiconParse", fn := fun _ => fun
  | [d] => { results := [.lit (.bool true)], args := [d] }
  | _ => none }
def lexiconParseRow : OpenClaim := { program := "ytogacbdboplbfaadoor", sum := "3673b6ed67f0b02e82e9aceb2e41a35e566e25e233f2026853285b51da7cc8a8", func := "pentaglot/pentaglotlaw09.LexiconParse", spec := "lexiconParse", inPlace := ["internal/bytealg.CountString", "internal/bytealg.IndexByteString", "internal/bytealg.IndexString", "internal/abi.NoEscape", "internal/bytealg.MakeNoZero"], unfollowed := true, recurses := true, named := ["unicode/utf8.first", "unicode/utf8.acceptRanges", "internal/bytealg.MaxLen"], apart := false, laid := [("unicode/utf8.acceptRanges", laid_unicode_utf8_acceptRanges), ("unicode/utf8.first", laid_unicode_utf8_first)] }
def LexiconParseSaid : Prop := lexiconParseRow.holds Tryd.pinned (OpenSpec.ofChange lexiconParseSpec)

/-- ITS FALSE NEIGHBOUR: 'it returns false'. Refute it at one input. -/
def lexiconParseWrong : ChangeSpec := { name := "lexiconParse", fn := fun _ => fun
  | [d] => { results := [.lit (.bool false)], args := [d] }
  | _ => none }
def LexiconParseWrongFalsely : Prop := lexiconParseRow.holds Tryd.pinned (OpenSpec.ofChange lexiconParseWrong)

/-- 'pentaglotlaw09.LexiconInverts': WHATEVER THE INPUT: true; the input reads as it did. -/
def lexiconInvertsSpec : ChangeSpec := { name := "lexiconInverts", fn := fun _ => fun
  | [d1, d2] => { results := [.lit (.bool true)], args := [d1, d2] }
  | _ => none }
def lexiconInvertsRow : OpenClaim := { program := "ytogacbdboplbfaadoor", sum := "3673b6ed67f0b02e82e9aceb2e41a35e566e25e233f2026853285b51da7cc8a8", func := "pentaglot/pentaglotlaw09.LexiconInverts", spec := "lexiconInverts", inPlace := ["internal/bytealg.CountString", "internal/bytealg.IndexByteString", "internal/bytealg.IndexString", "internal/abi.NoEscape", "internal/bytealg.MakeNoZero"], unfollowed := true, recurses := true, named := ["unicode/utf8.first", "unicode/utf8.acceptRanges", "internal/bytealg.MaxLen"], apart := false, laid := [("unicode/utf8.acceptRanges", laid_unicode_utf8_acceptRanges), ("unicode/utf8.first", laid_unicode_utf8_first)] }
def LexiconInvertsSaid : Prop := lexiconInvertsRow.holds Tryd.pinned (OpenSpec.ofChange lexiconInvertsSpec)

/-- ITS FALSE NEIGHBOUR: 'it returns false'. Refute it at one input. -/
def lexiconInvertsWrong : ChangeSpec := { name := "lexiconInverts", fn := fun _ => fun
  | [d1, d2] => { results := [.lit (.bool false)], args := [d1, d2] }
  | _ => none }
def LexiconInvertsWrongFalsely : Prop := lexiconInvertsRow.holds Tryd.pinned (OpenSpec.ofChange lexiconInvertsWrong)

/-- 'pentaglotlaw09.LexiconFind': WHATEVER THE INPUT: true; the input reads as it did. -/
def lexiconFindSpec : ChangeSpec := { name := "lexiconFind", fn := fun _ => fun
  | [d1, d2] => { results := [.lit (.bool true)], args := [d1, d2] }
  | _ => none }
def lexiconFindRow : OpenClaim := { program := "ytogacbdboplbfaadoor", sum := "3673b6ed67f0b02e82e9aceb2e41a35e566e25e233f2026853285b51da7cc8a8", func := "pentaglot/pentaglotlaw09.LexiconFind", spec := "lexiconFind", inPlace := ["internal/bytealg.CountString", "internal/bytealg.IndexByteString", "internal/bytealg.IndexString", "internal/abi.NoEscape", "internal/bytealg.MakeNoZero"], unfollowed := true, recurses := true, named := ["unicode/utf8.first", "unicode/utf8.acceptRanges", "internal/bytealg.MaxLen"], apart := false, laid := [("unicode/utf8.acceptRanges", laid_unicode_utf8_acceptRanges), ("unicode/utf8.first", laid_unicode_utf8_first)] }
def LexiconFindSaid : Prop := lexiconFindRow.holds Tryd.pinned (OpenSpec.ofChange lexiconFindSpec)

/-- ITS FALSE NEIGHBOUR: 'it returns false'. Refute it at one input. -/
def lexiconFindWrong : ChangeSpec := { name := "lexiconFind", fn := fun _ => fun
  | [d1, d2] => { results := [.lit (.bool false)], args := [d1, d2] }
  | _ => none }
def LexiconFindWrongFalsely : Prop := lexiconFindRow.holds Tryd.pinned (OpenSpec.ofChange lexiconFindWrong)

/-- 'pentaglotlaw09.LexiconNarrows': WHATEVER THE INPUT: true; the input reads as it did. -/
def lexiconNarrowsSpec : ChangeSpec := { name := "lexiconNarrows", fn := fun _ => fun
  | [d1, d2, d3] => { results := [.lit (.bool true)], args := [d1, d2, d3] }
  | _ => none }
def lexiconNarrowsRow : OpenClaim := { program := "ytogacbdboplbfaadoor", sum := "3673b6ed67f0b02e82e9aceb2e41a35e566e25e233f2026853285b51da7cc8a8", func := "pentaglot/pentaglotlaw09.LexiconNarrows", spec := "lexiconNarrows", inPlace := ["internal/bytealg.CountString", "internal/bytealg.IndexByteString", "internal/bytealg.IndexString", "internal/abi.NoEscape", "internal/bytealg.MakeNoZero"], unfollowed := true, recurses := true, named := ["unicode/utf8.first", "unicode/utf8.acceptRanges", "internal/bytealg.MaxLen"], apart := false, laid := [("unicode/utf8.acceptRanges", laid_unicode_utf8_acceptRanges), ("unicode/utf8.first", laid_unicode_utf8_first)] }
def LexiconNarrowsSaid : Prop := lexiconNarrowsRow.holds Tryd.pinned (OpenSpec.ofChange lexiconNarrowsSpec)

/-- ITS FALSE NEIGHBOUR: 'it returns false'. Refute it at one input. -/
def lexiconNarrowsWrong : ChangeSpec := { name := "lexiconNarrows", fn := fun _ => fun
  | [d1, d2, d3] => { results := [.lit (.bool false)], args := [d1, d2, d3] }
  | _ => none }
def LexiconNarrowsWrongFalsely : Prop := lexiconNarrowsRow.holds Tryd.pinned (OpenSpec.ofChange lexiconNarrowsWrong)

/-- 'pentaglotlaw09.LexiconSelects': WHATEVER THE INPUT: true; the input reads as it did. -/
def lexiconSelectsSpec : ChangeSpec := { name := "lexiconSelects", fn := fun _ => fun
  | [d1, d2, d3] => { results := [.lit (.bool true)], args := [d1, d2, d3] }
  | _ => none }
def lexiconSelectsRow : OpenClaim := { program := "ytogacbdboplbfaadoor", sum := "3673b6ed67f0b02e82e9aceb2e41a35e566e25e233f2026853285b51da7cc8a8", func := "pentaglot/pentaglotlaw09.LexiconSelects", spec := "lexiconSelects", inPlace := ["internal/bytealg.CountString", "internal/bytealg.IndexByteString", "internal/bytealg.IndexString", "internal/abi.NoEscape", "internal/bytealg.MakeNoZero"], unfollowed := true, recurses := true, named := ["unicode/utf8.first", "unicode/utf8.acceptRanges", "internal/bytealg.MaxLen"], apart := false, laid := [("unicode/utf8.acceptRanges", laid_unicode_utf8_acceptRanges), ("unicode/utf8.first", laid_unicode_utf8_first)] }
def LexiconSelectsSaid : Prop := lexiconSelectsRow.holds Tryd.pinned (OpenSpec.ofChange lexiconSelectsSpec)

/-- ITS FALSE NEIGHBOUR: 'it returns false'. Refute it at one input. -/
def lexiconSelectsWrong : ChangeSpec := { name := "lexiconSelects", fn := fun _ => fun
  | [d1, d2, d3] => { results := [.lit (.bool false)], args := [d1, d2, d3] }
  | _ => none }
def LexiconSelectsWrongFalsely : Prop := lexiconSelectsRow.holds Tryd.pinned (OpenSpec.ofChange lexiconSelectsWrong)

/-- 'pentaglotlaw09.LexiconMerge': WHATEVER THE INPUT: true; the input reads as it did. -/
def lexiconMergeSpec : ChangeSpec := { name := "lexiconMerge", fn := fun _ => fun
  | [d1, d2] => { results := [.lit (.bool true)], args := [d1, d2] }
  | _ => none }
def lexiconMergeRow : OpenClaim := { program := "ytogacbdboplbfaadoor", sum := "3673b6ed67f0b02e82e9aceb2e41a35e566e25e233f2026853285b51da7cc8a8", func := "pentaglot/pentaglotlaw09.LexiconMerge", spec := "lexiconMerge", inPlace := ["internal/bytealg.CountString", "internal/bytealg.IndexByteString", "internal/bytealg.IndexString", "internal/abi.NoEscape", "internal/bytealg.MakeNoZero"], unfollowed := true, recurses := true, named := ["unicode/utf8.first", "unicode/utf8.acceptRanges", "internal/bytealg.MaxLen"], apart := false, laid := [("unicode/utf8.acceptRanges", laid_unicode_utf8_acceptRanges), ("unicode/utf8.first", laid_unicode_utf8_first)] }
def LexiconMergeSaid : Prop := lexiconMergeRow.holds Tryd.pinned (OpenSpec.ofChange lexiconMergeSpec)

/-- ITS FALSE NEIGHBOUR: 'it returns false'. Refute it at one input. -/
def lexiconMergeWrong : ChangeSpec := { name := "lexiconMerge", fn := fun _ => fun
  | [d1, d2] => { results := [.lit (.bool false)], args := [d1, d2] }
  | _ => none }
def LexiconMergeWrongFalsely : Prop := lexiconMergeRow.holds Tryd.pinned (OpenSpec.ofChange lexiconMergeWrong)

/-- 'pentaglotlaw09.LexiconOwn': WHATEVER THE INPUT: true; the input reads as it did. -/
def lexiconOwnSpec : ChangeSpec := { name := "lexiconOwn", fn := fun _ => fun
  | [d1, d2, d3] => { results := [.lit (.bool true)], args := [d1, d2, d3] }
  | _ => none }
def lexiconOwnRow : OpenClaim := { program := "ytogacbdboplbfaadoor", sum := "3673b6ed67f0b02e82e9aceb2e41a35e566e25e233f2026853285b51da7cc8a8", func := "pentaglot/pentaglotlaw09.LexiconOwn", spec := "lexiconOwn", inPlace := ["internal/bytealg.CountString", "internal/bytealg.IndexByteString", "internal/bytealg.IndexString", "internal/abi.NoEscape", "internal/bytealg.MakeNoZero"], unfollowed := true, recurses := true, named := ["unicode/utf8.first", "unicode/utf8.acceptRanges", "internal/bytealg.MaxLen"], apart := false, laid := [("unicode/utf8.acceptRanges", laid_unicode_utf8_acceptRanges), ("unicode/utf8.first", laid_unicode_utf8_first)] }
def LexiconOwnSaid : Prop := lexiconOwnRow.holds Tryd.pinned (OpenSpec.ofChange lexiconOwnSpec)

/-- ITS FALSE NEIGHBOUR: 'it returns false'. Refute it at one input. -/
def lexiconOwnWrong : ChangeSpec := { name := "lexiconOwn", fn := fun _ => fun
  | [d1, d2, d3] => { results := [.lit (.bool false)], args := [d1, d2, d3] }
  | _ => none }
def LexiconOwnWrongFalsely : Prop := lexiconOwnRow.holds Tryd.pinned (OpenSpec.ofChange lexiconOwnWrong)

/-- 'pentaglotlaw09.LexiconMerged': WHATEVER THE INPUT: true; the input reads as it did. -/
def lexiconMergedSpec : ChangeSpec := { name := "lexiconMerged", fn := fun _ => fun
  | [d1, d2, d3, d4] => { results := [.lit (.bool true)], args := [d1, d2, d3, d4] }
  | _ => none }
def lexiconMergedRow : OpenClaim := { program := "ytogacbdboplbfaadoor", sum := "3673b6ed67f0b02e82e9aceb2e41a35e566e25e233f2026853285b51da7cc8a8", func := "pentaglot/pentaglotlaw09.LexiconMerged", spec := "lexiconMerged", inPlace := ["internal/bytealg.CountString", "internal/bytealg.IndexByteString", "internal/bytealg.IndexString", "internal/abi.NoEscape", "internal/bytealg.MakeNoZero"], unfollowed := true, recurses := true, named := ["unicode/utf8.first", "unicode/utf8.acceptRanges", "internal/bytealg.MaxLen"], apart := false, laid := [("unicode/utf8.acceptRanges", laid_unicode_utf8_acceptRanges), ("unicode/utf8.first", laid_unicode_utf8_first)] }
def LexiconMergedSaid : Prop := lexiconMergedRow.holds Tryd.pinned (OpenSpec.ofChange lexiconMergedSpec)

/-- ITS FALSE NEIGHBOUR: 'it returns false'. Refute it at one input. -/
def lexiconMergedWrong : ChangeSpec := { name := "lexiconMerged", fn := fun _ => fun
  | [d1, d2, d3, d4] => { results := [.lit (.bool false)], args := [d1, d2, d3, d4] }
  | _ => none }
def LexiconMergedWrongFalsely : Prop := lexiconMergedRow.holds Tryd.pinned (OpenSpec.ofChange lexiconMergedWrong)

/- THE SECOND FORM. 'bulk': how many values and letters a reading holds, each counted each time it is reached (what is shared counts as often as it is met; a slice's spare places count too). A statement '..UptoSaid' is the law's where the arguments, and the package variables that the reading takes, are together of bulk at most 1048576: NARROWER than '..Said'. Prove '..Said' where nothing that the law and all that it calls make is longer than what came in: it says more and counts as full. Else prove '..UptoSaid'. A law counts once. -/
mutual
def uptoBulk {H : Type} : DataW H → Nat
  | .lit (.string bytes) => bytes.length + 1
  | .lit _ => 1
  | .nil => 1
  | .ptr d => uptoBulk d + 1
  | .slice elems spare => uptoBulkAll elems + uptoBulkAll spare + 1
  | .agg parts => uptoBulkAll parts + 1
  | .iface _ d => uptoBulk d + 1
  | .map entries => uptoBulkEntries entries + 1
  | .held _ => 1
def uptoBulkAll {H : Type} : List (DataW H) → Nat
  | [] => 0
  | d :: r => uptoBulk d + uptoBulkAll r
def uptoBulkEntries {H : Type} : List (Lit × DataW H) → Nat
  | [] => 0
  | x :: r => uptoBulkEntry x + uptoBulkEntries r
def uptoBulkEntry {H : Type} : Lit × DataW H → Nat
  | (.string bytes, d) => bytes.length + uptoBulk d + 1
  | (_, d) => uptoBulk d + 1
 end
def uptoSmall : (H : Type) → List (DataW H) → Bool := fun _ ds => decide (uptoBulkAll ds ≤ 1048576)
def OpenSpec.upto (s : _root_.Go.ChangeSpec) : _root_.Go.OpenSpec := { _root_.Go.OpenSpec.ofChange s with cond := some uptoSmall }

/-- 'pentaglotlaw09.LexiconCategories', WHERE WHAT IT READS IS OF BULK AT MOST 1048576: true; the input reads as it did. -/
def lexiconCategoriesUptoRow : OpenClaim := { program := "ytogacbdboplbfaadoor", sum := "3673b6ed67f0b02e82e9aceb2e41a35e566e25e233f2026853285b51da7cc8a8", func := "pentaglot/pentaglotlaw09.LexiconCategories", spec := "lexiconCategories", inPlace := ["internal/bytealg.CountString", "internal/bytealg.IndexByteString", "internal/bytealg.IndexString", "internal/abi.NoEscape", "internal/bytealg.MakeNoZero"], unfollowed := true, recurses := true, named := ["unicode/utf8.first", "unicode/utf8.acceptRanges", "internal/bytealg.MaxLen"], apart := false, laid := [("unicode/utf8.acceptRanges", laid_unicode_utf8_acceptRanges), ("unicode/utf8.first", laid_unicode_utf8_first)], narrowed := true }
def LexiconCategoriesUptoSaid : Prop := lexiconCategoriesUptoRow.holds Tryd.pinned (OpenSpec.upto lexiconCategoriesSpec)

/-- 'pentaglotlaw09.LexiconHomonyms', WHERE WHAT IT READS IS OF BULK AT MOST 1048576: true; the input reads as it did. -/
def lexiconHomonymsUptoRow : OpenClaim := { program := "ytogacbdboplbfaadoor", sum := "3673b6ed67f0b02e82e9aceb2e41a35e566e25e233f2026853285b51da7cc8a8", func := "pentaglot/pentaglotlaw09.LexiconHomonyms", spec := "lexiconHomonyms", inPlace := ["internal/bytealg.CountString", "internal/bytealg.IndexByteString", "internal/bytealg.IndexString", "internal/abi.NoEscape", "internal/bytealg.MakeNoZero"], unfollowed := true, recurses := true, named := ["unicode/utf8.first", "unicode/utf8.acceptRanges", "internal/bytealg.MaxLen"], apart := false, laid := [("unicode/utf8.acceptRanges", laid_unicode_utf8_acceptRanges), ("unicode/utf8.first", laid_unicode_utf8_first)], narrowed := true }
def LexiconHomonymsUptoSaid : Prop := lexiconHomonymsUptoRow.holds Tryd.pinned (OpenSpec.upto lexiconHomonymsSpec)

/-- 'pentaglotlaw09.LexiconLine', WHERE WHAT IT READS IS OF BULK AT MOST 1048576: true; the input reads as it did. -/
def lexiconLineUptoRow : OpenClaim := { program := "ytogacbdboplbfaadoor", sum := "3673b6ed67f0b02e82e9aceb2e41a35e566e25e233f2026853285b51da7cc8a8", func := "pentaglot/pentaglotlaw09.LexiconLine", spec := "lexiconLine", inPlace := ["internal/bytealg.CountString", "internal/bytealg.IndexByteString", "internal/bytealg.IndexString", "internal/abi.NoEscape", "internal/bytealg.MakeNoZero"], unfollowed := true, recurses := true, named := ["unicode/utf8.first", "unicode/utf8.acceptRanges", "internal/bytealg.MaxLen"], apart := false, laid := [("unicode/utf8.acceptRanges", laid_unicode_utf8_acceptRanges), ("unicode/utf8.first", laid_unicode_utf8_first)], narrowed := true }
def LexiconLineUptoSaid : Prop := lexiconLineUptoRow.holds Tryd.pinned (OpenSpec.upto lexiconLineSpec)

/-- 'pentaglotlaw09.LexiconParse', WHERE WHAT IT READS IS OF BULK AT MOST 1048576: true; the input reads as it did. -/
def lexiconParseUptoRow : OpenClaim := { program := "ytogacbdboplbfaadoor", sum := "3673b6ed67f0b02e82e9aceb2e41a35e566e25e233f2026853285b51da7cc8a8", func := "pentaglot/pentaglotlaw09.LexiconParse", spec := "lexiconParse", inPlace := ["internal/bytealg.CountString", "internal/bytealg.IndexByteString", "internal/bytealg.IndexString", "internal/abi.NoEscape", "internal/bytealg.MakeNoZero"], unfollowed := true, recurses := true, named := ["unicode/utf8.first", "unicode/utf8.acceptRanges", "internal/bytealg.MaxLen"], apart := false, laid := [("unicode/utf8.acceptRanges", laid_unicode_utf8_acceptRanges), ("unicode/utf8.first", laid_unicode_utf8_first)], narrowed := true }
def LexiconParseUptoSaid : Prop := lexiconParseUptoRow.holds Tryd.pinned (OpenSpec.upto lexiconParseSpec)

/-- 'pentaglotlaw09.LexiconInverts', WHERE WHAT IT READS IS OF BULK AT MOST 1048576: true; the input reads as it did. -/
def lexiconInvertsUptoRow : OpenClaim := { program := "ytogacbdboplbfaadoor", sum := "3673b6ed67f0b02e82e9aceb2e41a35e566e25e233f2026853285b51da7cc8a8", func := "pentaglot/pentaglotlaw09.LexiconInverts", spec := "lexiconInverts", inPlace := ["internal/bytealg.CountString", "internal/bytealg.IndexByteString", "internal/bytealg.IndexString", "internal/abi.NoEscape", "internal/bytealg.MakeNoZero"], unfollowed := true, recurses := true, named := ["unicode/utf8.first", "unicode/utf8.acceptRanges", "internal/bytealg.MaxLen"], apart := false, laid := [("unicode/utf8.acceptRanges", laid_unicode_utf8_acceptRanges), ("unicode/utf8.first", laid_unicode_utf8_first)], narrowed := true }
def LexiconInvertsUptoSaid : Prop := lexiconInvertsUptoRow.holds Tryd.pinned (OpenSpec.upto lexiconInvertsSpec)

/-- 'pentaglotlaw09.LexiconFind', WHERE WHAT IT READS IS OF BULK AT MOST 1048576: true; the input reads as it did. -/
def lexiconFindUptoRow : OpenClaim := { program := "ytogacbdboplbfaadoor", sum := "3673b6ed67f0b02e82e9aceb2e41a35e566e25e233f2026853285b51da7cc8a8", func := "pentaglot/pentaglotlaw09.LexiconFind", spec := "lexiconFind", inPlace := ["internal/bytealg.CountString", "internal/bytealg.IndexByteString", "internal/bytealg.IndexString", "internal/abi.NoEscape", "internal/bytealg.MakeNoZero"], unfollowed := true, recurses := true, named := ["unicode/utf8.first", "unicode/utf8.acceptRanges", "internal/bytealg.MaxLen"], apart := false, laid := [("unicode/utf8.acceptRanges", laid_unicode_utf8_acceptRanges), ("unicode/utf8.first", laid_unicode_utf8_first)], narrowed := true }
def LexiconFindUptoSaid : Prop := lexiconFindUptoRow.holds Tryd.pinned (OpenSpec.upto lexiconFindSpec)

/-- 'pentaglotlaw09.LexiconNarrows', WHERE WHAT IT READS IS OF BULK AT MOST 1048576: true; the input reads as it did. -/
def lexiconNarrowsUptoRow : OpenClaim := { program := "ytogacbdboplbfaadoor", sum := "3673b6ed67f0b02e82e9aceb2e41a35e566e25e233f2026853285b51da7cc8a8", func := "pentaglot/pentaglotlaw09.LexiconNarrows", spec := "lexiconNarrows", inPlace := ["internal/bytealg.CountString", "internal/bytealg.IndexByteString", "internal/bytealg.IndexString", "internal/abi.NoEscape", "internal/bytealg.MakeNoZero"], unfollowed := true, recurses := true, named := ["unicode/utf8.first", "unicode/utf8.acceptRanges", "internal/bytealg.MaxLen"], apart := false, laid := [("unicode/utf8.acceptRanges", laid_unicode_utf8_acceptRanges), ("unicode/utf8.first", laid_unicode_utf8_first)], narrowed := true }
def LexiconNarrowsUptoSaid : Prop := lexiconNarrowsUptoRow.holds Tryd.pinned (OpenSpec.upto lexiconNarrowsSpec)

/-- 'pentaglotlaw09.LexiconSelects', WHERE WHAT IT READS IS OF BULK AT MOST 1048576: true; the input reads as it did. -/
def lexiconSelectsUptoRow : OpenClaim := { program := "ytogacbdboplbfaadoor", sum := "3673b6ed67f0b02e82e9aceb2e41a35e566e25e233f2026853285b51da7cc8a8", func := "pentaglot/pentaglotlaw09.LexiconSelects", spec := "lexiconSelects", inPlace := ["internal/bytealg.CountString", "internal/bytealg.IndexByteString", "internal/bytealg.IndexString", "internal/abi.NoEscape", "internal/bytealg.MakeNoZero"], unfollowed := true, recurses := true, named := ["unicode/utf8.first", "unicode/utf8.acceptRanges", "internal/bytealg.MaxLen"], apart := false, laid := [("unicode/utf8.acceptRanges", laid_unicode_utf8_acceptRanges), ("unicode/utf8.first", laid_unicode_utf8_first)], narrowed := true }
def LexiconSelectsUptoSaid : Prop := lexiconSelectsUptoRow.holds Tryd.pinned (OpenSpec.upto lexiconSelectsSpec)

/-- 'pentaglotlaw09.LexiconMerge', WHERE WHAT IT READS IS OF BULK AT MOST 1048576: true; the input reads as it did. -/
def lexiconMergeUptoRow : OpenClaim := { program := "ytogacbdboplbfaadoor", sum := "3673b6ed67f0b02e82e9aceb2e41a35e566e25e233f2026853285b51da7cc8a8", func := "pentaglot/pentaglotlaw09.LexiconMerge", spec := "lexiconMerge", inPlace := ["internal/bytealg.CountString", "internal/bytealg.IndexByteString", "internal/bytealg.IndexString", "internal/abi.NoEscape", "internal/bytealg.MakeNoZero"], unfollowed := true, recurses := true, named := ["unicode/utf8.first", "unicode/utf8.acceptRanges", "internal/bytealg.MaxLen"], apart := false, laid := [("unicode/utf8.acceptRanges", laid_unicode_utf8_acceptRanges), ("unicode/utf8.first", laid_unicode_utf8_first)], narrowed := true }
def LexiconMergeUptoSaid : Prop := lexiconMergeUptoRow.holds Tryd.pinned (OpenSpec.upto lexiconMergeSpec)

/-- 'pentaglotlaw09.LexiconOwn', WHERE WHAT IT READS IS OF BULK AT MOST 1048576: true; the input reads as it did. -/
def lexiconOwnUptoRow : OpenClaim := { program := "ytogacbdboplbfaadoor", sum := "3673b6ed67f0b02e82e9aceb2e41a35e566e25e233f2026853285b51da7cc8a8", func := "pentaglot/pentaglotlaw09.LexiconOwn", spec := "lexiconOwn", inPlace := ["internal/bytealg.CountString", "internal/bytealg.IndexByteString", "internal/bytealg.IndexString", "internal/abi.NoEscape", "internal/bytealg.MakeNoZero"], unfollowed := true, recurses := true, named := ["unicode/utf8.first", "unicode/utf8.acceptRanges", "internal/bytealg.MaxLen"], apart := false, laid := [("unicode/utf8.acceptRanges", laid_unicode_utf8_acceptRanges), ("unicode/utf8.first", laid_unicode_utf8_first)], narrowed := true }
def LexiconOwnUptoSaid : Prop := lexiconOwnUptoRow.holds Tryd.pinned (OpenSpec.upto lexiconOwnSpec)

/-- 'pentaglotlaw09.LexiconMerged', WHERE WHAT IT READS IS OF BULK AT MOST 1048576: true; the input reads as it did. -/
def lexiconMergedUptoRow : OpenClaim := { program := "ytogacbdboplbfaadoor", sum := "3673b6ed67f0b02e82e9aceb2e41a35e566e25e233f2026853285b51da7cc8a8", func := "pentaglot/pentaglotlaw09.LexiconMerged", spec := "lexiconMerged", inPlace := ["internal/bytealg.CountString", "internal/bytealg.IndexByteString", "internal/bytealg.IndexString", "internal/abi.NoEscape", "internal/bytealg.MakeNoZero"], unfollowed := true, recurses := true, named := ["unicode/utf8.first", "unicode/utf8.acceptRanges", "internal/bytealg.MaxLen"], apart := false, laid := [("unicode/utf8.acceptRanges", laid_unicode_utf8_acceptRanges), ("unicode/utf8.first", laid_unicode_utf8_first)], narrowed := true }
def LexiconMergedUptoSaid : Prop := lexiconMergedUptoRow.holds Tryd.pinned (OpenSpec.upto lexiconMergedSpec)

end Rows
end Go.Proofs.YtogacbdboplbfaaDoor
