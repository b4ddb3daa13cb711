/-
  NARROWER THAN 'FOR EVERY INPUT', by the rows' own cells (each row's printed sentence says how): SignatureValid: laid · SignatureParse: laid · SignatureFirst: laid · SignatureLookup: laid · SignatureExtend: laid · SignatureExtends: laid · SignatureText: laid · SignatureInverts: laid · SignatureSorts: laid.
  DERIVED. THE GIVEN ROWS OF THIS SEAT. 9 by the template 'for every input the law returns true; each argument reads behind the call as it read before'; 0 by the template 'total and deterministic' (their statements: YtfjmemmjjihohaaDoorTotals.lean).
  GIVEN WITH THE SEED: the statements are not yours to turn. If you find one false, say at which input.
  Laid BY PROGRAM, IN A SANDBOX (cutbox-rows.mjs): the forced cells as the released guide's own fill.sh prints them over the translation 99e34eef0d4380d2… (all of the seat's roots in one cut). By AI agents, Wed Nov 11 2026. No macro, syntax, notation, axiom, sorry.
-/
import Derived.Test.YtfjmemmjjihohaaDoorChecked
import GoSem.PinnedTables
import GoSem.Claim
import GoSem.ClaimJoined
import GoSem.ClaimMapViews
import Derived.JoinedTies
import Derived.KernelRfl
namespace Go.Proofs.YtfjmemmjjihohaaDoor
/- THE CELL 'sum', in the pinned program and in every row, IS THE sha256 OF THE DUMP (.gsa) THAT YtfjmemmjjihohaaDoorProg.lean LOADS. Nothing in Lean hashes anything: it is a label: what it is worth is what the hold of that sum in a sandbox is worth. -/
noncomputable def Tryd.pinned : Pinned := { name := "ytfjmemmjjihohaadoor", sum := "99e34eef0d4380d2d6b7417c75acbe919b0d81460420999399dcf5aa651fb1dd", checked := Tryd.checked }
namespace Rows
def none {H : Type} : Left H := { results := [], args := [] }

/- WHAT THE LISTED PACKAGE-LEVEL VARIABLES READ AS WHEN THE CALL BEGINS. Each datum BY PROGRAM (the guide's laid-datum.mjs) off the statement by which the dump's own 'gosem.cut.vars' lays the variable. In a bare row this is a premise. The card (YtfjmemmjjihohaaDoorCards.lean) ties it to the program's text. -/
def laid_unicode_utf8_acceptRanges {H : Type} : DataW H := .agg [.agg [.lit (.int .u8 128), .lit (.int .u8 191)], .agg [.lit (.int .u8 160), .lit (.int .u8 191)], .agg [.lit (.int .u8 128), .lit (.int .u8 159)], .agg [.lit (.int .u8 144), .lit (.int .u8 191)], .agg [.lit (.int .u8 128), .lit (.int .u8 143)], .agg [.lit (.int .u8 0), .lit (.int .u8 0)], .agg [.lit (.int .u8 0), .lit (.int .u8 0)], .agg [.lit (.int .u8 0), .lit (.int .u8 0)], .agg [.lit (.int .u8 0), .lit (.int .u8 0)], .agg [.lit (.int .u8 0), .lit (.int .u8 0)], .agg [.lit (.int .u8 0), .lit (.int .u8 0)], .agg [.lit (.int .u8 0), .lit (.int .u8 0)], .agg [.lit (.int .u8 0), .lit (.int .u8 0)], .agg [.lit (.int .u8 0), .lit (.int .u8 0)], .agg [.lit (.int .u8 0), .lit (.int .u8 0)], .agg [.lit (.int .u8 0), .lit (.int .u8 0)]]
/-- One of Go's own tables, pinned by name: the form's constant. -/
def laid_unicode_utf8_first : DataW Unit := Go.Pinned.utf8First

/-- 'pentaglotlaw21.SignatureValid': WHATEVER THE INPUT: true; the input reads as it did. -/
def signatureValidSpec : ChangeSpec := { name := "signatureValid", fn := fun _ => fun
  | [d] => { results := [.lit (.bool true)], args := [d] }
  | _ => none }
def signatureValidRow : OpenClaim := { program := "ytfjmemmjjihohaadoor", sum := "99e34eef0d4380d2d6b7417c75acbe919b0d81460420999399dcf5aa651fb1dd", func := "pentaglot/pentaglotlaw21.SignatureValid", spec := "signatureValid", inPlace := ["internal/bytealg.IndexByteString", "internal/bytealg.IndexString", "internal/bytealg.CountString"], unfollowed := true, recurses := true, named := ["internal/bytealg.MaxLen", "unicode/utf8.first", "unicode/utf8.acceptRanges"], apart := false, laid := [("unicode/utf8.acceptRanges", laid_unicode_utf8_acceptRanges), ("unicode/utf8.first", laid_unicode_utf8_first)] }
def SignatureValidSaid : Prop := signatureValidRow.holds Tryd.pinned (OpenSpec.ofChange signatureValidSpec)

/-- ITS FALSE NEIGHBOUR: 'it returns false'. Refute it at one input. -/
def signatureValidWrong : ChangeSpec := { name := "signatureValid", fn := fun _ => fun
  | [d] => { results := [.lit (.bool false)], args := [d] }
  | _ => none }
def SignatureValidWrongFalsely : Prop := signatureValidRow.holds Tryd.pinned (OpenSpec.ofChange signatureValidWrong)

/-- 'pentaglotlaw21.SignatureParse': WHATEVER THE INPUT: true; the input reads as it did. -/
def signatureParseSpec : ChangeSpec := { name := "signatureParse", fn := fun _ => fun
  | [d] => { results := [.lit (.bool true)], args := [d] }
  | _ => none }
def signatureParseRow : OpenClaim := { program := "ytfjmemmjjihohaadoor", sum := "99e34eef0d4380d2d6b7417c75acbe919b0d81460420999399dcf5aa651fb1dd", func := "pentaglot/pentaglotlaw21.SignatureParse", spec := "signatureParse", inPlace := ["internal/bytealg.IndexByteString", "internal/bytealg.IndexString", "internal/bytealg.CountString"], unfollowed := true, recurses := true, named := ["internal/bytealg.MaxLen", "unicode/utf8.first", "unicode/utf8.acceptRanges"], apart := false, laid := [("unicode/utf8.acceptRanges", laid_unicode_utf8_acceptRanges), ("unicode/utf8.first", laid_unicode_utf8_first)] }
def SignatureParseSaid : Prop := signatureParseRow.holds Tryd.pinned (OpenSpec.ofChange signatureParseSpec)

/-- ITS FALSE NEIGHBOUR: 'it returns false'. Refute it at one input. -/
def signatureParseWrong : ChangeSpec := { name := "signatureParse", fn := fun _ => fun
  | [d] => { results := [.lit (.bool false)], args := [d] }
  | _ => none }
def SignatureParseWrongFalsely : Prop := signatureParseRow.holds Tryd.pinned (OpenSpec.ofChange signatureParseWrong)

/-- 'pentaglotlaw21.SignatureFirst': WHATEVER THE INPUT: true; the input reads as it did. -/
def signatureFirstSpec : ChangeSpec := { name := "signatureFirst", fn := fun _ => fun
  | [d] => { results := [.lit (.bool true)], args := [d] }
  | _ => none }
def signatureFirstRow : OpenClaim := { program := "ytfjmemmjjihohaadoor", sum := "99e34eef0d4380d2d6b7417c75acbe919b0d81460420999399dcf5aa651fb1dd", func := "pentaglot/pentaglotlaw21.SignatureFirst", spec := "signatureFirst", inPlace := ["internal/bytealg.IndexByteString", "internal/bytealg.IndexString", "internal/bytealg.CountString"], unfollowed := true, recurses := true, named := ["internal/bytealg.MaxLen", "unicode/utf8.first", "unicode/utf8.acceptRanges"], apart := false, laid := [("unicode/utf8.acceptRanges", laid_unicode_utf8_acceptRanges), ("unicode/utf8.first", laid_unicode_utf8_first)] }
def SignatureFirstSaid : Prop := signatureFirstRow.holds Tryd.pinned (OpenSpec.ofChange signatureFirstSpec)

/-- ITS FALSE NEIGHBOUR: 'it returns false'. Refute it at one input. -/
def signatureFirstWrong : ChangeSpec := { name := "signatureFirst", fn := fun _ => fun
  | [d] => { results := [.lit (.bool false)], args := [d] }
  | _ => none }
def SignatureFirstWrongFalsely : Prop := signatureFirstRow.holds Tryd.pinned (OpenSpec.ofChange signatureFirstWrong)

/-- 'pentaglotlaw21.SignatureLookup': WHATEVER THE INPUT: true; the input reads as it did. -/
def signatureLookupSpec : ChangeSpec := { name := "signatureLookup", fn := fun _ => fun
  | [d1, d2] => { results := [.lit (.bool true)], args := [d1, d2] }
  | _ => none }
def signatureLookupRow : OpenClaim := { program := "ytfjmemmjjihohaadoor", sum := "99e34eef0d4380d2d6b7417c75acbe919b0d81460420999399dcf5aa651fb1dd", func := "pentaglot/pentaglotlaw21.SignatureLookup", spec := "signatureLookup", inPlace := ["internal/bytealg.IndexByteString", "internal/bytealg.IndexString", "internal/bytealg.CountString"], unfollowed := true, recurses := true, named := ["internal/bytealg.MaxLen", "unicode/utf8.first", "unicode/utf8.acceptRanges"], apart := false, laid := [("unicode/utf8.acceptRanges", laid_unicode_utf8_acceptRanges), ("unicode/utf8.first", laid_unicode_utf8_first)] }
def SignatureLookupSaid : Prop := signatureLookupRow.holds Tryd.pinned (OpenSpec.ofChange signatureLookupSpec)

/-- ITS FALSE NEIGHBOUR: 'it returns false'. Refute it at one input. -/
def signatureLookupWrong : ChangeSpec := { name := "signatureLookup", fn := fun _ => fun
  | [d1, d2] => { results := [.lit (.bool false)], args := [d1, d2] }
  | _ => none }
def SignatureLookupWrongFalsely : Prop := signatureLookupRow.holds Tryd.pinned (OpenSpec.ofChange signatureLookupWrong)

/-- 'pentaglotlaw21.SignatureExtend': WHATEVER THE INPUT: true; the input reads as it did. -/
def signatureExtendSpec : ChangeSpec := { name := "signatureExtend", fn := fun _ => fun
  | [d1, d2] => { results := [.lit (.bool true)], args := [d1, d2] }
  | _ => none }
def signatureExtendRow : OpenClaim := { program := "ytfjmemmjjihohaadoor", sum := "99e34eef0d4380d2d6b7417c75acbe919b0d81460420999399dcf5aa651fb1dd", func := "pentaglot/pentaglotlaw21.SignatureExtend", spec := "signatureExtend", inPlace := ["internal/bytealg.IndexByteString", "internal/bytealg.IndexString", "internal/bytealg.CountString"], unfollowed := true, recurses := true, named := ["internal/bytealg.MaxLen", "unicode/utf8.first", "unicode/utf8.acceptRanges"], apart := false, laid := [("unicode/utf8.acceptRanges", laid_unicode_utf8_acceptRanges), ("unicode/utf8.first", laid_unicode_utf8_first)] }
def SignatureExtendSaid : Prop := signatureExtendRow.holds Tryd.pinned (OpenSpec.ofChange signatureExtendSpec)

/-- ITS FALSE NEIGHBOUR: 'it returns false'. Refute it at one input. -/
def signatureExtendWrong : ChangeSpec := { name := "signatureExtend", fn := fun _ => fun
  | [d1, d2] => { results := [.lit (.bool false)], args := [d1, d2] }
  | _ => none }
def SignatureExtendWrongFalsely : Prop := signatureExtendRow.holds Tryd.pinned (OpenSpec.ofChange signatureExtendWrong)

/-- 'pentaglotlaw21.SignatureExtends': WHATEVER THE INPUT: true; the input reads as it did. -/
def signatureExtendsSpec : ChangeSpec := { name := "signatureExtends", fn := fun _ => fun
  | [d1, d2, d3] => { results := [.lit (.bool true)], args := [d1, d2, d3] }
  | _ => none }
def signatureExtendsRow : OpenClaim := { program := "ytfjmemmjjihohaadoor", sum := "99e34eef0d4380d2d6b7417c75acbe919b0d81460420999399dcf5aa651fb1dd", func := "pentaglot/pentaglotlaw21.SignatureExtends", spec := "signatureExtends", inPlace := ["internal/bytealg.IndexByteString", "internal/bytealg.IndexString", "internal/bytealg.CountString"], unfollowed := true, recurses := true, named := ["internal/bytealg.MaxLen", "unicode/utf8.first", "unicode/utf8.acceptRanges"], apart := false, laid := [("unicode/utf8.acceptRanges", laid_unicode_utf8_acceptRanges), ("unicode/utf8.first", laid_unicode_utf8_first)] }
def SignatureExtendsSaid : Prop := signatureExtendsRow.holds Tryd.pinned (OpenSpec.ofChange signatureExtendsSpec)

/-- ITS FALSE NEIGHBOUR: 'it returns false'. Refute it at one input. -/
def signatureExtendsWrong : ChangeSpec := { name := "signatureExtends", fn := fun _ => fun
  | [d1, d2, d3] => { results := [.lit (.bool false)], args := [d1, d2, d3] }
  | _ => none }
def SignatureExtendsWrongFalsely : Prop := signatureExtendsRow.holds Tryd.pinned (OpenSpec.ofChange signatureExtendsWrong)

/-- 'pentaglotlaw21.SignatureText': WHATEVER THE INPUT: true; the input reads as it did. -/
def signatureTextSpec : ChangeSpec := { name := "signatureText", fn := fun _ => fun
  | [d] => { results := [.lit (.bool true)], args := [d] }
  | _ => none }
def signatureTextRow : OpenClaim := { program := "ytfjmemmjjihohaadoor", sum := "99e34eef0d4380d2d6b7417c75acbe919b0d81460420999399dcf5aa651fb1dd", func := "pentaglot/pentaglotlaw21.SignatureText", spec := "signatureText", inPlace := ["internal/bytealg.IndexByteString", "internal/bytealg.IndexString", "internal/bytealg.CountString", "internal/abi.NoEscape", "internal/bytealg.MakeNoZero"], unfollowed := true, recurses := true, named := ["internal/bytealg.MaxLen", "unicode/utf8.first", "unicode/utf8.acceptRanges"], apart := false, laid := [("unicode/utf8.acceptRanges", laid_unicode_utf8_acceptRanges), ("unicode/utf8.first", laid_unicode_utf8_first)] }
def SignatureTextSaid : Prop := signatureTextRow.holds Tryd.pinned (OpenSpec.ofChange signatureTextSpec)

/-- ITS FALSE NEIGHBOUR: 'it returns false'. Refute it at one input. -/
def signatureTextWrong : ChangeSpec := { name := "signatureText", fn := fun _ => fun
  | [d] => { results := [.lit (.bool false)], args := [d] }
  | _ => none }
def SignatureTextWrongFalsely : Prop := signatureTextRow.holds Tryd.pinned (OpenSpec.ofChange signatureTextWrong)

/-- 'pentaglotlaw21.SignatureInverts': WHATEVER THE INPUT: true; the input reads as it did. -/
def signatureInvertsSpec : ChangeSpec := { name := "signatureInverts", fn := fun _ => fun
  | [d1, d2] => { results := [.lit (.bool true)], args := [d1, d2] }
  | _ => none }
def signatureInvertsRow : OpenClaim := { program := "ytfjmemmjjihohaadoor", sum := "99e34eef0d4380d2d6b7417c75acbe919b0d81460420999399dcf5aa651fb1dd", func := "pentaglot/pentaglotlaw21.SignatureInverts", spec := "signatureInverts", inPlace := ["internal/bytealg.IndexByteString", "internal/bytealg.IndexString", "internal/bytealg.CountString", "internal/abi.NoEscape", "internal/bytealg.MakeNoZero"], unfollowed := true, recurses := true, named := ["internal/bytealg.MaxLen", "unicode/utf8.first", "unicode/utf8.acceptRanges"], apart := false, laid := [("unicode/utf8.acceptRanges", laid_unicode_utf8_acceptRanges), ("unicode/utf8.first", laid_unicode_utf8_first)] }
def SignatureInvertsSaid : Prop := signatureInvertsRow.holds Tryd.pinned (OpenSpec.ofChange signatureInvertsSpec)

/-- ITS FALSE NEIGHBOUR: 'it returns false'. Refute it at one input. -/
def signatureInvertsWrong : ChangeSpec := { name := "signatureInverts", fn := fun _ => fun
  | [d1, d2] => { results := [.lit (.bool false)], args := [d1, d2] }
  | _ => none }
def SignatureInvertsWrongFalsely : Prop := signatureInvertsRow.holds Tryd.pinned (OpenSpec.ofChange signatureInvertsWrong)

/-- 'pentaglotlaw21.SignatureSorts': WHATEVER THE INPUT: true; the input reads as it did. -/
def signatureSortsSpec : ChangeSpec := { name := "signatureSorts", fn := fun _ => fun
  | [d] => { results := [.lit (.bool true)], args := [d] }
  | _ => none }
def signatureSortsRow : OpenClaim := { program := "ytfjmemmjjihohaadoor", sum := "99e34eef0d4380d2d6b7417c75acbe919b0d81460420999399dcf5aa651fb1dd", func := "pentaglot/pentaglotlaw21.SignatureSorts", spec := "signatureSorts", inPlace := ["internal/bytealg.IndexByteString", "internal/bytealg.IndexString", "internal/bytealg.CountString"], unfollowed := true, recurses := true, named := ["internal/bytealg.MaxLen", "unicode/utf8.first", "unicode/utf8.acceptRanges"], apart := false, laid := [("unicode/utf8.acceptRanges", laid_unicode_utf8_acceptRanges), ("unicode/utf8.first", laid_unicode_utf8_first)] }
def SignatureSortsSaid : Prop := signatureSortsRow.holds Tryd.pinned (OpenSpec.ofChange signatureSortsSpec)

/-- ITS FALSE NEIGHBOUR: 'it returns false'. Refute it at one input. -/
def signatureSortsWrong : ChangeSpec := { name := "signatureSorts", fn := fun _ => fun
  | [d] => { results := [.lit (.bool false)], args := [d] }
  | _ => none }
def SignatureSortsWrongFalsely : Prop := signatureSortsRow.holds Tryd.pinned (OpenSpec.ofChange signatureSortsWrong)

/- THE SECOND FORM. 'bulk': how many values and letters a reading holds, each counted each time it is reached (what is shared counts as often as it is met; a slice's spare places count too). A statement '..UptoSaid' is the law's where the arguments, and the package variables that the reading takes, are together of bulk at most 1048576: NARROWER than '..Said'. Prove '..Said' where nothing that the law and all that it calls make is longer than what came in: it says more and counts as full. Else prove '..UptoSaid'. A law counts once. -/
mutual
def uptoBulk {H : Type} : DataW H → Nat
  | .lit (.string bytes) => bytes.length + 1
  | .lit _ => 1
  | .nil => 1
  | .ptr d => uptoBulk d + 1
  | .slice elems spare => uptoBulkAll elems + uptoBulkAll spare + 1
  | .agg parts => uptoBulkAll parts + 1
  | .iface _ d => uptoBulk d + 1
  | .map entries => uptoBulkEntries entries + 1
  | .held _ => 1
def uptoBulkAll {H : Type} : List (DataW H) → Nat
  | [] => 0
  | d :: r => uptoBulk d + uptoBulkAll r
def uptoBulkEntries {H : Type} : List (Lit × DataW H) → Nat
  | [] => 0
  | x :: r => uptoBulkEntry x + uptoBulkEntries r
def uptoBulkEntry {H : Type} : Lit × DataW H → Nat
  | (.string bytes, d) => bytes.length + uptoBulk d + 1
  | (_, d) => uptoBulk d + 1
 end
def uptoSmall : (H : Type) → List (DataW H) → Bool := fun _ ds => decide (uptoBulkAll ds ≤ 1048576)
def OpenSpec.upto (s : _root_.Go.ChangeSpec) : _root_.Go.OpenSpec := { _root_.Go.OpenSpec.ofChange s with cond := some uptoSmall }

/-- 'pentaglotlaw21.SignatureValid', WHERE WHAT IT READS IS OF BULK AT MOST 1048576: true; the input reads as it did. -/
def signatureValidUptoRow : OpenClaim := { program := "ytfjmemmjjihohaadoor", sum := "99e34eef0d4380d2d6b7417c75acbe919b0d81460420999399dcf5aa651fb1dd", func := "pentaglot/pentaglotlaw21.SignatureValid", spec := "signatureValid", inPlace := ["internal/bytealg.IndexByteString", "internal/bytealg.IndexString", "internal/bytealg.CountString"], unfollowed := true, recurses := true, named := ["internal/bytealg.MaxLen", "unicode/utf8.first", "unicode/utf8.acceptRanges"], apart := false, laid := [("unicode/utf8.acceptRanges", laid_unicode_utf8_acceptRanges), ("unicode/utf8.first", laid_unicode_utf8_first)], narrowed := true }
def SignatureValidUptoSaid : Prop := signatureValidUptoRow.holds Tryd.pinned (OpenSpec.upto signatureValidSpec)

/-- 'pentaglotlaw21.SignatureParse', WHERE WHAT IT READS IS OF BULK AT MOST 1048576: true; the input reads as it did. -/
def signatureParseUptoRow : OpenClaim := { program := "ytfjmemmjjihohaadoor", sum := "99e34eef0d4380d2d6b7417c75acbe919b0d81460420999399dcf5aa651fb1dd", func := "pentaglot/pentaglotlaw21.SignatureParse", spec := "signatureParse", inPlace := ["internal/bytealg.IndexByteString", "internal/bytealg.IndexString", "internal/bytealg.CountString"], unfollowed := true, recurses := true, named := ["internal/bytealg.MaxLen", "unicode/utf8.first", "unicode/utf8.acceptRanges"], apart := false, laid := [("unicode/utf8.acceptRanges", laid_unicode_utf8_acceptRanges), ("unicode/utf8.first", laid_unicode_utf8_first)], narrowed := true }
def SignatureParseUptoSaid : Prop := signatureParseUptoRow.holds Tryd.pinned (OpenSpec.upto signatureParseSpec)

/-- 'pentaglotlaw21.SignatureFirst', WHERE WHAT IT READS IS OF BULK AT MOST 1048576: true; the input reads as it did. -/
def signatureFirstUptoRow : OpenClaim := { program := "ytfjmemmjjihohaadoor", sum := "99e34eef0d4380d2d6b7417c75acbe919b0d81460420999399dcf5aa651fb1dd", func := "pentaglot/pentaglotlaw21.SignatureFirst", spec := "signatureFirst", inPlace := ["internal/bytealg.IndexByteString", "internal/bytealg.IndexString", "internal/bytealg.CountString"], unfollowed := true, recurses := true, named := ["internal/bytealg.MaxLen", "unicode/utf8.first", "unicode/utf8.acceptRanges"], apart := false, laid := [("unicode/utf8.acceptRanges", laid_unicode_utf8_acceptRanges), ("unicode/utf8.first", laid_unicode_utf8_first)], narrowed := true }
def SignatureFirstUptoSaid : Prop := signatureFirstUptoRow.holds Tryd.pinned (OpenSpec.upto signatureFirstSpec)

/-- 'pentaglotlaw21.SignatureLookup', WHERE WHAT IT READS IS OF BULK AT MOST 1048576: true; the input reads as it did. -/
def signatureLookupUptoRow : OpenClaim := { program := "ytfjmemmjjihohaadoor", sum := "99e34eef0d4380d2d6b7417c75acbe919b0d81460420999399dcf5aa651fb1dd", func := "pentaglot/pentaglotlaw21.SignatureLookup", spec := "signatureLookup", inPlace := ["internal/bytealg.IndexByteString", "internal/bytealg.IndexString", "internal/bytealg.CountString"], unfollowed := true, recurses := true, named := ["internal/bytealg.MaxLen", "unicode/utf8.first", "unicode/utf8.acceptRanges"], apart := false, laid := [("unicode/utf8.acceptRanges", laid_unicode_utf8_acceptRanges), ("unicode/utf8.first", laid_unicode_utf8_first)], narrowed := true }
def SignatureLookupUptoSaid : Prop := signatureLookupUptoRow.holds Tryd.pinned (OpenSpec.upto signatureLookupSpec)

/-- 'pentaglotlaw21.SignatureExtend', WHERE WHAT IT READS IS OF BULK AT MOST 1048576: true; the input reads as it did. -/
def signatureExtendUptoRow : OpenClaim := { program := "ytfjmemmjjihohaadoor", sum := "99e34eef0d4380d2d6b7417c75acbe919b0d81460420999399dcf5aa651fb1dd", func := "pentaglot/pentaglotlaw21.SignatureExtend", spec := "signatureExtend", inPlace := ["internal/bytealg.IndexByteString", "internal/bytealg.IndexString", "internal/bytealg.CountString"], unfollowed := true, recurses := true, named := ["internal/bytealg.MaxLen", "unicode/utf8.first", "unicode/utf8.acceptRanges"], apart := false, laid := [("unicode/utf8.acceptRanges", laid_unicode_utf8_acceptRanges), ("unicode/utf8.first", laid_unicode_utf8_first)], narrowed := true }
def SignatureExtendUptoSaid : Prop := signatureExtendUptoRow.holds Tryd.pinned (OpenSpec.upto signatureExtendSpec)

/-- 'pentaglotlaw21.SignatureExtends', WHERE WHAT IT READS IS OF BULK AT MOST 1048576: true; the input reads as it did. -/
def signatureExtendsUptoRow : OpenClaim := { program := "ytfjmemmjjihohaadoor", sum := "99e34eef0d4380d2d6b7417c75acbe919b0d81460420999399dcf5aa651fb1dd", func := "pentaglot/pentaglotlaw21.SignatureExtends", spec := "signatureExtends", inPlace := ["internal/bytealg.IndexByteString", "internal/bytealg.IndexString", "internal/bytealg.CountString"], unfollowed := true, recurses := true, named := ["internal/bytealg.MaxLen", "unicode/utf8.first", "unicode/utf8.acceptRanges"], apart := false, laid := [("unicode/utf8.acceptRanges", laid_unicode_utf8_acceptRanges), ("unicode/utf8.first", laid_unicode_utf8_first)], narrowed := true }
def SignatureExtendsUptoSaid : Prop := signatureExtendsUptoRow.holds Tryd.pinned (OpenSpec.upto signatureExtendsSpec)

/-- 'pentaglotlaw21.SignatureText', WHERE WHAT IT READS IS OF BULK AT MOST 1048576: true; the input reads as it did. -/
def signatureTextUptoRow : OpenClaim := { program := "ytfjmemmjjihohaadoor", sum := "99e34eef0d4380d2d6b7417c75acbe919b0d81460420999399dcf5aa651fb1dd", func := "pentaglot/pentaglotlaw21.SignatureText", spec := "signatureText", inPlace := ["internal/bytealg.IndexByteString", "internal/bytealg.IndexString", "internal/bytealg.CountString", "internal/abi.NoEscape", "internal/bytealg.MakeNoZero"], unfollowed := true, recurses := true, named := ["internal/bytealg.MaxLen", "unicode/utf8.first", "unicode/utf8.acceptRanges"], apart := false, laid := [("unicode/utf8.acceptRanges", laid_unicode_utf8_acceptRanges), ("unicode/utf8.first", laid_unicode_utf8_first)], narrowed := true }
def SignatureTextUptoSaid : Prop := signatureTextUptoRow.holds Tryd.pinned (OpenSpec.upto signatureTextSpec)

/-- 'pentaglotlaw21.SignatureInverts', WHERE WHAT IT READS IS OF BULK AT MOST 1048576: true; the input reads as it did. -/
def signatureInvertsUptoRow : OpenClaim := { program := "ytfjmemmjjihohaadoor", sum := "99e34eef0d4380d2d6b7417c75acbe919b0d81460420999399dcf5aa651fb1dd", func := "pentaglot/pentaglotlaw21.SignatureInverts", spec := "signatureInverts", inPlace := ["internal/bytealg.IndexByteString", "internal/bytealg.IndexString", "internal/bytealg.CountString", "internal/abi.NoEscape", "internal/bytealg.MakeNoZero"], unfollowed := true, recurses := true, named := ["internal/bytealg.MaxLen", "unicode/utf8.first", "unicode/utf8.acceptRanges"], apart := false, laid := [("unicode/utf8.acceptRanges", laid_unicode_utf8_acceptRanges), ("unicode/utf8.first", laid_unicode_utf8_first)], narrowed := true }
def SignatureInvertsUptoSaid : Prop := signatureInvertsUptoRow.holds Tryd.pinned (OpenSpec.upto signatureInvertsSpec)

/-- 'pentaglotlaw21.SignatureSorts', WHERE WHAT IT READS IS OF BULK AT MOST 1048576: true; the input reads as it did. -/
def signatureSortsUptoRow : OpenClaim := { program := "ytfjmemmjjihohaadoor", sum := "99e34eef0d4380d2d6b7417c75acbe919b0d81460420999399dcf5aa651fb1dd", func := "pentaglot/pentaglotlaw21.SignatureSorts", spec := "signatureSorts", inPlace := ["internal/bytealg.IndexByteString", "internal/bytealg.IndexString", "internal/bytealg.CountString"], unfollowed := true, recurses := true, named := ["internal/bytealg.MaxLen", "unicode/utf8.first", "unicode/utf8.acceptRanges"], apart := false, laid := [("unicode/utf8.acceptRanges", laid_unicode_utf8_acceptRanges), ("unicode/utf8.first", laid_unicode_utf8_first)], narrowed := true }
def SignatureSortsUptoSaid : Prop := signatureSortsUptoRow.holds Tryd.pinned (OpenSpec.upto signatureSortsSpec)

end Rows
end Go.Proofs.YtfjmemmjjihohaaDoor
