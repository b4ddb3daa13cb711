/-
  DERIVED. GIVEN WITH THE SEED: THE CARDS: each row of YtfjmemmjjihohaaDoorRows.lean that lists a variable, with what it lists TIED to the program's text (the seventh form; the later family's looks); each row that meets fmt, with fmt's text TOLD by the authors' own Lean function (tested against real Go, not proved from fmt's source: count such statements apart). THE CARD IS WHAT COUNTS. Prove the row's statement (the work); the ties are given (YtfjmemmjjihohaaDoorTie.lean); close each card by the builder's one call (the guide's Derived/Test/ToyasCard.lean, 'card_holds'). Laid BY PROGRAM, IN A SANDBOX (cutbox-door.mjs). By AI agents, Wed Nov 11 2026. No macro, syntax, notation, axiom, sorry.
-/
import Derived.Test.YtfjmemmjjihohaaDoorRows
import GoSem.ClaimSeven
namespace Go.Proofs.YtfjmemmjjihohaaDoor
namespace Rows

/-- THE TIED CARD OF 'pentaglotlaw21.SignatureValid'. -/
def signatureValidCard : Claim7 := { stood := { row := signatureValidRow, standIns := [], harness := (true, "3a5adb5657fb29cb654cec624df6ddbb038963ed0bbd9d400de0b3b0076d315f"), looks := true }, kinds := [], alts := [], laidByText := true, laidKinds := [.data, .pinned], laidTests := true, laidLooks := .later }
def SignatureValidCardSaid : Prop := Claim7.holds Tryd.pinned (.plain (OpenSpec.ofChange signatureValidSpec)) signatureValidCard

/-- THE TIED CARD OF 'pentaglotlaw21.SignatureParse'. -/
def signatureParseCard : Claim7 := { stood := { row := signatureParseRow, standIns := [], harness := (true, "3a5adb5657fb29cb654cec624df6ddbb038963ed0bbd9d400de0b3b0076d315f"), looks := true }, kinds := [], alts := [], laidByText := true, laidKinds := [.data, .pinned], laidTests := true, laidLooks := .later }
def SignatureParseCardSaid : Prop := Claim7.holds Tryd.pinned (.plain (OpenSpec.ofChange signatureParseSpec)) signatureParseCard

/-- THE TIED CARD OF 'pentaglotlaw21.SignatureFirst'. -/
def signatureFirstCard : Claim7 := { stood := { row := signatureFirstRow, standIns := [], harness := (true, "3a5adb5657fb29cb654cec624df6ddbb038963ed0bbd9d400de0b3b0076d315f"), looks := true }, kinds := [], alts := [], laidByText := true, laidKinds := [.data, .pinned], laidTests := true, laidLooks := .later }
def SignatureFirstCardSaid : Prop := Claim7.holds Tryd.pinned (.plain (OpenSpec.ofChange signatureFirstSpec)) signatureFirstCard

/-- THE TIED CARD OF 'pentaglotlaw21.SignatureLookup'. -/
def signatureLookupCard : Claim7 := { stood := { row := signatureLookupRow, standIns := [], harness := (true, "3a5adb5657fb29cb654cec624df6ddbb038963ed0bbd9d400de0b3b0076d315f"), looks := true }, kinds := [], alts := [], laidByText := true, laidKinds := [.data, .pinned], laidTests := true, laidLooks := .later }
def SignatureLookupCardSaid : Prop := Claim7.holds Tryd.pinned (.plain (OpenSpec.ofChange signatureLookupSpec)) signatureLookupCard

/-- THE TIED CARD OF 'pentaglotlaw21.SignatureExtend'. -/
def signatureExtendCard : Claim7 := { stood := { row := signatureExtendRow, standIns := [], harness := (true, "3a5adb5657fb29cb654cec624df6ddbb038963ed0bbd9d400de0b3b0076d315f"), looks := true }, kinds := [], alts := [], laidByText := true, laidKinds := [.data, .pinned], laidTests := true, laidLooks := .later }
def SignatureExtendCardSaid : Prop := Claim7.holds Tryd.pinned (.plain (OpenSpec.ofChange signatureExtendSpec)) signatureExtendCard

/-- THE TIED CARD OF 'pentaglotlaw21.SignatureExtends'. -/
def signatureExtendsCard : Claim7 := { stood := { row := signatureExtendsRow, standIns := [], harness := (true, "3a5adb5657fb29cb654cec624df6ddbb038963ed0bbd9d400de0b3b0076d315f"), looks := true }, kinds := [], alts := [], laidByText := true, laidKinds := [.data, .pinned], laidTests := true, laidLooks := .later }
def SignatureExtendsCardSaid : Prop := Claim7.holds Tryd.pinned (.plain (OpenSpec.ofChange signatureExtendsSpec)) signatureExtendsCard

/-- THE TIED CARD OF 'pentaglotlaw21.SignatureText'. -/
def signatureTextCard : Claim7 := { stood := { row := signatureTextRow, standIns := [], harness := (true, "3a5adb5657fb29cb654cec624df6ddbb038963ed0bbd9d400de0b3b0076d315f"), looks := true }, kinds := [], alts := [], laidByText := true, laidKinds := [.data, .pinned], laidTests := true, laidLooks := .later }
def SignatureTextCardSaid : Prop := Claim7.holds Tryd.pinned (.plain (OpenSpec.ofChange signatureTextSpec)) signatureTextCard

/-- THE TIED CARD OF 'pentaglotlaw21.SignatureInverts'. -/
def signatureInvertsCard : Claim7 := { stood := { row := signatureInvertsRow, standIns := [], harness := (true, "3a5adb5657fb29cb654cec624df6ddbb038963ed0bbd9d400de0b3b0076d315f"), looks := true }, kinds := [], alts := [], laidByText := true, laidKinds := [.data, .pinned], laidTests := true, laidLooks := .later }
def SignatureInvertsCardSaid : Prop := Claim7.holds Tryd.pinned (.plain (OpenSpec.ofChange signatureInvertsSpec)) signatureInvertsCard

/-- THE TIED CARD OF 'pentaglotlaw21.SignatureSorts'. -/
def signatureSortsCard : Claim7 := { stood := { row := signatureSortsRow, standIns := [], harness := (true, "3a5adb5657fb29cb654cec624df6ddbb038963ed0bbd9d400de0b3b0076d315f"), looks := true }, kinds := [], alts := [], laidByText := true, laidKinds := [.data, .pinned], laidTests := true, laidLooks := .later }
def SignatureSortsCardSaid : Prop := Claim7.holds Tryd.pinned (.plain (OpenSpec.ofChange signatureSortsSpec)) signatureSortsCard

/-- THE SECOND FORM's CARD OF 'pentaglotlaw21.SignatureValid'. -/
def signatureValidUptoCard : Claim7 := { stood := { row := signatureValidUptoRow, standIns := [], harness := (true, "3a5adb5657fb29cb654cec624df6ddbb038963ed0bbd9d400de0b3b0076d315f"), looks := true }, kinds := [], alts := [], laidByText := true, laidKinds := [.data, .pinned], laidTests := true, laidLooks := .later }
def SignatureValidUptoCardSaid : Prop := Claim7.holds Tryd.pinned (.plain (OpenSpec.upto signatureValidSpec)) signatureValidUptoCard

/-- THE SECOND FORM's CARD OF 'pentaglotlaw21.SignatureParse'. -/
def signatureParseUptoCard : Claim7 := { stood := { row := signatureParseUptoRow, standIns := [], harness := (true, "3a5adb5657fb29cb654cec624df6ddbb038963ed0bbd9d400de0b3b0076d315f"), looks := true }, kinds := [], alts := [], laidByText := true, laidKinds := [.data, .pinned], laidTests := true, laidLooks := .later }
def SignatureParseUptoCardSaid : Prop := Claim7.holds Tryd.pinned (.plain (OpenSpec.upto signatureParseSpec)) signatureParseUptoCard

/-- THE SECOND FORM's CARD OF 'pentaglotlaw21.SignatureFirst'. -/
def signatureFirstUptoCard : Claim7 := { stood := { row := signatureFirstUptoRow, standIns := [], harness := (true, "3a5adb5657fb29cb654cec624df6ddbb038963ed0bbd9d400de0b3b0076d315f"), looks := true }, kinds := [], alts := [], laidByText := true, laidKinds := [.data, .pinned], laidTests := true, laidLooks := .later }
def SignatureFirstUptoCardSaid : Prop := Claim7.holds Tryd.pinned (.plain (OpenSpec.upto signatureFirstSpec)) signatureFirstUptoCard

/-- THE SECOND FORM's CARD OF 'pentaglotlaw21.SignatureLookup'. -/
def signatureLookupUptoCard : Claim7 := { stood := { row := signatureLookupUptoRow, standIns := [], harness := (true, "3a5adb5657fb29cb654cec624df6ddbb038963ed0bbd9d400de0b3b0076d315f"), looks := true }, kinds := [], alts := [], laidByText := true, laidKinds := [.data, .pinned], laidTests := true, laidLooks := .later }
def SignatureLookupUptoCardSaid : Prop := Claim7.holds Tryd.pinned (.plain (OpenSpec.upto signatureLookupSpec)) signatureLookupUptoCard

/-- THE SECOND FORM's CARD OF 'pentaglotlaw21.SignatureExtend'. -/
def signatureExtendUptoCard : Claim7 := { stood := { row := signatureExtendUptoRow, standIns := [], harness := (true, "3a5adb5657fb29cb654cec624df6ddbb038963ed0bbd9d400de0b3b0076d315f"), looks := true }, kinds := [], alts := [], laidByText := true, laidKinds := [.data, .pinned], laidTests := true, laidLooks := .later }
def SignatureExtendUptoCardSaid : Prop := Claim7.holds Tryd.pinned (.plain (OpenSpec.upto signatureExtendSpec)) signatureExtendUptoCard

/-- THE SECOND FORM's CARD OF 'pentaglotlaw21.SignatureExtends'. -/
def signatureExtendsUptoCard : Claim7 := { stood := { row := signatureExtendsUptoRow, standIns := [], harness := (true, "3a5adb5657fb29cb654cec624df6ddbb038963ed0bbd9d400de0b3b0076d315f"), looks := true }, kinds := [], alts := [], laidByText := true, laidKinds := [.data, .pinned], laidTests := true, laidLooks := .later }
def SignatureExtendsUptoCardSaid : Prop := Claim7.holds Tryd.pinned (.plain (OpenSpec.upto signatureExtendsSpec)) signatureExtendsUptoCard

/-- THE SECOND FORM's CARD OF 'pentaglotlaw21.SignatureText'. -/
def signatureTextUptoCard : Claim7 := { stood := { row := signatureTextUptoRow, standIns := [], harness := (true, "3a5adb5657fb29cb654cec624df6ddbb038963ed0bbd9d400de0b3b0076d315f"), looks := true }, kinds := [], alts := [], laidByText := true, laidKinds := [.data, .pinned], laidTests := true, laidLooks := .later }
def SignatureTextUptoCardSaid : Prop := Claim7.holds Tryd.pinned (.plain (OpenSpec.upto signatureTextSpec)) signatureTextUptoCard

/-- THE SECOND FORM's CARD OF 'pentaglotlaw21.SignatureInverts'. -/
def signatureInvertsUptoCard : Claim7 := { stood := { row := signatureInvertsUptoRow, standIns := [], harness := (true, "3a5adb5657fb29cb654cec624df6ddbb038963ed0bbd9d400de0b3b0076d315f"), looks := true }, kinds := [], alts := [], laidByText := true, laidKinds := [.data, .pinned], laidTests := true, laidLooks := .later }
def SignatureInvertsUptoCardSaid : Prop := Claim7.holds Tryd.pinned (.plain (OpenSpec.upto signatureInvertsSpec)) signatureInvertsUptoCard

/-- THE SECOND FORM's CARD OF 'pentaglotlaw21.SignatureSorts'. -/
def signatureSortsUptoCard : Claim7 := { stood := { row := signatureSortsUptoRow, standIns := [], harness := (true, "3a5adb5657fb29cb654cec624df6ddbb038963ed0bbd9d400de0b3b0076d315f"), looks := true }, kinds := [], alts := [], laidByText := true, laidKinds := [.data, .pinned], laidTests := true, laidLooks := .later }
def SignatureSortsUptoCardSaid : Prop := Claim7.holds Tryd.pinned (.plain (OpenSpec.upto signatureSortsSpec)) signatureSortsUptoCard
end Rows
end Go.Proofs.YtfjmemmjjihohaaDoor
