/-
  DERIVED. GIVEN WITH THE SEED: THE CARDS: each row of YtmghejoigggooaaGreatDoorRows.lean that lists a variable, with what it lists TIED to the program's text (the seventh form; the later family's looks); each row that meets fmt, with fmt's text TOLD by the authors' own Lean function (tested against real Go, not proved from fmt's source: count such statements apart). THE CARD IS WHAT COUNTS. Prove the row's statement (the work); the ties are given (YtmghejoigggooaaGreatDoorTie.lean); close each card by the builder's one call (the guide's Derived/Test/ToyasCard.lean, 'card_holds'). Laid BY PROGRAM, IN A SANDBOX (cutbox-door.mjs). By AI agents, Wed Nov 11 2026. No macro, syntax, notation, axiom, sorry.
-/
import Derived.Test.YtmghejoigggooaaGreatDoorRows
import GoSem.ClaimSeven
namespace Go.Proofs.YtmghejoigggooaaGreatDoor
namespace Rows

/-- THE TIED CARD OF 'pandectlaw16.TokenScans'. -/
def tokenScansCard : Claim7 := { stood := { row := tokenScansRow, standIns := [], harness := (true, "a165864eb577c52207958db42708f35f4d9befb3a0fd17932063b17aa5fd9c85"), looks := true }, kinds := [], alts := [], laidByText := true, laidKinds := [.data, .pinned], laidTests := true, laidLooks := .later }
def TokenScansCardSaid : Prop := Claim7.holds Tryz.pinned (.plain (OpenSpec.ofChange tokenScansSpec)) tokenScansCard

/-- THE TIED CARD OF 'pandectlaw16.TokenWhitespace'. -/
def tokenWhitespaceCard : Claim7 := { stood := { row := tokenWhitespaceRow, standIns := [], harness := (true, "a165864eb577c52207958db42708f35f4d9befb3a0fd17932063b17aa5fd9c85"), looks := true }, kinds := [], alts := [], laidByText := true, laidKinds := [.data, .pinned], laidTests := true, laidLooks := .later }
def TokenWhitespaceCardSaid : Prop := Claim7.holds Tryz.pinned (.plain (OpenSpec.ofChange tokenWhitespaceSpec)) tokenWhitespaceCard

/-- THE TIED CARD OF 'pandectlaw16.TokenOffsets'. -/
def tokenOffsetsCard : Claim7 := { stood := { row := tokenOffsetsRow, standIns := [], harness := (true, "a165864eb577c52207958db42708f35f4d9befb3a0fd17932063b17aa5fd9c85"), looks := true }, kinds := [], alts := [], laidByText := true, laidKinds := [.data, .pinned], laidTests := true, laidLooks := .later }
def TokenOffsetsCardSaid : Prop := Claim7.holds Tryz.pinned (.plain (OpenSpec.ofChange tokenOffsetsSpec)) tokenOffsetsCard

/-- THE TIED CARD OF 'pandectlaw16.TokenKinds'. -/
def tokenKindsCard : Claim7 := { stood := { row := tokenKindsRow, standIns := [], harness := (true, "a165864eb577c52207958db42708f35f4d9befb3a0fd17932063b17aa5fd9c85"), looks := true }, kinds := [], alts := [], laidByText := true, laidKinds := [.data, .pinned], laidTests := true, laidLooks := .later }
def TokenKindsCardSaid : Prop := Claim7.holds Tryz.pinned (.plain (OpenSpec.ofChange tokenKindsSpec)) tokenKindsCard

/-- THE TIED CARD OF 'pandectlaw16.TokenQuotes'. -/
def tokenQuotesCard : Claim7 := { stood := { row := tokenQuotesRow, standIns := [], harness := (true, "a165864eb577c52207958db42708f35f4d9befb3a0fd17932063b17aa5fd9c85"), looks := true }, kinds := [], alts := [], laidByText := true, laidKinds := [.data, .pinned], laidTests := true, laidLooks := .later }
def TokenQuotesCardSaid : Prop := Claim7.holds Tryz.pinned (.plain (OpenSpec.ofChange tokenQuotesSpec)) tokenQuotesCard

/-- THE TIED CARD OF 'pandectlaw16.TokenFormats'. -/
def tokenFormatsCard : Claim7 := { stood := { row := tokenFormatsRow, standIns := [], harness := (true, "a165864eb577c52207958db42708f35f4d9befb3a0fd17932063b17aa5fd9c85"), looks := true }, kinds := [], alts := [], laidByText := true, laidKinds := [.data, .pinned], laidTests := true, laidLooks := .later }
def TokenFormatsCardSaid : Prop := Claim7.holds Tryz.pinned (.plain (OpenSpec.ofChange tokenFormatsSpec)) tokenFormatsCard

/-- THE TIED CARD OF 'pandectlaw16.TokenRoundTrip'. -/
def tokenRoundTripCard : Claim7 := { stood := { row := tokenRoundTripRow, standIns := [], harness := (true, "a165864eb577c52207958db42708f35f4d9befb3a0fd17932063b17aa5fd9c85"), looks := true }, kinds := [], alts := [], laidByText := true, laidKinds := [.data, .pinned], laidTests := true, laidLooks := .later }
def TokenRoundTripCardSaid : Prop := Claim7.holds Tryz.pinned (.plain (OpenSpec.ofChange tokenRoundTripSpec)) tokenRoundTripCard

/-- THE SECOND FORM's CARD OF 'pandectlaw16.TokenScans'. -/
def tokenScansUptoCard : Claim7 := { stood := { row := tokenScansUptoRow, standIns := [], harness := (true, "a165864eb577c52207958db42708f35f4d9befb3a0fd17932063b17aa5fd9c85"), looks := true }, kinds := [], alts := [], laidByText := true, laidKinds := [.data, .pinned], laidTests := true, laidLooks := .later }
def TokenScansUptoCardSaid : Prop := Claim7.holds Tryz.pinned (.plain (OpenSpec.upto tokenScansSpec)) tokenScansUptoCard

/-- THE SECOND FORM's CARD OF 'pandectlaw16.TokenWhitespace'. -/
def tokenWhitespaceUptoCard : Claim7 := { stood := { row := tokenWhitespaceUptoRow, standIns := [], harness := (true, "a165864eb577c52207958db42708f35f4d9befb3a0fd17932063b17aa5fd9c85"), looks := true }, kinds := [], alts := [], laidByText := true, laidKinds := [.data, .pinned], laidTests := true, laidLooks := .later }
def TokenWhitespaceUptoCardSaid : Prop := Claim7.holds Tryz.pinned (.plain (OpenSpec.upto tokenWhitespaceSpec)) tokenWhitespaceUptoCard

/-- THE SECOND FORM's CARD OF 'pandectlaw16.TokenOffsets'. -/
def tokenOffsetsUptoCard : Claim7 := { stood := { row := tokenOffsetsUptoRow, standIns := [], harness := (true, "a165864eb577c52207958db42708f35f4d9befb3a0fd17932063b17aa5fd9c85"), looks := true }, kinds := [], alts := [], laidByText := true, laidKinds := [.data, .pinned], laidTests := true, laidLooks := .later }
def TokenOffsetsUptoCardSaid : Prop := Claim7.holds Tryz.pinned (.plain (OpenSpec.upto tokenOffsetsSpec)) tokenOffsetsUptoCard

/-- THE SECOND FORM's CARD OF 'pandectlaw16.TokenKinds'. -/
def tokenKindsUptoCard : Claim7 := { stood := { row := tokenKindsUptoRow, standIns := [], harness := (true, "a165864eb577c52207958db42708f35f4d9befb3a0fd17932063b17aa5fd9c85"), looks := true }, kinds := [], alts := [], laidByText := true, laidKinds := [.data, .pinned], laidTests := true, laidLooks := .later }
def TokenKindsUptoCardSaid : Prop := Claim7.holds Tryz.pinned (.plain (OpenSpec.upto tokenKindsSpec)) tokenKindsUptoCard

/-- THE SECOND FORM's CARD OF 'pandectlaw16.TokenQuotes'. -/
def tokenQuotesUptoCard : Claim7 := { stood := { row := tokenQuotesUptoRow, standIns := [], harness := (true, "a165864eb577c52207958db42708f35f4d9befb3a0fd17932063b17aa5fd9c85"), looks := true }, kinds := [], alts := [], laidByText := true, laidKinds := [.data, .pinned], laidTests := true, laidLooks := .later }
def TokenQuotesUptoCardSaid : Prop := Claim7.holds Tryz.pinned (.plain (OpenSpec.upto tokenQuotesSpec)) tokenQuotesUptoCard

/-- THE SECOND FORM's CARD OF 'pandectlaw16.TokenFormats'. -/
def tokenFormatsUptoCard : Claim7 := { stood := { row := tokenFormatsUptoRow, standIns := [], harness := (true, "a165864eb577c52207958db42708f35f4d9befb3a0fd17932063b17aa5fd9c85"), looks := true }, kinds := [], alts := [], laidByText := true, laidKinds := [.data, .pinned], laidTests := true, laidLooks := .later }
def TokenFormatsUptoCardSaid : Prop := Claim7.holds Tryz.pinned (.plain (OpenSpec.upto tokenFormatsSpec)) tokenFormatsUptoCard

/-- THE SECOND FORM's CARD OF 'pandectlaw16.TokenRoundTrip'. -/
def tokenRoundTripUptoCard : Claim7 := { stood := { row := tokenRoundTripUptoRow, standIns := [], harness := (true, "a165864eb577c52207958db42708f35f4d9befb3a0fd17932063b17aa5fd9c85"), looks := true }, kinds := [], alts := [], laidByText := true, laidKinds := [.data, .pinned], laidTests := true, laidLooks := .later }
def TokenRoundTripUptoCardSaid : Prop := Claim7.holds Tryz.pinned (.plain (OpenSpec.upto tokenRoundTripSpec)) tokenRoundTripUptoCard
end Rows
end Go.Proofs.YtmghejoigggooaaGreatDoor
