/-
  DERIVED. GIVEN WITH THE SEED: THE CARDS: each row of YtjdccoplpljmlaaGreatDoorRows.lean that lists a variable, with what it lists TIED to the program's text (the seventh form; the later family's looks); each row that meets fmt, with fmt's text TOLD by the authors' own Lean function (tested against real Go, not proved from fmt's source: count such statements apart). THE CARD IS WHAT COUNTS. Prove the row's statement (the work); the ties are given (YtjdccoplpljmlaaGreatDoorTie.lean); close each card by the builder's one call (the guide's Derived/Test/ToyasCard.lean, 'card_holds'). Laid BY PROGRAM, IN A SANDBOX (cutbox-door.mjs). By AI agents, Wed Nov 11 2026. No macro, syntax, notation, axiom, sorry.
-/
import Derived.Test.YtjdccoplpljmlaaGreatDoorRows
import GoSem.ClaimSeven
namespace Go.Proofs.YtjdccoplpljmlaaGreatDoor
namespace Rows

/-- THE TIED CARD OF 'pandecttop.TopValid'. -/
def topValidCard : Claim7 := { stood := { row := topValidRow, standIns := [], harness := (true, "547348d3737bc9f45d45a9b16d118288b4cceb3f3af7707447cb30589e7a9727"), looks := false }, kinds := [], alts := [], laidByText := true, laidKinds := [.data, .data, .widerDeep, .funcs, .pinned], laidTests := true, laidLooks := .later }
def TopValidCardSaid : Prop := Claim7.holds Tryz.pinned (.plain (OpenSpec.ofChange topValidSpec)) topValidCard

/-- THE TIED CARD OF 'pandectlaw49.DiffSets'. -/
def diffSetsCard : Claim7 := { stood := { row := diffSetsRow, standIns := [], harness := (true, "547348d3737bc9f45d45a9b16d118288b4cceb3f3af7707447cb30589e7a9727"), looks := false }, kinds := [], alts := [], laidByText := true, laidKinds := [.data, .data, .data, .data, .data, .widerDeep, .funcs, .pinned], laidTests := true, laidLooks := .later }
def DiffSetsCardSaid : Prop := Claim7.holds Tryz.pinned (.plain (OpenSpec.ofChange diffSetsSpec)) diffSetsCard

/-- THE TIED CARD OF 'pandectlaw49.DiffIdentity'. -/
def diffIdentityCard : Claim7 := { stood := { row := diffIdentityRow, standIns := [], harness := (true, "547348d3737bc9f45d45a9b16d118288b4cceb3f3af7707447cb30589e7a9727"), looks := false }, kinds := [], alts := [], laidByText := true, laidKinds := [.data, .data, .data, .data, .data, .widerDeep, .funcs, .pinned], laidTests := true, laidLooks := .later }
def DiffIdentityCardSaid : Prop := Claim7.holds Tryz.pinned (.plain (OpenSpec.ofChange diffIdentitySpec)) diffIdentityCard

/-- THE SECOND FORM's CARD OF 'pandecttop.TopValid'. -/
def topValidUptoCard : Claim7 := { stood := { row := topValidUptoRow, standIns := [], harness := (true, "547348d3737bc9f45d45a9b16d118288b4cceb3f3af7707447cb30589e7a9727"), looks := false }, kinds := [], alts := [], laidByText := true, laidKinds := [.data, .data, .widerDeep, .funcs, .pinned], laidTests := true, laidLooks := .later }
def TopValidUptoCardSaid : Prop := Claim7.holds Tryz.pinned (.plain (OpenSpec.upto topValidSpec)) topValidUptoCard

/-- THE SECOND FORM's CARD OF 'pandectlaw49.DiffSets'. -/
def diffSetsUptoCard : Claim7 := { stood := { row := diffSetsUptoRow, standIns := [], harness := (true, "547348d3737bc9f45d45a9b16d118288b4cceb3f3af7707447cb30589e7a9727"), looks := false }, kinds := [], alts := [], laidByText := true, laidKinds := [.data, .data, .data, .data, .data, .widerDeep, .funcs, .pinned], laidTests := true, laidLooks := .later }
def DiffSetsUptoCardSaid : Prop := Claim7.holds Tryz.pinned (.plain (OpenSpec.upto diffSetsSpec)) diffSetsUptoCard

/-- THE SECOND FORM's CARD OF 'pandectlaw49.DiffIdentity'. -/
def diffIdentityUptoCard : Claim7 := { stood := { row := diffIdentityUptoRow, standIns := [], harness := (true, "547348d3737bc9f45d45a9b16d118288b4cceb3f3af7707447cb30589e7a9727"), looks := false }, kinds := [], alts := [], laidByText := true, laidKinds := [.data, .data, .data, .data, .data, .widerDeep, .funcs, .pinned], laidTests := true, laidLooks := .later }
def DiffIdentityUptoCardSaid : Prop := Claim7.holds Tryz.pinned (.plain (OpenSpec.upto diffIdentitySpec)) diffIdentityUptoCard
end Rows
end Go.Proofs.YtjdccoplpljmlaaGreatDoor
