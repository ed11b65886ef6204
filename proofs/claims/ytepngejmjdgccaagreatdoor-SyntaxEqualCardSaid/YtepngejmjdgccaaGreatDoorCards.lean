/-
  DERIVED. GIVEN WITH THE SEED: THE CARDS: each row of YtepngejmjdgccaaGreatDoorRows.lean that lists a variable, with what it lists TIED to the program's text (the seventh form; the later family's looks); each row that meets fmt, with fmt's text TOLD by the authors' own Lean function (tested against real Go, not proved from fmt's source: count such statements apart). THE CARD IS WHAT COUNTS. Prove the row's statement (the work); the ties are given (YtepngejmjdgccaaGreatDoorTie.lean); close each card by the builder's one call (the guide's Derived/Test/ToyasCard.lean, 'card_holds'). Laid BY PROGRAM, IN A SANDBOX (cutbox-door.mjs). By AI agents, Wed Nov 11 2026. No macro, syntax, notation, axiom, sorry.
-/
import Derived.Test.YtepngejmjdgccaaGreatDoorRows
import GoSem.ClaimSeven
namespace Go.Proofs.YtepngejmjdgccaaGreatDoor
namespace Rows

/-- THE TIED CARD OF 'pandectlaw17.SyntaxKinds'. -/
def syntaxKindsCard : Claim7 := { stood := { row := syntaxKindsRow, standIns := [], harness := (true, "5f0f5fa3f5a82a721fafe583728b3d38ed6927100997d82f80cdf8657eaca314"), looks := true }, kinds := [], alts := [], laidByText := true, laidKinds := [.data, .data, .data, .data, .sentinel, .sentinel, .data, .widerDeep, .data, .funcs, .pinned], laidTests := true, laidLooks := .later }
def SyntaxKindsCardSaid : Prop := Claim7.holds Tryz.pinned (.plain (OpenSpec.ofChange syntaxKindsSpec)) syntaxKindsCard

/-- THE TIED CARD OF 'pandectlaw17.SyntaxEqual'. -/
def syntaxEqualCard : Claim7 := { stood := { row := syntaxEqualRow, standIns := [], harness := (true, "5f0f5fa3f5a82a721fafe583728b3d38ed6927100997d82f80cdf8657eaca314"), looks := true }, kinds := [], alts := [], laidByText := true, laidKinds := [.data, .data, .data, .data, .sentinel, .sentinel, .data, .widerDeep, .data, .funcs, .pinned], laidTests := true, laidLooks := .later }
def SyntaxEqualCardSaid : Prop := Claim7.holds Tryz.pinned (.plain (OpenSpec.ofChange syntaxEqualSpec)) syntaxEqualCard

/-- THE SECOND FORM's CARD OF 'pandectlaw17.SyntaxKinds'. -/
def syntaxKindsUptoCard : Claim7 := { stood := { row := syntaxKindsUptoRow, standIns := [], harness := (true, "5f0f5fa3f5a82a721fafe583728b3d38ed6927100997d82f80cdf8657eaca314"), looks := true }, kinds := [], alts := [], laidByText := true, laidKinds := [.data, .data, .data, .data, .sentinel, .sentinel, .data, .widerDeep, .data, .funcs, .pinned], laidTests := true, laidLooks := .later }
def SyntaxKindsUptoCardSaid : Prop := Claim7.holds Tryz.pinned (.plain (OpenSpec.upto syntaxKindsSpec)) syntaxKindsUptoCard

/-- THE SECOND FORM's CARD OF 'pandectlaw17.SyntaxEqual'. -/
def syntaxEqualUptoCard : Claim7 := { stood := { row := syntaxEqualUptoRow, standIns := [], harness := (true, "5f0f5fa3f5a82a721fafe583728b3d38ed6927100997d82f80cdf8657eaca314"), looks := true }, kinds := [], alts := [], laidByText := true, laidKinds := [.data, .data, .data, .data, .sentinel, .sentinel, .data, .widerDeep, .data, .funcs, .pinned], laidTests := true, laidLooks := .later }
def SyntaxEqualUptoCardSaid : Prop := Claim7.holds Tryz.pinned (.plain (OpenSpec.upto syntaxEqualSpec)) syntaxEqualUptoCard
end Rows
end Go.Proofs.YtepngejmjdgccaaGreatDoor
