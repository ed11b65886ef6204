/-
  DERIVED. GIVEN WITH THE SEED: THE CARDS: each row of YtppjieiiibgagaaGreatDoorRows.lean that lists a variable, with what it lists TIED to the program's text (the seventh form; the later family's looks); each row that meets fmt, with fmt's text TOLD by the authors' own Lean function (tested against real Go, not proved from fmt's source: count such statements apart). THE CARD IS WHAT COUNTS. Prove the row's statement (the work); the ties are given (YtppjieiiibgagaaGreatDoorTie.lean); close each card by the builder's one call (the guide's Derived/Test/ToyasCard.lean, 'card_holds'). Laid BY PROGRAM, IN A SANDBOX (cutbox-door.mjs). By AI agents, Wed Nov 11 2026. No macro, syntax, notation, axiom, sorry.
-/
import Derived.Test.YtppjieiiibgagaaGreatDoorRows
import GoSem.ClaimSeven
namespace Go.Proofs.YtppjieiiibgagaaGreatDoor
namespace Rows

/-- THE TIED CARD OF 'pandectlaw24.UndoInverses'. -/
def undoInversesCard : Claim7 := { stood := { row := undoInversesRow, standIns := [], harness := (true, "33060e5367627e7f513b34f7d28149ba6f158f0dd814e44c717df4715b24c8a0"), looks := false }, kinds := [], alts := [], laidByText := true, laidKinds := [.data, .data, .data, .data, .data, .widerDeep, .funcs, .pinned], laidTests := true, laidLooks := .later }
def UndoInversesCardSaid : Prop := Claim7.holds Tryz.pinned (.plain (OpenSpec.ofChange undoInversesSpec)) undoInversesCard

/-- THE TIED CARD OF 'pandectlaw40.LintOnBook'. -/
def lintOnBookCard : Claim7 := { stood := { row := lintOnBookRow, standIns := [], harness := (true, "33060e5367627e7f513b34f7d28149ba6f158f0dd814e44c717df4715b24c8a0"), looks := false }, kinds := [], alts := [], laidByText := true, laidKinds := [.data, .data, .data, .data, .data, .widerDeep, .data, .funcs, .pinned], laidTests := true, laidLooks := .later }
def LintOnBookCardSaid : Prop := Claim7.holds Tryz.pinned (.plain (OpenSpec.ofChange lintOnBookSpec)) lintOnBookCard

/-- THE SECOND FORM's CARD OF 'pandectlaw24.UndoInverses'. -/
def undoInversesUptoCard : Claim7 := { stood := { row := undoInversesUptoRow, standIns := [], harness := (true, "33060e5367627e7f513b34f7d28149ba6f158f0dd814e44c717df4715b24c8a0"), looks := false }, kinds := [], alts := [], laidByText := true, laidKinds := [.data, .data, .data, .data, .data, .widerDeep, .funcs, .pinned], laidTests := true, laidLooks := .later }
def UndoInversesUptoCardSaid : Prop := Claim7.holds Tryz.pinned (.plain (OpenSpec.upto undoInversesSpec)) undoInversesUptoCard

/-- THE SECOND FORM's CARD OF 'pandectlaw40.LintOnBook'. -/
def lintOnBookUptoCard : Claim7 := { stood := { row := lintOnBookUptoRow, standIns := [], harness := (true, "33060e5367627e7f513b34f7d28149ba6f158f0dd814e44c717df4715b24c8a0"), looks := false }, kinds := [], alts := [], laidByText := true, laidKinds := [.data, .data, .data, .data, .data, .widerDeep, .data, .funcs, .pinned], laidTests := true, laidLooks := .later }
def LintOnBookUptoCardSaid : Prop := Claim7.holds Tryz.pinned (.plain (OpenSpec.upto lintOnBookSpec)) lintOnBookUptoCard
end Rows
end Go.Proofs.YtppjieiiibgagaaGreatDoor
