/-
  DERIVED. GIVEN WITH THE SEED: THE CARDS: each row of YtnoakpkjccigoaaGreatDoorRows.lean that lists a variable, with what it lists TIED to the program's text (the seventh form; the later family's looks); each row that meets fmt, with fmt's text TOLD by the authors' own Lean function (tested against real Go, not proved from fmt's source: count such statements apart). THE CARD IS WHAT COUNTS. Prove the row's statement (the work); the ties are given (YtnoakpkjccigoaaGreatDoorTie.lean); close each card by the builder's one call (the guide's Derived/Test/ToyasCard.lean, 'card_holds'). Laid BY PROGRAM, IN A SANDBOX (cutbox-door.mjs). By AI agents, Wed Nov 11 2026. No macro, syntax, notation, axiom, sorry.
-/
import Derived.Test.YtnoakpkjccigoaaGreatDoorRows
import GoSem.ClaimSeven
namespace Go.Proofs.YtnoakpkjccigoaaGreatDoor
namespace Rows

/-- THE TIED CARD OF 'pandectlaw24.UndoFormats'. -/
def undoFormatsCard : Claim7 := { stood := { row := undoFormatsRow, standIns := [], harness := (true, "8ae1d17a1eb33948f41d548484ffdb889d5cfb9941cde726b86489971c86b6f4"), looks := false }, kinds := [], alts := [], laidByText := true, laidKinds := [.data, .data, .data, .data, .data, .widerDeep, .funcs, .pinned], laidTests := true, laidLooks := .later }
def UndoFormatsCardSaid : Prop := Claim7.holds Tryz.pinned (.plain (OpenSpec.ofChange undoFormatsSpec)) undoFormatsCard

/-- THE TIED CARD OF 'pandectlaw24.UndoReverts'. -/
def undoRevertsCard : Claim7 := { stood := { row := undoRevertsRow, standIns := [], harness := (true, "8ae1d17a1eb33948f41d548484ffdb889d5cfb9941cde726b86489971c86b6f4"), looks := false }, kinds := [], alts := [], laidByText := true, laidKinds := [.data, .data, .data, .data, .data, .widerDeep, .funcs, .pinned], laidTests := true, laidLooks := .later }
def UndoRevertsCardSaid : Prop := Claim7.holds Tryz.pinned (.plain (OpenSpec.ofChange undoRevertsSpec)) undoRevertsCard

/-- THE TIED CARD OF 'pandectlaw24.UndoSingle'. -/
def undoSingleCard : Claim7 := { stood := { row := undoSingleRow, standIns := [], harness := (true, "8ae1d17a1eb33948f41d548484ffdb889d5cfb9941cde726b86489971c86b6f4"), looks := false }, kinds := [], alts := [], laidByText := true, laidKinds := [.data, .data, .data, .data, .data, .widerDeep, .funcs, .pinned], laidTests := true, laidLooks := .later }
def UndoSingleCardSaid : Prop := Claim7.holds Tryz.pinned (.plain (OpenSpec.ofChange undoSingleSpec)) undoSingleCard

/-- THE TIED CARD OF 'pandectlaw24.UndoPrefix'. -/
def undoPrefixCard : Claim7 := { stood := { row := undoPrefixRow, standIns := [], harness := (true, "8ae1d17a1eb33948f41d548484ffdb889d5cfb9941cde726b86489971c86b6f4"), looks := false }, kinds := [], alts := [], laidByText := true, laidKinds := [.data, .data, .data, .data, .data, .widerDeep, .funcs, .pinned], laidTests := true, laidLooks := .later }
def UndoPrefixCardSaid : Prop := Claim7.holds Tryz.pinned (.plain (OpenSpec.ofChange undoPrefixSpec)) undoPrefixCard

/-- THE TIED CARD OF 'pandectlaw24.UndoRedo'. -/
def undoRedoCard : Claim7 := { stood := { row := undoRedoRow, standIns := [], harness := (true, "8ae1d17a1eb33948f41d548484ffdb889d5cfb9941cde726b86489971c86b6f4"), looks := false }, kinds := [], alts := [], laidByText := true, laidKinds := [.data, .data, .data, .data, .data, .widerDeep, .funcs, .pinned], laidTests := true, laidLooks := .later }
def UndoRedoCardSaid : Prop := Claim7.holds Tryz.pinned (.plain (OpenSpec.ofChange undoRedoSpec)) undoRedoCard

/-- THE TIED CARD OF 'pandectlaw24.UndoAll'. -/
def undoAllCard : Claim7 := { stood := { row := undoAllRow, standIns := [], harness := (true, "8ae1d17a1eb33948f41d548484ffdb889d5cfb9941cde726b86489971c86b6f4"), looks := false }, kinds := [], alts := [], laidByText := true, laidKinds := [.data, .data, .data, .data, .data, .widerDeep, .funcs, .pinned], laidTests := true, laidLooks := .later }
def UndoAllCardSaid : Prop := Claim7.holds Tryz.pinned (.plain (OpenSpec.ofChange undoAllSpec)) undoAllCard

/-- THE SECOND FORM's CARD OF 'pandectlaw24.UndoFormats'. -/
def undoFormatsUptoCard : Claim7 := { stood := { row := undoFormatsUptoRow, standIns := [], harness := (true, "8ae1d17a1eb33948f41d548484ffdb889d5cfb9941cde726b86489971c86b6f4"), looks := false }, kinds := [], alts := [], laidByText := true, laidKinds := [.data, .data, .data, .data, .data, .widerDeep, .funcs, .pinned], laidTests := true, laidLooks := .later }
def UndoFormatsUptoCardSaid : Prop := Claim7.holds Tryz.pinned (.plain (OpenSpec.upto undoFormatsSpec)) undoFormatsUptoCard

/-- THE SECOND FORM's CARD OF 'pandectlaw24.UndoReverts'. -/
def undoRevertsUptoCard : Claim7 := { stood := { row := undoRevertsUptoRow, standIns := [], harness := (true, "8ae1d17a1eb33948f41d548484ffdb889d5cfb9941cde726b86489971c86b6f4"), looks := false }, kinds := [], alts := [], laidByText := true, laidKinds := [.data, .data, .data, .data, .data, .widerDeep, .funcs, .pinned], laidTests := true, laidLooks := .later }
def UndoRevertsUptoCardSaid : Prop := Claim7.holds Tryz.pinned (.plain (OpenSpec.upto undoRevertsSpec)) undoRevertsUptoCard

/-- THE SECOND FORM's CARD OF 'pandectlaw24.UndoSingle'. -/
def undoSingleUptoCard : Claim7 := { stood := { row := undoSingleUptoRow, standIns := [], harness := (true, "8ae1d17a1eb33948f41d548484ffdb889d5cfb9941cde726b86489971c86b6f4"), looks := false }, kinds := [], alts := [], laidByText := true, laidKinds := [.data, .data, .data, .data, .data, .widerDeep, .funcs, .pinned], laidTests := true, laidLooks := .later }
def UndoSingleUptoCardSaid : Prop := Claim7.holds Tryz.pinned (.plain (OpenSpec.upto undoSingleSpec)) undoSingleUptoCard

/-- THE SECOND FORM's CARD OF 'pandectlaw24.UndoPrefix'. -/
def undoPrefixUptoCard : Claim7 := { stood := { row := undoPrefixUptoRow, standIns := [], harness := (true, "8ae1d17a1eb33948f41d548484ffdb889d5cfb9941cde726b86489971c86b6f4"), looks := false }, kinds := [], alts := [], laidByText := true, laidKinds := [.data, .data, .data, .data, .data, .widerDeep, .funcs, .pinned], laidTests := true, laidLooks := .later }
def UndoPrefixUptoCardSaid : Prop := Claim7.holds Tryz.pinned (.plain (OpenSpec.upto undoPrefixSpec)) undoPrefixUptoCard

/-- THE SECOND FORM's CARD OF 'pandectlaw24.UndoRedo'. -/
def undoRedoUptoCard : Claim7 := { stood := { row := undoRedoUptoRow, standIns := [], harness := (true, "8ae1d17a1eb33948f41d548484ffdb889d5cfb9941cde726b86489971c86b6f4"), looks := false }, kinds := [], alts := [], laidByText := true, laidKinds := [.data, .data, .data, .data, .data, .widerDeep, .funcs, .pinned], laidTests := true, laidLooks := .later }
def UndoRedoUptoCardSaid : Prop := Claim7.holds Tryz.pinned (.plain (OpenSpec.upto undoRedoSpec)) undoRedoUptoCard

/-- THE SECOND FORM's CARD OF 'pandectlaw24.UndoAll'. -/
def undoAllUptoCard : Claim7 := { stood := { row := undoAllUptoRow, standIns := [], harness := (true, "8ae1d17a1eb33948f41d548484ffdb889d5cfb9941cde726b86489971c86b6f4"), looks := false }, kinds := [], alts := [], laidByText := true, laidKinds := [.data, .data, .data, .data, .data, .widerDeep, .funcs, .pinned], laidTests := true, laidLooks := .later }
def UndoAllUptoCardSaid : Prop := Claim7.holds Tryz.pinned (.plain (OpenSpec.upto undoAllSpec)) undoAllUptoCard
end Rows
end Go.Proofs.YtnoakpkjccigoaaGreatDoor
