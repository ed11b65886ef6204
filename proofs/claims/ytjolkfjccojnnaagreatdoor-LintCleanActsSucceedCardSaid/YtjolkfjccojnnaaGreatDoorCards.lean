/-
  DERIVED. GIVEN WITH THE SEED: THE CARDS: each row of YtjolkfjccojnnaaGreatDoorRows.lean that lists a variable, with what it lists TIED to the program's text (the seventh form; the later family's looks); each row that meets fmt, with fmt's text TOLD by the authors' own Lean function (tested against real Go, not proved from fmt's source: count such statements apart). THE CARD IS WHAT COUNTS. Prove the row's statement (the work); the ties are given (YtjolkfjccojnnaaGreatDoorTie.lean); close each card by the builder's one call (the guide's Derived/Test/ToyasCard.lean, 'card_holds'). Laid BY PROGRAM, IN A SANDBOX (cutbox-door.mjs). By AI agents, Wed Nov 11 2026. No macro, syntax, notation, axiom, sorry.
-/
import Derived.Test.YtjolkfjccojnnaaGreatDoorRows
import GoSem.ClaimSeven
namespace Go.Proofs.YtjolkfjccojnnaaGreatDoor
namespace Rows

/-- THE TIED CARD OF 'pandectlaw40.LintSound'. -/
def lintSoundCard : Claim7 := { stood := { row := lintSoundRow, standIns := [], harness := (true, "366323f3a704b65fd974616f6294f30b83d783050e966db94ac5c36dba0e7ef7"), looks := false }, kinds := [], alts := [], laidByText := true, laidKinds := [.data, .data, .data, .data, .data, .widerDeep, .funcs, .pinned], laidTests := true, laidLooks := .later }
def LintSoundCardSaid : Prop := Claim7.holds Tryz.pinned (.plain (OpenSpec.ofChange lintSoundSpec)) lintSoundCard

/-- THE TIED CARD OF 'pandectlaw40.LintCleanActsSucceed'. -/
def lintCleanActsSucceedCard : Claim7 := { stood := { row := lintCleanActsSucceedRow, standIns := [], harness := (true, "366323f3a704b65fd974616f6294f30b83d783050e966db94ac5c36dba0e7ef7"), looks := false }, kinds := [], alts := [], laidByText := true, laidKinds := [.data, .data, .data, .data, .data, .widerDeep, .data, .funcs, .pinned], laidTests := true, laidLooks := .later }
def LintCleanActsSucceedCardSaid : Prop := Claim7.holds Tryz.pinned (.plain (OpenSpec.ofChange lintCleanActsSucceedSpec)) lintCleanActsSucceedCard

/-- THE SECOND FORM's CARD OF 'pandectlaw40.LintSound'. -/
def lintSoundUptoCard : Claim7 := { stood := { row := lintSoundUptoRow, standIns := [], harness := (true, "366323f3a704b65fd974616f6294f30b83d783050e966db94ac5c36dba0e7ef7"), looks := false }, kinds := [], alts := [], laidByText := true, laidKinds := [.data, .data, .data, .data, .data, .widerDeep, .funcs, .pinned], laidTests := true, laidLooks := .later }
def LintSoundUptoCardSaid : Prop := Claim7.holds Tryz.pinned (.plain (OpenSpec.upto lintSoundSpec)) lintSoundUptoCard

/-- THE SECOND FORM's CARD OF 'pandectlaw40.LintCleanActsSucceed'. -/
def lintCleanActsSucceedUptoCard : Claim7 := { stood := { row := lintCleanActsSucceedUptoRow, standIns := [], harness := (true, "366323f3a704b65fd974616f6294f30b83d783050e966db94ac5c36dba0e7ef7"), looks := false }, kinds := [], alts := [], laidByText := true, laidKinds := [.data, .data, .data, .data, .data, .widerDeep, .data, .funcs, .pinned], laidTests := true, laidLooks := .later }
def LintCleanActsSucceedUptoCardSaid : Prop := Claim7.holds Tryz.pinned (.plain (OpenSpec.upto lintCleanActsSucceedSpec)) lintCleanActsSucceedUptoCard
end Rows
end Go.Proofs.YtjolkfjccojnnaaGreatDoor
