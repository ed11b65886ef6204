/-
  DERIVED. GIVEN WITH THE SEED: THE CARDS: each row of YtcecmifknojgeaaGreatDoorRows.lean that lists a variable, with what it lists TIED to the program's text (the seventh form; the later family's looks); each row that meets fmt, with fmt's text TOLD by the authors' own Lean function (tested against real Go, not proved from fmt's source: count such statements apart). THE CARD IS WHAT COUNTS. Prove the row's statement (the work); the ties are given (YtcecmifknojgeaaGreatDoorTie.lean); close each card by the builder's one call (the guide's Derived/Test/ToyasCard.lean, 'card_holds'). Laid BY PROGRAM, IN A SANDBOX (cutbox-door.mjs). By AI agents, Wed Nov 11 2026. No macro, syntax, notation, axiom, sorry.
-/
import Derived.Test.YtcecmifknojgeaaGreatDoorRows
import GoSem.ClaimSeven
namespace Go.Proofs.YtcecmifknojgeaaGreatDoor
namespace Rows

/-- THE TIED CARD OF 'pandectlaw23.EnactApply'. -/
def enactApplyCard : Claim7 := { stood := { row := enactApplyRow, standIns := [], harness := (true, "016749d6261987036120d5da037e99f2e5bd448834b4fd1e3a6acb5987100649"), looks := false }, kinds := [], alts := [], laidByText := true, laidKinds := [.data, .data, .widerDeep, .funcs, .pinned], laidTests := true, laidLooks := .later }
def EnactApplyCardSaid : Prop := Claim7.holds Tryz.pinned (.plain (OpenSpec.ofChange enactApplySpec)) enactApplyCard

/-- THE TIED CARD OF 'pandectlaw23.EnactApplyAll'. -/
def enactApplyAllCard : Claim7 := { stood := { row := enactApplyAllRow, standIns := [], harness := (true, "016749d6261987036120d5da037e99f2e5bd448834b4fd1e3a6acb5987100649"), looks := false }, kinds := [], alts := [], laidByText := true, laidKinds := [.data, .data, .widerDeep, .funcs, .pinned], laidTests := true, laidLooks := .later }
def EnactApplyAllCardSaid : Prop := Claim7.holds Tryz.pinned (.plain (OpenSpec.ofChange enactApplyAllSpec)) enactApplyAllCard

/-- THE TIED CARD OF 'pandectlaw23.EnactStands'. -/
def enactStandsCard : Claim7 := { stood := { row := enactStandsRow, standIns := [], harness := (true, "016749d6261987036120d5da037e99f2e5bd448834b4fd1e3a6acb5987100649"), looks := false }, kinds := [], alts := [], laidByText := true, laidKinds := [.data, .data, .widerDeep, .funcs, .pinned], laidTests := true, laidLooks := .later }
def EnactStandsCardSaid : Prop := Claim7.holds Tryz.pinned (.plain (OpenSpec.ofChange enactStandsSpec)) enactStandsCard

/-- THE TIED CARD OF 'pandectlaw23.EnactUniqueMarks'. -/
def enactUniqueMarksCard : Claim7 := { stood := { row := enactUniqueMarksRow, standIns := [], harness := (true, "016749d6261987036120d5da037e99f2e5bd448834b4fd1e3a6acb5987100649"), looks := false }, kinds := [], alts := [], laidByText := true, laidKinds := [.data, .data, .widerDeep, .funcs, .pinned], laidTests := true, laidLooks := .later }
def EnactUniqueMarksCardSaid : Prop := Claim7.holds Tryz.pinned (.plain (OpenSpec.ofChange enactUniqueMarksSpec)) enactUniqueMarksCard

/-- THE TIED CARD OF 'pandectlaw23.EnactApplyAct'. -/
def enactApplyActCard : Claim7 := { stood := { row := enactApplyActRow, standIns := [], harness := (true, "016749d6261987036120d5da037e99f2e5bd448834b4fd1e3a6acb5987100649"), looks := false }, kinds := [], alts := [], laidByText := true, laidKinds := [.data, .data, .widerDeep, .funcs, .pinned], laidTests := true, laidLooks := .later }
def EnactApplyActCardSaid : Prop := Claim7.holds Tryz.pinned (.plain (OpenSpec.ofChange enactApplyActSpec)) enactApplyActCard

/-- THE TIED CARD OF 'pandectlaw23.EnactAffected'. -/
def enactAffectedCard : Claim7 := { stood := { row := enactAffectedRow, standIns := [], harness := (true, "016749d6261987036120d5da037e99f2e5bd448834b4fd1e3a6acb5987100649"), looks := false }, kinds := [], alts := [], laidByText := true, laidKinds := [.data, .data, .widerDeep, .funcs, .pinned], laidTests := true, laidLooks := .later }
def EnactAffectedCardSaid : Prop := Claim7.holds Tryz.pinned (.plain (OpenSpec.ofChange enactAffectedSpec)) enactAffectedCard

/-- THE TIED CARD OF 'pandectlaw23.EnactPreserves'. -/
def enactPreservesCard : Claim7 := { stood := { row := enactPreservesRow, standIns := [], harness := (true, "016749d6261987036120d5da037e99f2e5bd448834b4fd1e3a6acb5987100649"), looks := false }, kinds := [], alts := [], laidByText := true, laidKinds := [.data, .data, .widerDeep, .funcs, .pinned], laidTests := true, laidLooks := .later }
def EnactPreservesCardSaid : Prop := Claim7.holds Tryz.pinned (.plain (OpenSpec.ofChange enactPreservesSpec)) enactPreservesCard

/-- THE SECOND FORM's CARD OF 'pandectlaw23.EnactApply'. -/
def enactApplyUptoCard : Claim7 := { stood := { row := enactApplyUptoRow, standIns := [], harness := (true, "016749d6261987036120d5da037e99f2e5bd448834b4fd1e3a6acb5987100649"), looks := false }, kinds := [], alts := [], laidByText := true, laidKinds := [.data, .data, .widerDeep, .funcs, .pinned], laidTests := true, laidLooks := .later }
def EnactApplyUptoCardSaid : Prop := Claim7.holds Tryz.pinned (.plain (OpenSpec.upto enactApplySpec)) enactApplyUptoCard

/-- THE SECOND FORM's CARD OF 'pandectlaw23.EnactApplyAll'. -/
def enactApplyAllUptoCard : Claim7 := { stood := { row := enactApplyAllUptoRow, standIns := [], harness := (true, "016749d6261987036120d5da037e99f2e5bd448834b4fd1e3a6acb5987100649"), looks := false }, kinds := [], alts := [], laidByText := true, laidKinds := [.data, .data, .widerDeep, .funcs, .pinned], laidTests := true, laidLooks := .later }
def EnactApplyAllUptoCardSaid : Prop := Claim7.holds Tryz.pinned (.plain (OpenSpec.upto enactApplyAllSpec)) enactApplyAllUptoCard

/-- THE SECOND FORM's CARD OF 'pandectlaw23.EnactStands'. -/
def enactStandsUptoCard : Claim7 := { stood := { row := enactStandsUptoRow, standIns := [], harness := (true, "016749d6261987036120d5da037e99f2e5bd448834b4fd1e3a6acb5987100649"), looks := false }, kinds := [], alts := [], laidByText := true, laidKinds := [.data, .data, .widerDeep, .funcs, .pinned], laidTests := true, laidLooks := .later }
def EnactStandsUptoCardSaid : Prop := Claim7.holds Tryz.pinned (.plain (OpenSpec.upto enactStandsSpec)) enactStandsUptoCard

/-- THE SECOND FORM's CARD OF 'pandectlaw23.EnactUniqueMarks'. -/
def enactUniqueMarksUptoCard : Claim7 := { stood := { row := enactUniqueMarksUptoRow, standIns := [], harness := (true, "016749d6261987036120d5da037e99f2e5bd448834b4fd1e3a6acb5987100649"), looks := false }, kinds := [], alts := [], laidByText := true, laidKinds := [.data, .data, .widerDeep, .funcs, .pinned], laidTests := true, laidLooks := .later }
def EnactUniqueMarksUptoCardSaid : Prop := Claim7.holds Tryz.pinned (.plain (OpenSpec.upto enactUniqueMarksSpec)) enactUniqueMarksUptoCard

/-- THE SECOND FORM's CARD OF 'pandectlaw23.EnactApplyAct'. -/
def enactApplyActUptoCard : Claim7 := { stood := { row := enactApplyActUptoRow, standIns := [], harness := (true, "016749d6261987036120d5da037e99f2e5bd448834b4fd1e3a6acb5987100649"), looks := false }, kinds := [], alts := [], laidByText := true, laidKinds := [.data, .data, .widerDeep, .funcs, .pinned], laidTests := true, laidLooks := .later }
def EnactApplyActUptoCardSaid : Prop := Claim7.holds Tryz.pinned (.plain (OpenSpec.upto enactApplyActSpec)) enactApplyActUptoCard

/-- THE SECOND FORM's CARD OF 'pandectlaw23.EnactAffected'. -/
def enactAffectedUptoCard : Claim7 := { stood := { row := enactAffectedUptoRow, standIns := [], harness := (true, "016749d6261987036120d5da037e99f2e5bd448834b4fd1e3a6acb5987100649"), looks := false }, kinds := [], alts := [], laidByText := true, laidKinds := [.data, .data, .widerDeep, .funcs, .pinned], laidTests := true, laidLooks := .later }
def EnactAffectedUptoCardSaid : Prop := Claim7.holds Tryz.pinned (.plain (OpenSpec.upto enactAffectedSpec)) enactAffectedUptoCard

/-- THE SECOND FORM's CARD OF 'pandectlaw23.EnactPreserves'. -/
def enactPreservesUptoCard : Claim7 := { stood := { row := enactPreservesUptoRow, standIns := [], harness := (true, "016749d6261987036120d5da037e99f2e5bd448834b4fd1e3a6acb5987100649"), looks := false }, kinds := [], alts := [], laidByText := true, laidKinds := [.data, .data, .widerDeep, .funcs, .pinned], laidTests := true, laidLooks := .later }
def EnactPreservesUptoCardSaid : Prop := Claim7.holds Tryz.pinned (.plain (OpenSpec.upto enactPreservesSpec)) enactPreservesUptoCard
end Rows
end Go.Proofs.YtcecmifknojgeaaGreatDoor
