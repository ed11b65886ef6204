/-
  DERIVED. GIVEN WITH THE SEED: THE CARDS: each row of YtedcgagodcfgmaaGreatDoorRows.lean that lists a variable, with what it lists TIED to the program's text (the seventh form; the later family's looks); each row that meets fmt, with fmt's text TOLD by the authors' own Lean function (tested against real Go, not proved from fmt's source: count such statements apart). THE CARD IS WHAT COUNTS. Prove the row's statement (the work); the ties are given (YtedcgagodcfgmaaGreatDoorTie.lean); close each card by the builder's one call (the guide's Derived/Test/ToyasCard.lean, 'card_holds'). Laid BY PROGRAM, IN A SANDBOX (cutbox-door.mjs). By AI agents, Wed Nov 11 2026. No macro, syntax, notation, axiom, sorry.
-/
import Derived.Test.YtedcgagodcfgmaaGreatDoorRows
import GoSem.ClaimSeven
namespace Go.Proofs.YtedcgagodcfgmaaGreatDoor
namespace Rows

/-- THE TIED CARD OF 'pandectlaw40.LintItems'. -/
def lintItemsCard : Claim7 := { stood := { row := lintItemsRow, standIns := [], harness := (true, "a694773f5783405e46c2c1bac33c92d0da32f3c6c8906164123cf6162ba69dac"), looks := false }, kinds := [], alts := [], laidByText := true, laidKinds := [.data, .data, .data, .data, .data, .widerDeep, .funcs, .pinned], laidTests := true, laidLooks := .later }
def LintItemsCardSaid : Prop := Claim7.holds Tryz.pinned (.plain (OpenSpec.ofChange lintItemsSpec)) lintItemsCard

/-- THE TIED CARD OF 'pandectlaw40.LintActs'. -/
def lintActsCard : Claim7 := { stood := { row := lintActsRow, standIns := [], harness := (true, "a694773f5783405e46c2c1bac33c92d0da32f3c6c8906164123cf6162ba69dac"), looks := false }, kinds := [], alts := [], laidByText := true, laidKinds := [.data, .data, .data, .data, .data, .widerDeep, .funcs, .pinned], laidTests := true, laidLooks := .later }
def LintActsCardSaid : Prop := Claim7.holds Tryz.pinned (.plain (OpenSpec.ofChange lintActsSpec)) lintActsCard

/-- THE TIED CARD OF 'pandectlaw40.LintDuplicates'. -/
def lintDuplicatesCard : Claim7 := { stood := { row := lintDuplicatesRow, standIns := [], harness := (true, "a694773f5783405e46c2c1bac33c92d0da32f3c6c8906164123cf6162ba69dac"), looks := false }, kinds := [], alts := [], laidByText := true, laidKinds := [.data, .data, .data, .data, .data, .widerDeep, .funcs, .pinned], laidTests := true, laidLooks := .later }
def LintDuplicatesCardSaid : Prop := Claim7.holds Tryz.pinned (.plain (OpenSpec.ofChange lintDuplicatesSpec)) lintDuplicatesCard

/-- THE TIED CARD OF 'pandectlaw40.LintSound'. -/
def lintSoundCard : Claim7 := { stood := { row := lintSoundRow, standIns := [], harness := (true, "a694773f5783405e46c2c1bac33c92d0da32f3c6c8906164123cf6162ba69dac"), looks := false }, kinds := [], alts := [], laidByText := true, laidKinds := [.data, .data, .data, .data, .data, .widerDeep, .funcs, .pinned], laidTests := true, laidLooks := .later }
def LintSoundCardSaid : Prop := Claim7.holds Tryz.pinned (.plain (OpenSpec.ofChange lintSoundSpec)) lintSoundCard

/-- THE TIED CARD OF 'pandectlaw40.LintOnBook'. -/
def lintOnBookCard : Claim7 := { stood := { row := lintOnBookRow, standIns := [], harness := (true, "a694773f5783405e46c2c1bac33c92d0da32f3c6c8906164123cf6162ba69dac"), looks := false }, kinds := [], alts := [], laidByText := true, laidKinds := [.data, .data, .data, .data, .data, .widerDeep, .data, .funcs, .pinned], laidTests := true, laidLooks := .later }
def LintOnBookCardSaid : Prop := Claim7.holds Tryz.pinned (.plain (OpenSpec.ofChange lintOnBookSpec)) lintOnBookCard

/-- THE TIED CARD OF 'pandectlaw40.LintCleanActsSucceed'. -/
def lintCleanActsSucceedCard : Claim7 := { stood := { row := lintCleanActsSucceedRow, standIns := [], harness := (true, "a694773f5783405e46c2c1bac33c92d0da32f3c6c8906164123cf6162ba69dac"), looks := false }, kinds := [], alts := [], laidByText := true, laidKinds := [.data, .data, .data, .data, .data, .widerDeep, .data, .funcs, .pinned], laidTests := true, laidLooks := .later }
def LintCleanActsSucceedCardSaid : Prop := Claim7.holds Tryz.pinned (.plain (OpenSpec.ofChange lintCleanActsSucceedSpec)) lintCleanActsSucceedCard

/-- THE SECOND FORM's CARD OF 'pandectlaw40.LintItems'. -/
def lintItemsUptoCard : Claim7 := { stood := { row := lintItemsUptoRow, standIns := [], harness := (true, "a694773f5783405e46c2c1bac33c92d0da32f3c6c8906164123cf6162ba69dac"), looks := false }, kinds := [], alts := [], laidByText := true, laidKinds := [.data, .data, .data, .data, .data, .widerDeep, .funcs, .pinned], laidTests := true, laidLooks := .later }
def LintItemsUptoCardSaid : Prop := Claim7.holds Tryz.pinned (.plain (OpenSpec.upto lintItemsSpec)) lintItemsUptoCard

/-- THE SECOND FORM's CARD OF 'pandectlaw40.LintActs'. -/
def lintActsUptoCard : Claim7 := { stood := { row := lintActsUptoRow, standIns := [], harness := (true, "a694773f5783405e46c2c1bac33c92d0da32f3c6c8906164123cf6162ba69dac"), looks := false }, kinds := [], alts := [], laidByText := true, laidKinds := [.data, .data, .data, .data, .data, .widerDeep, .funcs, .pinned], laidTests := true, laidLooks := .later }
def LintActsUptoCardSaid : Prop := Claim7.holds Tryz.pinned (.plain (OpenSpec.upto lintActsSpec)) lintActsUptoCard

/-- THE SECOND FORM's CARD OF 'pandectlaw40.LintDuplicates'. -/
def lintDuplicatesUptoCard : Claim7 := { stood := { row := lintDuplicatesUptoRow, standIns := [], harness := (true, "a694773f5783405e46c2c1bac33c92d0da32f3c6c8906164123cf6162ba69dac"), looks := false }, kinds := [], alts := [], laidByText := true, laidKinds := [.data, .data, .data, .data, .data, .widerDeep, .funcs, .pinned], laidTests := true, laidLooks := .later }
def LintDuplicatesUptoCardSaid : Prop := Claim7.holds Tryz.pinned (.plain (OpenSpec.upto lintDuplicatesSpec)) lintDuplicatesUptoCard

/-- THE SECOND FORM's CARD OF 'pandectlaw40.LintSound'. -/
def lintSoundUptoCard : Claim7 := { stood := { row := lintSoundUptoRow, standIns := [], harness := (true, "a694773f5783405e46c2c1bac33c92d0da32f3c6c8906164123cf6162ba69dac"), looks := false }, kinds := [], alts := [], laidByText := true, laidKinds := [.data, .data, .data, .data, .data, .widerDeep, .funcs, .pinned], laidTests := true, laidLooks := .later }
def LintSoundUptoCardSaid : Prop := Claim7.holds Tryz.pinned (.plain (OpenSpec.upto lintSoundSpec)) lintSoundUptoCard

/-- THE SECOND FORM's CARD OF 'pandectlaw40.LintOnBook'. -/
def lintOnBookUptoCard : Claim7 := { stood := { row := lintOnBookUptoRow, standIns := [], harness := (true, "a694773f5783405e46c2c1bac33c92d0da32f3c6c8906164123cf6162ba69dac"), looks := false }, kinds := [], alts := [], laidByText := true, laidKinds := [.data, .data, .data, .data, .data, .widerDeep, .data, .funcs, .pinned], laidTests := true, laidLooks := .later }
def LintOnBookUptoCardSaid : Prop := Claim7.holds Tryz.pinned (.plain (OpenSpec.upto lintOnBookSpec)) lintOnBookUptoCard

/-- THE SECOND FORM's CARD OF 'pandectlaw40.LintCleanActsSucceed'. -/
def lintCleanActsSucceedUptoCard : Claim7 := { stood := { row := lintCleanActsSucceedUptoRow, standIns := [], harness := (true, "a694773f5783405e46c2c1bac33c92d0da32f3c6c8906164123cf6162ba69dac"), looks := false }, kinds := [], alts := [], laidByText := true, laidKinds := [.data, .data, .data, .data, .data, .widerDeep, .data, .funcs, .pinned], laidTests := true, laidLooks := .later }
def LintCleanActsSucceedUptoCardSaid : Prop := Claim7.holds Tryz.pinned (.plain (OpenSpec.upto lintCleanActsSucceedSpec)) lintCleanActsSucceedUptoCard
end Rows
end Go.Proofs.YtedcgagodcfgmaaGreatDoor
