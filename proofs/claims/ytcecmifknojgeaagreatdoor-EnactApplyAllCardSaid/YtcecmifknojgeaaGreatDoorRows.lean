/-
  NARROWER THAN 'FOR EVERY INPUT', by the rows' own cells (each row's printed sentence says how): EnactApply: loops, laid · EnactApplyAll: loops, laid · EnactStands: loops, laid · EnactUniqueMarks: loops, laid · EnactApplyAct: loops, laid · EnactAffected: loops, laid · EnactPreserves: loops, laid.
  DERIVED. THE GIVEN ROWS OF THIS SEAT. 7 by the template 'for every input the law returns true; each argument reads behind the call as it read before'; 0 by the template 'total and deterministic' (their statements: YtcecmifknojgeaaGreatDoorTotals.lean).
  GIVEN WITH THE SEED: the statements are not yours to turn. If you find one false, say at which input.
  Laid BY PROGRAM, IN A SANDBOX (cutbox-rows.mjs): the forced cells as the released guide's own fill.sh prints them over the translation df528d9922afc97d… (all of the seat's roots in one cut). By AI agents, Wed Nov 11 2026. No macro, syntax, notation, axiom, sorry.
-/
import Derived.Test.YtcecmifknojgeaaGreatDoorChecked
import GoSem.PinnedTables
import GoSem.Claim
import GoSem.ClaimJoined
import GoSem.ClaimMapViews
import Derived.JoinedTies
import Derived.KernelRfl
namespace Go.Proofs.YtcecmifknojgeaaGreatDoor
/- THE CELL 'sum', in the pinned program and in every row, IS THE sha256 OF THE DUMP (.gsa) THAT YtcecmifknojgeaaGreatDoorProg.lean LOADS. Nothing in Lean hashes anything: it is a label: what it is worth is what the hold of that sum in a sandbox is worth. -/
noncomputable def Tryz.pinned : Pinned := { name := "ytcecmifknojgeaagreatdoor", sum := "df528d9922afc97dcd8f4a0bfb68709daf9f8bbe6b0a9a8591ca061b0e89c67b", checked := Tryz.checked }
namespace Rows
def none {H : Type} : Left H := { results := [], args := [] }

/- WHAT THE LISTED PACKAGE-LEVEL VARIABLES READ AS WHEN THE CALL BEGINS. Each datum BY PROGRAM (the guide's laid-datum.mjs) off the statement by which the dump's own 'gosem.cut.vars' lays the variable. In a bare row this is a premise. The card (YtcecmifknojgeaaGreatDoorCards.lean) ties it to the program's text. -/
def laid_unicode_utf8_acceptRanges {H : Type} : DataW H := .agg [.agg [.lit (.int .u8 128), .lit (.int .u8 191)], .agg [.lit (.int .u8 160), .lit (.int .u8 191)], .agg [.lit (.int .u8 128), .lit (.int .u8 159)], .agg [.lit (.int .u8 144), .lit (.int .u8 191)], .agg [.lit (.int .u8 128), .lit (.int .u8 143)], .agg [.lit (.int .u8 0), .lit (.int .u8 0)], .agg [.lit (.int .u8 0), .lit (.int .u8 0)], .agg [.lit (.int .u8 0), .lit (.int .u8 0)], .agg [.lit (.int .u8 0), .lit (.int .u8 0)], .agg [.lit (.int .u8 0), .lit (.int .u8 0)], .agg [.lit (.int .u8 0), .lit (.int .u8 0)], .agg [.lit (.int .u8 0), .lit (.int .u8 0)], .agg [.lit (.int .u8 0), .lit (.int .u8 0)], .agg [.lit (.int .u8 0), .lit (.int .u8 0)], .agg [.lit (.int .u8 0), .lit (.int .u8 0)], .agg [.lit (.int .u8 0), .lit (.int .u8 0)]]
def laid_pandect_unit_names {H : Type} : DataW H := .agg [.lit (.string [98, 111, 111, 107]), .lit (.string [112, 97, 114, 116]), .lit (.string [115, 101, 99, 116, 105, 111, 110]), .lit (.string [112, 97, 114, 97, 103, 114, 97, 112, 104]), .lit (.string [116, 97, 98, 108, 101]), .lit (.string [114, 111, 119]), .lit (.string [99, 101, 108, 108]), .lit (.string [110, 111, 116, 101])]
def laid_pandect_unit_below {H : Type} : DataW H := .agg [.slice [.lit (.int .i64 1), .lit (.int .i64 2)] [], .slice [.lit (.int .i64 2)] [], .slice [.lit (.int .i64 3), .lit (.int .i64 4), .lit (.int .i64 7)] [], .slice [.lit (.int .i64 3), .lit (.int .i64 4), .lit (.int .i64 7)] [], .slice [.lit (.int .i64 5)] [], .slice [.lit (.int .i64 6)] [], .nil, .nil]
def laid_pandect_syntax_order {H : Type} : DataW H := .iface "func table" (.agg [.iface "func" (.lit (.string [112, 97, 110, 100, 101, 99, 116, 47, 115, 121, 110, 116, 97, 120, 46, 111, 114, 100, 101, 114, 36, 49])), .iface "func" (.lit (.string [112, 97, 110, 100, 101, 99, 116, 47, 115, 121, 110, 116, 97, 120, 46, 111, 114, 100, 101, 114, 36, 50]))])
/-- One of Go's own tables, pinned by name: the form's constant. -/
def laid_unicode_utf8_first : DataW Unit := Go.Pinned.utf8First

/-- 'pandectlaw23.EnactApply': WHATEVER THE INPUT: true; the input reads as it did. -/
def enactApplySpec : ChangeSpec := { name := "enactApply", fn := fun _ => fun
  | [d1, d2] => { results := [.lit (.bool true)], args := [d1, d2] }
  | _ => none }
def enactApplyRow : OpenClaim := { program := "ytcecmifknojgeaagreatdoor", sum := "df528d9922afc97dcd8f4a0bfb68709daf9f8bbe6b0a9a8591ca061b0e89c67b", func := "pandect/pandectlaw23.EnactApply", spec := "enactApply", inPlace := ["slices.overlaps[pandect/api.Unit]", "internal/abi.NoEscape", "internal/bytealg.MakeNoZero", "internal/bytealg.IndexByteString", "internal/bytealg.IndexString"], unfollowed := true, recurses := true, named := ["pandect/unit.below", "pandect/syntax.order", "pandect/unit.names", "unicode/utf8.first", "unicode/utf8.acceptRanges", "internal/bytealg.MaxLen"], loops := true, plainKeys := false, apart := false, laid := [("unicode/utf8.acceptRanges", laid_unicode_utf8_acceptRanges), ("pandect/unit.names", laid_pandect_unit_names), ("pandect/unit.below", laid_pandect_unit_below), ("pandect/syntax.order", laid_pandect_syntax_order), ("unicode/utf8.first", laid_unicode_utf8_first)] }
def EnactApplySaid : Prop := enactApplyRow.holds Tryz.pinned (OpenSpec.ofChange enactApplySpec)

/-- ITS FALSE NEIGHBOUR: 'it returns false'. Refute it at one input. -/
def enactApplyWrong : ChangeSpec := { name := "enactApply", fn := fun _ => fun
  | [d1, d2] => { results := [.lit (.bool false)], args := [d1, d2] }
  | _ => none }
def EnactApplyWrongFalsely : Prop := enactApplyRow.holds Tryz.pinned (OpenSpec.ofChange enactApplyWrong)

/-- 'pandectlaw23.EnactApplyAll': WHATEVER THE INPUT: true; the input reads as it did. -/
def enactApplyAllSpec : ChangeSpec := { name := "enactApplyAll", fn := fun _ => fun
  | [d1, d2] => { results := [.lit (.bool true)], args := [d1, d2] }
  | _ => none }
def enactApplyAllRow : OpenClaim := { program := "ytcecmifknojgeaagreatdoor", sum := "df528d9922afc97dcd8f4a0bfb68709daf9f8bbe6b0a9a8591ca061b0e89c67b", func := "pandect/pandectlaw23.EnactApplyAll", spec := "enactApplyAll", inPlace := ["slices.overlaps[pandect/api.Unit]", "internal/abi.NoEscape", "internal/bytealg.MakeNoZero", "internal/bytealg.IndexByteString", "internal/bytealg.IndexString"], unfollowed := true, recurses := true, named := ["pandect/unit.below", "pandect/syntax.order", "pandect/unit.names", "unicode/utf8.first", "unicode/utf8.acceptRanges", "internal/bytealg.MaxLen"], loops := true, plainKeys := false, apart := false, laid := [("unicode/utf8.acceptRanges", laid_unicode_utf8_acceptRanges), ("pandect/unit.names", laid_pandect_unit_names), ("pandect/unit.below", laid_pandect_unit_below), ("pandect/syntax.order", laid_pandect_syntax_order), ("unicode/utf8.first", laid_unicode_utf8_first)] }
def EnactApplyAllSaid : Prop := enactApplyAllRow.holds Tryz.pinned (OpenSpec.ofChange enactApplyAllSpec)

/-- ITS FALSE NEIGHBOUR: 'it returns false'. Refute it at one input. -/
def enactApplyAllWrong : ChangeSpec := { name := "enactApplyAll", fn := fun _ => fun
  | [d1, d2] => { results := [.lit (.bool false)], args := [d1, d2] }
  | _ => none }
def EnactApplyAllWrongFalsely : Prop := enactApplyAllRow.holds Tryz.pinned (OpenSpec.ofChange enactApplyAllWrong)

/-- 'pandectlaw23.EnactStands': WHATEVER THE INPUT: true; the input reads as it did. -/
def enactStandsSpec : ChangeSpec := { name := "enactStands", fn := fun _ => fun
  | [d1, d2] => { results := [.lit (.bool true)], args := [d1, d2] }
  | _ => none }
def enactStandsRow : OpenClaim := { program := "ytcecmifknojgeaagreatdoor", sum := "df528d9922afc97dcd8f4a0bfb68709daf9f8bbe6b0a9a8591ca061b0e89c67b", func := "pandect/pandectlaw23.EnactStands", spec := "enactStands", inPlace := ["slices.overlaps[pandect/api.Unit]", "internal/abi.NoEscape", "internal/bytealg.MakeNoZero", "internal/bytealg.IndexByteString", "internal/bytealg.IndexString"], unfollowed := true, recurses := true, named := ["pandect/unit.below", "pandect/syntax.order", "pandect/unit.names", "unicode/utf8.first", "unicode/utf8.acceptRanges", "internal/bytealg.MaxLen"], loops := true, plainKeys := false, apart := false, laid := [("unicode/utf8.acceptRanges", laid_unicode_utf8_acceptRanges), ("pandect/unit.names", laid_pandect_unit_names), ("pandect/unit.below", laid_pandect_unit_below), ("pandect/syntax.order", laid_pandect_syntax_order), ("unicode/utf8.first", laid_unicode_utf8_first)] }
def EnactStandsSaid : Prop := enactStandsRow.holds Tryz.pinned (OpenSpec.ofChange enactStandsSpec)

/-- ITS FALSE NEIGHBOUR: 'it returns false'. Refute it at one input. -/
def enactStandsWrong : ChangeSpec := { name := "enactStands", fn := fun _ => fun
  | [d1, d2] => { results := [.lit (.bool false)], args := [d1, d2] }
  | _ => none }
def EnactStandsWrongFalsely : Prop := enactStandsRow.holds Tryz.pinned (OpenSpec.ofChange enactStandsWrong)

/-- 'pandectlaw23.EnactUniqueMarks': WHATEVER THE INPUT: true; the input reads as it did. -/
def enactUniqueMarksSpec : ChangeSpec := { name := "enactUniqueMarks", fn := fun _ => fun
  | [d] => { results := [.lit (.bool true)], args := [d] }
  | _ => none }
def enactUniqueMarksRow : OpenClaim := { program := "ytcecmifknojgeaagreatdoor", sum := "df528d9922afc97dcd8f4a0bfb68709daf9f8bbe6b0a9a8591ca061b0e89c67b", func := "pandect/pandectlaw23.EnactUniqueMarks", spec := "enactUniqueMarks", inPlace := ["slices.overlaps[pandect/api.Unit]", "internal/abi.NoEscape", "internal/bytealg.MakeNoZero", "internal/bytealg.IndexByteString", "internal/bytealg.IndexString"], unfollowed := true, recurses := true, named := ["pandect/unit.below", "pandect/syntax.order", "pandect/unit.names", "unicode/utf8.first", "unicode/utf8.acceptRanges", "internal/bytealg.MaxLen"], loops := true, plainKeys := false, apart := false, laid := [("unicode/utf8.acceptRanges", laid_unicode_utf8_acceptRanges), ("pandect/unit.names", laid_pandect_unit_names), ("pandect/unit.below", laid_pandect_unit_below), ("pandect/syntax.order", laid_pandect_syntax_order), ("unicode/utf8.first", laid_unicode_utf8_first)] }
def EnactUniqueMarksSaid : Prop := enactUniqueMarksRow.holds Tryz.pinned (OpenSpec.ofChange enactUniqueMarksSpec)

/-- ITS FALSE NEIGHBOUR: 'it returns false'. Refute it at one input. -/
def enactUniqueMarksWrong : ChangeSpec := { name := "enactUniqueMarks", fn := fun _ => fun
  | [d] => { results := [.lit (.bool false)], args := [d] }
  | _ => none }
def EnactUniqueMarksWrongFalsely : Prop := enactUniqueMarksRow.holds Tryz.pinned (OpenSpec.ofChange enactUniqueMarksWrong)

/-- 'pandectlaw23.EnactApplyAct': WHATEVER THE INPUT: true; the input reads as it did. -/
def enactApplyActSpec : ChangeSpec := { name := "enactApplyAct", fn := fun _ => fun
  | [d1, d2] => { results := [.lit (.bool true)], args := [d1, d2] }
  | _ => none }
def enactApplyActRow : OpenClaim := { program := "ytcecmifknojgeaagreatdoor", sum := "df528d9922afc97dcd8f4a0bfb68709daf9f8bbe6b0a9a8591ca061b0e89c67b", func := "pandect/pandectlaw23.EnactApplyAct", spec := "enactApplyAct", inPlace := ["slices.overlaps[pandect/api.Unit]", "internal/abi.NoEscape", "internal/bytealg.MakeNoZero", "internal/bytealg.IndexByteString", "internal/bytealg.IndexString"], unfollowed := true, recurses := true, named := ["pandect/unit.below", "pandect/syntax.order", "pandect/unit.names", "unicode/utf8.first", "unicode/utf8.acceptRanges", "internal/bytealg.MaxLen"], loops := true, plainKeys := false, apart := false, laid := [("unicode/utf8.acceptRanges", laid_unicode_utf8_acceptRanges), ("pandect/unit.names", laid_pandect_unit_names), ("pandect/unit.below", laid_pandect_unit_below), ("pandect/syntax.order", laid_pandect_syntax_order), ("unicode/utf8.first", laid_unicode_utf8_first)] }
def EnactApplyActSaid : Prop := enactApplyActRow.holds Tryz.pinned (OpenSpec.ofChange enactApplyActSpec)

/-- ITS FALSE NEIGHBOUR: 'it returns false'. Refute it at one input. -/
def enactApplyActWrong : ChangeSpec := { name := "enactApplyAct", fn := fun _ => fun
  | [d1, d2] => { results := [.lit (.bool false)], args := [d1, d2] }
  | _ => none }
def EnactApplyActWrongFalsely : Prop := enactApplyActRow.holds Tryz.pinned (OpenSpec.ofChange enactApplyActWrong)

/-- 'pandectlaw23.EnactAffected': WHATEVER THE INPUT: true; the input reads as it did. -/
def enactAffectedSpec : ChangeSpec := { name := "enactAffected", fn := fun _ => fun
  | [d1, d2] => { results := [.lit (.bool true)], args := [d1, d2] }
  | _ => none }
def enactAffectedRow : OpenClaim := { program := "ytcecmifknojgeaagreatdoor", sum := "df528d9922afc97dcd8f4a0bfb68709daf9f8bbe6b0a9a8591ca061b0e89c67b", func := "pandect/pandectlaw23.EnactAffected", spec := "enactAffected", inPlace := ["slices.overlaps[pandect/api.Unit]", "internal/abi.NoEscape", "internal/bytealg.MakeNoZero", "internal/bytealg.IndexByteString", "internal/bytealg.IndexString"], unfollowed := true, recurses := true, named := ["pandect/unit.below", "pandect/syntax.order", "pandect/unit.names", "unicode/utf8.first", "unicode/utf8.acceptRanges", "internal/bytealg.MaxLen"], loops := true, plainKeys := false, apart := false, laid := [("unicode/utf8.acceptRanges", laid_unicode_utf8_acceptRanges), ("pandect/unit.names", laid_pandect_unit_names), ("pandect/unit.below", laid_pandect_unit_below), ("pandect/syntax.order", laid_pandect_syntax_order), ("unicode/utf8.first", laid_unicode_utf8_first)] }
def EnactAffectedSaid : Prop := enactAffectedRow.holds Tryz.pinned (OpenSpec.ofChange enactAffectedSpec)

/-- ITS FALSE NEIGHBOUR: 'it returns false'. Refute it at one input. -/
def enactAffectedWrong : ChangeSpec := { name := "enactAffected", fn := fun _ => fun
  | [d1, d2] => { results := [.lit (.bool false)], args := [d1, d2] }
  | _ => none }
def EnactAffectedWrongFalsely : Prop := enactAffectedRow.holds Tryz.pinned (OpenSpec.ofChange enactAffectedWrong)

/-- 'pandectlaw23.EnactPreserves': WHATEVER THE INPUT: true; the input reads as it did. -/
def enactPreservesSpec : ChangeSpec := { name := "enactPreserves", fn := fun _ => fun
  | [d1, d2] => { results := [.lit (.bool true)], args := [d1, d2] }
  | _ => none }
def enactPreservesRow : OpenClaim := { program := "ytcecmifknojgeaagreatdoor", sum := "df528d9922afc97dcd8f4a0bfb68709daf9f8bbe6b0a9a8591ca061b0e89c67b", func := "pandect/pandectlaw23.EnactPreserves", spec := "enactPreserves", inPlace := ["slices.overlaps[pandect/api.Unit]", "internal/abi.NoEscape", "internal/bytealg.MakeNoZero", "internal/bytealg.IndexByteString", "internal/bytealg.IndexString"], unfollowed := true, recurses := true, named := ["pandect/unit.below", "pandect/syntax.order", "pandect/unit.names", "unicode/utf8.first", "unicode/utf8.acceptRanges", "internal/bytealg.MaxLen"], loops := true, plainKeys := false, apart := false, laid := [("unicode/utf8.acceptRanges", laid_unicode_utf8_acceptRanges), ("pandect/unit.names", laid_pandect_unit_names), ("pandect/unit.below", laid_pandect_unit_below), ("pandect/syntax.order", laid_pandect_syntax_order), ("unicode/utf8.first", laid_unicode_utf8_first)] }
def EnactPreservesSaid : Prop := enactPreservesRow.holds Tryz.pinned (OpenSpec.ofChange enactPreservesSpec)

/-- ITS FALSE NEIGHBOUR: 'it returns false'. Refute it at one input. -/
def enactPreservesWrong : ChangeSpec := { name := "enactPreserves", fn := fun _ => fun
  | [d1, d2] => { results := [.lit (.bool false)], args := [d1, d2] }
  | _ => none }
def EnactPreservesWrongFalsely : Prop := enactPreservesRow.holds Tryz.pinned (OpenSpec.ofChange enactPreservesWrong)

/- THE SECOND FORM. 'bulk': how many values and letters a reading holds, each counted each time it is reached (what is shared counts as often as it is met; a slice's spare places count too). A statement '..UptoSaid' is the law's where the arguments, and the package variables that the reading takes, are together of bulk at most 1048576: NARROWER than '..Said'. Prove '..Said' where nothing that the law and all that it calls make is longer than what came in: it says more and counts as full. Else prove '..UptoSaid'. A law counts once. -/
mutual
def uptoBulk {H : Type} : DataW H → Nat
  | .lit (.string bytes) => bytes.length + 1
  | .lit _ => 1
  | .nil => 1
  | .ptr d => uptoBulk d + 1
  | .slice elems spare => uptoBulkAll elems + uptoBulkAll spare + 1
  | .agg parts => uptoBulkAll parts + 1
  | .iface _ d => uptoBulk d + 1
  | .map entries => uptoBulkEntries entries + 1
  | .held _ => 1
def uptoBulkAll {H : Type} : List (DataW H) → Nat
  | [] => 0
  | d :: r => uptoBulk d + uptoBulkAll r
def uptoBulkEntries {H : Type} : List (Lit × DataW H) → Nat
  | [] => 0
  | x :: r => uptoBulkEntry x + uptoBulkEntries r
def uptoBulkEntry {H : Type} : Lit × DataW H → Nat
  | (.string bytes, d) => bytes.length + uptoBulk d + 1
  | (_, d) => uptoBulk d + 1
 end
def uptoSmall : (H : Type) → List (DataW H) → Bool := fun _ ds => decide (uptoBulkAll ds ≤ 1048576)
def OpenSpec.upto (s : _root_.Go.ChangeSpec) : _root_.Go.OpenSpec := { _root_.Go.OpenSpec.ofChange s with cond := some uptoSmall }

/-- 'pandectlaw23.EnactApply', WHERE WHAT IT READS IS OF BULK AT MOST 1048576: true; the input reads as it did. -/
def enactApplyUptoRow : OpenClaim := { program := "ytcecmifknojgeaagreatdoor", sum := "df528d9922afc97dcd8f4a0bfb68709daf9f8bbe6b0a9a8591ca061b0e89c67b", func := "pandect/pandectlaw23.EnactApply", spec := "enactApply", inPlace := ["slices.overlaps[pandect/api.Unit]", "internal/abi.NoEscape", "internal/bytealg.MakeNoZero", "internal/bytealg.IndexByteString", "internal/bytealg.IndexString"], unfollowed := true, recurses := true, named := ["pandect/unit.below", "pandect/syntax.order", "pandect/unit.names", "unicode/utf8.first", "unicode/utf8.acceptRanges", "internal/bytealg.MaxLen"], loops := true, plainKeys := false, apart := false, laid := [("unicode/utf8.acceptRanges", laid_unicode_utf8_acceptRanges), ("pandect/unit.names", laid_pandect_unit_names), ("pandect/unit.below", laid_pandect_unit_below), ("pandect/syntax.order", laid_pandect_syntax_order), ("unicode/utf8.first", laid_unicode_utf8_first)], narrowed := true }
def EnactApplyUptoSaid : Prop := enactApplyUptoRow.holds Tryz.pinned (OpenSpec.upto enactApplySpec)

/-- 'pandectlaw23.EnactApplyAll', WHERE WHAT IT READS IS OF BULK AT MOST 1048576: true; the input reads as it did. -/
def enactApplyAllUptoRow : OpenClaim := { program := "ytcecmifknojgeaagreatdoor", sum := "df528d9922afc97dcd8f4a0bfb68709daf9f8bbe6b0a9a8591ca061b0e89c67b", func := "pandect/pandectlaw23.EnactApplyAll", spec := "enactApplyAll", inPlace := ["slices.overlaps[pandect/api.Unit]", "internal/abi.NoEscape", "internal/bytealg.MakeNoZero", "internal/bytealg.IndexByteString", "internal/bytealg.IndexString"], unfollowed := true, recurses := true, named := ["pandect/unit.below", "pandect/syntax.order", "pandect/unit.names", "unicode/utf8.first", "unicode/utf8.acceptRanges", "internal/bytealg.MaxLen"], loops := true, plainKeys := false, apart := false, laid := [("unicode/utf8.acceptRanges", laid_unicode_utf8_acceptRanges), ("pandect/unit.names", laid_pandect_unit_names), ("pandect/unit.below", laid_pandect_unit_below), ("pandect/syntax.order", laid_pandect_syntax_order), ("unicode/utf8.first", laid_unicode_utf8_first)], narrowed := true }
def EnactApplyAllUptoSaid : Prop := enactApplyAllUptoRow.holds Tryz.pinned (OpenSpec.upto enactApplyAllSpec)

/-- 'pandectlaw23.EnactStands', WHERE WHAT IT READS IS OF BULK AT MOST 1048576: true; the input reads as it did. -/
def enactStandsUptoRow : OpenClaim := { program := "ytcecmifknojgeaagreatdoor", sum := "df528d9922afc97dcd8f4a0bfb68709daf9f8bbe6b0a9a8591ca061b0e89c67b", func := "pandect/pandectlaw23.EnactStands", spec := "enactStands", inPlace := ["slices.overlaps[pandect/api.Unit]", "internal/abi.NoEscape", "internal/bytealg.MakeNoZero", "internal/bytealg.IndexByteString", "internal/bytealg.IndexString"], unfollowed := true, recurses := true, named := ["pandect/unit.below", "pandect/syntax.order", "pandect/unit.names", "unicode/utf8.first", "unicode/utf8.acceptRanges", "internal/bytealg.MaxLen"], loops := true, plainKeys := false, apart := false, laid := [("unicode/utf8.acceptRanges", laid_unicode_utf8_acceptRanges), ("pandect/unit.names", laid_pandect_unit_names), ("pandect/unit.below", laid_pandect_unit_below), ("pandect/syntax.order", laid_pandect_syntax_order), ("unicode/utf8.first", laid_unicode_utf8_first)], narrowed := true }
def EnactStandsUptoSaid : Prop := enactStandsUptoRow.holds Tryz.pinned (OpenSpec.upto enactStandsSpec)

/-- 'pandectlaw23.EnactUniqueMarks', WHERE WHAT IT READS IS OF BULK AT MOST 1048576: true; the input reads as it did. -/
def enactUniqueMarksUptoRow : OpenClaim := { program := "ytcecmifknojgeaagreatdoor", sum := "df528d9922afc97dcd8f4a0bfb68709daf9f8bbe6b0a9a8591ca061b0e89c67b", func := "pandect/pandectlaw23.EnactUniqueMarks", spec := "enactUniqueMarks", inPlace := ["slices.overlaps[pandect/api.Unit]", "internal/abi.NoEscape", "internal/bytealg.MakeNoZero", "internal/bytealg.IndexByteString", "internal/bytealg.IndexString"], unfollowed := true, recurses := true, named := ["pandect/unit.below", "pandect/syntax.order", "pandect/unit.names", "unicode/utf8.first", "unicode/utf8.acceptRanges", "internal/bytealg.MaxLen"], loops := true, plainKeys := false, apart := false, laid := [("unicode/utf8.acceptRanges", laid_unicode_utf8_acceptRanges), ("pandect/unit.names", laid_pandect_unit_names), ("pandect/unit.below", laid_pandect_unit_below), ("pandect/syntax.order", laid_pandect_syntax_order), ("unicode/utf8.first", laid_unicode_utf8_first)], narrowed := true }
def EnactUniqueMarksUptoSaid : Prop := enactUniqueMarksUptoRow.holds Tryz.pinned (OpenSpec.upto enactUniqueMarksSpec)

/-- 'pandectlaw23.EnactApplyAct', WHERE WHAT IT READS IS OF BULK AT MOST 1048576: true; the input reads as it did. -/
def enactApplyActUptoRow : OpenClaim := { program := "ytcecmifknojgeaagreatdoor", sum := "df528d9922afc97dcd8f4a0bfb68709daf9f8bbe6b0a9a8591ca061b0e89c67b", func := "pandect/pandectlaw23.EnactApplyAct", spec := "enactApplyAct", inPlace := ["slices.overlaps[pandect/api.Unit]", "internal/abi.NoEscape", "internal/bytealg.MakeNoZero", "internal/bytealg.IndexByteString", "internal/bytealg.IndexString"], unfollowed := true, recurses := true, named := ["pandect/unit.below", "pandect/syntax.order", "pandect/unit.names", "unicode/utf8.first", "unicode/utf8.acceptRanges", "internal/bytealg.MaxLen"], loops := true, plainKeys := false, apart := false, laid := [("unicode/utf8.acceptRanges", laid_unicode_utf8_acceptRanges), ("pandect/unit.names", laid_pandect_unit_names), ("pandect/unit.below", laid_pandect_unit_below), ("pandect/syntax.order", laid_pandect_syntax_order), ("unicode/utf8.first", laid_unicode_utf8_first)], narrowed := true }
def EnactApplyActUptoSaid : Prop := enactApplyActUptoRow.holds Tryz.pinned (OpenSpec.upto enactApplyActSpec)

/-- 'pandectlaw23.EnactAffected', WHERE WHAT IT READS IS OF BULK AT MOST 1048576: true; the input reads as it did. -/
def enactAffectedUptoRow : OpenClaim := { program := "ytcecmifknojgeaagreatdoor", sum := "df528d9922afc97dcd8f4a0bfb68709daf9f8bbe6b0a9a8591ca061b0e89c67b", func := "pandect/pandectlaw23.EnactAffected", spec := "enactAffected", inPlace := ["slices.overlaps[pandect/api.Unit]", "internal/abi.NoEscape", "internal/bytealg.MakeNoZero", "internal/bytealg.IndexByteString", "internal/bytealg.IndexString"], unfollowed := true, recurses := true, named := ["pandect/unit.below", "pandect/syntax.order", "pandect/unit.names", "unicode/utf8.first", "unicode/utf8.acceptRanges", "internal/bytealg.MaxLen"], loops := true, plainKeys := false, apart := false, laid := [("unicode/utf8.acceptRanges", laid_unicode_utf8_acceptRanges), ("pandect/unit.names", laid_pandect_unit_names), ("pandect/unit.below", laid_pandect_unit_below), ("pandect/syntax.order", laid_pandect_syntax_order), ("unicode/utf8.first", laid_unicode_utf8_first)], narrowed := true }
def EnactAffectedUptoSaid : Prop := enactAffectedUptoRow.holds Tryz.pinned (OpenSpec.upto enactAffectedSpec)

/-- 'pandectlaw23.EnactPreserves', WHERE WHAT IT READS IS OF BULK AT MOST 1048576: true; the input reads as it did. -/
def enactPreservesUptoRow : OpenClaim := { program := "ytcecmifknojgeaagreatdoor", sum := "df528d9922afc97dcd8f4a0bfb68709daf9f8bbe6b0a9a8591ca061b0e89c67b", func := "pandect/pandectlaw23.EnactPreserves", spec := "enactPreserves", inPlace := ["slices.overlaps[pandect/api.Unit]", "internal/abi.NoEscape", "internal/bytealg.MakeNoZero", "internal/bytealg.IndexByteString", "internal/bytealg.IndexString"], unfollowed := true, recurses := true, named := ["pandect/unit.below", "pandect/syntax.order", "pandect/unit.names", "unicode/utf8.first", "unicode/utf8.acceptRanges", "internal/bytealg.MaxLen"], loops := true, plainKeys := false, apart := false, laid := [("unicode/utf8.acceptRanges", laid_unicode_utf8_acceptRanges), ("pandect/unit.names", laid_pandect_unit_names), ("pandect/unit.below", laid_pandect_unit_below), ("pandect/syntax.order", laid_pandect_syntax_order), ("unicode/utf8.first", laid_unicode_utf8_first)], narrowed := true }
def EnactPreservesUptoSaid : Prop := enactPreservesUptoRow.holds Tryz.pinned (OpenSpec.upto enactPreservesSpec)

end Rows
end Go.Proofs.YtcecmifknojgeaaGreatDoor
