/-
  THE FRAME OF A LAW OVER ONE STRING.
-/
import Derived.Test.YtmghejoigggooaaGreatDoorCards
import Derived.Test.YtmghejoigggooaaGreatDoorTie
import Derived.WalkKit
import Derived.ProofKit
import Derived.OpenShut
import Derived.Deep.DeepHandedRow
import Derived.Lib.LaidTab
import Derived.Test.YtmghejoigggooaaGreatDoorXTok19
namespace Go.Av
open Go Go.RowKit

/-- Of the program's own variables nothing is known. -/
def G0 : Glob := { tab := fun _ => none, holds := fun _ _ => True, ev := fun _ _ => trivial, tabs := fun _ h => by cases h }

theorem calls_of_pure {P : Program} {k : FuncId} {args : List AV} {r : AV} (h : Pure G0 P k args r) {W : World} {vs : Array Value} (hA : RepL [] W args vs.toList) :
    Calls P k vs W fun e W' => ∃ v, e = .returned v ∧ Rep [] W' r v ∧ Below W.heap.size W W' := by
  have hS : Sat G0 ([] ++ []) W := ⟨by simp [Store.keys], fun b x hx => by simp at hx, trivial⟩
  refine (h.2 [] W vs hS hA).mono ?_
  rintro e W' ⟨v, r', σ', rfl, ⟨rfl, rfl⟩, _, ev, hr⟩
  exact ⟨v, rfl, hr, ev.os, ev.tape, ev.output, ev.size, fun k hk => (ev.block k hk (by simp [Store.keys])).1⟩
end Go.Av

namespace Go.Proofs.YtmghejoigggooaaGreatDoor
open Go.ChangeShapes Go.WideShapes Go.ChangeAt Go.RowKit
open Go.ChangeMaps (open_string shut_string)

theorem own : ownKnob Tryz.prog.godebug = none := by kernel_rfl
def litV : DataW Unit → Value
  | .lit (.int k n) => .int k n
  | _ => .nilFunc
def litsV : DataW Unit → List Value
  | .agg ds => ds.map litV
  | _ => []
def rowsV : DataW Unit → List Value
  | .agg ds => ds.flatMap litsV
  | _ => []
theorem gFirst : Tryz.prog.globalNamed "unicode/utf8.first" = some 1 := by kernel_rfl
theorem gAccept : Tryz.prog.globalNamed "unicode/utf8.acceptRanges" = some 2 := by kernel_rfl

/-- A WORLD FOR THE WITNESS: the settled one, the two tables holding what their text lays. -/
noncomputable def laidWorld (os : Os) : World :=
  let w0 := World.holding Tryz.prog os ⟨#[], #[], []⟩
  { w0 with heap := (w0.heap.modify 1 (fun
      | .cells _ t frozen => .cells (litsV Rows.laid_unicode_utf8_first).toArray t frozen
      | o => o)).modify 2 (fun
      | .cells _ t frozen => .cells (rowsV Rows.laid_unicode_utf8_acceptRanges).toArray t frozen
      | o => o) }
set_option maxRecDepth 100000 in
theorem laid_met (os : Os) : laidMet Tryz.prog Rows.tokenScansRow.laid ((laidWorld os).forCall (fun _ _ => 0) ⟨#[], #[.string .empty], []⟩).memory :=
  laidMet_of_run' 40 (by kernel_rfl) (by kernel_rfl)
end Go.Proofs.YtmghejoigggooaaGreatDoor
