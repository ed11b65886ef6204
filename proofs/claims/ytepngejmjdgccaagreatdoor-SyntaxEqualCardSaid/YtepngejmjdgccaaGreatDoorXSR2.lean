/-
  SYNTAX, runs 2: the item of the example.
-/
import Derived.Test.YtepngejmjdgccaaGreatDoorXSR1
namespace Go.Av
open Go Go.RowKit Go.Proofs
set_option linter.unusedSimpArgs false
set_option linter.unusedVariables false
noncomputable def exF2:List (Nat×List AV×AV):=[(40,[.str exText],exScan)]
theorem exF2_ok:∀p∈exF2,Pure GS Tryz.prog p.1 p.2.1 p.2.2:=by
 intro p hp
 simp only[exF2,List.mem_singleton]at hp
 subst hp
 exact runScan
def exItem:List AV:=[i64 7,.nil,.nil,i64 0,i64 0,i64 0,i64 0,i64 0,i64 0,.str [],.nil,.nil,.nil,.nil,.nil,.str [],.str [],i64 0,i64 0,.str [],i64 4,i64 2,i64 36191,.str [],.nil]
def exParse:AV:=.tup [.agg exItem,i64 0,i64 0]
theorem runParse:Pure GS Tryz.prog 15 [.str exText] exParse:=Pure.runs (runX GS exF2 exF2_ok) 60 (by kernel_rfl) (by kernel_rfl)
end Go.Av
