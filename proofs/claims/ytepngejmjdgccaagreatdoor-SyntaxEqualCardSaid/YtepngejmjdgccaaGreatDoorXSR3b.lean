/-
  SYNTAX, runs 3b: the text of the example's second item.
-/
import Derived.Test.YtepngejmjdgccaaGreatDoorXSR3
namespace Go.Av
open Go Go.RowKit Go.Proofs
set_option linter.unusedSimpArgs false
set_option linter.unusedVariables false
noncomputable def exF3:List (Nat×List AV×AV):=[(43,[.agg exMove],.bool true)]
theorem exF3_ok:∀p∈exF3,Pure GS Tryz.prog p.1 p.2.1 p.2.2:=by
 intro p hp
 simp only[exF3,List.mem_singleton]at hp
 subst hp
 exact runValid
def exFormat:AV:=.tup [.str [109,111,118,101,32,115,101,99,116,105,111,110,32,53,32,105,110,116,111,32,112,97,114,116,32,50,32,108,97,115,116,32,98,121,32,111,114,100,101,114],i64 0]
theorem runFormat:Pure GS Tryz.prog 16 [.agg exMove] exFormat:=Pure.runs (runX GS exF3 exF3_ok) 60 (by kernel_rfl) (by kernel_rfl)
end Go.Av
