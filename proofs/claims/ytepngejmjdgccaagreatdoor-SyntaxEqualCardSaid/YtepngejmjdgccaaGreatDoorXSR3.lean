/-
  SYNTAX, runs 3: the example's second item is valid.
-/
import Derived.Test.YtepngejmjdgccaaGreatDoorXSR1
namespace Go.Av
open Go Go.RowKit Go.Proofs
set_option linter.unusedSimpArgs false
set_option linter.unusedVariables false
def exMove:List AV:=[i64 6,.lst 2 [[i64 2,.str [53]]],.lst 2 [[i64 1,.str [50]]],i64 1,i64 0,i64 0,i64 0,i64 0,i64 0,.str [],.nil,.nil,.nil,.nil,.nil,.str [],.str [],i64 2,i64 0,.str [],i64 0,i64 0,i64 0,.str [],.nil]
theorem runValid:Pure GS Tryz.prog 43 [.agg exMove] (.bool true):=Pure.runs (runX GS [] (λp hp=>by cases hp)) 60 (by kernel_rfl) (by kernel_rfl)
end Go.Av
