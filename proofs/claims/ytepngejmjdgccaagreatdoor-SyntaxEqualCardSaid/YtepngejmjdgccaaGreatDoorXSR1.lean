/-
  SYNTAX, runs 1: the tokens of the example.
-/
import Derived.Test.YtepngejmjdgccaaGreatDoorXSR0
import Derived.Test.YtepngejmjdgccaaGreatDoorXFrEtoXFrN
namespace Go.Av
open Go Go.RowKit Go.Proofs
set_option linter.unusedSimpArgs false
set_option linter.unusedVariables false
noncomputable def GS:Glob:=globOf [(6,tabNames),(9,tabBelow),(1,tabOrder),(0,synNames.map AV.str)]
def exText:List UInt8:=[99,111,109,109,101,110,99,101,32,97,99,116,32,52,32,105,116,101,109,32,50,32,102,114,111,109,32,100,97,121,32,51,54,49,57,49]
def exToks:List (List AV):=[[i64 0,i64 0,.str [99,111,109,109,101,110,99,101]],[i64 0,i64 9,.str [97,99,116]],[i64 2,i64 13,.str [52]],[i64 0,i64 15,.str [105,116,101,109]],[i64 2,i64 20,.str [50]],[i64 0,i64 22,.str [102,114,111,109]],[i64 0,i64 27,.str [100,97,121]],[i64 2,i64 31,.str [51,54,49,57,49]]]
def exScan:AV:=.tup [.lst 3 exToks,i64 36,i64 0]
theorem runScan:Pure GS Tryz.prog 40 [.str exText] exScan:=Pure.runs (runX GS [] (λp hp=>by cases hp)) 60 (by kernel_rfl) (by kernel_rfl)
end Go.Av
