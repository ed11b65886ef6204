/-
  SYNTAX, runs 4: the examples hold.
-/
import Derived.Test.YtepngejmjdgccaaGreatDoorXSR2
import Derived.Test.YtepngejmjdgccaaGreatDoorXSR3b
namespace Go.Av
open Go Go.RowKit Go.Proofs
set_option linter.unusedSimpArgs false
set_option linter.unusedVariables false
noncomputable def exF4:List (Nat×List AV×AV):=[(15,[.str exText],exParse),(16,[.agg exMove],exFormat)]
theorem exF4_ok:∀p∈exF4,Pure GS Tryz.prog p.1 p.2.1 p.2.2:=by
 intro p hp
 simp only[exF4,List.mem_cons,List.not_mem_nil,or_false]at hp
 rcases hp with rfl|rfl
 ·exact runParse
 ·exact runFormat
theorem runAwake:Pure GS Tryz.prog 5 [] (.bool true):=Pure.run (runX GS exF4 exF4_ok) 60 (by kernel_rfl)
end Go.Av
