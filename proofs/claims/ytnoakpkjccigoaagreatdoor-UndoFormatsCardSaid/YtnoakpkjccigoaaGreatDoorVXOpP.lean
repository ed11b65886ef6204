/-
  OPENING, P: what a handed patch stands for.
-/
import Derived.Test.YtnoakpkjccigoaaGreatDoorVXL18toXOpI
import Derived.Test.YtnoakpkjccigoaaGreatDoorVXU1toXU12
import Derived.Test.YtnoakpkjccigoaaGreatDoorVXL14toXFrU
section
namespace Go.Av
open Go Go.RowKit Go.Proofs List
set_option linter.unusedSimpArgs false
set_option linter.unusedVariables false
end Go.Av
namespace Go.Proofs.YtnoakpkjccigoaaGreatDoor
theorem cellsP:Tryz.prog.cellsOf 29=18:=by kernel_rfl
end Go.Proofs.YtnoakpkjccigoaaGreatDoor
end
