/-
  No function of the program starts a goroutine.
-/
import Derived.Test.YtjdccoplpljmlaaGreatDoorVXL13toXFrN
namespace Go.Proofs.YtjdccoplpljmlaaGreatDoor
open Go.ChangeShapes Go.WideShapes Go.ChangeAt Go.RowKit
set_option linter.unusedSimpArgs false
set_option linter.unusedVariables false
theorem goesBy_none {P:Program} {c:OpenClaim} (O:c.start= .entering) (h:P.funcs.toList.any Func.goes=false):false=c.goesBy P:=by
 have M:P.funcs.any Func.goes=false:=by rw[←Array.any_toList];exact h
 have I:∀g:FuncId,(P.funcs[g]?).any Func.goes=false:=λg=>by
  cases E:P.funcs[g]? with
  |none=>rfl
  |some fn=>
   have N:fn∈P.funcs.toList:=Array.mem_toList_iff.2 (Array.mem_of_getElem? E)
   show Func.goes fn=false
   cases F:Func.goes fn with
   |false=>rfl
   |true=>rw[List.any_eq_true.2 ⟨fn,N,F⟩]at h;cases h
 have J:∀f:FuncId,P.goes f=false:=λf=>by
  unfold Program.goes
  rw[M,Bool.and_false,Bool.or_false]
  cases F:(P.closure f).any λg=>(P.funcs[g]?).any Func.goes with
  |false=>rfl
  |true=>obtain⟨g,_,E⟩:=List.any_eq_true.1 F;rw[I g]at E;cases E
 unfold OpenClaim.goesBy Program.goesAt Program.goesFrom
 rw[O]
 cases P.funcNamed c.func with
 |none=>rfl
 |some f=>simp[J f]
theorem goesAll:Tryz.pinned.checked.prog.funcs.toList.any Func.goes=false:=by kernel_rfl
end Go.Proofs.YtjdccoplpljmlaaGreatDoor
