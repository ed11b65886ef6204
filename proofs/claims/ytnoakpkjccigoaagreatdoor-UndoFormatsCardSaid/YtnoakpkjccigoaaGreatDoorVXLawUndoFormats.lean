/-
  UndoFormats: for every input the law returns true, and its arguments read behind the call as they read before. No condition of its own; the row lists tables, tied to the program's text by the given tie.
-/
import Derived.Test.YtnoakpkjccigoaaGreatDoorVXPreUndoFormats
import Derived.Test.YtnoakpkjccigoaaGreatDoorVXM2toXOpE
import Derived.Test.YtnoakpkjccigoaaGreatDoorVXOpQtoXB3
import Derived.Test.YtnoakpkjccigoaaGreatDoorVXB4
namespace Go.Proofs.YtnoakpkjccigoaaGreatDoor.lUndoFormats
open Go.ChangeShapes Go.WideShapes Go.ChangeAt Go.RowKit
open Go.ChangeMaps (open_string shut_string)
set_option linter.unusedSimpArgs false
set_option linter.unusedVariables false
set_option maxRecDepth 100000 in
theorem contract (H:Type) (enc:TypeId×Value->H) (W:World) (base:Nat) (args:Array Value) (ds gs:List (DataW H)) (before:List MemPlace)
  (hval:∀(j:Nat) t v,Tryz.f3.params[j]? =some t->args[j]? =some v->Value.okWide Tryz.prog W .any base t v)
  (hW:DataW.Whole enc Tryz.prog Tryz.f3.params.toList Rows.undoFormatsSpec.vars false W args.toList ds gs before)
  (hwt:(DataW.weightsEach Tryz.prog (Tryz.f3.params.toList++(OpenSpec.ofChange Rows.undoFormatsSpec).bare.plain.varTypes Tryz.prog) (ds++gs)).all (· <=reachBytes)=true)
  (hL:laidMetH Tryz.prog Rows.undoFormatsRow.laid W) (hsh:W.ShapedOpen Tryz.prog):
  Calls Tryz.prog 3 args W λe W'=>∃v,e= .returned v/\Rows.undoFormatsSpec.post enc Tryz.prog Tryz.f3 false true false false W args v W':=by
 have hW':=hW
 obtain⟨p,q,hA0,hV,rfl,hfz,hnd⟩:=hW
 have hA:DataW.TrodAll enc Tryz.prog W 0 (λ_=>true) true Tryz.f3.params.toList args.toList ds p:=hA0
 rw[Tryz.params3]at hA hval hwt
 obtain⟨v0,d0,rfl,rfl,h0⟩:=trodAll_one hA
 obtain⟨rfl,rfl⟩:=trodVars_none hV
 have hw0:∀n∈DataW.weights Tryz.prog 29 d0,n<=reachBytes:=λn hn=>by
  have h:=List.all_eq_true.1 hwt n (Go.Av.dn (i:=0) rfl rfl n hn)
  simpa using h
 obtain⟨fu0,x0,hs0,hrep0⟩:=Go.Av.ju (S:=[52,46,152,3,9,23,27,24,33,31,25,47,49,50,29]) (by kernel_rfl) (by decide) (by rw[Go.Proofs.YtnoakpkjccigoaaGreatDoor.cellsP];decide) h0 hw0
 obtain⟨u0,rfl,qa0,qb0,qc0⟩:=Go.Av.sd hs0
 have hsm0:=Go.Av.small_of (hval 0 _ v0 rfl rfl) hrep0
 have hlt0:∀x∈p,x.block<W.heap.size:=λx hx=>by simpa using hW'.lt x (by simpa using hx)
 obtain⟨m,hG⟩:=holdsA hL hsh
 clear hA0
 refine(Go.Av.calls_of (W:=W) (vs:=#[v0]) (Go.Av.f3 (Go.Av.GA m) (Go.Av.GA_ok m) (Go.Av.GA_ok2 m) u0 qa0 qb0 qc0 hsm0) hG (by simp only[Go.Av.RepL];exact⟨_,_,rfl,hrep0,rfl⟩)).mono ?_
 rintro e W' ⟨v,rfl,hr,hB⟩
 simp only[Go.Av.Rep]at hr
 subst hr
 exact⟨_,rfl,_,_,_,[],_,[],hW',trodAll_mk1 (shut_bool Tryz.underlying4 _),trodAll_mk1 (Below.trod (by kernel_rfl) (by kernel_rfl) (of_decide_eq_true (by kernel_rfl)) h0 hB hlt0),rfl,hB.frame _,λh=>by cases h⟩
theorem card:Rows.UndoFormatsCardSaid:=card0 contract
end Go.Proofs.YtnoakpkjccigoaaGreatDoor.lUndoFormats
