/-
  LintOnBook: for every input the law returns true, and its arguments read behind the call as they read before. No condition of its own; the row lists tables, tied to the program's text by the given tie.
-/
import Derived.Test.YtppjieiiibgagaaGreatDoorQXPreLintOnBook
import Derived.Test.YtppjieiiibgagaaGreatDoorQXM9toXM10
import Derived.Test.YtppjieiiibgagaaGreatDoorQXQ5toXQ6
namespace Go.Proofs.YtppjieiiibgagaaGreatDoor.lLintOnBook
open Go.ChangeShapes Go.WideShapes Go.ChangeAt Go.RowKit
open Go.ChangeMaps (open_string shut_string)
set_option linter.unusedSimpArgs false
set_option linter.unusedVariables false
set_option maxRecDepth 100000 in
theorem contract (H:Type) (enc:TypeId×Value->H) (W:World) (base:Nat) (args:Array Value) (ds gs:List (DataW H)) (before:List MemPlace)
  (hval:∀(j:Nat) t v,Tryz.f4.params[j]? =some t->args[j]? =some v->Value.okWide Tryz.prog W .any base t v)
  (hW:DataW.Whole enc Tryz.prog Tryz.f4.params.toList Rows.lintOnBookSpec.vars false W args.toList ds gs before)
  (hwt:(DataW.weightsEach Tryz.prog (Tryz.f4.params.toList++(OpenSpec.ofChange Rows.lintOnBookSpec).bare.plain.varTypes Tryz.prog) (ds++gs)).all (· <=reachBytes)=true)
  (hL:laidMetH Tryz.prog Rows.lintOnBookRow.laid W) (hsh:W.ShapedOpen Tryz.prog):
  Calls Tryz.prog 4 args W λe W'=>∃v,e= .returned v/\Rows.lintOnBookSpec.post enc Tryz.prog Tryz.f4 false true false false W args v W':=by
 have hW':=hW
 obtain⟨p,q,hA0,hV,rfl,hfz,hnd⟩:=hW
 have hA:DataW.TrodAll enc Tryz.prog W 0 (λ_=>true) true Tryz.f4.params.toList args.toList ds p:=hA0
 rw[Tryz.params4]at hA hval hwt
 obtain⟨v0,v1,d0,d1,p0,p1,rfl,rfl,rfl,h0,h1⟩:=trodAll_two hA
 obtain⟨rfl,rfl⟩:=trodVars_none hV
 have hw0:∀n∈DataW.weights Tryz.prog 27 d0,n<=reachBytes:=λn hn=>by
  have h:=List.all_eq_true.1 hwt n (Go.Av.d5 (i:=0) rfl rfl n hn)
  simpa using h
 have hw1:∀n∈DataW.weights Tryz.prog 49 d1,n<=reachBytes:=λn hn=>by
  have h:=List.all_eq_true.1 hwt n (Go.Av.d5 (i:=1) rfl rfl n hn)
  simpa using h
 obtain⟨fu0,x0,hs0,hrep0⟩:=Go.Av.ky (S:=[36,55,34,28,85,3,9,23,27,24,118,116,25,29,31,32,49]) (by kernel_rfl) (by decide) (by rw[cellsU];decide) h0 hw0
 obtain⟨u0,rfl,hfit0⟩:=Go.Av.nN _ _ hs0
 obtain⟨fu1,x1,hs1,hrep1⟩:=Go.Av.ky (S:=[36,55,34,28,85,3,9,23,27,24,118,116,25,29,31,32,49]) (by kernel_rfl) (by decide) (by rw[cellsA];decide) h1 hw1
 obtain⟨u1,rfl,hlen1,hbig1⟩:=Go.Av.open_actB hs1
 have hlt0:∀x∈p0,x.block<W.heap.size:=λx hx=>by simpa using hW'.lt x (by simp[hx])
 have hlt1:∀x∈p1,x.block<W.heap.size:=λx hx=>by simpa using hW'.lt x (by simp[hx])
 obtain⟨m,hG⟩:=holdsA hL hsh
 clear hA0
 refine(Go.Av.calls_of (W:=W) (vs:=#[v0,v1]) (Go.Av.f4 (Go.Av.GA m) (Go.Av.GA_names m) (Go.Av.GA_ok m) (Go.Av.GA_ok2 m) u0 hfit0 u1 (by omega) (λx hx=>Go.Av.big_fit x (hbig1 x hx))) hG (by simp only[Go.Av.RepL];exact⟨_,_,rfl,hrep0,_,_,rfl,hrep1,rfl⟩)).mono ?_
 rintro e W' ⟨v,rfl,hr,hB⟩
 simp only[Go.Av.Rep]at hr
 subst hr
 exact⟨_,rfl,_,_,_,[],_,[],hW',trodAll_mk1 (shut_bool Tryz.underlying4 _),trodAll_mk2 (Below.trod (by kernel_rfl) (by kernel_rfl) (of_decide_eq_true (by kernel_rfl)) h0 hB hlt0) (Below.trod (by kernel_rfl) (by kernel_rfl) (of_decide_eq_true (by kernel_rfl)) h1 hB hlt1),rfl,hB.frame _,λh=>by cases h⟩
theorem card:Rows.LintOnBookCardSaid:=card0 contract
end Go.Proofs.YtppjieiiibgagaaGreatDoor.lLintOnBook
