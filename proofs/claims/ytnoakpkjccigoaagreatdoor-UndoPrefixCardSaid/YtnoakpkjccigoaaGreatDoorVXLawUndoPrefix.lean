/-
  UndoPrefix: for every input the law returns true, and its arguments read behind the call as they read before. No condition of its own; the row lists tables, tied to the program's text by the given tie.
-/
import Derived.Test.YtnoakpkjccigoaaGreatDoorVXPreUndoPrefix
import Derived.Test.YtnoakpkjccigoaaGreatDoorVXM2toXOpE
import Derived.Test.YtnoakpkjccigoaaGreatDoorVXT6
namespace Go.Proofs.YtnoakpkjccigoaaGreatDoor.lUndoPrefix
open Go.ChangeShapes Go.WideShapes Go.ChangeAt Go.RowKit
open Go.ChangeMaps (open_string shut_string)
set_option linter.unusedSimpArgs false
set_option linter.unusedVariables false
set_option maxRecDepth 100000 in
theorem contract (H:Type) (enc:TypeId×Value->H) (W:World) (base:Nat) (args:Array Value) (ds gs:List (DataW H)) (before:List MemPlace)
  (hval:∀(j:Nat) t v,Tryz.f6.params[j]? =some t->args[j]? =some v->Value.okWide Tryz.prog W .any base t v)
  (hW:DataW.Whole enc Tryz.prog Tryz.f6.params.toList Rows.undoPrefixSpec.vars false W args.toList ds gs before)
  (hwt:(DataW.weightsEach Tryz.prog (Tryz.f6.params.toList++(OpenSpec.ofChange Rows.undoPrefixSpec).bare.plain.varTypes Tryz.prog) (ds++gs)).all (· <=reachBytes)=true)
  (hL:laidMetH Tryz.prog Rows.undoPrefixRow.laid W) (hsh:W.ShapedOpen Tryz.prog):
  Calls Tryz.prog 6 args W λe W'=>∃v,e= .returned v/\Rows.undoPrefixSpec.post enc Tryz.prog Tryz.f6 false true false false W args v W':=by
 have hW':=hW
 obtain⟨p,q,hA0,hV,rfl,hfz,hnd⟩:=hW
 have hA:DataW.TrodAll enc Tryz.prog W 0 (λ_=>true) true Tryz.f6.params.toList args.toList ds p:=hA0
 rw[Tryz.params6]at hA hval hwt
 obtain⟨v0,v1,v2,d0,d1,d2,p0,p1,p2,rfl,rfl,rfl,h0,h1,h2⟩:=trodAll_three hA
 obtain⟨rfl,rfl⟩:=trodVars_none hV
 have hw0:∀n∈DataW.weights Tryz.prog 27 d0,n<=reachBytes:=λn hn=>by
  have h:=List.all_eq_true.1 hwt n (Go.Av.dn (i:=0) rfl rfl n hn)
  simpa using h
 have hw1:∀n∈DataW.weights Tryz.prog 59 d1,n<=reachBytes:=λn hn=>by
  have h:=List.all_eq_true.1 hwt n (Go.Av.dn (i:=1) rfl rfl n hn)
  simpa using h
 obtain⟨fu0,x0,hs0,hrep0⟩:=Go.Av.ju (S:=[54,59,52,46,152,3,9,23,27,24,33,31,25,47,49,50]) (by kernel_rfl) (by decide) (by rw[cellsU];decide) h0 hw0
 obtain⟨u0,rfl,hfit0⟩:=Go.Av.ls _ _ hs0
 obtain⟨a1,n1,c1,rfl⟩:=okWide_slice Tryz.underlying59 (hval 1 59 v1 rfl rfl)
 obtain⟨fu1,x1,hs1,hrep1⟩:=Go.Av.re (S:=[54,59,52,46,152,3,9,23,27,24,33,31,25,47,49,50]) (by kernel_rfl) (by decide) h1 hw1
 obtain⟨l1,hx1,hlen1,hbig1⟩:=Go.Av.rq hs1
 injection hx1 with hx1
 subst hx1
 obtain⟨n2,rfl,rfl,rfl,wn2⟩:=open_int Tryz.underlying5 (hval 2 5 v2 rfl rfl) h2
 have hk2:0<=n2/\n2<256:=by
  have hn:IntKind.u8.min<=n2/\n2<=IntKind.u8.max:=by simpa[Lit.wf,IntKind.wrap]using wn2
  have hn:(0:Int)<=n2/\n2<=(255:Int):=hn
  omega
 have hlt0:∀x∈p0,x.block<W.heap.size:=λx hx=>by simpa using hW'.lt x (by simp[hx])
 have hlt1:∀x∈p1,x.block<W.heap.size:=λx hx=>by simpa using hW'.lt x (by simp[hx])
 obtain⟨m,hG⟩:=holdsA hL hsh
 clear hA0
 refine(Go.Av.calls_of (W:=W) (vs:=#[v0,.slice a1 n1 c1,.int .u8 n2]) (Go.Av.f6 (Go.Av.GA m) (Go.Av.GA_ok m) (Go.Av.GA_ok2 m) u0 hfit0 l1 hlen1 hbig1 n2 hk2) hG (by simp only[Go.Av.RepL];exact⟨_,_,rfl,hrep0,_,_,rfl,hrep1,_,_,rfl,by simp only[Go.Av.Rep],rfl⟩)).mono ?_
 rintro e W' ⟨v,rfl,hr,hB⟩
 simp only[Go.Av.Rep]at hr
 subst hr
 exact⟨_,rfl,_,_,_,[],_,[],hW',trodAll_mk1 (shut_bool Tryz.underlying4 _),trodAll_mk3 (Below.trod (by kernel_rfl) (by kernel_rfl) (of_decide_eq_true (by kernel_rfl)) h0 hB hlt0) (Below.trod (by kernel_rfl) (by kernel_rfl) (of_decide_eq_true (by kernel_rfl)) h1 hB hlt1) (shut_int Tryz.underlying5 wn2),rfl,hB.frame _,λh=>by cases h⟩
theorem card:Rows.UndoPrefixCardSaid:=card0 contract
end Go.Proofs.YtnoakpkjccigoaaGreatDoor.lUndoPrefix
