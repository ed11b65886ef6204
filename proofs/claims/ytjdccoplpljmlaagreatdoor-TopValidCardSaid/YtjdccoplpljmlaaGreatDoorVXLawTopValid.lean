/-
  TopValid: for every input the law returns true, and its arguments read behind the call as they read before. No condition of its own; the row lists tables, tied to the program's text by the given tie.
-/
import Derived.Test.YtjdccoplpljmlaaGreatDoorVXPreTopValid
import Derived.Test.YtjdccoplpljmlaaGreatDoorVXOpTtoXY14
import Derived.Test.YtjdccoplpljmlaaGreatDoorVXGo
import Derived.Test.YtjdccoplpljmlaaGreatDoorVXY19toXY22
namespace Go.Proofs.YtjdccoplpljmlaaGreatDoor.lTopValid
open Go.ChangeShapes Go.WideShapes Go.ChangeAt Go.RowKit
open Go.ChangeMaps (open_string shut_string)
set_option linter.unusedSimpArgs false
set_option linter.unusedVariables false
set_option maxRecDepth 100000 in
theorem contract (H:Type) (enc:TypeId×Value->H) (W:World) (base:Nat) (args:Array Value) (ds gs:List (DataW H)) (before:List MemPlace)
  (hval:∀(j:Nat) t v,Tryz.f3.params[j]? =some t->args[j]? =some v->Value.okWide Tryz.prog W .any base t v)
  (hW:DataW.Whole enc Tryz.prog Tryz.f3.params.toList Rows.topValidSpec.vars false W args.toList ds gs before)
  (hwt:(DataW.weightsEach Tryz.prog (Tryz.f3.params.toList++(OpenSpec.ofChange Rows.topValidSpec).bare.plain.varTypes Tryz.prog) (ds++gs)).all (· <=reachBytes)=true)
  (hL:laidMetH Tryz.prog Rows.topValidRow.laid W):
  Calls Tryz.prog 3 args W λe W'=>∃v,e= .returned v/\Rows.topValidSpec.post enc Tryz.prog Tryz.f3 false true false false W args v W':=by
 have hW':=hW
 obtain⟨p,q,hA0,hV,rfl,hfz,hnd⟩:=hW
 have hA:DataW.TrodAll enc Tryz.prog W 0 (λ_=>true) true Tryz.f3.params.toList args.toList ds p:=hA0
 rw[Tryz.params3]at hA hval hwt
 obtain⟨v0,v1,v2,d0,d1,d2,p0,p1,p2,rfl,rfl,rfl,h0,h1,h2⟩:=trodAll_three hA
 obtain⟨rfl,rfl⟩:=trodVars_none hV
 have hw0:∀n∈DataW.weights Tryz.prog 22 d0,n<=reachBytes:=λn hn=>by
  have h:=List.all_eq_true.1 hwt n (Go.Av.eo (i:=0) rfl rfl n hn)
  simpa using h
 obtain⟨a0,n0,c0,rfl⟩:=okWide_slice Tryz.underlying22 (hval 0 22 v0 rfl rfl)
 obtain⟨fu0,x0,hs0,hrep0⟩:=Go.Av.lX (S:=[98,22,96,61,56,128,3,9,25,29,26,88,86,27,57,59,41,100]) (by kernel_rfl) (by decide) h0 hw0
 obtain⟨l0,hx0,hlen0,hbig0⟩:=Go.Av.open_gzs hs0
 injection hx0 with hx0
 subst hx0
 obtain⟨n1,rfl,rfl,rfl,wn1⟩:=open_int Tryz.underlying3 (hval 1 3 v1 rfl rfl) h1
 obtain⟨n2,rfl,rfl,rfl,wn2⟩:=open_string Tryz.underlying9 (hval 2 9 v2 rfl rfl) h2
 have hlt0:∀x∈p0,x.block<W.heap.size:=λx hx=>by simpa using hW'.lt x (by simp[hx])
 have hG:Go.Av.GL.holds [] W:=holdsL hL
 clear hA0
 refine(Go.Av.calls_of (W:=W) (vs:=#[.slice a0 n0 c0,.int .i64 n1,.string n2]) (Go.Av.topValid Go.Av.GL Go.Av.GL_ok l0 hlen0 hbig0 n1 n2.data.toList) hG (by simp only[Go.Av.RepL];exact⟨_,_,rfl,hrep0,_,_,rfl,by simp only[Go.Av.Rep],_,_,rfl,by simp only[Go.Av.Rep],rfl⟩)).mono ?_
 rintro e W' ⟨v,rfl,hr,hB⟩
 simp only[Go.Av.Rep]at hr
 subst hr
 exact⟨_,rfl,_,_,_,[],_,[],hW',trodAll_mk1 (shut_bool Tryz.underlying4 _),trodAll_mk3 (Below.trod (by kernel_rfl) (by kernel_rfl) (of_decide_eq_true (by kernel_rfl)) h0 hB hlt0) (shut_int Tryz.underlying3 wn1) (shut_string Tryz.underlying9 wn2),rfl,hB.frame _,λh=>by cases h⟩
theorem card:Rows.TopValidCardSaid:=card0 contract
end Go.Proofs.YtjdccoplpljmlaaGreatDoor.lTopValid
