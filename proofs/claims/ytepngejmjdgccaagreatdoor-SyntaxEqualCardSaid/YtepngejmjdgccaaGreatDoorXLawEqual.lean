/-
  SyntaxEqual: for every input the law returns true, and its arguments read behind the call as they read before. No condition of its own; the row lists tables, tied to the program's text by the given tie.
-/
import Derived.Test.YtepngejmjdgccaaGreatDoorXFrStoXOpI
import Derived.Test.YtepngejmjdgccaaGreatDoorXL23toXSE
namespace Go.Proofs.YtepngejmjdgccaaGreatDoor.lSyntaxEqual
open Go.ChangeShapes Go.WideShapes Go.ChangeAt Go.RowKit
open Go.ChangeMaps (open_string shut_string)
set_option linter.unusedSimpArgs false
set_option linter.unusedVariables false
abbrev zi:Value:=.int .i64 0
abbrev zs:Value:=.slice none 0 0
abbrev zt:Value:=.string .empty
abbrev zUnit:Value:=.agg #[zi,zi,zi,zi,zt,zs,zs,zs]
abbrev zDeed:Value:=.agg #[zi,zi,zi,zi,zs,zs,zi,zi,zi,zi,zi,zi,zt,zs,zs,zs,zs,zs,zt,zt,zi,zi,zt,zi,zi,zi,zt,zs]
abbrev zItem:Value:=.agg #[zi,zs,zs,zi,zi,zi,zi,zi,zi,zt,zs,zs,zs,zs,zs,zt,zt,zi,zi,zt,zi,zi,zi,zt,zs]
abbrev zAct:Value:=.agg #[zi,zt,zi,zi,zi,zt,zs]
abbrev di {H:Type}:DataW H:=.lit (.int .i64 0)
abbrev dt {H:Type}:DataW H:=.lit (.string [])
abbrev dUnit {H:Type}:DataW H:=.agg [.agg [di,di,di],di,dt,.nil,.nil,.nil]
abbrev dDeed {H:Type}:DataW H:=.agg [di,di,di,.agg [di,.nil,.nil,di,di,dUnit,.nil,.nil,dt,dt,.agg [di,di,dt],di,di,di,dt,.nil]]
abbrev dItem {H:Type}:DataW H:=.agg [di,.nil,.nil,di,di,dUnit,.nil,.nil,dt,dt,.agg [di,di,dt],di,di,di,dt,.nil]
abbrev dAct {H:Type}:DataW H:=.agg [di,dt,di,.agg [di,di,dt],.nil]
set_option maxRecDepth 100000 in
theorem reads (os:Os) {H:Type} (enc:TypeId×Value->H):∃places,DataW.whole enc Tryz.prog ((laidWorld os).forCall (λ_ _=>0) ⟨#[],#[zItem,zItem],[]⟩).memory Tryz.f4.params.toList Rows.syntaxEqualSpec.vars false #[zItem,zItem].toList 8=some ([dItem,dItem],[],places):=
 ⟨[],by kernel_rfl⟩
set_option maxRecDepth 100000 in
theorem okIn (os:Os):Input.okWideB Tryz.checked.prog ((laidWorld os).forCall (λ_ _=>0) ⟨#[],#[zItem,zItem],[]⟩) 4 ⟨#[],#[zItem,zItem],[]⟩=true:=by kernel_rfl
set_option maxRecDepth 100000 in
set_option maxHeartbeats 0 in
theorem closed:joinedFacts Tryz.pinned.checked.prog 4 Tryz.f4 (OpenSpec.ofChange Rows.syntaxEqualSpec).bare Rows.syntaxEqualRow=true:=by
 unfold joinedFacts
 repeat' with_reducible apply and_mk
 all_goals as_aux_lemma=>kernel_rfl
set_option maxRecDepth 100000 in
theorem contract (H:Type) (enc:TypeId×Value->H) (W:World) (base:Nat) (args:Array Value) (ds gs:List (DataW H)) (before:List MemPlace)
  (hval:∀(j:Nat) t v,Tryz.f4.params[j]? =some t->args[j]? =some v->Value.okWide Tryz.prog W .any base t v)
  (hW:DataW.Whole enc Tryz.prog Tryz.f4.params.toList Rows.syntaxEqualSpec.vars false W args.toList ds gs before)
  (hwt:(DataW.weightsEach Tryz.prog (Tryz.f4.params.toList++(OpenSpec.ofChange Rows.syntaxEqualSpec).bare.plain.varTypes Tryz.prog) (ds++gs)).all (· <=reachBytes)=true)
  (hL:laidMetH Tryz.prog Rows.syntaxEqualRow.laid W):
  Calls Tryz.prog 4 args W λe W'=>∃v,e= .returned v/\Rows.syntaxEqualSpec.post enc Tryz.prog Tryz.f4 false true false false W args v W':=by
 have hW':=hW
 obtain⟨p,q,hA0,hV,rfl,hfz,hnd⟩:=hW
 have hA:DataW.TrodAll enc Tryz.prog W 0 (λ_=>true) true Tryz.f4.params.toList args.toList ds p:=hA0
 rw[Tryz.params4]at hA hval hwt
 obtain⟨v0,v1,d0,d1,p0,p1,rfl,rfl,rfl,h0,h1⟩:=trodAll_two hA
 obtain⟨rfl,rfl⟩:=trodVars_none hV
 have hw0:∀n∈DataW.weights Tryz.prog 39 d0,n<=reachBytes:=λn hn=>by
  have h:=List.all_eq_true.1 hwt n (Go.Av.weightsEach_in (i:=0) rfl rfl n hn)
  simpa using h
 have hw1:∀n∈DataW.weights Tryz.prog 39 d1,n<=reachBytes:=λn hn=>by
  have h:=List.all_eq_true.1 hwt n (Go.Av.weightsEach_in (i:=1) rfl rfl n hn)
  simpa using h
 obtain⟨fu0,x0,hs0,hrep0⟩:=Go.Av.open_struct (S:=[39,28,49,3,9,30,34,31,80,78,32,24,36,37]) (by kernel_rfl) (by decide) (by rw[cellsI];decide) h0 hw0
 obtain⟨u0,rfl,hfit0⟩:=Go.Av.open_item _ _ hs0
 obtain⟨fu1,x1,hs1,hrep1⟩:=Go.Av.open_struct (S:=[39,28,49,3,9,30,34,31,80,78,32,24,36,37]) (by kernel_rfl) (by decide) (by rw[cellsI];decide) h1 hw1
 obtain⟨u1,rfl,hfit1⟩:=Go.Av.open_item _ _ hs1
 have hlt0:∀x∈p0,x.block<W.heap.size:=λx hx=>by simpa using hW'.lt x (by simp[hx])
 have hlt1:∀x∈p1,x.block<W.heap.size:=λx hx=>by simpa using hW'.lt x (by simp[hx])
 have hG:Go.Av.GS.holds [] W:=holdsS hL
 clear hA0
 refine(Go.Av.calls_of (W:=W) (vs:=#[v0,v1]) (Go.Av.law_SyntaxEqual Go.Av.GS Go.Av.runAwake u0 hfit0 u1 hfit1) hG (by simp only[Go.Av.RepL];exact⟨_,_,rfl,hrep0,_,_,rfl,hrep1,rfl⟩)).mono ?_
 rintro e W' ⟨v,rfl,hr,hB⟩
 simp only[Go.Av.Rep]at hr
 subst hr
 exact⟨_,rfl,_,_,_,[],_,[],hW',trodAll_mk1 (shut_bool Tryz.underlying4 _),trodAll_mk2 (Below.trod (by kernel_rfl) (by kernel_rfl) (of_decide_eq_true (by kernel_rfl)) h0 hB hlt0) (Below.trod (by kernel_rfl) (by kernel_rfl) (of_decide_eq_true (by kernel_rfl)) h1 hB hlt1),rfl,hB.frame _,λh=>by cases h⟩
set_option maxRecDepth 100000 in
theorem lifted (os:Os) (started:os.Started) (H:Type) (enc:TypeId×Value->H) (F:Stop.Interp):
  ReturnsInHanded {} Tryz.checked os 4 .any ((OpenSpec.ofChange Rows.syntaxEqualSpec).preRow enc Tryz.prog Tryz.f4 Rows.syntaxEqualRow.domain false Rows.syntaxEqualRow.laid) (((OpenSpec.ofChange Rows.syntaxEqualSpec).at F).post enc Tryz.prog Tryz.f4 false true false false):=by
 obtain⟨places,hx⟩:=reads os enc
 refine returnsInHanded_of_row (C:=Tryz.checked) (s:=OpenSpec.ofChange Rows.syntaxEqualSpec) own started (by kernel_rfl) Tryz.func4
  (witness_row_atRef (enc:=enc) (C:=Tryz.checked) false (laidWorld os) #[zItem,zItem] rfl (varsOk os _) (restOk os _) (okIn os)
   (OpenSpec.preRow_of_cond 8 hx (by kernel_rfl) (λk hk=>by cases hk) (by kernel_rfl) (met os _))) ?_
 intro W base args ds gs before hval hW _ _ hwt hL _ _
 exact contract H enc W base args ds gs before hval hW hwt hL
theorem said:Rows.SyntaxEqualSaid:=
 OpenClaim.holds_of_cond 4 Tryz.f4 rfl rfl rfl rfl rfl rfl rfl ⟨rfl,rfl,rfl,rfl,rfl⟩ rfl rfl rfl rfl rfl (by kernel_rfl) Tryz.func4 closed
  (of_decide_eq_true (by kernel_rfl)) (by unfold Func.isWrapper;first|(rw[if_pos (by decide+kernel)];kernel_rfl)|(rw[if_neg (by decide+kernel)];exact⟨rfl,rfl⟩))
  (λos started H enc _ F=>by rw[OpenClaim.pre_eq_preRow];exact lifted os started H enc F)
theorem plain (f:FuncId) (fn:Func) (hf:Tryz.pinned.checked.prog.funcNamed "pandect/pandectlaw17.SyntaxEqual" =some f) (hfn:Tryz.pinned.checked.prog.funcs[f]? =some fn):
  true=Tryz.pinned.checked.prog.looks []/\∀(j:Nat) t,fn.params[j]? =some t->Tryz.pinned.checked.prog.wantsStandIn t=false:=by
 obtain rfl:f=4:=Option.some.inj ((show Tryz.prog.funcNamed "pandect/pandectlaw17.SyntaxEqual" =some 4 by kernel_rfl).symm.trans hf)|>.symm
 obtain rfl:fn=Tryz.f4:=(Option.some.inj (Tryz.func4.symm.trans hfn)).symm
 refine⟨by kernel_rfl,λj t ht=>?_⟩
 rw[Tryz.params4]at ht
 have w0:Tryz.prog.wantsStandIn 39=false:=by kernel_rfl
 have w1:Tryz.prog.wantsStandIn 39=false:=by kernel_rfl
 have ht:t=39\/t=39:=by simpa using Array.mem_of_getElem? ht
 rcases ht with rfl|rfl
 ·exact w0
 ·exact w1
theorem card:Rows.SyntaxEqualCardSaid:=
 Claim7.holds_tied_plain_at .later [] _ _ _ _ said (λ_ h=>by cases h) (by kernel_rfl) (λ_ h=>by cases h) syntaxEqual_row_tie rfl ⟨rfl,rfl⟩ (by kernel_rfl) rfl plain (by kernel_rfl)
end Go.Proofs.YtepngejmjdgccaaGreatDoor.lSyntaxEqual
