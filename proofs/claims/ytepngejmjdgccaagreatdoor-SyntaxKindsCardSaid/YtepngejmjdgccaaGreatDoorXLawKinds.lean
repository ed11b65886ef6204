/-
  SyntaxKinds: for every input the law returns true, and its arguments read behind the call as they read before. No condition of its own; the row lists tables, tied to the program's text by the given tie.
-/
import Derived.Test.YtepngejmjdgccaaGreatDoorXFrStoXOpI
import Derived.Test.YtepngejmjdgccaaGreatDoorXC4toXSK
namespace Go.Proofs.YtepngejmjdgccaaGreatDoor.lSyntaxKinds
open Go.ChangeShapes Go.WideShapes Go.ChangeAt Go.RowKit
open Go.ChangeMaps (open_string shut_string)
set_option linter.unusedSimpArgs false
set_option linter.unusedVariables false
abbrev zi:Value:=.int .i64 0
abbrev zs:Value:=.slice none 0 0
abbrev zt:Value:=.string .empty
abbrev zUnit:Value:=.agg #[zi,zi,zi,zi,zt,zs,zs,zs]
abbrev zDeed:Value:=.agg #[zi,zi,zi,zi,zs,zs,zi,zi,zi,zi,zi,zi,zt,zs,zs,zs,zs,zs,zt,zt,zi,zi,zt,zi,zi,zi,zt,zs]
abbrev zItem:Value:=.agg #[zi,zs,zs,zi,zi,zi,zi,zi,zi,zt,zs,zs,zs,zs,zs,zt,zt,zi,zi,zt,zi,zi,zi,zt,zs]
abbrev zAct:Value:=.agg #[zi,zt,zi,zi,zi,zt,zs]
abbrev di {H:Type}:DataW H:=.lit (.int .i64 0)
abbrev dt {H:Type}:DataW H:=.lit (.string [])
abbrev dUnit {H:Type}:DataW H:=.agg [.agg [di,di,di],di,dt,.nil,.nil,.nil]
abbrev dDeed {H:Type}:DataW H:=.agg [di,di,di,.agg [di,.nil,.nil,di,di,dUnit,.nil,.nil,dt,dt,.agg [di,di,dt],di,di,di,dt,.nil]]
abbrev dItem {H:Type}:DataW H:=.agg [di,.nil,.nil,di,di,dUnit,.nil,.nil,dt,dt,.agg [di,di,dt],di,di,di,dt,.nil]
abbrev dAct {H:Type}:DataW H:=.agg [di,dt,di,.agg [di,di,dt],.nil]
set_option maxRecDepth 100000 in
theorem reads (os:Os) {H:Type} (enc:TypeId×Value->H):∃places,DataW.whole enc Tryz.prog ((laidWorld os).forCall (λ_ _=>0) ⟨#[],#[zi],[]⟩).memory Tryz.f3.params.toList Rows.syntaxKindsSpec.vars false #[zi].toList 8=some ([di],[],places):=
 ⟨[],by kernel_rfl⟩
set_option maxRecDepth 100000 in
theorem okIn (os:Os):Input.okWideB Tryz.checked.prog ((laidWorld os).forCall (λ_ _=>0) ⟨#[],#[zi],[]⟩) 3 ⟨#[],#[zi],[]⟩=true:=by kernel_rfl
set_option maxRecDepth 100000 in
set_option maxHeartbeats 0 in
theorem closed:joinedFacts Tryz.pinned.checked.prog 3 Tryz.f3 (OpenSpec.ofChange Rows.syntaxKindsSpec).bare Rows.syntaxKindsRow=true:=by
 unfold joinedFacts
 repeat' with_reducible apply and_mk
 all_goals as_aux_lemma=>kernel_rfl
set_option maxRecDepth 100000 in
theorem contract (H:Type) (enc:TypeId×Value->H) (W:World) (base:Nat) (args:Array Value) (ds gs:List (DataW H)) (before:List MemPlace)
  (hval:∀(j:Nat) t v,Tryz.f3.params[j]? =some t->args[j]? =some v->Value.okWide Tryz.prog W .any base t v)
  (hW:DataW.Whole enc Tryz.prog Tryz.f3.params.toList Rows.syntaxKindsSpec.vars false W args.toList ds gs before)
  (hwt:(DataW.weightsEach Tryz.prog (Tryz.f3.params.toList++(OpenSpec.ofChange Rows.syntaxKindsSpec).bare.plain.varTypes Tryz.prog) (ds++gs)).all (· <=reachBytes)=true)
  (hL:laidMetH Tryz.prog Rows.syntaxKindsRow.laid W):
  Calls Tryz.prog 3 args W λe W'=>∃v,e= .returned v/\Rows.syntaxKindsSpec.post enc Tryz.prog Tryz.f3 false true false false W args v W':=by
 have hW':=hW
 obtain⟨p,q,hA0,hV,rfl,hfz,hnd⟩:=hW
 have hA:DataW.TrodAll enc Tryz.prog W 0 (λ_=>true) true Tryz.f3.params.toList args.toList ds p:=hA0
 rw[Tryz.params3]at hA hval hwt
 obtain⟨v0,d0,rfl,rfl,h0⟩:=trodAll_one hA
 obtain⟨rfl,rfl⟩:=trodVars_none hV
 obtain⟨n0,rfl,rfl,rfl,wn0⟩:=open_int Tryz.underlying3 (hval 0 3 v0 rfl rfl) h0
 have hG:Go.Av.GS.holds [] W:=holdsS hL
 clear hA0
 refine(Go.Av.calls_of (W:=W) (vs:=#[.int .i64 n0]) (Go.Av.law_SyntaxKinds Go.Av.GS rfl Go.Av.runAwake n0) hG (by simp only[Go.Av.RepL];exact⟨_,_,rfl,by simp only[Go.Av.Rep],rfl⟩)).mono ?_
 rintro e W' ⟨v,rfl,hr,hB⟩
 simp only[Go.Av.Rep]at hr
 subst hr
 exact⟨_,rfl,_,_,_,[],[],[],hW',trodAll_mk1 (shut_bool Tryz.underlying4 _),trodAll_mk1 (shut_int Tryz.underlying3 wn0),rfl,hB.frame _,λh=>by cases h⟩
set_option maxRecDepth 100000 in
theorem lifted (os:Os) (started:os.Started) (H:Type) (enc:TypeId×Value->H) (F:Stop.Interp):
  ReturnsInHanded {} Tryz.checked os 3 .any ((OpenSpec.ofChange Rows.syntaxKindsSpec).preRow enc Tryz.prog Tryz.f3 Rows.syntaxKindsRow.domain false Rows.syntaxKindsRow.laid) (((OpenSpec.ofChange Rows.syntaxKindsSpec).at F).post enc Tryz.prog Tryz.f3 false true false false):=by
 obtain⟨places,hx⟩:=reads os enc
 refine returnsInHanded_of_row (C:=Tryz.checked) (s:=OpenSpec.ofChange Rows.syntaxKindsSpec) own started (by kernel_rfl) Tryz.func3
  (witness_row_atRef (enc:=enc) (C:=Tryz.checked) false (laidWorld os) #[zi] rfl (varsOk os _) (restOk os _) (okIn os)
   (OpenSpec.preRow_of_cond 8 hx (by kernel_rfl) (λk hk=>by cases hk) (by kernel_rfl) (met os _))) ?_
 intro W base args ds gs before hval hW _ _ hwt hL _ _
 exact contract H enc W base args ds gs before hval hW hwt hL
theorem said:Rows.SyntaxKindsSaid:=
 OpenClaim.holds_of_cond 3 Tryz.f3 rfl rfl rfl rfl rfl rfl rfl ⟨rfl,rfl,rfl,rfl,rfl⟩ rfl rfl rfl rfl rfl (by kernel_rfl) Tryz.func3 closed
  (of_decide_eq_true (by kernel_rfl)) (by unfold Func.isWrapper;first|(rw[if_pos (by decide+kernel)];kernel_rfl)|(rw[if_neg (by decide+kernel)];exact⟨rfl,rfl⟩))
  (λos started H enc _ F=>by rw[OpenClaim.pre_eq_preRow];exact lifted os started H enc F)
theorem plain (f:FuncId) (fn:Func) (hf:Tryz.pinned.checked.prog.funcNamed "pandect/pandectlaw17.SyntaxKinds" =some f) (hfn:Tryz.pinned.checked.prog.funcs[f]? =some fn):
  true=Tryz.pinned.checked.prog.looks []/\∀(j:Nat) t,fn.params[j]? =some t->Tryz.pinned.checked.prog.wantsStandIn t=false:=by
 obtain rfl:f=3:=Option.some.inj ((show Tryz.prog.funcNamed "pandect/pandectlaw17.SyntaxKinds" =some 3 by kernel_rfl).symm.trans hf)|>.symm
 obtain rfl:fn=Tryz.f3:=(Option.some.inj (Tryz.func3.symm.trans hfn)).symm
 refine⟨by kernel_rfl,λj t ht=>?_⟩
 rw[Tryz.params3]at ht
 have w0:Tryz.prog.wantsStandIn 3=false:=by kernel_rfl
 obtain rfl:t=3:=by simpa using Array.mem_of_getElem? ht
 exact w0
theorem card:Rows.SyntaxKindsCardSaid:=
 Claim7.holds_tied_plain_at .later [] _ _ _ _ said (λ_ h=>by cases h) (by kernel_rfl) (λ_ h=>by cases h) syntaxKinds_row_tie rfl ⟨rfl,rfl⟩ (by kernel_rfl) rfl plain (by kernel_rfl)
end Go.Proofs.YtepngejmjdgccaaGreatDoor.lSyntaxKinds
