/-
  What LintOnBook needs besides its walk.
-/
import Derived.Test.YtppjieiiibgagaaGreatDoorQXM5toXGo
namespace Go.Proofs.YtppjieiiibgagaaGreatDoor.lLintOnBook
open Go.ChangeShapes Go.WideShapes Go.ChangeAt Go.RowKit
open Go.ChangeMaps (open_string shut_string)
set_option linter.unusedSimpArgs false
set_option linter.unusedVariables false
abbrev zi:Value:=.int .i64 0
abbrev zs:Value:=.slice none 0 0
abbrev zt:Value:=.string .empty
abbrev zUnit:Value:=.agg #[zi,zi,zi,zi,zt,zs,zs,zs]
abbrev zDeed:Value:=.agg #[zi,zi,zi,zi,zs,zs,zi,zi,zi,zi,zi,zi,zt,zs,zs,zs,zs,zs,zt,zt,zi,zi,zt,zi,zi,zi,zt,zs]
abbrev zItem:Value:=.agg #[zi,zs,zs,zi,zi,zi,zi,zi,zi,zt,zs,zs,zs,zs,zs,zt,zt,zi,zi,zt,zi,zi,zi,zt,zs]
abbrev zPatch:Value:=.agg #[zi,zi,zi,zi,zi,zi,zi,zi,zi,zi,zi,zi,zt,zs,zs,zs,zt,zs]
abbrev zAct:Value:=.agg #[zi,zt,zi,zi,zi,zt,zs]
abbrev di {H:Type}:DataW H:=.lit (.int .i64 0)
abbrev dt {H:Type}:DataW H:=.lit (.string [])
abbrev dUnit {H:Type}:DataW H:=.agg [.agg [di,di,di],di,dt,.nil,.nil,.nil]
abbrev dDeed {H:Type}:DataW H:=.agg [di,di,di,.agg [di,.nil,.nil,di,di,dUnit,.nil,.nil,dt,dt,.agg [di,di,dt],di,di,di,dt,.nil]]
abbrev dItem {H:Type}:DataW H:=.agg [di,.nil,.nil,di,di,dUnit,.nil,.nil,dt,dt,.agg [di,di,dt],di,di,di,dt,.nil]
abbrev dPatch {H:Type}:DataW H:=.agg [di,di,.agg [di,di,di],.agg [di,di,di],dUnit,dt,.nil]
abbrev dAct {H:Type}:DataW H:=.agg [di,dt,di,.agg [di,di,dt],.nil]
set_option maxRecDepth 100000 in
theorem reads (os:Os) {H:Type} (enc:TypeId×Value->H):∃places,DataW.whole enc Tryz.prog ((laidWorld os).forCall (λ_ _=>0) ⟨#[],#[zUnit,zAct],[]⟩).memory Tryz.f4.params.toList Rows.lintOnBookSpec.vars false #[zUnit,zAct].toList 8=some ([dUnit,dAct],[],places):=
 ⟨[],by kernel_rfl⟩
set_option maxRecDepth 100000 in
theorem okIn (os:Os):Input.okWideB Tryz.checked.prog ((laidWorld os).forCall (λ_ _=>0) ⟨#[],#[zUnit,zAct],[]⟩) 4 ⟨#[],#[zUnit,zAct],[]⟩=true:=by kernel_rfl
set_option maxRecDepth 100000 in
set_option maxHeartbeats 0 in
theorem closed:joinedFacts Tryz.pinned.checked.prog 4 Tryz.f4 (OpenSpec.ofChange Rows.lintOnBookSpec).bare Rows.lintOnBookRow=true:=by
 unfold joinedFacts
 repeat' with_reducible apply and_mk
 all_goals as_aux_lemma=>kernel_rfl
def Ctr:Prop:=∀(H:Type) (enc:TypeId×Value->H) (W:World) (base:Nat) (args:Array Value) (ds gs:List (DataW H)) (before:List MemPlace)
  (hval:∀(j:Nat) t v,Tryz.f4.params[j]? =some t->args[j]? =some v->Value.okWide Tryz.prog W .any base t v)
  (hW:DataW.Whole enc Tryz.prog Tryz.f4.params.toList Rows.lintOnBookSpec.vars false W args.toList ds gs before)
  (hwt:(DataW.weightsEach Tryz.prog (Tryz.f4.params.toList++(OpenSpec.ofChange Rows.lintOnBookSpec).bare.plain.varTypes Tryz.prog) (ds++gs)).all (· <=reachBytes)=true)
  (hL:laidMetH Tryz.prog Rows.lintOnBookRow.laid W) (hsh:W.ShapedOpen Tryz.prog),Calls Tryz.prog 4 args W λe W'=>∃v,e= .returned v/\Rows.lintOnBookSpec.post enc Tryz.prog Tryz.f4 false true false false W args v W'
set_option maxRecDepth 100000 in
theorem lifted (hc:Ctr) (os:Os) (started:os.Started) (H:Type) (enc:TypeId×Value->H) (F:Stop.Interp):
  ReturnsInHanded {} Tryz.checked os 4 .any ((OpenSpec.ofChange Rows.lintOnBookSpec).preRow enc Tryz.prog Tryz.f4 Rows.lintOnBookRow.domain false Rows.lintOnBookRow.laid) (((OpenSpec.ofChange Rows.lintOnBookSpec).at F).post enc Tryz.prog Tryz.f4 false true false false):=by
 obtain⟨places,hx⟩:=reads os enc
 refine returnsInHanded_of_row (C:=Tryz.checked) (s:=OpenSpec.ofChange Rows.lintOnBookSpec) own started (by kernel_rfl) Tryz.func4
  (witness_row_atRef (enc:=enc) (C:=Tryz.checked) false (laidWorld os) #[zUnit,zAct] rfl (varsOk os _) (restOk os _) (okIn os)
   (OpenSpec.preRow_of_cond 8 hx (by kernel_rfl) (λk hk=>by cases hk) (by kernel_rfl) (metC os _))) ?_
 intro W base args ds gs before hval hW _ _ hwt hL hsh _
 exact hc H enc W base args ds gs before hval hW hwt hL hsh
theorem said (hc:Ctr):Rows.LintOnBookSaid:=
 OpenClaim.holds_of_cond 4 Tryz.f4 rfl rfl rfl rfl rfl rfl rfl ⟨rfl,rfl,rfl,rfl,rfl⟩ rfl rfl rfl rfl rfl (by kernel_rfl) Tryz.func4 closed
  (of_decide_eq_true (by kernel_rfl)) (by unfold Func.isWrapper;first|(rw[if_pos (by decide+kernel)];kernel_rfl)|(rw[if_neg (by decide+kernel)];exact⟨rfl,rfl⟩))
  (λos started H enc _ F=>by rw[OpenClaim.pre_eq_preRow];exact lifted hc os started H enc F)
theorem plain (f:FuncId) (fn:Func) (hf:Tryz.pinned.checked.prog.funcNamed "pandect/pandectlaw40.LintOnBook" =some f) (hfn:Tryz.pinned.checked.prog.funcs[f]? =some fn):
  false=Tryz.pinned.checked.prog.looks []/\∀(j:Nat) t,fn.params[j]? =some t->Tryz.pinned.checked.prog.wantsStandIn t=false:=by
 obtain rfl:f=4:=Option.some.inj ((show Tryz.prog.funcNamed "pandect/pandectlaw40.LintOnBook" =some 4 by kernel_rfl).symm.trans hf)|>.symm
 obtain rfl:fn=Tryz.f4:=(Option.some.inj (Tryz.func4.symm.trans hfn)).symm
 refine⟨by kernel_rfl,λj t ht=>?_⟩
 rw[Tryz.params4]at ht
 have w0:Tryz.prog.wantsStandIn 27=false:=by kernel_rfl
 have w1:Tryz.prog.wantsStandIn 49=false:=by kernel_rfl
 have ht:t=27\/t=49:=by simpa using Array.mem_of_getElem? ht
 rcases ht with rfl|rfl
 ·exact w0
 ·exact w1
theorem card0 (hc:Ctr):Rows.LintOnBookCardSaid:=
 Claim7.holds_tied_plain_at .later [] _ _ _ _ (said hc) (λ_ h=>by cases h) (by kernel_rfl) (λ_ h=>by cases h) lintOnBook_row_tie rfl ⟨rfl,rfl⟩ (by kernel_rfl) rfl plain (oT rfl goesAll)
end Go.Proofs.YtppjieiiibgagaaGreatDoor.lLintOnBook
