/-
  What TopValid needs besides its walk.
-/
import Derived.Test.YtjdccoplpljmlaaGreatDoorVXL13toXFrN
import Derived.Test.YtjdccoplpljmlaaGreatDoorVXGo
namespace Go.Proofs.YtjdccoplpljmlaaGreatDoor.lTopValid
open Go.ChangeShapes Go.WideShapes Go.ChangeAt Go.RowKit
open Go.ChangeMaps (open_string shut_string)
set_option linter.unusedSimpArgs false
set_option linter.unusedVariables false
abbrev zi:Value:=.int .i64 0
abbrev zs:Value:=.slice none 0 0
abbrev zt:Value:=.string .empty
abbrev zUnit:Value:=.agg #[zi,zi,zi,zi,zt,zs,zs,zs]
abbrev zDeed:Value:=.agg #[zi,zi,zi,zi,zs,zs,zi,zi,zi,zi,zi,zi,zt,zs,zs,zs,zs,zs,zt,zt,zi,zi,zt,zi,zi,zi,zt,zs]
abbrev zItem:Value:=.agg #[zi,zs,zs,zi,zi,zi,zi,zi,zi,zt,zs,zs,zs,zs,zs,zt,zt,zi,zi,zt,zi,zi,zi,zt,zs]
abbrev zPatch:Value:=.agg #[zi,zi,zi,zi,zi,zi,zi,zi,zi,zi,zi,zi,zt,zs,zs,zs,zt,zs]
abbrev zAct:Value:=.agg #[zi,zt,zi,zi,zi,zt,zs]
abbrev di {H:Type}:DataW H:=.lit (.int .i64 0)
abbrev dt {H:Type}:DataW H:=.lit (.string [])
abbrev dUnit {H:Type}:DataW H:=.agg [.agg [di,di,di],di,dt,.nil,.nil,.nil]
abbrev dDeed {H:Type}:DataW H:=.agg [di,di,di,.agg [di,.nil,.nil,di,di,dUnit,.nil,.nil,dt,dt,.agg [di,di,dt],di,di,di,dt,.nil]]
abbrev dItem {H:Type}:DataW H:=.agg [di,.nil,.nil,di,di,dUnit,.nil,.nil,dt,dt,.agg [di,di,dt],di,di,di,dt,.nil]
abbrev dPatch {H:Type}:DataW H:=.agg [di,di,.agg [di,di,di],.agg [di,di,di],dUnit,dt,.nil]
abbrev dAct {H:Type}:DataW H:=.agg [di,dt,di,.agg [di,di,dt],.nil]
set_option maxRecDepth 100000 in
theorem reads (os:Os) {H:Type} (enc:TypeId×Value->H):∃places,DataW.whole enc Tryz.prog ((laidWorld os).forCall (λ_ _=>0) ⟨#[],#[zs,zi,zt],[]⟩).memory Tryz.f3.params.toList Rows.topValidSpec.vars false #[zs,zi,zt].toList 8=some ([.nil,di,dt],[],places):=
 ⟨[],by kernel_rfl⟩
set_option maxRecDepth 100000 in
theorem okIn (os:Os):Input.okWideB Tryz.checked.prog ((laidWorld os).forCall (λ_ _=>0) ⟨#[],#[zs,zi,zt],[]⟩) 3 ⟨#[],#[zs,zi,zt],[]⟩=true:=by kernel_rfl
set_option maxRecDepth 100000 in
set_option maxHeartbeats 0 in
theorem closed:joinedFacts Tryz.pinned.checked.prog 3 Tryz.f3 (OpenSpec.ofChange Rows.topValidSpec).bare Rows.topValidRow=true:=by
 unfold joinedFacts
 repeat' with_reducible apply and_mk
 all_goals as_aux_lemma=>kernel_rfl
def Ctr:Prop:=∀(H:Type) (enc:TypeId×Value->H) (W:World) (base:Nat) (args:Array Value) (ds gs:List (DataW H)) (before:List MemPlace)
  (hval:∀(j:Nat) t v,Tryz.f3.params[j]? =some t->args[j]? =some v->Value.okWide Tryz.prog W .any base t v)
  (hW:DataW.Whole enc Tryz.prog Tryz.f3.params.toList Rows.topValidSpec.vars false W args.toList ds gs before)
  (hwt:(DataW.weightsEach Tryz.prog (Tryz.f3.params.toList++(OpenSpec.ofChange Rows.topValidSpec).bare.plain.varTypes Tryz.prog) (ds++gs)).all (· <=reachBytes)=true)
  (hL:laidMetH Tryz.prog Rows.topValidRow.laid W),Calls Tryz.prog 3 args W λe W'=>∃v,e= .returned v/\Rows.topValidSpec.post enc Tryz.prog Tryz.f3 false true false false W args v W'
set_option maxRecDepth 100000 in
theorem lifted (hc:Ctr) (os:Os) (started:os.Started) (H:Type) (enc:TypeId×Value->H) (F:Stop.Interp):
  ReturnsInHanded {} Tryz.checked os 3 .any ((OpenSpec.ofChange Rows.topValidSpec).preRow enc Tryz.prog Tryz.f3 Rows.topValidRow.domain false Rows.topValidRow.laid) (((OpenSpec.ofChange Rows.topValidSpec).at F).post enc Tryz.prog Tryz.f3 false true false false):=by
 obtain⟨places,hx⟩:=reads os enc
 refine returnsInHanded_of_row (C:=Tryz.checked) (s:=OpenSpec.ofChange Rows.topValidSpec) own started (by kernel_rfl) Tryz.func3
  (witness_row_atRef (enc:=enc) (C:=Tryz.checked) false (laidWorld os) #[zs,zi,zt] rfl (varsOk os _) (restOk os _) (okIn os)
   (OpenSpec.preRow_of_cond 8 hx (by kernel_rfl) (λk hk=>by cases hk) (by kernel_rfl) (met os _))) ?_
 intro W base args ds gs before hval hW _ _ hwt hL _ _
 exact hc H enc W base args ds gs before hval hW hwt hL
theorem said (hc:Ctr):Rows.TopValidSaid:=
 OpenClaim.holds_of_cond 3 Tryz.f3 rfl rfl rfl rfl rfl rfl rfl ⟨rfl,rfl,rfl,rfl,rfl⟩ rfl rfl rfl rfl rfl (by kernel_rfl) Tryz.func3 closed
  (of_decide_eq_true (by kernel_rfl)) (by unfold Func.isWrapper;first|(rw[if_pos (by decide+kernel)];kernel_rfl)|(rw[if_neg (by decide+kernel)];exact⟨rfl,rfl⟩))
  (λos started H enc _ F=>by rw[OpenClaim.pre_eq_preRow];exact lifted hc os started H enc F)
theorem plain (f:FuncId) (fn:Func) (hf:Tryz.pinned.checked.prog.funcNamed "pandect/pandecttop.TopValid" =some f) (hfn:Tryz.pinned.checked.prog.funcs[f]? =some fn):
  false=Tryz.pinned.checked.prog.looks []/\∀(j:Nat) t,fn.params[j]? =some t->Tryz.pinned.checked.prog.wantsStandIn t=false:=by
 obtain rfl:f=3:=Option.some.inj ((show Tryz.prog.funcNamed "pandect/pandecttop.TopValid" =some 3 by kernel_rfl).symm.trans hf)|>.symm
 obtain rfl:fn=Tryz.f3:=(Option.some.inj (Tryz.func3.symm.trans hfn)).symm
 refine⟨by kernel_rfl,λj t ht=>?_⟩
 rw[Tryz.params3]at ht
 have w0:Tryz.prog.wantsStandIn 22=false:=by kernel_rfl
 have w1:Tryz.prog.wantsStandIn 3=false:=by kernel_rfl
 have w2:Tryz.prog.wantsStandIn 9=false:=by kernel_rfl
 have ht:t=22\/t=3\/t=9:=by simpa using Array.mem_of_getElem? ht
 rcases ht with rfl|rfl|rfl
 ·exact w0
 ·exact w1
 ·exact w2
theorem card0 (hc:Ctr):Rows.TopValidCardSaid:=
 Claim7.holds_tied_plain_at .later [] _ _ _ _ (said hc) (λ_ h=>by cases h) (by kernel_rfl) (λ_ h=>by cases h) topValid_row_tie rfl ⟨rfl,rfl⟩ (by kernel_rfl) rfl plain (goesBy_none rfl goesAll)
end Go.Proofs.YtjdccoplpljmlaaGreatDoor.lTopValid
