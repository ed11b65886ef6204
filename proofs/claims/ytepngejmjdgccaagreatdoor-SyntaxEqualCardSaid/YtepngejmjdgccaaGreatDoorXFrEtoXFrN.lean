/-
  THE FRAME OF THE ENACT LAWS: what the listed variables hold; a world for the witness.
-/
import Derived.Test.YtepngejmjdgccaaGreatDoorCards
import Derived.Test.YtepngejmjdgccaaGreatDoorTie
import Derived.WalkKit
import Derived.ProofKit
import Derived.OpenShut
import Derived.Carry
import Derived.LaidSub
import Derived.Deep.DeepHandedRow
import Derived.Test.YtepngejmjdgccaaGreatDoorXGlobtoXDat
import Derived.Test.YtepngejmjdgccaaGreatDoorXL16toXL17
import Derived.JoinedCond
import Derived.Deep.DeepWitnessRowRef
section
namespace Go.Av
open Go Go.RowKit Go.Proofs
set_option linter.unusedVariables false
theorem calls_of {P:Program} {G:Glob} {k:FuncId} {args:List AV} {r:AV} (h:Pure G P k args r) {W:World} (hG:G.holds [] W) {vs:Array Value} (hA:RepL [] W args vs.toList):
  Calls P k vs W λe W'=>∃v,e= .returned v/\Rep [] W' r v/\Below W.heap.size W W':=by
 have hS:Sat G ([]++[]) W:=⟨by simp[Store.keys],λb x hx=>by simp at hx,hG⟩
 refine(h.2 [] W vs hS hA).mono ?_
 rintro e W' ⟨v,r',σ',rfl,⟨rfl,rfl⟩,_,ev,hr⟩
 exact⟨v,rfl,hr,ev.os,ev.tape,ev.output,ev.size,λk hk=>(ev.block k hk (by simp[Store.keys])).1⟩
theorem tab_of {P:Program} {w:World} {nm:String} {d:DataW Unit} {g:Nat} {t:TypeId} {avs:List AV} (n:Nat) (hr:Go.Lib.VarReads P w nm d) (hg:P.globalNamed nm=some g) (ht:(P.globals[g]?).map (·.type)=some t) (ha:avD P n t d=some avs):
  RepAt [] w ⟨g,0,none⟩ 0 avs:=by
 obtain⟨g',t',cs,fuel,p,h1,h2,h3,h4⟩:=hr
 obtain rfl:=Option.some.inj (hg.symm.trans h1)
 obtain rfl:=Option.some.inj (ht.symm.trans h2)
 exact repAt_var hg h3 (avD_ok n t d avs ha fuel cs.toList p h4)
def tabNames:List AV:=kindNames.map AV.str
def tabBelow:List AV:=[.lst 1 (([1,2]:List Int).map irow),.lst 1 (([2]:List Int).map irow),.lst 1 (([3,4,7]:List Int).map irow),.lst 1 (([3,4,7]:List Int).map irow),.lst 1 (([5]:List Int).map irow),.lst 1 (([6]:List Int).map irow),.nil,.nil]
def tabOrder:List AV:=[.sc (.func (.func 364) #[] #[]),.sc (.func (.func 365) #[] #[])]
def GL:Glob:=globOf [(6,tabNames),(9,tabBelow),(1,tabOrder)]
end Go.Av
namespace Go.Proofs.YtepngejmjdgccaaGreatDoor
open Go.ChangeShapes Go.WideShapes Go.ChangeAt Go.RowKit
set_option linter.unusedVariables false
theorem own:ownKnob Tryz.prog.godebug=none:=by kernel_rfl
def litV:DataW Unit->Value
 | .lit (.int k n)=>.int k n
 |_=>.nilFunc
def litsV:DataW Unit->List Value
 | .agg ds=>ds.map litV
 |_=>[]
theorem gNames:Tryz.prog.globalNamed "pandect/unit.names" =some 6:=by kernel_rfl
theorem gBelow:Tryz.prog.globalNamed "pandect/unit.below" =some 9:=by kernel_rfl
theorem gOrder:Tryz.prog.globalNamed "pandect/syntax.order" =some 1:=by kernel_rfl
theorem tOrder:(Tryz.prog.globals[1]?).map (·.type)=some 101:=by kernel_rfl
theorem has_fn:((List.range Tryz.prog.funcs.size).filter λf=>(Tryz.prog.funcs[f]?).any (·.name.toUTF8.data.toList==112::[97,110,100,101,99,116,47,115,121,110,116,97,120,46,111,114,100,101,114,36,49]))=[364]:=by kernel_rfl
theorem may_fn:((List.range Tryz.prog.funcs.size).filter λf=>(Tryz.prog.funcs[f]?).any (·.name.toUTF8.data.toList==112::[97,110,100,101,99,116,47,115,121,110,116,97,120,46,111,114,100,101,114,36,50]))=[365]:=by kernel_rfl
theorem cells83:Tryz.prog.cellsOf 56=1:=by kernel_rfl
theorem cells35:Tryz.prog.cellsOf 40=1:=by kernel_rfl
theorem order_of {W:World} (h:funcsAt Tryz.prog W "pandect/syntax.order" (.agg [.iface "func" (.lit (.string [112,97,110,100,101,99,116,47,115,121,110,116,97,120,46,111,114,100,101,114,36,49])),.iface "func" (.lit (.string [112,97,110,100,101,99,116,47,115,121,110,116,97,120,46,111,114,100,101,114,36,50]))])):
  Go.Av.RepAt [] W ⟨1,0,none⟩ 0 Go.Av.tabOrder:=by
 obtain⟨g,t,cs,fuel,p,hg,ht,hv,hd⟩:=h
 obtain rfl:=Option.some.inj (gOrder.symm.trans hg)
 obtain rfl:=Option.some.inj (tOrder.symm.trans ht)
 obtain⟨xs,n,hn,hx,hl,hxl,hxs⟩:=DataW.trod_struct Tryz.underlying101 hd
 have hl2:cs.toList.length=2:=hl.trans (by kernel_rfl)
 obtain⟨u,v,huv⟩:∃u v,cs.toList=[u,v]:=by
  match hcs:cs.toList,hl2 with
  |[u,v],_=>exact⟨u,v,rfl⟩
 have h0:DataW.trod (funcToken Tryz.prog) Tryz.prog W 0 (λ_=>true) true n 56 ((cs.toList.drop 0).take (Tryz.prog.cellsOf 56))=xs[0]? :=hxs 0 _ rfl
 have h1:DataW.trod (funcToken Tryz.prog) Tryz.prog W 0 (λ_=>true) true n 40 ((cs.toList.drop 1).take (Tryz.prog.cellsOf 40))=xs[1]? :=hxs 1 _ rfl
 have hm:=congrArg Prod.fst hx
 rw[huv]at h0 h1
 simp only[cells83,cells35,List.drop_zero,List.take_succ_cons,List.take_zero,List.drop_succ_cons]at h0 h1
 obtain⟨x0,x1,rfl⟩:∃x0 x1,xs=[x0,x1]:=by
  match xs,hxl with
  |[x0,x1],_=>exact⟨x0,x1,rfl⟩
 simp only[List.map_cons,List.map_nil,DataW.funcsOut,DataW.funcsOutAll,DataW.agg.injEq,List.cons.injEq,and_true]at hm
 obtain⟨e0,e1⟩:=hm
 have hu:=func_of_trod (q:=x0.2) Tryz.underlying56 has_fn (by rw[if_pos (beq_self_eq_true _)]at e0;rw[e0];exact h0)
 have hw:=func_of_trod (q:=x1.2) Tryz.underlying40 may_fn (by rw[if_pos (beq_self_eq_true _)]at e1;rw[e1];exact h1)
 subst hu hw
 refine Go.Av.repAt_var gOrder hv ⟨?_,?_⟩
 ·rw[huv]
  simp only[Go.Av.tabOrder,Go.Av.RepL,Go.Av.Rep]
  exact⟨_,_,rfl,rfl,_,_,rfl,rfl,rfl⟩
 ·rw[huv]
  simp[Value.oneCell']
noncomputable def tNamesT:TypeId:=((Tryz.prog.globals[6]?).map (·.type)).getD 0
theorem tNames:(Tryz.prog.globals[6]?).map (·.type)=some tNamesT:=by kernel_rfl
theorem tNamesD:Go.Av.avD Tryz.prog 6 tNamesT (Rows.laid_pandect_unit_names (H:=Unit))=some Go.Av.tabNames:=by kernel_rfl
noncomputable def tBelowT:TypeId:=((Tryz.prog.globals[9]?).map (·.type)).getD 0
theorem tBelow:(Tryz.prog.globals[9]?).map (·.type)=some tBelowT:=by kernel_rfl
theorem tBelowD:Go.Av.avD Tryz.prog 6 tBelowT (Rows.laid_pandect_unit_below (H:=Unit))=some Go.Av.tabBelow:=by kernel_rfl
theorem glob_holds {L:List (String×DataW Unit)} {W:World} (h:laidMetH Tryz.prog L W)
  (h1:("pandect/unit.names",Rows.laid_pandect_unit_names (H:=Unit))∈L.filter λx=>x.2.handleName?.isNone)
  (h2:("pandect/unit.below",Rows.laid_pandect_unit_below (H:=Unit))∈L.filter λx=>x.2.handleName?.isNone)
  (h3:("pandect/syntax.order",Rows.laid_pandect_syntax_order (H:=Unit))∈L):Go.Av.GL.holds [] W:=by
 obtain⟨hm,_⟩:=laidMetH_iff.1 h
 intro p hp
 simp only[List.mem_cons,List.not_mem_nil,or_false]at hp
 rcases hp with rfl|rfl|rfl
 ·exact Go.Av.tab_of 6 (Go.Lib.laidMet.reads hm h1) gNames tNames tNamesD
 ·exact Go.Av.tab_of 6 (Go.Lib.laidMet.reads hm h2) gBelow tBelow tBelowD
 ·exact order_of (laidMetH.funcs h h3)
noncomputable def laidWorld (os:Os):World:=
 let w0:=World.doorLaid Tryz.prog 600 os
 {w0 with heap:=w0.heap.modify 7 (λ
   | .cells _ t frozen=>.cells (litsV Rows.laid_unicode_utf8_first).toArray t frozen
   |o=>o)}
end Go.Proofs.YtepngejmjdgccaaGreatDoor
end
namespace Go.Proofs.YtepngejmjdgccaaGreatDoor
open Go.ChangeShapes Go.WideShapes Go.ChangeAt Go.RowKit
set_option linter.unusedSimpArgs false
set_option linter.unusedVariables false
section
theorem and_mk {a b:Bool} (ha:a=true) (hb:b=true):(a&&b)=true:=by rw[ha,hb];rfl
theorem cellsI:Tryz.prog.cellsOf 39=25:=by kernel_rfl
abbrev laidL:List (String×DataW Unit):=Rows.syntaxKindsRow.laid
theorem mem3:("pandect/syntax.order",Rows.laid_pandect_syntax_order (H:=Unit))∈laidL:=List.mem_of_getElem? (i:=9) rfl
theorem mem1:("pandect/unit.names",Rows.laid_pandect_unit_names (H:=Unit))∈laidL.filter λx=>x.2.handleName?.isNone:=
 List.mem_filter.2 ⟨List.mem_of_getElem? (i:=6) rfl,by kernel_rfl⟩
theorem mem2:("pandect/unit.below",Rows.laid_pandect_unit_below (H:=Unit))∈laidL.filter λx=>x.2.handleName?.isNone:=
 List.mem_filter.2 ⟨List.mem_of_getElem? (i:=7) rfl,by kernel_rfl⟩
theorem holdsL {W:World} (h:laidMetH Tryz.prog laidL W):Go.Av.GL.holds [] W:=glob_holds h mem1 mem2 mem3
set_option maxRecDepth 100000
theorem met (os:Os) (args:Array Value):laidMetH Tryz.prog laidL ((laidWorld os).forCall (λ_ _=>0) ⟨#[],args,[]⟩).memory:=
 laidMetH_of_parts3 (fuel:=40) (laidMet_of_run' 40 (by kernel_rfl) (by kernel_rfl)) (by kernel_rfl) (by kernel_rfl)
theorem varsOk (os:Os) (args:Array Value):((laidWorld os).forCall (λ_ _=>0) ⟨#[],args,[]⟩).variablesRefB Tryz.checked.prog=true:=by kernel_rfl
def RestOk (C:Checked) (w0:World) (args:Array Value):Prop:=((w0.forCall (λ_ _=>0) ⟨#[],args,[]⟩).heap.toList.drop C.prog.globals.size).take ((begin C.prog (λ_ _=>0) default).world.heap.size-C.prog.globals.size)=
   (begin C.prog (λ_ _=>0) default).world.heap.toList.drop C.prog.globals.size
theorem restOk (os:Os) (args:Array Value):RestOk Tryz.checked (laidWorld os) args:=by unfold RestOk;kernel_rfl
end
end Go.Proofs.YtepngejmjdgccaaGreatDoor
