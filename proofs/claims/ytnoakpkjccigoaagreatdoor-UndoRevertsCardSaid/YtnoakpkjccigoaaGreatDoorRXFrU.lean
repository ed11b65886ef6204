/-
  THE FRAME OF THE UNDO LAWS: what the variables hold that they read.
-/
import Derived.Test.YtnoakpkjccigoaaGreatDoorRXL13toXL45
import Derived.Shelf.Vars
section
namespace Go.Av
open Go Go.RowKit Go.Proofs List
set_option linter.unusedVariables false
def tabPow:List AV:=Lib.pow10Tab.map (AV.int .u64)
theorem tabPow_len:tabPow.length=20:=rfl
def listA (m:Int):List (Nat×List AV):=[(3,qh),(1,qn),(0,pT),(2,tabPow),(8,[.int .i64 m])]
def GA (m:Int):Glob where
 tab:=(globOf (listA m)).tab
 holds σ w:=(∀p∈listA m,RepAt σ w ⟨p.1,0,none⟩ 0 p.2)/\∃e,w.shape? 2=some (e,20)
 ev he h:=⟨λp hp=>RepAt.ev he _ _ _ (h.1 p hp),h.2.imp λe h=>he.shape _ _ h⟩
 tabs:=λ{σ w g cs} h ht=>(globOf (listA m)).tabs (σ:=σ) (w:=w) (g:=g) (cs:=cs) h.1 ht
theorem GA_ok (m:Int):GOk (GA m):=⟨rfl,rfl,rfl⟩
theorem gPow:Tryz.prog.globalNamed "internal/strconv.uint64pow10" =some 2:=by kernel_rfl
theorem ints_rep {τ:Store} {w:World} {k:IntKind}:∀{zs:List Int} {us:List Value},RepL τ w (zs.map (AV.int k)) us->us=zs.map (Value.int k)
 |[],us,h=>by simpa[RepL]using h
 |z::zs,us,h=>by
  simp only[map_cons,RepL]at h
  obtain⟨u,us',rfl,h1,h2⟩:=h
  simp only[Rep]at h1
  rw[h1,ints_rep h2,map_cons]
theorem GA_ok2 (m:Int):GOk2 (GA m) where
 max τ w hS:=by
  have h:=hS.glob.1 (8,[.int .i64 m]) (by simp[listA])
  simp only[RepAt]at h
  obtain⟨⟨u,hf,_,hr⟩,_⟩:=h
  simp only[Rep]at hr
  exact⟨m,hr ▸ hf.1⟩
 pow τ w hS:=by
  have h:=hS.glob.1 (2,tabPow) (by simp[listA])
  obtain⟨e,hsh⟩:=hS.glob.2
  obtain⟨vs,l1,l2,l3,l4⟩:=iO h 20 (by rw[tabPow_len];exact Nat.le_refl _)
  have hvs:=ints_rep (zs:=Lib.pow10Tab) (by simpa[tabPow,take_of_length_le (show(Lib.pow10Tab.map (AV.int .u64)).length<=20 from Nat.le_refl _)]using l2)
  unfold Lib.TabIs World.var?
  rw[gPow]
  unfold World.shape? at hsh
  simp only[Option.bind_some]
  cases hh:w.heap[2]? with
  |none=>rw[hh]at hsh;cases hsh
  |some o=>
   rw[hh]at hsh
   cases o with
   |cells c el fr=>
    simp only[Option.some.injEq,Prod.mk.injEq]at hsh ⊢
    obtain⟨_,hcs⟩:=hsh
    apply Array.ext'
    rw[←hvs]
    show c.toList=vs
    apply ext_getElem?
    intro j
    by_cases hj:j<20
    ·have hj2:j<vs.length:=by omega
     have h4:=l4 j vs[j] (getElem?_eq_getElem hj2)
     rw[add_lit,Nat.zero_add,cell_of_row w _ j c el fr hh]at h4
     rw[getElem?_eq_getElem hj2,←h4]
     simp
    ·rw[getElem?_eq_none (l:=c.toList) (by rw[Array.length_toList];omega),getElem?_eq_none (l:=vs) (by omega)]
   |_=>cases hsh
end Go.Av
namespace Go.Proofs.YtnoakpkjccigoaaGreatDoor
open Go.ChangeShapes Go.WideShapes Go.ChangeAt Go.RowKit
set_option linter.unusedVariables false
noncomputable def tPowT:TypeId:=((Tryz.prog.globals[2]?).map (·.type)).getD 0
theorem tPow:(Tryz.prog.globals[2]?).map (·.type)=some tPowT:=by kernel_rfl
theorem tPowD:Go.Av.avD Tryz.prog 6 tPowT (Rows.laid_internal_strconv_uint64pow10 (H:=Unit))=some Go.Av.tabPow:=by kernel_rfl
theorem cell7 {W:World} (h:W.ShapedOpen Tryz.prog):∃m,W.cell? ⟨8,0,none⟩=some (.int .i64 m):=
 cell_of_shapedOpen_int (t:=3) (zero:=#[.int .i64 0]) h (of_decide_eq_true (by kernel_rfl)) (by kernel_rfl) rfl (by kernel_rfl) (by kernel_rfl) (by kernel_rfl)
abbrev laidC:List (String×DataW Unit):=Rows.undoSingleRow.laid
theorem memC1:("pandect/unit.names",Rows.laid_pandect_unit_names (H:=Unit))∈laidC.filter λx=>x.2.handleName?.isNone:=
 List.mem_filter.2 ⟨List.mem_of_getElem? (i:=4) rfl,by kernel_rfl⟩
theorem memC2:("pandect/unit.below",Rows.laid_pandect_unit_below (H:=Unit))∈laidC.filter λx=>x.2.handleName?.isNone:=
 List.mem_filter.2 ⟨List.mem_of_getElem? (i:=5) rfl,by kernel_rfl⟩
theorem memC3:("pandect/syntax.order",Rows.laid_pandect_syntax_order (H:=Unit))∈laidC:=List.mem_of_getElem? (i:=6) rfl
theorem memC4:("internal/strconv.uint64pow10",Rows.laid_internal_strconv_uint64pow10 (H:=Unit))∈laidC.filter λx=>x.2.handleName?.isNone:=
 List.mem_filter.2 ⟨List.mem_of_getElem? (i:=2) rfl,by kernel_rfl⟩
theorem holdsA {W:World} (h:laidMetH Tryz.prog laidC W) (hs:W.ShapedOpen Tryz.prog):∃m,(Go.Av.GA m).holds [] W:=by
 obtain⟨m,hm⟩:=cell7 hs
 have h0:=qU h memC1 memC2 memC3
 obtain⟨hmm,_⟩:=laidMetH_iff.1 h
 have hr:=Go.Lib.laidMet.reads hmm memC4
 have hp:=Go.Av.tab_of 6 hr Go.Av.gPow tPow tPowD
 refine⟨m,λp hp'=>?_,?_⟩
 ·simp only[Go.Av.listA,List.mem_cons,List.not_mem_nil,or_false]at hp'
  rcases hp' with rfl|rfl|rfl|rfl|rfl
  ·exact h0 _ (by simp)
  ·exact h0 _ (by simp)
  ·exact h0 _ (by simp)
  ·exact hp
  ·simp only[Go.Av.RepAt,Go.Av.Rep]
   exact⟨⟨_,Go.Av.fy hm,rfl,rfl⟩,trivial⟩
 ·obtain⟨g,t,cs,fuel,p,h1,h2,h3,h4⟩:=hr
  obtain rfl:=Option.some.inj (Go.Av.gPow.symm.trans h1)
  obtain rfl:=Option.some.inj (tPow.symm.trans h2)
  have hl:=(Go.Av.mE 6 tPowT _ _ tPowD fuel cs.toList p h4).1.length
  rw[Go.Av.tabPow_len,Array.length_toList]at hl
  unfold World.var? at h3
  rw[Go.Av.gPow]at h3
  simp only[Option.bind_some]at h3
  unfold World.shape?
  cases hh:W.heap[2]? with
  |none=>rw[hh]at h3;cases h3
  |some o=>
   rw[hh]at h3
   cases o with
   |cells c el fr=>
    simp only[Option.some.injEq]at h3
    subst h3
    exact⟨el,by simp only[hl]⟩
   |_=>cases h3
end Go.Proofs.YtnoakpkjccigoaaGreatDoor
end
