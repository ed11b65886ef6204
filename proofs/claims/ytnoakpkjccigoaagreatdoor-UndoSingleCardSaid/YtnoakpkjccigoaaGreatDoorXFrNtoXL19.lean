/-
  THE WITNESS WORLD OF THE UNDO LAWS: it meets the condition, its variables are well shaped.
-/
import Derived.Test.YtnoakpkjccigoaaGreatDoorXL13toXFrE
import Derived.JoinedCond
import Derived.Deep.DeepWitnessRowRef
import Derived.Test.YtnoakpkjccigoaaGreatDoorShelf
import Derived.Test.YtnoakpkjccigoaaGreatDoorXL5toXL8
import Derived.Test.YtnoakpkjccigoaaGreatDoorXL9toXL12
import Derived.Lib.Split
import Derived.Lib.SplitLaws
import Derived.Lib.AppendIntMem
import Derived.Shelf.Vars
import Derived.Test.YtnoakpkjccigoaaGreatDoorXAv21toXAv25
namespace Go.Proofs.YtnoakpkjccigoaaGreatDoor
open Go.ChangeShapes Go.WideShapes Go.ChangeAt Go.RowKit
set_option linter.unusedSimpArgs false
set_option linter.unusedVariables false
section
theorem and_mk {a b:Bool} (ha:a=true) (hb:b=true):(a&&b)=true:=by rw[ha,hb];rfl
theorem cellsU:Tryz.prog.cellsOf 27=8:=by kernel_rfl
theorem cellsD:Tryz.prog.cellsOf 54=28:=by kernel_rfl
abbrev laidL:List (String×DataW Unit):=Rows.undoSingleRow.laid
set_option maxRecDepth 100000
theorem met (os:Os) (args:Array Value):laidMetH Tryz.prog laidL ((laidWorld os).forCall (λ_ _=>0) ⟨#[],args,[]⟩).memory:=
 laidMetH_of_parts3 (fuel:=40) (laidMet_of_run' 40 (by kernel_rfl) (by kernel_rfl)) (by kernel_rfl) (by kernel_rfl)
theorem varsOk (os:Os) (args:Array Value):((laidWorld os).forCall (λ_ _=>0) ⟨#[],args,[]⟩).variablesRefB Tryz.checked.prog=true:=by kernel_rfl
def RestOk (C:Checked) (w0:World) (args:Array Value):Prop:=((w0.forCall (λ_ _=>0) ⟨#[],args,[]⟩).heap.toList.drop C.prog.globals.size).take ((begin C.prog (λ_ _=>0) default).world.heap.size-C.prog.globals.size)=
   (begin C.prog (λ_ _=>0) default).world.heap.toList.drop C.prog.globals.size
theorem restOk (os:Os) (args:Array Value):RestOk Tryz.checked (laidWorld os) args:=by unfold RestOk;kernel_rfl
end
end Go.Proofs.YtnoakpkjccigoaaGreatDoor
namespace Go.Av
open Go Go.RowKit Go.Proofs List
set_option linter.unusedSimpArgs false
set_option linter.unusedVariables false
structure GOk2 (G:Glob):Prop where
 max:∀τ w,Sat G τ w->∃m,w.cell? ⟨8,0,none⟩=some (.int .i64 m)
 pow:∀τ w,Sat G τ w->Lib.TabIs Tryz.prog w "internal/strconv.uint64pow10" .u64 Lib.pow10Tab
section
variable (G:Glob)
theorem f51 (hG:GOk2 G) (n:Int) (h0: -9223372036854775808<=n) (h1:n<=9223372036854775807):Pure G Tryz.prog 51 [.int .i64 n] (.str (Lib.itoa n)):=by
 refine Pure.of_calls Tryz.func51 (by kernel_rfl) (by kernel_rfl) λτ w vs hS hA=>?_
 obtain⟨u,rfl,h2⟩:=vs_one hA
 simp only[Rep]at h2
 subst h2
 refine⟨.string ⟨(Lib.itoa n).toArray⟩,λ_ _=>by simp only[Rep],?_⟩
 refine(Tryz.strconv_Itoa n h0 h1 w (hG.pow τ w hS)).mono ?_
 rintro e w' ⟨rfl,k,os,rfl⟩
 exact⟨rfl,Lib.below_grow _ _ (Nat.le_refl _) _ _⟩
end
end Go.Av
section
namespace Go.Av
open Go Go.RowKit Go.Proofs List
set_option linter.unusedVariables false
def tabPow:List AV:=Lib.pow10Tab.map (AV.int .u64)
theorem tabPow_len:tabPow.length=20:=rfl
def listA (m:Int):List (Nat×List AV):=[(3,tabNames),(1,tabBelow),(0,tabOrder),(2,tabPow),(8,[.int .i64 m])]
def GA (m:Int):Glob where
 tab:=(globOf (listA m)).tab
 holds σ w:=(∀p∈listA m,RepAt σ w ⟨p.1,0,none⟩ 0 p.2)/\∃e,w.shape? 2=some (e,20)
 ev he h:=⟨λp hp=>RepAt.ev he _ _ _ (h.1 p hp),h.2.imp λe h=>he.shape _ _ h⟩
 tabs:=λ{σ w g cs} h ht=>(globOf (listA m)).tabs (σ:=σ) (w:=w) (g:=g) (cs:=cs) h.1 ht
theorem GA_ok (m:Int):GOk (GA m):=⟨rfl,rfl,rfl⟩
theorem gPow:Tryz.prog.globalNamed "internal/strconv.uint64pow10" =some 2:=by kernel_rfl
theorem ints_rep {τ:Store} {w:World} {k:IntKind}:∀{zs:List Int} {us:List Value},RepL τ w (zs.map (AV.int k)) us->us=zs.map (Value.int k)
 |[],us,h=>by simpa[RepL]using h
 |z::zs,us,h=>by
  simp only[map_cons,RepL]at h
  obtain⟨u,us',rfl,h1,h2⟩:=h
  simp only[Rep]at h1
  rw[h1,ints_rep h2,map_cons]
theorem GA_ok2 (m:Int):GOk2 (GA m) where
 max τ w hS:=by
  have h:=hS.glob.1 (8,[.int .i64 m]) (by simp[listA])
  simp only[RepAt]at h
  obtain⟨⟨u,hf,_,hr⟩,_⟩:=h
  simp only[Rep]at hr
  exact⟨m,hr ▸ hf.1⟩
 pow τ w hS:=by
  have h:=hS.glob.1 (2,tabPow) (by simp[listA])
  obtain⟨e,hsh⟩:=hS.glob.2
  obtain⟨vs,l1,l2,l3,l4⟩:=iO h 20 (by rw[tabPow_len];exact Nat.le_refl _)
  have hvs:=ints_rep (zs:=Lib.pow10Tab) (by simpa[tabPow,take_of_length_le (show(Lib.pow10Tab.map (AV.int .u64)).length<=20 from Nat.le_refl _)]using l2)
  unfold Lib.TabIs World.var?
  rw[gPow]
  unfold World.shape? at hsh
  simp only[Option.bind_some]
  cases hh:w.heap[2]? with
  |none=>rw[hh]at hsh;cases hsh
  |some o=>
   rw[hh]at hsh
   cases o with
   |cells c el fr=>
    simp only[Option.some.injEq,Prod.mk.injEq]at hsh ⊢
    obtain⟨_,hcs⟩:=hsh
    apply Array.ext'
    rw[←hvs]
    show c.toList=vs
    apply ext_getElem?
    intro j
    by_cases hj:j<20
    ·have hj2:j<vs.length:=by omega
     have h4:=l4 j vs[j] (getElem?_eq_getElem hj2)
     rw[add_lit,Nat.zero_add,cell_of_row w _ j c el fr hh]at h4
     rw[getElem?_eq_getElem hj2,←h4]
     simp
    ·rw[getElem?_eq_none (l:=c.toList) (by rw[Array.length_toList];omega),getElem?_eq_none (l:=vs) (by omega)]
   |_=>cases hsh
end Go.Av
namespace Go.Proofs.YtnoakpkjccigoaaGreatDoor
open Go.ChangeShapes Go.WideShapes Go.ChangeAt Go.RowKit
set_option linter.unusedVariables false
noncomputable def tPowT:TypeId:=((Tryz.prog.globals[2]?).map (·.type)).getD 0
theorem tPow:(Tryz.prog.globals[2]?).map (·.type)=some tPowT:=by kernel_rfl
theorem tPowD:Go.Av.avD Tryz.prog 6 tPowT (Rows.laid_internal_strconv_uint64pow10 (H:=Unit))=some Go.Av.tabPow:=by kernel_rfl
theorem cell7 {W:World} (h:W.ShapedOpen Tryz.prog):∃m,W.cell? ⟨8,0,none⟩=some (.int .i64 m):=
 cell_of_shapedOpen_int (t:=3) (zero:=#[.int .i64 0]) h (of_decide_eq_true (by kernel_rfl)) (by kernel_rfl) rfl (by kernel_rfl) (by kernel_rfl) (by kernel_rfl)
abbrev laidC:List (String×DataW Unit):=Rows.undoSingleRow.laid
theorem memC1:("pandect/unit.names",Rows.laid_pandect_unit_names (H:=Unit))∈laidC.filter λx=>x.2.handleName?.isNone:=
 List.mem_filter.2 ⟨List.mem_of_getElem? (i:=4) rfl,by kernel_rfl⟩
theorem memC2:("pandect/unit.below",Rows.laid_pandect_unit_below (H:=Unit))∈laidC.filter λx=>x.2.handleName?.isNone:=
 List.mem_filter.2 ⟨List.mem_of_getElem? (i:=5) rfl,by kernel_rfl⟩
theorem memC3:("pandect/syntax.order",Rows.laid_pandect_syntax_order (H:=Unit))∈laidC:=List.mem_of_getElem? (i:=6) rfl
theorem memC4:("internal/strconv.uint64pow10",Rows.laid_internal_strconv_uint64pow10 (H:=Unit))∈laidC.filter λx=>x.2.handleName?.isNone:=
 List.mem_filter.2 ⟨List.mem_of_getElem? (i:=2) rfl,by kernel_rfl⟩
theorem holdsA {W:World} (h:laidMetH Tryz.prog laidC W) (hs:W.ShapedOpen Tryz.prog):∃m,(Go.Av.GA m).holds [] W:=by
 obtain⟨m,hm⟩:=cell7 hs
 have h0:=glob_holds h memC1 memC2 memC3
 obtain⟨hmm,_⟩:=laidMetH_iff.1 h
 have hr:=Go.Lib.laidMet.reads hmm memC4
 have hp:=Go.Av.tab_of 6 hr Go.Av.gPow tPow tPowD
 refine⟨m,λp hp'=>?_,?_⟩
 ·simp only[Go.Av.listA,List.mem_cons,List.not_mem_nil,or_false]at hp'
  rcases hp' with rfl|rfl|rfl|rfl|rfl
  ·exact h0 _ (by simp)
  ·exact h0 _ (by simp)
  ·exact h0 _ (by simp)
  ·exact hp
  ·simp only[Go.Av.RepAt,Go.Av.Rep]
   exact⟨⟨_,Go.Av.fy hm,rfl,rfl⟩,trivial⟩
 ·obtain⟨g,t,cs,fuel,p,h1,h2,h3,h4⟩:=hr
  obtain rfl:=Option.some.inj (Go.Av.gPow.symm.trans h1)
  obtain rfl:=Option.some.inj (tPow.symm.trans h2)
  have hl:=(Go.Av.mE 6 tPowT _ _ tPowD fuel cs.toList p h4).1.length
  rw[Go.Av.tabPow_len,Array.length_toList]at hl
  unfold World.var? at h3
  rw[Go.Av.gPow]at h3
  simp only[Option.bind_some]at h3
  unfold World.shape?
  cases hh:W.heap[2]? with
  |none=>rw[hh]at h3;cases h3
  |some o=>
   rw[hh]at h3
   cases o with
   |cells c el fr=>
    simp only[Option.some.injEq]at h3
    subst h3
    exact⟨el,by simp only[hl]⟩
   |_=>cases h3
end Go.Proofs.YtnoakpkjccigoaaGreatDoor
end
namespace Go.Av
open Go Go.RowKit Go.Proofs List
set_option linter.unusedSimpArgs false
set_option linter.unusedVariables false
def cut (p:U->Bool):List U->List U
 |[]=>[]
 |x::l=>if p x then x::cut p l else [x]
theorem cut_all {p:U->Bool}:∀{l:List U},l.all p=true->cut p l=l
 |[],_=>rfl
 |x::l,h=>by
  simp only[all_cons,Bool.and_eq_true]at h
  rw[cut,if_pos h.1,cut_all h.2]
theorem cut_app {p:U->Bool} {l m:List U} (h:l.all p=true):cut p (l++m)=l++cut p m:=by
 induction l with
 |nil=>rfl
 |cons x l ih=>
  simp only[all_cons,Bool.and_eq_true]at h
  rw[cons_append,cut,if_pos h.1,ih h.2];rfl
theorem cut_app_no {p:U->Bool} {l m:List U} (h:l.all p=false):cut p (l++m)=cut p l:=by
 induction l with
 |nil=>simp at h
 |cons x l ih=>
  rw[cons_append,cut,cut]
  split
  ·rename_i hx
   simp only[all_cons,hx,Bool.true_and]at h
   rw[ih h]
  ·rfl
theorem flats_cons (u:U) (us:List U):U.flats (u::us)=u.flat++U.flats us:=by rw[U.flats]
theorem flats_nil:U.flats []=[]:=by rw[U.flats]
theorem SubN.comm1 {σ:Store} {p:Nat×AObj}:SubN (σ++[p]) (p::σ):=by
 refine⟨λq hq=>?_,λhn=>?_⟩
 ·rcases mem_append.1 hq with h|h
  ·exact mem_cons_of_mem _ h
  ·simp only[mem_singleton]at h;subst h;simp
 ·rw[az]
  simp only[Store.keys,map_cons,nodup_cons,map_nil]at hn ⊢
  refine nodup_append.2 ⟨hn.2,by simp,?_⟩
  intro a ha b hb e
  simp only[mem_singleton]at hb
  subst hb e
  exact hn.1 ha
theorem SubN.left {σ τ:Store}:SubN σ (σ++τ):=by
 refine⟨λq hq=>mem_append.2 (.inl hq),λhn=>?_⟩
 rw[az]at hn
 exact(nodup_append.1 hn).1
theorem RET.mk {x:AV} {R:AV->Store->Prop} {σ σ':Store} (hs:SubN σ' σ) (h:R x σ'):RET x σ R:=⟨x,σ',AVle.rfl' _,hs,h⟩
theorem flat_kids {u k x:U} (hk:k∈u.kids) (hx:x∈k.flat):x∈u.flat:=U.flat_kid hk hx
section
variable (G:Glob)
theorem f237 (f:Value) (p:U->Bool) (N:Nat) (St:List U->Store->Prop) (hN:N<1000000):
  ∀(u:U),u.Tame->(∀x∈u.flat,∀pre σ,St pre σ->pre.length<N->cd G Tryz.prog f [.agg x.cs] σ (λr σ'=>r= .bool (p x)/\St (pre++[x]) σ'))->
   ∀pre σ,St pre σ->pre.length+u.flat.length<=N->ag G Tryz.prog 237 [.agg u.cs,.sc f] σ (λr σ'=>r= .bool (u.flat.all p)/\St (pre++cut p u.flat) σ'):=by
 refine U.ind λu ih ht hf pre σ hSt hle=>?_
 have hkl:=ht.kids
 have hfl:=u.flat_eq
 have hlen:u.flat.length=1+(U.flats u.kids).length:=by rw[hfl,length_cons];omega
 refine ag.w c237 ?_
 unfold s237 r237
 (repeat' (simp only[EVz,seval,↓reduceIte,EV6,EV7]))
 refine aZ σ [] (hf u u.flat_self pre σ hSt (by omega)) (ax.rfl' _) (by simpa using SubN.refl _) ?_
 rintro r σ' ⟨rfl,hSt'⟩
 rw[append_nil]
 cases hp:p u
 ·(repeat' (simp only[EVz,seval,↓reduceIte,EV6,EV7]))
  exact RET.mk (SubN.refl _) ⟨by rw[hfl,all_cons,hp];rfl,by rw[hfl,cut,if_neg (by simp[hp])];exact hSt'⟩
 ·(repeat' (first|simp only[EVz,seval,↓reduceIte,EV6,EV7,hx.yes,hx.le0,hx.lt',hx.get,hx.row,hw]|simp only[EVz,seval,↓reduceIte,EV6,EV7,hn]|simp only[EVz,seval,↓reduceIte,EV6,EV7]|(with_reducible intro blk hblk;(try(have hnx:=hblk;simp only[EVK]at hnx;(have hne:=hnx))))|(refine ay (ι:=Store×List U) u.kids (λi r c=>St c.2 c.1/\pre++cut p u.flat=c.2++cut p (U.flats r)/\u.flat.all p=(U.flats r).all p/\c.2.length+(U.flats r).length<=N) (λi c=>[(1,.sc f),(12,.lst 8 (u.kids.map U.cs)),(13,.int .i64 u.kids.length),(14,.int .i64 i)]) (λi c=>c.1) (σ',pre++[u]) ⟨hSt',by rw[hfl,cut,if_pos hp];simp,by rw[hfl,all_cons,hp,Bool.true_and],by simp;omega⟩ (Weak.rfl' _ _) (by omega) (λi x r c hok hx hw=>?_) (λc hok hn=>?_))|fail))
  ·obtain⟨o1,o2,o3,o4⟩:=hok
   rw[flats_cons]at o2 o3 o4
   rw[length_append]at o4
   refine aZ c.1 [(blk,.cells 27 x.cs)] (ih x hx.mem (ht.kid hx.mem) (λy hy=>hf y (flat_kids hx.mem hy)) c.2 c.1 o1 (by omega)).v (ax.rfl' _) SubN.comm1 ?_
   rintro r' σ2 ⟨rfl,hS2⟩
   cases hq:x.flat.all p
   ·(repeat' (simp only[EVz,seval,↓reduceIte,EV6,EV7]))
    exact RET.mk SubN.left ⟨by rw[o3,all_append,hq];rfl,by rw[o2,cut_app_no hq];exact hS2⟩
   ·(repeat' (simp only[EVz,seval,↓reduceIte,EV6,EV7,hw]))
    rw[cut_all hq]at hS2
    exact ap hx (σ2,c.2++x.flat) ⟨hS2,by rw[o2,cut_app hq,append_assoc],by rw[o3,all_append,hq,Bool.true_and],by simp;omega⟩ (Weak.sub SubN.left)
  ·obtain⟨o1,o2,o3,o4⟩:=hok
   exact RET.mk (SubN.refl _) ⟨by rw[o3,flats_nil];rfl,by rw[o2,flats_nil,cut,append_nil];exact o1⟩
theorem every_pure (f:Value) (p:U->Bool) (u:U) (ht:u.Tame) (hf:∀x∈u.flat,eZ G Tryz.prog f [.agg x.cs] (.bool (p x))):Pure G Tryz.prog 237 [.agg u.cs,.sc f] (.bool (u.flat.all p)):=by
 refine ag.mono (f237 G f p u.flat.length (λ_ σ=>σ=[]) ht.2 u ht (λx hx pre σ hσ _=>?_) [] [] rfl (by simp)) ?_
 ·subst hσ;exact hf x hx
 ·rintro r σ' ⟨h1,h2⟩;exact⟨h1,h2⟩
theorem v_clo {k:Nat} {b:Nat} {args:List AV} {σ:Store} {R:AV->Store->Prop} (h:ag G Tryz.prog k (args++[.sc (.pointer (some ⟨b,0,none⟩))]) σ R):cd G Tryz.prog (.func (.func k) #[] #[.pointer (some ⟨b,0,none⟩)]) args σ R:=
 ⟨k,#[],#[.pointer (some ⟨b,0,none⟩)],rfl,by simpa[AV.ofValue,AV.ofOne]using h⟩
theorem f238 (x:U) (b n:Nat) (hn:n<1000000):ag G Tryz.prog 238 [.agg x.cs,.sc (.pointer (some ⟨b,0,none⟩))] [(b,.cells 3 [.int .i64 n])] (λr σ'=>r= .bool true/\σ'=[(b,.cells 3 [.int .i64 ((n+1:Nat):Int)])]):=by
 have hw:IntKind.i64.wrap ((n:Int)+1)=((n+1:Nat):Int):=by rw[aA (by omega) (by omega)];omega
 refine ag.w c238 ?_
 unfold s238 r238
 (repeat' (simp only[EVz,seval,↓reduceIte,EV6,EV7,hw]))
 exact RET.mk (SubN.refl _) ⟨rfl,rfl⟩
theorem f148 (u:U) (ht:u.Tame):Pure G Tryz.prog 148 [.agg u.cs] (.int .i64 u.cnt):=by
 refine Pure.w c148 λR hR=>?_
 unfold s148 r148
 (repeat' (first|simp only[EVz,seval,↓reduceIte,EV6,EV7]|(with_reducible intro blk hblk;(try(have hnx:=hblk;simp only[EVK]at hnx;(have hne:=hnx))))|fail))
 refine aZ _ [] (f237 G (.func (.func 238) #[] #[.pointer (some ⟨blk,0,none⟩)]) (λ_=>true) u.flat.length (λpre σ=>σ=[(blk,.cells 3 [.int .i64 pre.length])]) ht.2 u ht (λx hx pre σ hσ hp=>?_) [] _ rfl (by simp)).v (ax.rfl' _) (by simpa using SubN.refl _) ?_
 ·subst hσ
  have hl:=ht.2
  refine v_clo G (ag.mono (f238 G x blk pre.length (by omega)) ?_)
  rintro r σ' ⟨h1,h2⟩
  exact⟨h1,by rw[h2];simp⟩
 ·rintro r σ' ⟨rfl,rfl⟩
  rw[cut_all (by simp)]
  (repeat' (simp only[EVz,seval,↓reduceIte,EV6,EV7]))
  exact RET.eq hR (by simp[U.cnt])
theorem f239 (x:U) (b:Nat) (g:Option Nat) (rows:List Idd) (v:AV) (hv:v= .own g 23 3 (rows.map Idd.cs)\/v= .nil/\g=none/\rows=[]) (hg:∀d,g=some d->d≠b) (hn:rows.length<1000000):
  ag G Tryz.prog 239 [.agg x.cs,.sc (.pointer (some ⟨b,0,none⟩))] ((b,.cells 115 [v])::tokS g 23 (rows.length*3))
   (λr σ'=>r= .bool true/\∃g',(∀d,g'=some d->d≠b)/\σ'=(b,.cells 115 [.own g' 23 3 ((rows++[x.id]).map Idd.cs)])::tokS g' 23 ((rows.length+1)*3)):=by
 have key:∀g':Option Nat,(∀d,g'=some d->d≠b)->∀σ,σ=(b,AObj.cells 115 [.own g' 23 3 (rows.map Idd.cs++[x.id.cs])])::tokS g' 23 ((rows.length+1)*3)->RET (.bool true) σ (λr σ'=>r= .bool true/\∃g',(∀d,g'=some d->d≠b)/\σ'=(b,.cells 115 [.own g' 23 3 ((rows++[x.id]).map Idd.cs)])::tokS g' 23 ((rows.length+1)*3)):=by
  rintro g' h1 σ rfl
  exact RET.mk (SubN.refl _) ⟨rfl,g',h1,by simp⟩
 refine ag.w c239 ?_
 unfold s239 r239
 rcases hv with rfl|⟨rfl,rfl,rfl⟩
 ·(repeat' (first|simp only[EVz,seval,↓reduceIte,EV6,EV7]|(with_reducible intro blk hblk;(try(have hnx:=hblk;simp only[EVK]at hnx;(have hne:=hnx))))|(refine app_rowK (n:=rows.length) (m':=(rows.length+1)*3) [_] (by rfl) (by simpa[Store.keys]using hg) (by simp) rfl rfl rfl (by assumption) (by omega) (λgn hgn=>?_))|fail))
  exact key gn (by simpa[Store.keys]using hgn) _ rfl
 ·(repeat' (first|simp only[EVz,seval,↓reduceIte,EV6,EV7]|(with_reducible intro blk hblk;(try(have hnx:=hblk;simp only[EVK]at hnx;(have hne:=hnx))))|(refine app_rowK (n:=0) (m':=3) [_] (by rfl) (by simp) (by simp) rfl rfl rfl (by assumption) (by omega) (λgn hgn=>?_))|fail))
  exact RET.mk (SubN.refl _) ⟨rfl,gn,by simpa[Store.keys]using hgn,rfl⟩
theorem f149 (u:U) (ht:u.Tame):Pure G Tryz.prog 149 [.agg u.cs] (.lst 3 (u.ids.map Idd.cs)):=by
 refine Pure.w c149 λR hR=>?_
 unfold s149 r149
 (repeat' (first|simp only[EVz,seval,↓reduceIte,EV6,EV7]|(with_reducible intro blk hblk;(try(have hnx:=hblk;simp only[EVK]at hnx;(have hne:=hnx))))|fail))
 refine aZ _ [] (f237 G (.func (.func 239) #[] #[.pointer (some ⟨blk,0,none⟩)]) (λ_=>true) u.flat.length (λpre σ=>∃v g,(v= .own g 23 3 ((pre.map U.id).map Idd.cs)\/v= .nil/\g=none/\pre.map U.id=[])/\(∀d,g=some d->d≠blk)/\σ=(blk,.cells 115 [v])::tokS g 23 ((pre.map U.id).length*3)) ht.2 u ht (λx hx pre σ hσ hp=>?_) [] _ ⟨.nil,none,.inr ⟨rfl,rfl,rfl⟩,by simp,rfl⟩ (by simp)).v (ax.rfl' _) (by rw[append_nil];exact SubN.refl _) ?_
 ·have hl:=ht.2
  obtain⟨v,g,hv,hg,rfl⟩:=hσ
  refine v_clo G (ag.mono (f239 G x blk g _ v hv hg (by simp;omega)) ?_)
  rintro r σ' ⟨h1,g',h2,rfl⟩
  exact⟨h1,_,g',.inl rfl,h2,by simp⟩
 ·rintro r σ' ⟨rfl,v,g,hv,hg,rfl⟩
  rw[cut_all (by simp)]at hv ⊢
  simp only[nil_append,append_nil]at hv ⊢
  rcases hv with rfl|⟨rfl,rfl,h0⟩
  ·(repeat' (simp only[EVz,seval,↓reduceIte,EV6,EV7]))
   exact hR _ _ (Or.inl (Or.inr ⟨rfl,by simp[U.ids]⟩))
  ·exact absurd h0 (by rw[U.flat_eq];simp)
end
def mset {κ:Type} (l:List κ):List (κ×AV):=l.map λx=>(x,AV.bool true)
theorem mset_get {κ:Type} [DecidableEq κ] (k:κ):∀l:List κ,(aS k (mset l)).getD (.bool false)= .bool (decide (k∈l))
 |[]=>by simp[mset,aS]
 |x::l=>by
  simp only[mset,map_cons,aS]
  by_cases h:x=k
  ·subst h;simp
  ·rw[if_neg h]
   have:=mset_get k l
   unfold mset at this
   rw[this]
   have:k≠x:=λe=>h e.symm
   simp[this]
theorem mset_put {κ:Type} [DecidableEq κ] (k:κ):∀l:List κ,dj k (.bool true) (mset l)=mset (if k∈l then l else l++[k])
 |[]=>by simp[mset,dj]
 |x::l=>by
  simp only[mset,map_cons,dj]
  by_cases h:x=k
  ·subst h;simp
  ·rw[if_neg h]
   have:=mset_put k l
   unfold mset at this
   rw[this]
   have h2:k≠x:=λe=>h e.symm
   by_cases h3:k∈l<;>simp[h2,h3]
abbrev CKey:=Int×List UInt8
def ckVals (k:CKey):List Value:=[.int .i64 k.1,.string ⟨⟨k.2⟩⟩]
def ckVal (k:CKey):Value:=.agg (ckVals k).toArray
def idVals (k:Idd):List Value:=[.int .i64 k.act,.int .i64 k.item,.int .i64 k.n]
def idVal (k:Idd):Value:=.agg (idVals k).toArray
def U.ck (u:U):CKey:=(u.kind,u.label)
theorem eqK_ck (a b:CKey):eqK [1,2] (ckVals a) (ckVals b)=some (decide (a=b)):=by
 obtain⟨a1,a2⟩:=a
 obtain⟨b1,b2⟩:=b
 simp only[ckVals,eqK,if_true,Option.map_some]
 congr 1
 rw[Bool.eq_iff_iff];simp
theorem eqK_id (a b:Idd):eqK [1,1,1] (idVals a) (idVals b)=some (decide (a=b)):=by
 rw[mu]
 simp only[idVals,eqK,if_true,Option.map_some]
 congr 1
 rw[Bool.eq_iff_iff];simp
theorem mapK_ck:MapK Tryz.prog 266 ckVal:=
 l5 (fs:=Tryz.prog.fieldsOf 266) (ks:=[1,2]) (by kernel_rfl) (by kernel_rfl) ckVals (λ_=>rfl) eqK_ck (λk v hv n=>by
  simp only[ckVals,mem_cons,not_mem_nil,or_false]at hv
  rcases hv with rfl|rfl
  ·exact iB n _ _
  ·exact mS n _)
theorem mapK_id:MapK Tryz.prog 23 idVal:=
 l5 (fs:=Tryz.prog.fieldsOf 23) (ks:=[1,1,1]) (by kernel_rfl) (by kernel_rfl) idVals (λ_=>rfl) eqK_id (λk v hv n=>by
  simp only[idVals,mem_cons,not_mem_nil,or_false]at hv
  rcases hv with rfl|rfl|rfl<;>exact iB n _ _)
theorem rep_ck (k:Int) (s:List UInt8):∀τ w v,Rep τ w (.agg [.int .i64 k,.str s]) v->v=ckVal (k,s):=by
 intro τ w v h
 simp only[Rep,RepL]at h
 obtain⟨vs,rfl,_,u,us,h1,rfl,u2,us2,rfl,rfl,rfl⟩:=h
 have:vs=vs.toList.toArray:=by simp
 rw[this,h1];rfl
theorem rep_id (i:Idd):∀τ w v,Rep τ w (.agg [.int .i64 i.act,.int .i64 i.item,.int .i64 i.n]) v->v=idVal i:=by
 intro τ w v h
 simp only[Rep,RepL]at h
 obtain⟨vs,rfl,_,u,us,h1,rfl,u2,us2,rfl,rfl,u3,us3,rfl,rfl,rfl⟩:=h
 have:vs=vs.toList.toArray:=by simp
 rw[this,h1];rfl
theorem mrows_len (c:List Idd):(cl idVal (mset c)).length=c.length:=by simp[cl,mset]
def Seen (l c:List Idd) (i:Nat):Prop:=(∀y,y∈c↔y∈l.take i)/\c.Nodup/\(c.length=i↔(l.take i).Nodup)/\c.length<=i
theorem seen_step {l c:List Idd} {i:Nat} {x:Idd} {r:List Idd} (hx:Rest l i x r) (h:Seen l c i):Seen l (if x∈c then c else c++[x]) (i+1):=by
 obtain⟨h1,h2,h3,h4⟩:=h
 unfold Seen
 rw[hx.take]
 by_cases hc:x∈c
 ·rw[if_pos hc]
  refine⟨λy=>?_,h2,⟨λe=>by omega,λe=>?_⟩,by omega⟩
  ·rw[mem_append,←h1]
   constructor
   ·exact .inl
   ·rintro(h|h)
    ·exact h
    ·simp only[mem_singleton]at h;subst h;exact hc
  ·exact absurd rfl ((nodup_append.1 e).2.2 x ((h1 x).1 hc) x (by simp))
 ·rw[if_neg hc]
  refine⟨λy=>by rw[mem_append,mem_append,←h1],nodup_append.2 ⟨h2,by simp,?_⟩,?_,by simp;omega⟩
  ·intro a ha b hb e
   simp only[mem_singleton]at hb
   subst hb e
   exact hc ha
  ·rw[length_append,length_singleton]
   constructor
   ·intro e
    refine nodup_append.2 ⟨h3.1 (by omega),by simp,?_⟩
    intro a ha b hb e
    simp only[mem_singleton]at hb
    subst hb e
    exact hc ((h1 a).2 ha)
   ·intro e
    have:=h3.2 (nodup_append.1 e).1
    omega
theorem seen_all {l c:List Idd} (h:Seen l c l.length):(zId∈c/\c.length=1↔(l≠[]/\(l.all λx=>decide (x=zId))=true))/\(c.length=l.length↔l.Nodup):=by
 obtain⟨h1,h2,h3,h4⟩:=h
 rw[take_length]at h1 h3
 refine⟨⟨λ⟨e1,e2⟩=>?_,λ⟨e1,e2⟩=>?_⟩,h3⟩
 ·obtain⟨a,rfl⟩:=length_eq_one_iff.1 e2
  simp only[mem_singleton]at e1
  subst e1
  refine⟨λe=>?_,all_eq_true.2 λy hy=>?_⟩
  ·have:=(h1 zId).1 (by simp);rw[e]at this;cases this
  ·have:=(h1 y).2 hy
   simpa using this
 ·have hall:∀y∈c,y=zId:=λy hy=>by simpa using(all_eq_true.1 e2) y ((h1 y).1 hy)
  obtain⟨y,hy⟩:=exists_mem_of_ne_nil _ e1
  have hyc:=(h1 y).2 hy
  have hz:=hall y hyc
  subst hz
  refine⟨hyc,?_⟩
  match c,hyc,h2,hall with
  |[a],_,_,_=>rfl
  |a::b::c,_,h2,hall=>
   have ea:=hall a (by simp)
   have eb:=hall b (by simp)
   simp[ea,eb]at h2
def own1 (u:U):Bool:=if u.kind=0 then decide (u.label=[])&&(decide ((u.head.length:Int)=0)&&decide ((u.words.length:Int)=0))else decide (0<=u.kind)&&decide (u.kind<=7)&&(br u.label&&(aU u.head&&aU u.words))
def nodeOk (u:U):Bool:=own1 u&&((u.kids.all λk=>nests u.kind k.kind)&&decide (Apart u.kids)&&decide ((u.kids.length:Int)<=64))
theorem kt_nil (k:Int):((if 0<=k/\k<=7 then kindText k else [])=[])=¬(0<=k/\k<=7):=by
 apply propext
 split
 ·rename_i h
  refine⟨λe=>?_,λe=>absurd h e⟩
  rcases lt8 h.1 h.2 with rfl|rfl|rfl|rfl|rfl|rfl|rfl|rfl<;>cases e
 ·rename_i h;simp only[true_iff];exact h
theorem own_no0 {u:U} (h:u.kind=0) (h2:u.label≠[]\/(0:Int)<(u.head.length:Int)+(u.words.length:Int)):own1 u=false:=by
 unfold own1;rw[if_pos h]
 rcases h2 with h2|h2
 ·simp[h2]
 ·simp;intro _ e hw;simp[e,hw]at h2
theorem own_yes0 {u:U} (h:u.kind=0) (h2:¬u.label≠[]) (h3:(u.head.length:Int)+(u.words.length:Int)<=0):own1 u=true:=by
 unfold own1;rw[if_pos h]
 simp only[Bool.and_eq_true,decide_eq_true_eq]
 exact⟨by simpa using h2,by omega,by omega⟩
section
variable (G:Glob) (hG:GOk G)
include hG
theorem f264 (u:U) (ht:u.Tame) (hh:u.head.length<1000000) (hww:u.words.length<1000000):Pure G Tryz.prog 264 [.agg u.cs] (.bool (nodeOk u)):=by
 have hkl:=ht.kids
 have hkn:=f292 G hG
 refine Pure.w c264 λR hR=>?_
 unfold s264 r264
 have hwl:IntKind.i64.wrap ((u.head.length:Int)+(u.words.length:Int))=(u.head.length:Int)+(u.words.length:Int):=aA (by omega) (by omega)
 (repeat' (first|(with_reducible (first|refine ab (λh=>?_) (λh=>?_)|refine ai (λh=>?_) (λh=>?_))<;>(try simp only[Da,Db,Dc,Dw,De,Df,Dg,Dh]at h))|(with_reducible first|refine aa (hkn _) ?_|refine aa (f129 G _) ?_|refine aa (f293 G _ hh) ?_|refine aa (f293 G _ hww) ?_)|simp only[EVz,seval,↓reduceIte,EV6,EV7,hwl]|fail))
 all_goals(try(refine cV ?_;intro b0 hb0))
 all_goals(try((repeat' (first|(with_reducible (first|refine ab (λh=>?_) (λh=>?_)|refine ai (λh=>?_) (λh=>?_))<;>(try simp only[Da,Db,Dc,Dw,De,Df,Dg,Dh]at h))|(with_reducible refine aa (f122 G hG _ _) ?_)|simp only[EVz,seval,↓reduceIte,EV6,EV7,hwl,mset_get,hx.yes,hx.le0,hx.lt',hx.get,hx.row,hw,hne]|simp only[EVz,seval,↓reduceIte,EV6,EV7,hwl,mset_get,hx.yes,hx.le0,hx.lt',hx.get,hx.row,hw]|simp only[EVz,seval,↓reduceIte,EV6,EV7,hwl,mset_get,hn]|simp only[EVz,seval,↓reduceIte,EV6,EV7,hwl,mset_get]|(with_reducible intro blk hblk;(try(have hnx:=hblk;simp only[EVK]at hnx;first|(have hne:=AI hnx hne)|(have hne:=hnx))))|(refine ay u.kids (λi r (c:Unit)=>(u.kids.all λk=>nests u.kind k.kind)=(r.all λk=>nests u.kind k.kind)/\Apart (u.kids.take i)) (λi c=>[(1,.ref u.cs),(3,.sc (.map (some b0))),(47,.lst 8 (u.kids.map U.cs)),(48,.int .i64 u.kids.length),(49,.int .i64 i)]) (λi c=>[(b0,.map (cl ckVal (mset ((u.kids.take i).map U.ck))))]) () ⟨rfl,by simp[Apart]⟩ (Weak.rfl' _ _) (by omega) (λi x r c hok hx hw=>?_) (λc hok hn=>?_))|(refine aG mapK_ck (l:=mset ((u.kids.take i).map U.ck)) (k:=x.ck) (z:=.bool false) (zv:=.bool false) rfl (rep_ck _ _) (eT:=4) (by kernel_rfl) (by simp[Store.get, *]) (by kernel_rfl) (λ_ _=>by simp only[Rep]) ?_)|(refine eU mapK_ck (l:=mset ((u.kids.take i).map U.ck)) (k:=x.ck) (yv:=.bool true) rfl (rep_ck _ _) rfl (eT:=4) (by kernel_rfl) (by simp[Store.get, *]) ?_)|fail))))
 all_goals first
  |(rename_i hnn
    refine ap hx () ⟨by rw[hok.1,all_cons,hnn,Bool.true_and],?_⟩ ?_
    ·refine apart_more hx hok.2 λy hy e=>h (mem_map.2 ⟨y,hy,?_⟩)
     unfold U.ck
     rw[e.1,e.2]
    ·rw[mset_put,if_neg h,show List.map U.ck (List.take i u.kids)++[x.ck]=List.map U.ck (List.take (i+1) u.kids)by rw[hx.take];simp]
     exact Weak.sub ⟨λp hp=>mem_cons_of_mem _ (mem_cons_of_mem _ hp),λ_=>by simp[Store.keys]⟩)
  |(refine RET.eq hR (congrArg AV.bool ?_)
    obtain⟨y,hy,e⟩:=mem_map.1 h
    unfold U.ck at e
    injection e with e1 e2
    unfold nodeOk
    rw[decide_eq_false (apart_no hx hy e1 e2)]
    simp)
  |(refine RET.eq hR (congrArg AV.bool ?_);unfold nodeOk;rw[hok.1,all_cons,h];simp;done)
  |(refine RET.eq hR (congrArg AV.bool ?_);unfold nodeOk;rw[own_no0 (by assumption) (.inr h)];rfl)
  |(refine RET.eq hR (congrArg AV.bool ?_);unfold nodeOk;rw[own_no0 (by assumption) (.inl h)];rfl)
  |(rw[take_length]at hok
    refine RET.eq hR (congrArg AV.bool ?_);unfold nodeOk;rw[hok.1,decide_eq_true hok.2,own_yes0 (by assumption) (by assumption) h];rfl)
  |(rw[take_length]at hok
    simp only[kt_nil,Classical.not_not]at*
    refine RET.eq hR (congrArg AV.bool ?_);unfold nodeOk own1;rw[hok.1,decide_eq_true hok.2];simp[*];done)
  |(simp only[kt_nil,Classical.not_not]at*;refine RET.eq hR (congrArg AV.bool ?_);unfold nodeOk own1;simp[*];done)
  |(simp only[kt_nil,Classical.not_not]at*;refine RET.eq hR (congrArg AV.bool ?_);unfold nodeOk own1;simp[*];intros;omega)
  |skip
end
section
variable (G:Glob)
theorem f265 (u:U) (ht:u.Tame):Pure G Tryz.prog 265 [.agg u.cs] (.bool (idsOk u)):=by
 have hI:=f149 G u ht
 have hl:u.ids.length<1000000:=by rw[U.ids_len];exact ht.2
 have h0:u.ids=u.id::U.idss u.kids:=U.ids_eq u
 refine Pure.w c265 λR hR=>?_
 unfold s265 r265
 unfold idsOk at hR
 obtain⟨l,hll⟩:∃l,u.ids=l:=⟨_,rfl⟩
 rw[hll]at hR hI hl
 (repeat' (first|(with_reducible refine aa hI ?_)|simp only[EVz,seval,↓reduceIte,EV6,EV7]|fail))
 refine cV ?_
 intro b0 hb0
 (repeat' (first|(with_reducible (refine ai (λh=>?_) (λh=>?_))<;>(try simp only[Da,Db,Dc,Dw,De,Df,Dg,Dh]at h))|simp only[EVz,seval,↓reduceIte,EV6,EV7,mset_get,mrows_len,idd_zero,hx.yes,hx.le0,hx.lt',hx.get,hx.row,hw,hne]|simp only[EVz,seval,↓reduceIte,EV6,EV7,mset_get,mrows_len,idd_zero,hx.yes,hx.le0,hx.lt',hx.get,hx.row,hw]|simp only[EVz,seval,↓reduceIte,EV6,EV7,mset_get,mrows_len,idd_zero,hn]|simp only[EVz,seval,↓reduceIte,EV6,EV7,mset_get,mrows_len,idd_zero]|(with_reducible intro blk hblk;(try(have hnx:=hblk;simp only[EVK]at hnx;(have hne:=hnx))))|(refine ay (ι:=List Idd) l (λi r c=>Seen l c i) (λi c=>[(1,.ref u.cs),(3,.lst 3 (l.map Idd.cs)),(4,.sc (.map (some b0))),(11,.lst 3 (l.map Idd.cs)),(12,.int .i64 l.length),(13,.int .i64 i)]) (λi c=>[(b0,.map (cl idVal (mset c)))]) [] (by simp[Seen]) (Weak.rfl' _ _) (by omega) (λi x r c hok hx hw=>?_) (λc hok hn=>?_))|(refine aG mapK_id (l:=mset c) (k:=zId) (z:=.bool false) (zv:=.bool false) rfl (rep_id zId) (eT:=4) (by kernel_rfl) (by simp[Store.get, *]) (by kernel_rfl) (λ_ _=>by simp only[Rep]) ?_)|(refine eU mapK_id (l:=mset c) (k:=x) (yv:=.bool true) rfl (rep_id x) rfl (eT:=4) (by kernel_rfl) (by simp[Store.get, *]) ?_)|(refine oN (es:=cl idVal (mset c)) (kT:=23) (eT:=4) rfl (by kernel_rfl) (by simp[Store.get]) ?_)|fail))
 ·rw[mset_put]
  exact ap hx _ (seen_step hx hok) (Weak.sub ⟨λp hp=>mem_cons_of_mem _ hp,λ_=>by simp[Store.keys]⟩)
 all_goals
  have hlne:l≠[]:=by rw[←hll,h0];simp
  obtain⟨s1,s2⟩:=seen_all hok
  have hA:(l.all λx=>decide (x=zId))=(decide (zId∈c)&&decide ((c.length:Int)=1)):=by
   rw[Bool.eq_iff_iff,Bool.and_eq_true,decide_eq_true_eq,decide_eq_true_eq,show((c.length:Int)=1↔c.length=1)by omega,s1]
   exact⟨λh=>⟨hlne,h⟩,λh=>h.2⟩
  have hB:decide l.Nodup=decide ((c.length:Int)=(l.length:Int)):=by rw[decide_eq_decide,←s2];omega
  have hC:(decide (u.kind=0)==decide (u.id=zId))=decide (decide (u.id=zId)=decide (u.kind=0)):=by
   by_cases e1:u.kind=0<;>by_cases e2:u.id=zId<;>simp[e1,e2]
  refine RET.eq hR (congrArg AV.bool ?_)
  (try rw[hC])
  rw[hA,hB]
  first|rw[decide_eq_true (p:=zId∈c) (by assumption)]|rw[decide_eq_false (p:=zId∈c) (by assumption)]
  (try(first|rw[decide_eq_true (p:=(c.length:Int)=1) (by assumption)]|rw[decide_eq_false (p:=(c.length:Int)=1) (by assumption)]))
  (try(first|rw[decide_eq_true (p:=(c.length:Int)=(l.length:Int)) (by assumption)]|rw[decide_eq_false (p:=(c.length:Int)=(l.length:Int)) (by assumption)]))
  simp
def treeOk2 (u:U):Bool:=u.flat.all nodeOk&&(decide (u.dep<=8)&&(decide (u.cnt<=1024)&&idsOk u))
def marked (w:Wd):Bool:=!decide (w.act=0/\w.item=0/\w.at_=0)
def bareNode (u:U):Bool:=decide (u.id=zId)&&(!u.head.any marked&& !u.words.any marked)
def bareOk2 (u:U):Bool:=treeOk2 u&&u.flat.all bareNode
end
section
variable (G:Glob) (hG:GOk G)
theorem flats_in {us:List U} {x:U} (h:x∈U.flats us):∃k∈us,x∈k.flat:=by
 induction us with
 |nil=>rw[flats_nil]at h;cases h
 |cons a us ih=>
  rw[flats_cons]at h
  rcases mem_append.1 h with h|h
  ·exact⟨a,by simp,h⟩
  ·obtain⟨k,hk,hx⟩:=ih h;exact⟨k,by simp[hk],hx⟩
theorem U.Tame.node:∀{u:U},u.Tame->∀x∈u.flat,x.Tame:=by
 intro u
 induction u using U.ind with
 |h u ih=>
  intro ht x hx
  rw[U.flat_eq]at hx
  rcases mem_cons.1 hx with rfl|hx
  ·exact ht
  ·obtain⟨k,hk,hx⟩:=flats_in hx
   exact ih k hk (ht.kid hk) x hx
include hG in
theorem f200 (u:U) (hs:u.Short):Pure G Tryz.prog 200 [.agg u.cs] (.bool (treeOk2 u)):=by
 have ht:=hs.1
 have hE:Pure G Tryz.prog 237 [.agg u.cs,.sc (.func (.func 264) #[] #[])] (.bool (u.flat.all nodeOk)):=
  every_pure G _ nodeOk u ht λx hx=>(f264 G hG x (ht.node x hx) (hs.2 x hx).2.1 (hs.2 x hx).2.2.1).v
 refine Pure.w c200 λR hR=>?_
 unfold s200 r200
 unfold treeOk2 at hR
 generalize u.flat.all nodeOk=q at*
 (repeat' (first|(with_reducible (refine ai (λh=>?_) (λh=>?_))<;>(try simp only[Da,Db,Dc,Dw,De,Df,Dg,Dh]at h))|(with_reducible first|refine aa hE ?_|refine aa (f125 G u ht) ?_|refine aa (f148 G u ht) ?_|refine aa (f265 G u ht) ?_)|simp only[EVz,seval,↓reduceIte,EV6,EV7]|fail))
 (all_goals(first|(refine RET.eq hR ?_;(refine congrArg AV.bool (Bool.eq_iff_iff.2 ?_);simp only[EVB]at*;omega))|(refine RET.eq hR ?_;((simp_all[];done)))))
theorem f281 (w:Wd):Pure G Tryz.prog 281 [.agg w.cs] (.bool (marked w)):=by
 refine Pure.w c281 λR hR=>?_
 unfold s281 r281
 (repeat' (simp only[EVz,seval,↓reduceIte,EV6,EV7]))
 (all_goals(((refine RET.eq hR ?_;((simp_all[marked];done))))))
theorem f280 (u:U) (hh:u.head.length<1000000) (hww:u.words.length<1000000):Pure G Tryz.prog 280 [.agg u.cs] (.bool (bareNode u)):=by
 have hv:=λw=>(f281 G w).v
 have h1:=f225 G _ marked u.head (by omega) (λx _=>hv x)
 have h2:=f225 G _ marked u.words (by omega) (λx _=>hv x)
 refine Pure.w c280 λR hR=>?_
 unfold s280 r280
 unfold bareNode at hR
 generalize u.head.any marked=q1 at*
 generalize u.words.any marked=q2 at*
 (repeat' (first|(with_reducible (refine ai (λh=>?_) (λh=>?_))<;>(try simp only[Da,Db,Dc,Dw,De,Df,Dg,Dh]at h))|(with_reducible first|refine aa h1 ?_|refine aa h2 ?_)|simp only[EVz,seval,↓reduceIte,EV6,EV7,idd_zero]|fail))
 (all_goals(((refine RET.eq hR ?_;((simp_all[];done))))))
include hG in
theorem f249 (u:U) (hs:u.Short):Pure G Tryz.prog 249 [.agg u.cs] (.bool (bareOk2 u)):=by
 have ht:=hs.1
 have hE:Pure G Tryz.prog 237 [.agg u.cs,.sc (.func (.func 280) #[] #[])] (.bool (u.flat.all bareNode)):=
  every_pure G _ bareNode u ht λx hx=>(f280 G x (hs.2 x hx).2.1 (hs.2 x hx).2.2.1).v
 refine Pure.w c249 λR hR=>?_
 unfold s249 r249
 unfold bareOk2 at hR
 generalize u.flat.all bareNode=q at*
 (repeat' (first|(with_reducible (refine ai (λh=>?_) (λh=>?_))<;>(try simp only[Da,Db,Dc,Dw,De,Df,Dg,Dh]at h))|(with_reducible first|refine aa hE ?_|refine aa (f200 G hG u hs) ?_)|simp only[EVz,seval,↓reduceIte,EV6,EV7]|fail))
 (all_goals(((refine RET.eq hR ?_;((simp_all[];done))))))
end
end Go.Av
