/-
  LINT, 14: bare trees by the reference.
-/
import Derived.Test.YtnoakpkjccigoaaGreatDoorVXL9toXL13
import Derived.Test.YtnoakpkjccigoaaGreatDoorCards
import Derived.Test.YtnoakpkjccigoaaGreatDoorTie
import Derived.WalkKit
import Derived.ProofKit
import Derived.OpenShut
import Derived.Carry
import Derived.LaidSub
import Derived.Deep.DeepHandedRow
import Derived.Test.YtnoakpkjccigoaaGreatDoorVXOpenGtoXCS
import Derived.JoinedCond
import Derived.Deep.DeepWitnessRowRef
import Derived.Test.YtnoakpkjccigoaaGreatDoorVShelf
import Derived.Test.YtnoakpkjccigoaaGreatDoorVXL7toXL8
import Derived.Lib.Split
import Derived.Lib.SplitLaws
import Derived.Lib.AppendIntMem
import Derived.Shelf.Vars
namespace Go.Av
open Go Go.RowKit Go.Proofs List
set_option linter.unusedSimpArgs false
set_option linter.unusedVariables false
section
def Wd.bare (w:Wd):Wd:=⟨w.text,0,0,0⟩
mutual
def U.strip:U->U
 |⟨_,k,l,h,w,ks⟩=>⟨⟨0,0,0⟩,k,l,h.map Wd.bare,w.map Wd.bare,U.strips ks⟩
def U.strips:List U->List U
 |[]=>[]
 |u::us=>U.strip u::U.strips us
end
theorem U.strips_map:∀us:List U,U.strips us=us.map U.strip
 |[]=>rfl
 |u::us=>by rw[U.strips,U.strips_map us];rfl
theorem U.strip_eq (u:U):u.strip=⟨⟨0,0,0⟩,u.kind,u.label,u.head.map Wd.bare,u.words.map Wd.bare,u.kids.map U.strip⟩:=by cases u;rw[U.strip,U.strips_map]
theorem app_rowK {e:TypeId} {sz bytes n m m':Nat} {τ:Store} (κ:Store) {g:Option Nat} {rows:List (List AV)} {cs:List AV} {K:List (List AV)->AV->Store->Prop} {b k1:Nat} (hτ:τ=κ++tokS g e m) (hg:∀d,g=some d->d∉κ.keys) (hr:rows.length=n) (hm:m=n*sz)
  (hm':m'=(n+1)*sz) (hl:cs.length=sz) (hb:b∉τ.keys) (hn:(n+1)*bytes<=140737488355328) (hk:∀g',(∀d,g'=some d->d∉κ.keys)->K [cs] (.own g' e sz (rows++[cs])) (κ++tokS g' e m')):
  ∃rs:List (List AV),rs.length=1/\(∀r∈rs,r.length=sz)/\rs.flatten=cs/\appX e sz bytes ((b,.tok e k1)::τ) g rows rs (K rs):=by
 subst hm hm' hr hτ
 have hbk:b∉κ.keys:=λh=>hb (by rw[az];exact mem_append.2 (.inl h))
 refine⟨[cs],rfl,by simpa using hl,by simp,fM κ (λd hd=>?_) (by simpa using hn) ?_ (λg' hg'=>by simpa using hk g' hg')⟩
 ·subst hd
  have h1:¬b=d:=by rintro rfl;exact hb (by rw[az];exact mem_append.2 (.inr (by simp[tokS,Store.keys])))
  simp only[Store.get,if_neg h1]
  have h2:=hg d rfl
  clear hb hbk hk hg
  induction κ with
  |nil=>simp[tokS,Store.get]
  |cons p κ ih=>
   obtain⟨c,y⟩:=p
   have h3:¬c=d:=by rintro rfl;exact h2 (by simp[Store.keys])
   simp only[cons_append,Store.get,if_neg h3]
   exact ih (λh=>h2 (by simp only[Store.keys,map_cons,mem_cons]at h ⊢;exact .inr h))
 ·refine⟨λp hp=>?_,λhn=>?_⟩
  ·have hp2:p∈((b,AObj.tok e k1)::(κ++tokS g e (rows.length*sz))):=mem_cons_of_mem _ (mem_append.2 (.inl hp))
   cases g with
   |none=>exact hp2
   |some d=>
    refine mem_filter.2 ⟨hp2,?_⟩
    have:p.1≠d:=λe=>hg d rfl (e ▸ mem_map.2 ⟨p,hp,rfl⟩)
    simpa using this
  ·have h4:(Store.keys ((b,AObj.tok e k1)::(κ++tokS g e (rows.length*sz)))).Nodup\/True:=.inr trivial
   have key:∀(σ:Store),κ.keys.Sublist σ.keys->σ.keys.Nodup->κ.keys.Nodup:=λσ h hn=>hn.sublist h
   have hsub:κ.keys.Sublist (Store.erase ((b,AObj.tok e k1)::(κ++tokS g e (rows.length*sz))) g).keys:=by
    cases g with
    |none=>simp only[Store.erase,Store.keys,tokS,append_nil,map_cons];exact sublist_cons_self _ _
    |some d=>
     have hf:(κ.filter λp=>p.1≠d)=κ:=filter_eq_self.2 λp hp=>by
      have:p.1≠d:=λe=>hg d rfl (e ▸ mem_map.2 ⟨p,hp,rfl⟩)
      simpa using this
     simp only[Store.erase,Store.keys]
     refine List.Sublist.map _ ?_
     rw[filter_cons,filter_append,hf]
     split
     ·exact(sublist_append_left _ _).trans (sublist_cons_self _ _)
     ·exact sublist_append_left _ _
   exact key _ hsub hn
section
variable (G:Glob)
end
end
section
def bareOk (u:U):Bool:=pF u&&decide (u=u.strip)
def alone11 (u:U):Bool:=
 if u.kind=0 then decide (u.label=[])&&(decide ((u.head.length:Int)=0)&&decide ((u.words.length:Int)=0))
 else decide (0<u.kind)&&(decide (u.kind<=7)&&(br u.label&&(aU u.head&&aU u.words)))
mutual
def U.shape:Int->U->Bool
 |d,⟨i,k,l,h,w,ks⟩=>((decide (d<=8)&& !(decide (0<d)&&decide (k=0)))&&(alone11 ⟨i,k,l,h,w,ks⟩&&decide ((ks.length:Int)<=64)))&&(U.shapes (d+1) k ks&&decide (pr ks))
def U.shapes:Int->Int->List U->Bool
 |_,_,[]=>true
 |d,k,u::us=>(nests k u.kind&&U.shape d u)&&U.shapes d k us
end
theorem U.shape_eq (u:U) (d:Int):u.shape d=(((decide (d<=8)&& !(decide (0<d)&&decide (u.kind=0)))&&(alone11 u&&decide ((u.kids.length:Int)<=64)))&&(U.shapes (d+1) u.kind u.kids&&decide (pr u.kids))):=by cases u;rw[U.shape]
def shapeOk (u:U):Bool:=u.shape 0&&decide (u.cnt<=1024)
section
variable (G:Glob)
end
end
section
def kindNames:List (List UInt8):=[[98,111,111,107],[112,97,114,116],[115,101,99,116,105,111,110],[112,97,114,97,103,114,97,112,104],[116,97,98,108,101],[114,111,119],[99,101,108,108],[110,111,116,101]]
def kindText (k:Int):List UInt8:=kindNames.getD k.toNat []
def escT (t:List UInt8):List UInt8:=if t.getD 0 0=124\/t.getD 0 0=92 then 92::t else t
def wordsT (l:List Wd):List UInt8:=l.flatMap λw=>32::escT w.text
def lineT (u:U) (n:Nat):List UInt8:=
 List.replicate (2*n) 32++(kindText u.kind++((if u.kind=0 then []else 32::u.label)++((if (0:Int)<u.head.length then 58::wordsT u.head else [])++(if (0:Int)<u.words.length then 32::124::wordsT u.words else []))))
def lineOf (u:U) (n:Nat):List UInt8:=if n<=8/\alone11 u=true then lineT u n else []
mutual
def U.lines:Nat->U->List (List UInt8)
 |n,⟨i,k,l,h,w,ks⟩=>lineOf ⟨i,k,l,h,w,ks⟩ n::U.liness (n+1) ks
def U.liness:Nat->List U->List (List UInt8)
 |_,[]=>[]
 |n,u::us=>U.lines n u++U.liness n us
end
theorem U.lines_eq (u:U) (n:Nat):u.lines n=lineOf u n::U.liness (n+1) u.kids:=by cases u;rw[U.lines]
theorem U.liness_cons (u:U) (us:List U) (n:Nat):U.liness n (u::us)=u.lines n++U.liness n us:=by rw[U.liness]
theorem U.lines_len:∀(u:U) (n:Nat),(u.lines n).length=u.flat.length:=by
 refine U.ind λu ih n=>?_
 rw[U.lines_eq,U.flat_eq]
 simp only[length_cons]
 congr 1
 have:∀us:List U,(∀k∈us,∀m,(k.lines m).length=k.flat.length)->(U.liness (n+1) us).length=(U.flats us).length:=by
  intro us
  induction us with
  |nil=>intro _;rfl
  |cons a us iha=>intro h;rw[U.liness_cons,U.flats,length_append,length_append,h a (by simp),iha λk hk=>h k (by simp[hk])]
 exact this _ ih
theorem row_word {l:List Wd} (h:aU l=true) {w:Wd} (hw:w∈l):0<w.text.length/\w.text.length<=24:=by
 unfold aU at h
 simp only[Bool.and_eq_true,decide_eq_true_eq,all_eq_true]at h
 have h1:=h.2 w hw
 unfold wdOk bf at h1
 simp only[Bool.and_eq_true,decide_eq_true_eq]at h1
 omega
theorem row_len {l:List Wd} (h:aU l=true):l.length<=256:=by
 unfold aU at h
 simp only[Bool.and_eq_true,decide_eq_true_eq,all_eq_true]at h
 omega
theorem escT_len (t:List UInt8):(escT t).length<=t.length+1:=by unfold escT;split<;>simp
theorem wordsT_len:∀{l:List Wd},(∀w∈l,0<w.text.length/\w.text.length<=24)->(wordsT l).length<=l.length*26
 |[],_=>by simp[wordsT]
 |w::l,h=>by
  have h1:=(h w (by simp)).2
  have h2:=wordsT_len (l:=l) λx hx=>h x (by simp[hx])
  have h3:=escT_len w.text
  unfold wordsT at*
  simp only[flatMap_cons,length_append,length_cons]
  omega
theorem kindText_len (k:Int):(kindText k).length<=9:=by
 unfold kindText
 have:∀n:Nat,(kindNames.getD n []).length<=9:=λn=>by
  match n with
  |0|1|2|3|4|5|6|7=>decide
  |n+8=>simp[kindNames]
 exact this _
theorem alone_facts {u:U} (h:alone11 u=true):0<=u.kind/\u.kind<=7/\aU u.head=true/\aU u.words=true/\u.label.length<=9:=by
 unfold alone11 at h
 split at h
 ·rename_i hk
  simp only[Bool.and_eq_true,decide_eq_true_eq]at h
  obtain⟨h1,h2,h3⟩:=h
  have e2:u.head=[]:=length_eq_zero_iff.1 (by omega)
  have e3:u.words=[]:=length_eq_zero_iff.1 (by omega)
  rw[e2,e3,h1]
  exact⟨by omega,by omega,by decide,by decide,by simp⟩
 ·simp only[Bool.and_eq_true,decide_eq_true_eq]at h
  obtain⟨h1,h2,h3,h4,h5⟩:=h
  refine⟨by omega,h2,h4,h5,?_⟩
  unfold br at h3
  simp only[Bool.and_eq_true,decide_eq_true_eq]at h3
  omega
theorem wordsT_row {l:List Wd} (h:aU l=true):(wordsT l).length<=6656:=by
 have:=wordsT_len λw hw=>row_word h hw
 have:=row_len h
 omega
section
variable (G:Glob)
theorem lineOf_len (u:U) (n:Nat):(lineOf u n).length<=20000:=by
 unfold lineOf
 split
 ·rename_i h
  obtain⟨a0,a7,ah,aw,al⟩:=alone_facts h.2
  have b1:=wordsT_row ah
  have b2:=wordsT_row aw
  have b3:=kindText_len u.kind
  unfold lineT
  simp only[length_append,length_replicate]
  have c1:(if u.kind=0 then []else 32::u.label).length<=10:=by split<;>simp;omega
  have c2:(if (0:Int)<u.head.length then 58::wordsT u.head else []).length<=6657:=by split<;>simp;omega
  have c3:(if (0:Int)<u.words.length then 32::124::wordsT u.words else []).length<=6658:=by split<;>simp;omega
  omega
 ·simp
def textT (u:U):List UInt8:=(u.lines 0).flatMap λl=>l++[10]
def textOf (u:U):List UInt8×Int:=if shapeOk u then (if (16384:Int)<(textT u).length then ([],6)else (textT u,0))else ([],1)
theorem lines_short (u:U):∀(n:Nat),∀l∈u.lines n,l.length<=20000:=by
 induction u using U.ind with
 |h u ih=>
  intro n
  rw[U.lines_eq]
  have key:∀us:List U,(∀k∈us,∀m,∀l∈k.lines m,l.length<=20000)->∀l∈U.liness (n+1) us,l.length<=20000:=by
   intro us
   induction us with
   |nil=>intro _ l hl;cases hl
   |cons a us iha=>
    intro h l hl
    rw[U.liness_cons]at hl
    rcases mem_append.1 hl with hl|hl
    ·exact h a (by simp) _ l hl
    ·exact iha (λk hk=>h k (by simp[hk])) l hl
  intro l hl
  rcases mem_cons.1 hl with rfl|hl
  ·exact lineOf_len u n
  ·exact key u.kids ih l hl
end
end
structure GOk (G:Glob):Prop where
 names:G.tab 3=some (kindNames.map AV.str)
 below:G.tab 1=some [.lst 1 (([1,2]:List Int).map irow),.lst 1 (([2]:List Int).map irow),.lst 1 (([3,4,7]:List Int).map irow),.lst 1 (([3,4,7]:List Int).map irow),.lst 1 (([5]:List Int).map irow),.lst 1 (([6]:List Int).map irow),.nil,.nil]
 order:G.tab 0=some [.sc (.func (.func 353) #[] #[]),.sc (.func (.func 354) #[] #[])]
theorem eval_g {G:Glob} {i:Nat} {cs:List AV} (h:G.tab i=some cs):∀env,SOpd.eval G env (.g i)= .ref cs:=by intro env;simp only[SOpd.eval,h]
theorem lt8 {k:Int} (h0:0<=k) (h7:k<=7):k=0\/k=1\/k=2\/k=3\/k=4\/k=5\/k=6\/k=7:=by omega
section
variable (G:Glob) (hG:GOk G)
include hG
theorem f292 (k:Int):Pure G Tryz.prog 292 [.int .i64 k] (.str (if 0<=k/\k<=7 then kindText k else [])):=by
 have hg:=eval_g hG.names
 refine Pure.w c292 λR hR=>?_
 unfold s292 r292
 by_cases hk:0<=k/\k<=7
 ·rw[if_pos hk]at hR
  rcases lt8 hk.1 hk.2 with rfl|rfl|rfl|rfl|rfl|rfl|rfl|rfl<;>((repeat' (simp only[EVz,seval,↓reduceIte,EV6,EV7,hg,kindNames,List.map,Int.toNat,List.drop,List.headD,List.length]));exact RET.eq hR rfl)
 ·rw[if_neg hk]at hR
  (repeat' (first|(with_reducible (first|refine ab (λh=>?_) (λh=>?_)|refine ai (λh=>?_) (λh=>?_))<;>(try simp only[DZ]at h))|(with_reducible refine AI (by omega) ?_)|simp only[EVz,seval,↓reduceIte,EV6,EV7]|(exfalso;omega)))
  (all_goals((exact RET.eq hR rfl)))
theorem f122 (p k:Int):Pure G Tryz.prog 122 [.int .i64 p,.int .i64 k] (.bool (nests p k)):=by
 have hg:=eval_g hG.below
 refine Pure.w c122 λR hR=>?_
 unfold s122 r122
 by_cases hk:0<=p/\p<=7
 ·rcases lt8 hk.1 hk.2 with rfl|rfl|rfl|rfl|rfl|rfl|rfl|rfl
  ·have hc:=f213 G [1,2] k (by decide);simp only[List.map]at hc
   (repeat' (first|(with_reducible refine aa hc ?_)|simp only[EVz,seval,↓reduceIte,EV6,EV7,hg,List.drop,List.headD,List.length]))
   refine RET.eq hR ?_;simp[nests]
  ·have hc:=f213 G [2] k (by decide);simp only[List.map]at hc
   (repeat' (first|(with_reducible refine aa hc ?_)|simp only[EVz,seval,↓reduceIte,EV6,EV7,hg,List.drop,List.headD,List.length,Int.toNat]))
   refine RET.eq hR ?_;simp[nests]
  ·have hc:=f213 G [3,4,7] k (by decide);simp only[List.map]at hc
   (repeat' (first|(with_reducible refine aa hc ?_)|simp only[EVz,seval,↓reduceIte,EV6,EV7,hg,List.drop,List.headD,List.length,Int.toNat]))
   refine RET.eq hR ?_;simp[nests,Bool.or_assoc]
  ·have hc:=f213 G [3,4,7] k (by decide);simp only[List.map]at hc
   (repeat' (first|(with_reducible refine aa hc ?_)|simp only[EVz,seval,↓reduceIte,EV6,EV7,hg,List.drop,List.headD,List.length,Int.toNat]))
   refine RET.eq hR ?_;simp[nests,Bool.or_assoc]
  ·have hc:=f213 G [5] k (by decide);simp only[List.map]at hc
   (repeat' (first|(with_reducible refine aa hc ?_)|simp only[EVz,seval,↓reduceIte,EV6,EV7,hg,List.drop,List.headD,List.length,Int.toNat]))
   refine RET.eq hR ?_;simp[nests]
  ·have hc:=f213 G [6] k (by decide);simp only[List.map]at hc
   (repeat' (first|(with_reducible refine aa hc ?_)|simp only[EVz,seval,↓reduceIte,EV6,EV7,hg,List.drop,List.headD,List.length,Int.toNat]))
   refine RET.eq hR ?_;simp[nests]
  all_goals
   have hc:=f213 G [] k (by decide);simp only[List.map]at hc
   (repeat' (first|simp only[EVz,seval,↓reduceIte,EV6,EV7,hg,List.drop,List.headD,List.length,Int.toNat]|(refine aE hc ⟨.inl (.inr rfl),⟨.inl (.inl rfl),trivial⟩⟩ ?_)))
   refine RET.eq hR ?_;simp[nests]
 ·have e:nests p k=false:=by unfold nests;rw[if_neg (by omega),if_neg (by omega),if_neg (by omega),if_neg (by omega),if_neg (by omega)]
  rw[e]at hR
  (repeat' (first|(with_reducible (refine ai (λh=>?_) (λh=>?_))<;>(try simp only[DZ]at h))|(with_reducible refine AI (by omega) ?_)|simp only[EVz,seval,↓reduceIte,EV6,EV7]|(exfalso;omega)))
  (all_goals((exact RET.eq hR rfl)))
end
end Go.Av
section
namespace Go.Av
open Go Go.RowKit Go.Proofs List
set_option linter.unusedVariables false
theorem calls_of {P:Program} {G:Glob} {k:FuncId} {args:List AV} {r:AV} (h:Pure G P k args r) {W:World} (hG:G.holds [] W) {vs:Array Value} (hA:RepL [] W args vs.toList):
  Calls P k vs W λe W'=>∃v,e= .returned v/\Rep [] W' r v/\Below W.heap.size W W':=by
 have hS:Sat G ([]++[]) W:=⟨by simp[Store.keys],λb x hx=>by simp at hx,hG⟩
 refine(h.2 [] W vs hS hA).mono ?_
 rintro e W' ⟨v,r',σ',rfl,⟨rfl,rfl⟩,_,ev,hr⟩
 exact⟨v,rfl,hr,ev.os,ev.tape,ev.output,ev.size,λk hk=>(ev.block k hk (by simp[Store.keys])).1⟩
theorem tab_of {P:Program} {w:World} {nm:String} {d:DataW Unit} {g:Nat} {t:TypeId} {avs:List AV} (n:Nat) (hr:Go.Lib.VarReads P w nm d) (hg:P.globalNamed nm=some g) (ht:(P.globals[g]?).map (·.type)=some t) (ha:avD P n t d=some avs):
  RepAt [] w ⟨g,0,none⟩ 0 avs:=by
 obtain⟨g',t',cs,fuel,p,h1,h2,h3,h4⟩:=hr
 obtain rfl:=Option.some.inj (hg.symm.trans h1)
 obtain rfl:=Option.some.inj (ht.symm.trans h2)
 exact l0 hg h3 (mE n t d avs ha fuel cs.toList p h4)
def tabNames:List AV:=kindNames.map AV.str
def tabBelow:List AV:=[.lst 1 (([1,2]:List Int).map irow),.lst 1 (([2]:List Int).map irow),.lst 1 (([3,4,7]:List Int).map irow),.lst 1 (([3,4,7]:List Int).map irow),.lst 1 (([5]:List Int).map irow),.lst 1 (([6]:List Int).map irow),.nil,.nil]
def tabOrder:List AV:=[.sc (.func (.func 353) #[] #[]),.sc (.func (.func 354) #[] #[])]
def GL:Glob:=globOf [(3,tabNames),(1,tabBelow),(0,tabOrder)]
end Go.Av
namespace Go.Proofs.YtnoakpkjccigoaaGreatDoor
open Go.ChangeShapes Go.WideShapes Go.ChangeAt Go.RowKit
set_option linter.unusedVariables false
theorem own:ownKnob Tryz.prog.godebug=none:=by kernel_rfl
def litV:DataW Unit->Value
 | .lit (.int k n)=>.int k n
 |_=>.nilFunc
def litsV:DataW Unit->List Value
 | .agg ds=>ds.map litV
 |_=>[]
theorem gNames:Tryz.prog.globalNamed "pandect/unit.names" =some 3:=by kernel_rfl
theorem gBelow:Tryz.prog.globalNamed "pandect/unit.below" =some 1:=by kernel_rfl
theorem gOrder:Tryz.prog.globalNamed "pandect/syntax.order" =some 0:=by kernel_rfl
theorem tOrder:(Tryz.prog.globals[0]?).map (·.type)=some 142:=by kernel_rfl
theorem has_fn:((List.range Tryz.prog.funcs.size).filter λf=>(Tryz.prog.funcs[f]?).any (·.name.toUTF8.data.toList==112::[97,110,100,101,99,116,47,115,121,110,116,97,120,46,111,114,100,101,114,36,49]))=[353]:=by kernel_rfl
theorem may_fn:((List.range Tryz.prog.funcs.size).filter λf=>(Tryz.prog.funcs[f]?).any (·.name.toUTF8.data.toList==112::[97,110,100,101,99,116,47,115,121,110,116,97,120,46,111,114,100,101,114,36,50]))=[354]:=by kernel_rfl
theorem cells83:Tryz.prog.cellsOf 140=1:=by kernel_rfl
theorem cells35:Tryz.prog.cellsOf 99=1:=by kernel_rfl
theorem order_of {W:World} (h:funcsAt Tryz.prog W "pandect/syntax.order" (.agg [.iface "func" (.lit (.string [112,97,110,100,101,99,116,47,115,121,110,116,97,120,46,111,114,100,101,114,36,49])),.iface "func" (.lit (.string [112,97,110,100,101,99,116,47,115,121,110,116,97,120,46,111,114,100,101,114,36,50]))])):
  Go.Av.RepAt [] W ⟨0,0,none⟩ 0 Go.Av.tabOrder:=by
 obtain⟨g,t,cs,fuel,p,hg,ht,hv,hd⟩:=h
 obtain rfl:=Option.some.inj (gOrder.symm.trans hg)
 obtain rfl:=Option.some.inj (tOrder.symm.trans ht)
 obtain⟨xs,n,hn,hx,hl,hxl,hxs⟩:=DataW.trod_struct Tryz.underlying142 hd
 have hl2:cs.toList.length=2:=hl.trans (by kernel_rfl)
 obtain⟨u,v,huv⟩:∃u v,cs.toList=[u,v]:=by
  match hcs:cs.toList,hl2 with
  |[u,v],_=>exact⟨u,v,rfl⟩
 have h0:DataW.trod (funcToken Tryz.prog) Tryz.prog W 0 (λ_=>true) true n 140 ((cs.toList.drop 0).take (Tryz.prog.cellsOf 140))=xs[0]? :=hxs 0 _ rfl
 have h1:DataW.trod (funcToken Tryz.prog) Tryz.prog W 0 (λ_=>true) true n 99 ((cs.toList.drop 1).take (Tryz.prog.cellsOf 99))=xs[1]? :=hxs 1 _ rfl
 have hm:=congrArg Prod.fst hx
 rw[huv]at h0 h1
 simp only[cells83,cells35,List.drop_zero,List.take_succ_cons,List.take_zero,List.drop_succ_cons]at h0 h1
 obtain⟨x0,x1,rfl⟩:∃x0 x1,xs=[x0,x1]:=by
  match xs,hxl with
  |[x0,x1],_=>exact⟨x0,x1,rfl⟩
 simp only[List.map_cons,List.map_nil,DataW.funcsOut,DataW.funcsOutAll,DataW.agg.injEq,List.cons.injEq,and_true]at hm
 obtain⟨e0,e1⟩:=hm
 have hu:=func_of_trod (q:=x0.2) Tryz.underlying140 has_fn (by rw[if_pos (beq_self_eq_true _)]at e0;rw[e0];exact h0)
 have hw:=func_of_trod (q:=x1.2) Tryz.underlying99 may_fn (by rw[if_pos (beq_self_eq_true _)]at e1;rw[e1];exact h1)
 subst hu hw
 refine Go.Av.l0 gOrder hv ⟨?_,?_⟩
 ·rw[huv]
  simp only[Go.Av.tabOrder,Go.Av.RepL,Go.Av.Rep]
  exact⟨_,_,rfl,rfl,_,_,rfl,rfl,rfl⟩
 ·rw[huv]
  simp[Value.oneCell']
noncomputable def tNamesT:TypeId:=((Tryz.prog.globals[3]?).map (·.type)).getD 0
theorem tNames:(Tryz.prog.globals[3]?).map (·.type)=some tNamesT:=by kernel_rfl
theorem tNamesD:Go.Av.avD Tryz.prog 6 tNamesT (Rows.laid_pandect_unit_names (H:=Unit))=some Go.Av.tabNames:=by kernel_rfl
noncomputable def tBelowT:TypeId:=((Tryz.prog.globals[1]?).map (·.type)).getD 0
theorem tBelow:(Tryz.prog.globals[1]?).map (·.type)=some tBelowT:=by kernel_rfl
theorem tBelowD:Go.Av.avD Tryz.prog 6 tBelowT (Rows.laid_pandect_unit_below (H:=Unit))=some Go.Av.tabBelow:=by kernel_rfl
theorem glob_holds {L:List (String×DataW Unit)} {W:World} (h:laidMetH Tryz.prog L W)
  (h1:("pandect/unit.names",Rows.laid_pandect_unit_names (H:=Unit))∈L.filter λx=>x.2.handleName?.isNone)
  (h2:("pandect/unit.below",Rows.laid_pandect_unit_below (H:=Unit))∈L.filter λx=>x.2.handleName?.isNone)
  (h3:("pandect/syntax.order",Rows.laid_pandect_syntax_order (H:=Unit))∈L):Go.Av.GL.holds [] W:=by
 obtain⟨hm,_⟩:=laidMetH_iff.1 h
 intro p hp
 simp only[List.mem_cons,List.not_mem_nil,or_false]at hp
 rcases hp with rfl|rfl|rfl
 ·exact Go.Av.tab_of 6 (Go.Lib.laidMet.reads hm h1) gNames tNames tNamesD
 ·exact Go.Av.tab_of 6 (Go.Lib.laidMet.reads hm h2) gBelow tBelow tBelowD
 ·exact order_of (laidMetH.funcs h h3)
noncomputable def laidWorld (os:Os):World:=
 let w0:=World.doorLaid Tryz.prog 600 os
 {w0 with heap:=w0.heap.modify 4 (λ
   | .cells _ t frozen=>.cells (litsV Rows.laid_unicode_utf8_first).toArray t frozen
   |o=>o)}
end Go.Proofs.YtnoakpkjccigoaaGreatDoor
end
namespace Go.Proofs.YtnoakpkjccigoaaGreatDoor
open Go.ChangeShapes Go.WideShapes Go.ChangeAt Go.RowKit
set_option linter.unusedSimpArgs false
set_option linter.unusedVariables false
section
theorem and_mk {a b:Bool} (ha:a=true) (hb:b=true):(a&&b)=true:=by rw[ha,hb];rfl
theorem cellsU:Tryz.prog.cellsOf 27=8:=by kernel_rfl
abbrev laidL:List (String×DataW Unit):=Rows.undoSingleRow.laid
set_option maxRecDepth 100000
theorem met (os:Os) (args:Array Value):laidMetH Tryz.prog laidL ((laidWorld os).forCall (λ_ _=>0) ⟨#[],args,[]⟩).memory:=
 laidMetH_of_parts3 (fuel:=40) (laidMet_of_run' 40 (by kernel_rfl) (by kernel_rfl)) (by kernel_rfl) (by kernel_rfl)
theorem varsOk (os:Os) (args:Array Value):((laidWorld os).forCall (λ_ _=>0) ⟨#[],args,[]⟩).variablesRefB Tryz.checked.prog=true:=by kernel_rfl
def RestOk (C:Checked) (w0:World) (args:Array Value):Prop:=((w0.forCall (λ_ _=>0) ⟨#[],args,[]⟩).heap.toList.drop C.prog.globals.size).take ((begin C.prog (λ_ _=>0) default).world.heap.size-C.prog.globals.size)=
   (begin C.prog (λ_ _=>0) default).world.heap.toList.drop C.prog.globals.size
theorem restOk (os:Os) (args:Array Value):RestOk Tryz.checked (laidWorld os) args:=by unfold RestOk;kernel_rfl
end
end Go.Proofs.YtnoakpkjccigoaaGreatDoor
namespace Go.Av
open Go Go.RowKit Go.Proofs List
set_option linter.unusedSimpArgs false
set_option linter.unusedVariables false
structure GOk2 (G:Glob):Prop where
 max:∀τ w,Sat G τ w->∃m,w.cell? ⟨8,0,none⟩=some (.int .i64 m)
 pow:∀τ w,Sat G τ w->Lib.TabIs Tryz.prog w "internal/strconv.uint64pow10" .u64 Lib.pow10Tab
section
variable (G:Glob)
theorem f51 (hG:GOk2 G) (n:Int) (h0: -9223372036854775808<=n) (h1:n<=9223372036854775807):Pure G Tryz.prog 51 [.int .i64 n] (.str (Lib.itoa n)):=by
 refine Pure.of_calls Tryz.func51 (by kernel_rfl) (by kernel_rfl) λτ w vs hS hA=>?_
 obtain⟨u,rfl,h2⟩:=vs_one hA
 simp only[Rep]at h2
 subst h2
 refine⟨.string ⟨(Lib.itoa n).toArray⟩,λ_ _=>by simp only[Rep],?_⟩
 refine(Tryz.strconv_Itoa n h0 h1 w (hG.pow τ w hS)).mono ?_
 rintro e w' ⟨rfl,k,os,rfl⟩
 exact⟨rfl,Lib.below_grow _ _ (Nat.le_refl _) _ _⟩
end
end Go.Av
section
namespace Go.Av
open Go Go.RowKit Go.Proofs List
set_option linter.unusedVariables false
def tabPow:List AV:=Lib.pow10Tab.map (AV.int .u64)
theorem tabPow_len:tabPow.length=20:=rfl
def listA (m:Int):List (Nat×List AV):=[(3,tabNames),(1,tabBelow),(0,tabOrder),(2,tabPow),(8,[.int .i64 m])]
def GA (m:Int):Glob where
 tab:=(globOf (listA m)).tab
 holds σ w:=(∀p∈listA m,RepAt σ w ⟨p.1,0,none⟩ 0 p.2)/\∃e,w.shape? 2=some (e,20)
 ev he h:=⟨λp hp=>RepAt.ev he _ _ _ (h.1 p hp),h.2.imp λe h=>he.shape _ _ h⟩
 tabs:=λ{σ w g cs} h ht=>(globOf (listA m)).tabs (σ:=σ) (w:=w) (g:=g) (cs:=cs) h.1 ht
theorem GA_ok (m:Int):GOk (GA m):=⟨rfl,rfl,rfl⟩
theorem gPow:Tryz.prog.globalNamed "internal/strconv.uint64pow10" =some 2:=by kernel_rfl
theorem ints_rep {τ:Store} {w:World} {k:IntKind}:∀{zs:List Int} {us:List Value},RepL τ w (zs.map (AV.int k)) us->us=zs.map (Value.int k)
 |[],us,h=>by simpa[RepL]using h
 |z::zs,us,h=>by
  simp only[map_cons,RepL]at h
  obtain⟨u,us',rfl,h1,h2⟩:=h
  simp only[Rep]at h1
  rw[h1,ints_rep h2,map_cons]
theorem GA_ok2 (m:Int):GOk2 (GA m) where
 max τ w hS:=by
  have h:=hS.glob.1 (8,[.int .i64 m]) (by simp[listA])
  simp only[RepAt]at h
  obtain⟨⟨u,hf,_,hr⟩,_⟩:=h
  simp only[Rep]at hr
  exact⟨m,hr ▸ hf.1⟩
 pow τ w hS:=by
  have h:=hS.glob.1 (2,tabPow) (by simp[listA])
  obtain⟨e,hsh⟩:=hS.glob.2
  obtain⟨vs,l1,l2,l3,l4⟩:=iO h 20 (by rw[tabPow_len];exact Nat.le_refl _)
  have hvs:=ints_rep (zs:=Lib.pow10Tab) (by simpa[tabPow,take_of_length_le (show(Lib.pow10Tab.map (AV.int .u64)).length<=20 from Nat.le_refl _)]using l2)
  unfold Lib.TabIs World.var?
  rw[gPow]
  unfold World.shape? at hsh
  simp only[Option.bind_some]
  cases hh:w.heap[2]? with
  |none=>rw[hh]at hsh;cases hsh
  |some o=>
   rw[hh]at hsh
   cases o with
   |cells c el fr=>
    simp only[Option.some.injEq,Prod.mk.injEq]at hsh ⊢
    obtain⟨_,hcs⟩:=hsh
    apply Array.ext'
    rw[←hvs]
    show c.toList=vs
    apply ext_getElem?
    intro j
    by_cases hj:j<20
    ·have hj2:j<vs.length:=by omega
     have h4:=l4 j vs[j] (getElem?_eq_getElem hj2)
     rw[add_lit,Nat.zero_add,cell_of_row w _ j c el fr hh]at h4
     rw[getElem?_eq_getElem hj2,←h4]
     simp
    ·rw[getElem?_eq_none (l:=c.toList) (by rw[Array.length_toList];omega),getElem?_eq_none (l:=vs) (by omega)]
   |_=>cases hsh
end Go.Av
namespace Go.Proofs.YtnoakpkjccigoaaGreatDoor
open Go.ChangeShapes Go.WideShapes Go.ChangeAt Go.RowKit
set_option linter.unusedVariables false
noncomputable def tPowT:TypeId:=((Tryz.prog.globals[2]?).map (·.type)).getD 0
theorem tPow:(Tryz.prog.globals[2]?).map (·.type)=some tPowT:=by kernel_rfl
theorem tPowD:Go.Av.avD Tryz.prog 6 tPowT (Rows.laid_internal_strconv_uint64pow10 (H:=Unit))=some Go.Av.tabPow:=by kernel_rfl
theorem cell7 {W:World} (h:W.ShapedOpen Tryz.prog):∃m,W.cell? ⟨8,0,none⟩=some (.int .i64 m):=
 cell_of_shapedOpen_int (t:=3) (zero:=#[.int .i64 0]) h (of_decide_eq_true (by kernel_rfl)) (by kernel_rfl) rfl (by kernel_rfl) (by kernel_rfl) (by kernel_rfl)
abbrev laidC:List (String×DataW Unit):=Rows.undoSingleRow.laid
theorem memC1:("pandect/unit.names",Rows.laid_pandect_unit_names (H:=Unit))∈laidC.filter λx=>x.2.handleName?.isNone:=
 List.mem_filter.2 ⟨List.mem_of_getElem? (i:=4) rfl,by kernel_rfl⟩
theorem memC2:("pandect/unit.below",Rows.laid_pandect_unit_below (H:=Unit))∈laidC.filter λx=>x.2.handleName?.isNone:=
 List.mem_filter.2 ⟨List.mem_of_getElem? (i:=5) rfl,by kernel_rfl⟩
theorem memC3:("pandect/syntax.order",Rows.laid_pandect_syntax_order (H:=Unit))∈laidC:=List.mem_of_getElem? (i:=6) rfl
theorem memC4:("internal/strconv.uint64pow10",Rows.laid_internal_strconv_uint64pow10 (H:=Unit))∈laidC.filter λx=>x.2.handleName?.isNone:=
 List.mem_filter.2 ⟨List.mem_of_getElem? (i:=2) rfl,by kernel_rfl⟩
theorem holdsA {W:World} (h:laidMetH Tryz.prog laidC W) (hs:W.ShapedOpen Tryz.prog):∃m,(Go.Av.GA m).holds [] W:=by
 obtain⟨m,hm⟩:=cell7 hs
 have h0:=glob_holds h memC1 memC2 memC3
 obtain⟨hmm,_⟩:=laidMetH_iff.1 h
 have hr:=Go.Lib.laidMet.reads hmm memC4
 have hp:=Go.Av.tab_of 6 hr Go.Av.gPow tPow tPowD
 refine⟨m,λp hp'=>?_,?_⟩
 ·simp only[Go.Av.listA,List.mem_cons,List.not_mem_nil,or_false]at hp'
  rcases hp' with rfl|rfl|rfl|rfl|rfl
  ·exact h0 _ (by simp)
  ·exact h0 _ (by simp)
  ·exact h0 _ (by simp)
  ·exact hp
  ·simp only[Go.Av.RepAt,Go.Av.Rep]
   exact⟨⟨_,Go.Av.fy hm,rfl,rfl⟩,trivial⟩
 ·obtain⟨g,t,cs,fuel,p,h1,h2,h3,h4⟩:=hr
  obtain rfl:=Option.some.inj (Go.Av.gPow.symm.trans h1)
  obtain rfl:=Option.some.inj (tPow.symm.trans h2)
  have hl:=(Go.Av.mE 6 tPowT _ _ tPowD fuel cs.toList p h4).1.length
  rw[Go.Av.tabPow_len,Array.length_toList]at hl
  unfold World.var? at h3
  rw[Go.Av.gPow]at h3
  simp only[Option.bind_some]at h3
  unfold World.shape?
  cases hh:W.heap[2]? with
  |none=>rw[hh]at h3;cases h3
  |some o=>
   rw[hh]at h3
   cases o with
   |cells c el fr=>
    simp only[Option.some.injEq]at h3
    subst h3
    exact⟨el,by simp only[hl]⟩
   |_=>cases h3
end Go.Proofs.YtnoakpkjccigoaaGreatDoor
end
