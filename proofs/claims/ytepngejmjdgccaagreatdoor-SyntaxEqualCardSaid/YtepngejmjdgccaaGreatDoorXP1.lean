/-
  LINT, plain laws: trees as the reference sees them and as the program does.
-/
import Derived.Test.YtepngejmjdgccaaGreatDoorXFrStoXOpI
namespace Go.Av
open Go Go.RowKit Go.Proofs
set_option linter.unusedSimpArgs false
set_option linter.unusedVariables false
theorem all_congr' {α:Type} {p q:α->Bool}:∀{l:List α},(∀x∈l,p x=q x)->l.all p=l.all q
 |[],_=>rfl
 |x::l,h=>by rw[List.all_cons,List.all_cons,h x (by simp),all_congr' λy hy=>h y (by simp[hy])]
theorem flats_all (p:U->Bool):∀us:List U,(U.flats us).all p=us.all λk=>k.flat.all p
 |[]=>by rw[flats_nil];rfl
 |u::us=>by rw[flats_cons,List.all_append,flats_all p us,List.all_cons]
theorem flat_all (p:U->Bool) (u:U):u.flat.all p=(p u&&u.kids.all λk=>k.flat.all p):=by rw[U.flat_eq,List.all_cons,flats_all]
/-! ### trees that stand right -/
theorem rights_all (k:Int):∀us:List U,U.rights k us=((us.all λx=>nests k x.kind)&&us.all U.right)
 |[]=>by rw[U.rights];rfl
 |u::us=>by
  rw[U.rights,rights_all k us,List.all_cons,List.all_cons]
  cases nests k u.kind<;>cases u.right<;>simp
theorem rowOk_nil:rowOk []=true:=by decide
theorem aloneOk_own (u:U):aloneOk u=(own1 u&&decide ((u.kids.length:Int)<=64)):=by
 unfold aloneOk own1
 by_cases hk:u.kind=0
 ·rw[if_pos hk,if_pos hk,Bool.eq_iff_iff]
  simp only[Bool.and_eq_true,decide_eq_true_eq]
  constructor
  ·rintro⟨⟨_,_,h3,_,_⟩,h6⟩;exact⟨h6,h3⟩
  ·rintro⟨⟨h6,h7,h8⟩,h3⟩
   have e1:u.head=[]:=List.length_eq_zero_iff.1 (by omega)
   have e2:u.words=[]:=List.length_eq_zero_iff.1 (by omega)
   exact⟨⟨by omega,by omega,h3,by rw[e1];exact rowOk_nil,by rw[e2];exact rowOk_nil⟩,h6,h7,h8⟩
 ·rw[if_neg hk,if_neg hk,Bool.eq_iff_iff]
  simp only[Bool.and_eq_true,decide_eq_true_eq]
  constructor
  ·rintro⟨⟨h1,h2,h3,h4,h5⟩,h6⟩;exact⟨⟨⟨h1,h2⟩,h6,h4,h5⟩,h3⟩
  ·rintro⟨⟨⟨h1,h2⟩,h6,h4,h5⟩,h3⟩;exact⟨⟨h1,h2,h3,h4,h5⟩,h6⟩
theorem right_flat:∀u:U,u.right=u.flat.all nodeOk:=by
 refine U.ind λu ih=>?_
 rw[U.right_eq,flat_all,rights_all,aloneOk_own,all_congr' ih,show nodeOk u=(own1 u&&((u.kids.all λk=>nests u.kind k.kind)&&decide (Apart u.kids)&&decide ((u.kids.length:Int)<=64)))from rfl]
 generalize own1 u=a,(u.kids.all λx=>nests u.kind x.kind)=b,decide (Apart u.kids)=c,decide ((u.kids.length:Int)<=64)=d,(u.kids.all λk=>k.flat.all nodeOk)=e
 cases a<;>cases b<;>cases c<;>cases d<;>cases e<;>rfl
theorem treeOk_two (u:U):treeOk u=treeOk2 u:=by unfold treeOk treeOk2;rw[right_flat]
/-! ### bare trees -/
theorem map_fix {α:Type} {f:α->α}:∀{l:List α},l=l.map f↔∀x∈l,x=f x
 |[]=>by simp
 |x::l=>by simp[map_fix (f:=f) (l:=l)]
theorem wd_bare (w:Wd):w=w.bare↔marked w=false:=by
 obtain⟨t,a,b,c⟩:=w
 simp[Wd.bare,marked]
theorem bare_list (l:List Wd):l=l.map Wd.bare↔l.any marked=false:=by
 rw[map_fix,List.any_eq_false]
 constructor<;>intro h x hx
 ·have:=(wd_bare x).1 (h x hx);simp[this]
 ·exact(wd_bare x).2 (by simpa using h x hx)
theorem strip_fix:∀u:U,(u=u.strip)↔u.flat.all bareNode=true:=by
 refine U.ind λu ih=>?_
 rw[flat_all,Bool.and_eq_true,List.all_eq_true,U.strip_eq,show bareNode u=(decide (u.id=zId)&&(!u.head.any marked&& !u.words.any marked))from rfl]
 simp only[Bool.and_eq_true,decide_eq_true_eq,Bool.not_eq_true']
 rw[←bare_list,←bare_list]
 have hk:u.kids=u.kids.map U.strip↔∀k∈u.kids,k.flat.all bareNode=true:=by
  rw[map_fix]
  exact⟨λh k hk=>(ih k hk).1 (h k hk),λh k hk=>(ih k hk).2 (h k hk)⟩
 rw[←hk]
 obtain⟨i,k,l,h,w,ks⟩:=u
 simp only[U.mk.injEq,true_and,zId]
 constructor
 ·rintro⟨a,b,c,d⟩;exact⟨⟨a,b,c⟩,d⟩
 ·rintro⟨⟨a,b,c⟩,d⟩;exact⟨a,b,c,d⟩
theorem bareOk_two (u:U):bareOk u=bareOk2 u:=by
 unfold bareOk bareOk2
 rw[treeOk_two]
 congr 1
 rw[Bool.eq_iff_iff,decide_eq_true_eq,strip_fix]
/-! ### shapes -/
theorem shapes_all (d k:Int):∀us:List U,U.shapes d k us=((us.all λx=>nests k x.kind)&&us.all λx=>x.shape d)
 |[]=>by rw[U.shapes];rfl
 |u::us=>by
  rw[U.shapes,shapes_all d k us,List.all_cons,List.all_cons]
  cases nests k u.kind<;>cases u.shape d<;>simp
/-! ### stripped trees -/
end Go.Av
