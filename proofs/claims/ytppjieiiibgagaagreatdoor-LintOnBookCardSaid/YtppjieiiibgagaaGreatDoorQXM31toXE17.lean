/-
  ENACT, M31: an item applied.
-/
import Derived.Test.YtppjieiiibgagaaGreatDoorQXM20toXM30
import Derived.Test.YtppjieiiibgagaaGreatDoorQXL36toXLs
import Derived.Test.YtppjieiiibgagaaGreatDoorQXM5toXGo
import Derived.Test.YtppjieiiibgagaaGreatDoorQXQ1toXAv32
import Derived.Test.YtppjieiiibgagaaGreatDoorQXE8toXE10
set_option linter.all false
namespace Go.Av
open Go Go.RowKit Go.Proofs List
def gc:List (Int×AV):=[(0,fnv 123),(1,fnv 124),(2,fnv 125),(3,fnv 126),(4,fnv 127),(5,fnv 128),(6,fnv 129)]
def eP:∀τ w,Rep τ w (.sc .nilFunc) .nilFunc:=by
 intro τ w;simp only[Rep]
def do_none {k:Int} (h:¬(0<=k/\k<=6)):bt k gc=none:=by
 simp only[gc,bt];rw[if_neg (by omega),if_neg (by omega),if_neg (by omega),if_neg (by omega),if_neg (by omega),if_neg (by omega),if_neg (by omega)]
def may_cnt {x:Itm} (h:x.may=true) (F:x.kind=0):x.unit.flat.length<=1024:=by
 have:=ir h;unfold Itm.own at this;simp only[F,if_true,Bool.and_eq_true]at this;have D:=this.2.1;rw[jr]at D;unfold iJ cR at D;simp only[Bool.and_eq_true,decide_eq_true_eq]at D;have E:=D.1.2.2.1;unfold U.cnt at E;omega
def j2 {x:Itm} (h:x.may=true) (E:x.kind=2\/x.kind=3):x.old.length<=256/\x.new.length<=256/\(0<=x.nth/\x.nth<=256)/\(x.kind=2->x.old≠[])/\(x.kind=3->1<=x.new.length/\(x.old=[]->x.nth=0)):=by
 have:=ir h;unfold Itm.own dB inR at this
 rcases E with E|E
 ·rw[if_neg (by omega),if_pos E]at this;simp only[Bool.and_eq_true,decide_eq_true_eq]at this;obtain⟨⟨F,I⟩,⟨J,M⟩,c1,c2⟩:=this;refine⟨(ej F).2,(ej J).2,⟨c1,c2⟩,λ_ e=>?_,λe=>?_⟩
  ·rw[e]at I;simp at I
  ·omega
 ·rw[if_neg (by omega),if_neg (by omega),if_pos E]at this;simp only[Bool.and_eq_true,Bool.or_eq_true,decide_eq_true_eq]at this;obtain⟨⟨F,I⟩,⟨J,M⟩,⟨c1,c2⟩,D⟩:=this;refine⟨(ej F).2,(ej J).2,⟨c1,c2⟩,λe=>?_,λ_=>⟨by omega,λe=>?_⟩⟩
  ·omega
  ·rcases D with D|D
   ·rw[e]at D;simp at D
   ·exact D
def lH {x:Itm} (h:x.may=true) (D:x.kind=4):x.new.length<=256:=(ej (oG h (.inr (.inr D)))).2
section
variable (G:Glob) (hG:GOk G)
include hG
omit hG in
def f59:aj G Tryz.prog 59 [] [] (λr σ=>∃b,r= .sc (.map (some b))/\σ=[(b,.map (df intK gc))]):=by
 refine aj.w c59 ?_;unfold s59 r59;(try simp only[EV,seval]);refine fD ?_;intro b D;(try simp only[EV,seval]);refine gx bU (l:=[]) (k:=0) (eT:=107) rfl (oA 0) rfl (by kernel_rfl) bE ?_;(repeat' (first|simp only[EV,seval]|(refine gx bU (eT:=107) rfl (oA _) rfl (by kernel_rfl) bE ?_)));exact RET.mk (SubN.refl _) ⟨b,rfl,rfl⟩
omit hG in
set_option maxHeartbeats 8000000 in
def qz (u:U) (Z:Good u) (d:Dd) (X:¬(0<=d.it.kind/\d.it.kind<=6)):Pure G Tryz.prog 25 [.agg u.cs,.agg d.cs] (aY (u,1)):=by
 have O:=f59 G;have F:=do_none X;have J:=hH u;unfold Dd.cs aY;rw[eH,J];refine Pure.w c25 λR T=>?_;unfold s25 r25;(repeat' (first|simp only[EV,seval,F,Option.getD_none,Option.isSome_none,D]|simp only[EV,seval,F,Option.getD_none,Option.isSome_none]|(with_reducible intro N E;(try(have I:=E;simp only[EVK]at I;(have D:=I))))|(refine aB [] _ O.v (hU _) (SubN.refl _) (λr σ' V M=>?_);obtain⟨Y,rfl,rfl⟩:=V;(have D:=M);(try simp[Store.keys]at D))|(refine aO bU (l:=gc) (k:=d.it.kind) (z:=.nilFunc) (zv:=.sc .nilFunc) (eT:=107) rfl (cM _) (by kernel_rfl) (by exact bE) (by kernel_rfl) eP ?_)))
 all_goals exact RQ T
set_option maxHeartbeats 8000000 in
def apply_of (u:U) (hu:Good u) (d:Dd) (hs:d.it.Shorts) (fn:Nat) (I:bt d.it.kind gc=some (fnv fn)) (q:U×Int)
  (hq:d.it.may=true->(one u d.it.at_).2=0->(d.it.kind=0\/(one u d.it.at_).1≠u.id)->Pure G Tryz.prog fn [.agg u.cs,.agg (fnd (one u d.it.at_).1 u).cs,.agg d.cs] (aY q)):
  Pure G Tryz.prog 25 [.agg u.cs,.agg d.cs] (aY (if d.it.may=false then (u,1)else if (one u d.it.at_).2≠0 then (u,(one u d.it.at_).2)else if d.it.kind=0\/(one u d.it.at_).1≠u.id then q else if d.it.kind=6/\(one u d.it.to_).2≠0 then (u,(one u d.it.to_).2)else (u,9))):=by
 have aa:=hu.short
 obtain⟨q1,_⟩:=(o5 d.it).1 hs
 have hV:=f60 G hG d.it hs
 have hO:=f26 G u d.it.at_ aa.1 hu.cnt q1.at_
 have T:=f26 G u d.it.to_ aa.1 hu.cnt q1.to_
 have hD:=f59 G
 have hid:=cB (u:=u) (p:=d.it.at_)
 have ac:=λi=>f27 G i u aa
 unfold jV at hO T
 obtain⟨⟨i,e⟩,ah⟩:∃z,one u d.it.at_=z:=⟨_,rfl⟩
 obtain⟨⟨t,e'⟩,an⟩:∃z,one u d.it.to_=z:=⟨_,rfl⟩
 rw[ah]at hO hid hq ⊢
 rw[an]at T ⊢
 simp only at hO T hid hq ⊢
 obtain⟨mv,al⟩:∃b,d.it.may=b:=⟨_,rfl⟩
 rw[al]at hV hq ⊢
 have N:=hH u
 obtain⟨f,hf⟩:∃f,fnv fn= .sc f:=⟨_,rfl⟩
 have ad:f= .func (.func fn) #[] #[]:=by unfold fnv at hf;injection hf with hf;exact hf.symm
 rw[hf]at I
 unfold Dd.cs at hq ⊢
 rw[eH]at hV hq ⊢
 unfold aY at hq ⊢
 refine Pure.w c25 λR M=>?_
 unfold s25 r25
 cases mv with
 |false=>
  rw[if_pos rfl]at M;rw[N]at M ⊢;(repeat' (first|(with_reducible refine ab hV ?_)|simp only[EV,seval,I,Option.getD_some,Option.isSome_some,D]|simp only[EV,seval,I,Option.getD_some,Option.isSome_some]|(with_reducible intro O F;(try(have E:=F;simp only[EVK]at E;(have D:=E))))|(refine aB [] _ hD.v (hU _) (SubN.refl _) (λr σ' V J=>?_);obtain⟨bm,rfl,rfl⟩:=V;(have D:=J);(try simp[Store.keys]at D))|(refine aO bU (l:=gc) (k:=d.it.kind) (z:=.nilFunc) (zv:=.sc .nilFunc) (eT:=107) rfl (cM _) (by kernel_rfl) (by exact bE) (by kernel_rfl) eP ?_)))
  all_goals exact RQ M
 |true=>
  rw[if_neg (by simp)]at M
  rcases Classical.em (e=0)with h|h
  ·subst h;rw[if_neg (by simp)]at M;have hi:=hid rfl;have Z:=ac i;unfold kG at Z;rw[iF hi,if_neg (by simp)]at Z;clear ac hid;obtain⟨X,hX⟩:∃X,fnd i u=X:=⟨_,rfl⟩;rw[hX]at Z hq
   rcases Classical.em (d.it.kind=0\/i≠u.id)with g|g
   ·rw[if_pos g]at M;have hC:=(hq rfl rfl g).v;rw[←ad]at hC;rw[N]at hO Z hC ⊢;simp only[Idd.cs]at Z
    rcases Classical.em (i=u.id)with g1|g1
    ·have g0:d.it.kind=0:=g.resolve_right (λh=>h g1);have Y:decide (i=u.id)=true:=decide_eq_true g1;have e2:decide (d.it.kind=0)=true:=decide_eq_true g0;(repeat' (first|(with_reducible first|refine ab hV ?_|refine ab hO ?_|refine ab Z ?_)|simp only[EV,seval,I,Option.getD_some,Option.isSome_some,am,Y,e2,D]|simp only[EV,seval,I,Option.getD_some,Option.isSome_some,am,Y,e2]|(with_reducible intro O F;(try(have E:=F;simp only[EVK]at E;first|(have D:=AI E D)|(have D:=E))))|(refine aB [] _ hD.v (hU _) (SubN.refl _) (λr σ' V J=>?_);obtain⟨bm,rfl,rfl⟩:=V;(have D:=J);(try simp[Store.keys]at D))|(refine aO bU (l:=gc) (k:=d.it.kind) (z:=.nilFunc) (zv:=.sc .nilFunc) (eT:=107) rfl (cM _) (by kernel_rfl) (by exact bE) (by kernel_rfl) eP ?_)|(refine aM hC ?_)))
     all_goals exact RQ M
    ·have Y:decide (i=u.id)=false:=decide_eq_false g1;(repeat' (first|(with_reducible first|refine ab hV ?_|refine ab hO ?_|refine ab Z ?_)|simp only[EV,seval,I,Option.getD_some,Option.isSome_some,am,Y,D]|simp only[EV,seval,I,Option.getD_some,Option.isSome_some,am,Y]|(with_reducible intro O F;(try(have E:=F;simp only[EVK]at E;first|(have D:=AI E D)|(have D:=E))))|(refine aB [] _ hD.v (hU _) (SubN.refl _) (λr σ' V J=>?_);obtain⟨bm,rfl,rfl⟩:=V;(have D:=J);(try simp[Store.keys]at D))|(refine aO bU (l:=gc) (k:=d.it.kind) (z:=.nilFunc) (zv:=.sc .nilFunc) (eT:=107) rfl (cM _) (by kernel_rfl) (by exact bE) (by kernel_rfl) eP ?_)|(refine aM hC ?_)))
     all_goals exact RQ M
   ·rw[if_neg g]at M;rw[not_or,Classical.not_not]at g;obtain⟨g0,g1⟩:=g;have Y:decide (i=u.id)=true:=decide_eq_true g1;have e2:decide (d.it.kind=0)=false:=decide_eq_false g0;rw[N]at hO T Z ⊢;simp only[Idd.cs]at Z
    rcases Classical.em (d.it.kind=6)with k6|k6
    ·have e3:decide (d.it.kind=6)=true:=decide_eq_true k6
     rcases Classical.em (e'=0)with h'|h'
     ·subst h';rw[if_neg (by simp)]at M;simp only at M;rw[N]at M;(repeat' (first|(with_reducible first|refine ab hV ?_|refine ab hO ?_|refine ab T ?_|refine ab Z ?_)|simp only[EV,seval,I,Option.getD_some,Option.isSome_some,am,Y,e2,e3,D]|simp only[EV,seval,I,Option.getD_some,Option.isSome_some,am,Y,e2,e3]|(with_reducible intro O F;(try(have E:=F;simp only[EVK]at E;first|(have D:=AI E D)|(have D:=E))))|(refine aB [] _ hD.v (hU _) (SubN.refl _) (λr σ' V J=>?_);obtain⟨bm,rfl,rfl⟩:=V;(have D:=J);(try simp[Store.keys]at D))|(refine aO bU (l:=gc) (k:=d.it.kind) (z:=.nilFunc) (zv:=.sc .nilFunc) (eT:=107) rfl (cM _) (by kernel_rfl) (by exact bE) (by kernel_rfl) eP ?_)))
      all_goals exact RQ M
     ·rw[if_pos ⟨k6,h'⟩]at M;simp only at M;rw[N]at M;(repeat' (first|(with_reducible (refine ae (λh=>?_) λh=>?_)<;>(try simp only[DZ]at h))|(with_reducible first|refine ab hV ?_|refine ab hO ?_|refine ab T ?_|refine ab Z ?_)|simp only[EV,seval,I,Option.getD_some,Option.isSome_some,am,Y,e2,e3,h',D]|simp only[EV,seval,I,Option.getD_some,Option.isSome_some,am,Y,e2,e3,h']|(with_reducible intro O F;(try(have E:=F;simp only[EVK]at E;first|(have D:=AI E D)|(have D:=E))))|(refine aB [] _ hD.v (hU _) (SubN.refl _) (λr σ' V J=>?_);obtain⟨bm,rfl,rfl⟩:=V;(have D:=J);(try simp[Store.keys]at D))|(refine aO bU (l:=gc) (k:=d.it.kind) (z:=.nilFunc) (zv:=.sc .nilFunc) (eT:=107) rfl (cM _) (by kernel_rfl) (by exact bE) (by kernel_rfl) eP ?_)|(exfalso;omega)))
      all_goals exact RQ M
    ·have e3:decide (d.it.kind=6)=false:=decide_eq_false k6;rw[if_neg (λh=>k6 h.1)]at M;simp only at M;rw[N]at M;(repeat' (first|(with_reducible first|refine ab hV ?_|refine ab hO ?_|refine ab Z ?_)|simp only[EV,seval,I,Option.getD_some,Option.isSome_some,am,Y,e2,e3,D]|simp only[EV,seval,I,Option.getD_some,Option.isSome_some,am,Y,e2,e3]|(with_reducible intro O F;(try(have E:=F;simp only[EVK]at E;first|(have D:=AI E D)|(have D:=E))))|(refine aB [] _ hD.v (hU _) (SubN.refl _) (λr σ' V J=>?_);obtain⟨bm,rfl,rfl⟩:=V;(have D:=J);(try simp[Store.keys]at D))|(refine aO bU (l:=gc) (k:=d.it.kind) (z:=.nilFunc) (zv:=.sc .nilFunc) (eT:=107) rfl (cM _) (by kernel_rfl) (by exact bE) (by kernel_rfl) eP ?_)))
     all_goals exact RQ M
  ·rw[if_pos h]at M;rw[N]at hO M ⊢;(repeat' (first|(with_reducible (refine ae (λh=>?_) λh=>?_)<;>(try simp only[DZ]at h))|(with_reducible first|refine ab hV ?_|refine ab hO ?_)|simp only[EV,seval,I,Option.getD_some,Option.isSome_some,h,D]|simp only[EV,seval,I,Option.getD_some,Option.isSome_some,h]|(with_reducible intro O F;(try(have E:=F;simp only[EVK]at E;first|(have D:=AI E D)|(have D:=E))))|(refine aB [] _ hD.v (hU _) (SubN.refl _) (λr σ' V J=>?_);obtain⟨bm,rfl,rfl⟩:=V;(have D:=J);(try simp[Store.keys]at D))|(refine aO bU (l:=gc) (k:=d.it.kind) (z:=.nilFunc) (zv:=.sc .nilFunc) (eT:=107) rfl (cM _) (by kernel_rfl) (by exact bE) (by kernel_rfl) eP ?_)|(exfalso;omega)))
   all_goals exact RQ M
end
def doP_two (u:U) (d:Dd) (I:chg d.it.kind=true) (q:U×Int) (h:d.it.may=true->(one u d.it.at_).2=0->(d.it.kind=0\/(one u d.it.at_).1≠u.id)->doP u d=q):
  doP u d=if d.it.may=false then (u,1)else if (one u d.it.at_).2≠0 then (u,(one u d.it.at_).2)else if d.it.kind=0\/(one u d.it.at_).1≠u.id then q else if d.it.kind=6/\(one u d.it.to_).2≠0 then (u,(one u d.it.to_).2)else (u,9):=by
 by_cases F:d.it.may=false
 ·rw[if_pos F];unfold doP;rw[if_pos (.inr F)]
 ·rw[if_neg F]
  have D:d.it.may=true:=by simpa using F
  by_cases E:(one u d.it.at_).2=0
  ·rw[if_neg (by simpa using E)];by_cases g:d.it.kind=0\/(one u d.it.at_).1≠u.id
   ·rw[if_pos g,h D E g]
   ·rw[if_neg g];rw[not_or,Classical.not_not]at g;unfold doP;rw[if_neg (by simp[I,D]),if_neg (by simpa using E),if_neg g.1,if_pos g.2]
  ·rw[if_pos E];unfold doP;rw[if_neg (by simp[I,D]),if_pos E]
section
variable (G:Glob) (hG:GOk G)
include hG
def f25 (u:U) (N:Good u) (d:Dd) (hs:d.it.Shorts):Pure G Tryz.prog 25 [.agg u.cs,.agg d.cs] (aY (doP u d)):=by
 by_cases hk:0<=d.it.kind/\d.it.kind<=6
 case neg=>
  have O:chg d.it.kind=false:=by unfold chg;simp;omega
  have e:doP u d=(u,1):=by unfold doP;rw[if_pos (.inl O)]
  rw[e];exact qz G u N d hk
 have O:chg d.it.kind=true:=by unfold chg;simp;omega
 obtain⟨V,_⟩:=(o5 d.it).1 hs;have hid:=cB (u:=u) (p:=d.it.at_);have F:(one u d.it.at_).2=0->(fnd (one u d.it.at_).1 u).id=(one u d.it.at_).1:=λh=>(dH u N.nd (hid h)).1;have hw:(one u d.it.at_).2=0->(fnd (one u d.it.at_).1 u).words.length<=256:=λh=>(dQ (N.node _ (aU u N.nd (hid h)))).words.1
 have hh:d.it.kind=0\/d.it.kind=1\/d.it.kind=2\/d.it.kind=3\/d.it.kind=4\/d.it.kind=5\/d.it.kind=6:=by omega
 have T:∀fn q,bt d.it.kind gc=some (fnv fn)->(d.it.may=true->(one u d.it.at_).2=0->(d.it.kind=0\/(one u d.it.at_).1≠u.id)->doP u d=q)->(d.it.may=true->(one u d.it.at_).2=0->(d.it.kind=0\/(one u d.it.at_).1≠u.id)->Pure G Tryz.prog fn [.agg u.cs,.agg (fnd (one u d.it.at_).1 u).cs,.agg d.cs] (aY q))->Pure G Tryz.prog 25 [.agg u.cs,.agg d.cs] (aY (doP u d)):=by
  intro fn q M h2 h3;rw[doP_two u d O q h2];exact apply_of G hG u N d hs fn M q h3
 have I:d.it.may=true->(one u d.it.at_).2=0->(d.it.kind=0\/(one u d.it.at_).1≠u.id)->d.it.kind≠0->(one u d.it.at_).1≠u.id:=λ_ _ h h0=>h.resolve_left h0
 rcases hh with h|h|h|h|h|h|h
 ·refine T 123 (insP u (one u d.it.at_).1 d) (by rw[h];rfl) (λE D _=>?_) (λE D _=>?_)
  ·unfold doP;rw[if_neg (by simp[O,E]),if_neg (by simpa using D),if_pos h]
  ·obtain⟨w0,w3⟩:=eY E (.inl h);exact f123 G hG u N _ d _ (Prod.ext rfl D) h w0 w3 ⟨mN E h,may_cnt E h⟩ V.at_ V.to_
 ·refine T 124 (without (one u d.it.at_).1 u,0) (by rw[h];rfl) (λE D J=>?_) (λE D J=>?_)
  ·have M:=I E D J (by omega);unfold doP;rw[if_neg (by simp[O,E]),if_neg (by simpa using D),if_neg (by omega),if_neg M,if_pos h]
  ·have M:=I E D J (by omega);have:=f124 G u N (fnd (one u d.it.at_).1 u) (by rw[F D];exact hid D) (by rw[F D];exact λe=>M e.symm) d;rw[F D]at this;exact this
 ·refine T 125 (if (bu (fnd (one u d.it.at_).1 u).words d.it d.act d.item).2≠0 then (u,(bu (fnd (one u d.it.at_).1 u).words d.it d.act d.item).2)else (U.wth (one u d.it.at_).1 (λy=>{y with words:=(bu (fnd (one u d.it.at_).1 u).words d.it d.act d.item).1}) u,0)) (by rw[h];rfl) (λE D J=>?_) (λE D J=>?_)
  rotate_left
  ·obtain⟨X,Y,Z,m4,m5⟩:=j2 E (.inl h);have M:=I E D J (by omega);have:=f125 G u N (fnd (one u d.it.at_).1 u) (by rw[F D];exact hid D) d (hw D) h (m4 h) X Y Z;rw[F D]at this;exact this
  ·have M:=I E D J (by omega);unfold doP;rw[if_neg (by simp[O,E]),if_neg (by simpa using D),if_neg (by omega),if_neg M,if_neg (by omega),if_pos (.inl h)]
 ·refine T 126 (if (bu (fnd (one u d.it.at_).1 u).words d.it d.act d.item).2≠0 then (u,(bu (fnd (one u d.it.at_).1 u).words d.it d.act d.item).2)else (U.wth (one u d.it.at_).1 (λy=>{y with words:=(bu (fnd (one u d.it.at_).1 u).words d.it d.act d.item).1}) u,0)) (by rw[h];rfl) (λE D J=>?_) (λE D J=>?_)
  rotate_left
  ·obtain⟨X,Y,Z,m4,m5⟩:=j2 E (.inr h);have M:=I E D J (by omega);have:=f126 G u N (fnd (one u d.it.at_).1 u) (by rw[F D];exact hid D) d (hw D) h X Y (m5 h).1 Z (m5 h).2;rw[F D]at this;exact this
  ·have M:=I E D J (by omega);unfold doP;rw[if_neg (by simp[O,E]),if_neg (by simpa using D),if_neg (by omega),if_neg M,if_neg (by omega),if_pos (.inr h)]
 ·refine T 127 (U.wth (one u d.it.at_).1 (λy=>{y with head:=aL d.act d.item d.it.new 0}) u,0) (by rw[h];rfl) (λE D J=>?_) (λE D J=>?_)
  rotate_left
  ·have:=f127 G u N (fnd (one u d.it.at_).1 u) (by rw[F D];exact hid D) d (lH E h);rw[F D]at this;exact this
  ·have M:=I E D J (by omega);unfold doP;rw[if_neg (by simp[O,E]),if_neg (by simpa using D),if_neg (by omega),if_neg M,if_neg (by omega),if_neg (by omega),if_pos h]
 ·refine T 128 (if bR (parR (one u d.it.at_).1 u).1 (parR (one u d.it.at_).1 u).1.kids {fnd (one u d.it.at_).1 u with label:=d.it.label}=10 then (u,10)else (U.wth (one u d.it.at_).1 (λy=>{y with label:=d.it.label}) u,0)) (by rw[h];rfl) (λE D J=>?_) (λE D J=>?_)
  rotate_left
  ·have M:=I E D J (by omega);have:=f128 G hG u N (fnd (one u d.it.at_).1 u) (by rw[F D]) (by rw[F D];exact hid D) (by rw[F D];exact λe=>M e.symm) d;rw[F D]at this;exact this
  ·have M:=I E D J (by omega);unfold doP;rw[if_neg (by simp[O,E]),if_neg (by simpa using D),if_neg (by omega),if_neg M,if_neg (by omega),if_neg (by omega),if_neg (by omega),if_pos h]
 ·refine T 129 (if (one u d.it.to_).2≠0 then (u,(one u d.it.to_).2)else movP u (one u d.it.at_).1 (one u d.it.to_).1 d) (by rw[h];rfl) (λE D J=>?_) (λE D J=>?_)
  rotate_left
  ·have M:=I E D J (by omega);obtain⟨w0,w3⟩:=eY E (.inr h);exact f129 G hG u N d _ (Prod.ext rfl D) (λe=>M e.symm) h w0 w3 V.at_ V.to_
  ·have M:=I E D J (by omega);unfold doP;rw[if_neg (by simp[O,E]),if_neg (by simpa using D),if_neg (by omega),if_neg M,if_neg (by omega),if_neg (by omega),if_neg (by omega),if_neg (by omega)]
end
def km {e:TypeId} {sz bytes m:Nat} {g:Option Nat} {rows ys:List (List AV)} {K:AV->Store->Prop} (pre κ:Store) (X:∀p∈pre,p.1∉Store.keys (κ++tokS g e m)) (O:∀b,g=some b->b∉κ.keys) (F:m=rows.length*sz) (I:κ.keys.Nodup) (T:(rows.length+ys.length)*bytes<=140737488355328)
  (V:∀E,(∀b,E=some b->b∉κ.keys)->K (.own E e sz (rows++ys)) (κ++tokS E e ((rows++ys).length*sz))):appX e sz bytes (pre++(κ++tokS g e m)) g rows ys K:=by
 subst F
 refine gj κ (λb h=>?_) T ⟨λq M=>?_,λ_=>I⟩ V
 ·have N:=tokF (e:=e) (m:=rows.length*sz) O b h
  have D:b∈Store.keys (κ++tokS g e (rows.length*sz)):=mem_map.2 ⟨_,rv N,rfl⟩;rw[ao]
  ·exact N
  ·intro F;obtain⟨p,J,rfl⟩:=mem_map.1 F;exact X p J D
 ·cases g with
  |none=>exact mem_append.2 (.inr (mem_append.2 (.inl M)))
  |some b=>
   refine mem_filter.2 ⟨mem_append.2 (.inr (mem_append.2 (.inl M))),?_⟩;have:q.1≠b:=λh=>O b rfl (by rw[←h];exact mem_map.2 ⟨q,M,rfl⟩);simpa using this
def kx (q:U×List Ms):AV:=.tup [.agg q.1.cs,.lst 3 (q.2.map Ms.cs)]
def chg_inR (k:Int):inR k 0 6=chg k:=rfl
section
variable (G:Glob) (hG:GOk G)
include hG
set_option maxHeartbeats 4000000 in
def f96 (u:U) (hu:Good u) (l:List Dd) (hl:l.length<1000000) (hs:∀d∈l,d.it.Shorts):Pure G Tryz.prog 96 [.agg u.cs,.lst 28 (l.map Dd.cs)] (kx (allP u l)):=by
 refine Pure.w c96 λR hR=>?_;unfold s96 r96;unfold kx at hR;(repeat' (first|simp only[EV,seval]|(with_reducible intro N E;(try(have F:=E;simp only[EVK]at F;first|(have D:=AI F D)|(have D:=F))))));rename_i V _ _ _;generalize al:N=b4 at*
 have q1:¬b4=V:=by simpa[Store.keys]using E
 have ah:¬V=b4:=λe=>q1 e.symm;refine ap (ι:=U×List Ms×Option Nat) l (λi r c=>Good c.1/\allP u l=((allP c.1 r).1,c.2.1++(allP c.1 r).2)/\c.2.1.length<=i/\(∀d,c.2.2=some d->d∉Store.keys [(b4,AObj.cells 27 zU),(V,.cells 27 zU)])) (λi c=>[(2,.p V),(4,.p b4),(6,.own c.2.2 93 3 (c.2.1.map Ms.cs)),(11,.lst 28 (l.map Dd.cs)),(12,.i l.length),(13,.i i)]) (λi c=>[(b4,.cells 27 zU),(V,.cells 27 c.1.cs)]++tokS c.2.2 93 (c.2.1.length*3)) (u,[],none) ⟨hu,by simp,by simp,by simp⟩ (Weak.of (by simp[cj,Env.get,AVle,aH]) (SubN.refl _)) (by omega) (λi x r c T I hw=>?_) (λc T hn=>?_)
 ·obtain⟨o1,M,o3,o4⟩:=T;have O:=f54 G x.it.kind;rw[chg_inR]at O;have X:=f25 G hG c.1 o1 x (hs x I.mem);have J:=fX o1 x;have an:=I.lt;rw[gb]at M;unfold aY at X;unfold de at M J
  cases Z:chg x.it.kind with
  |false=>
   rw[Z]at O;rw[Z,if_pos rfl]at M J;(repeat' (first|(with_reducible refine ab O ?_)|simp only[EV,seval,I.yes,I.le0,I.lt',I.get,I.row,hw,Dd.cs,eH,D]|(with_reducible intro N E;(try(have F:=E;simp only[EVK]at F;(have D:=AI F D))))));exact ak I c ⟨o1,by simpa using M,by omega,o4⟩ (Weak.sub (SubN.tail (SubN.refl _) _))
  |true=>
   rw[Z]at O;rw[Z,if_neg (by simp)]at M J;obtain⟨⟨v,e⟩,ad⟩:∃z,doP c.1 x=z:=⟨_,rfl⟩;rw[ad]at X M J;unfold kw at M J;simp only[Dd.cs,eH]at X
   rcases Classical.em (e=0)with he|he
   ·subst he;(repeat' (first|(with_reducible first|refine ab O ?_|refine ab X ?_)|simp only[EV,seval,I.yes,I.le0,I.lt',I.get,I.row,hw,Dd.cs,eH,D]|(with_reducible intro N E;(try(have F:=E;simp only[EVK]at F;(have D:=AI F D))))));exact ak I (v,c.2.1,c.2.2) ⟨J.1,by simpa using M,Nat.le_succ_of_le o3,o4⟩ (Weak.sub (SubN.tail (SubN.tail (SubN.refl _) _) _))
   ·(repeat' (first|(with_reducible (refine ae (λh=>?_) λh=>?_)<;>(try simp only[DZ]at h))|(with_reducible first|refine ab O ?_|refine ab X ?_)|simp only[EV,seval,I.yes,I.le0,I.lt',I.get,I.row,hw,Dd.cs,eH,he,D]|(with_reducible intro N E;(try(have F:=E;simp only[EVK]at F;(have D:=AI F D))))|(exfalso;omega)));clear X O;rename_i b8 _ _ _ b9 _ _ _;obtain⟨n1,n2,n3,n4⟩:=D
    have ac:∀d,c.2.2=some d->d∈(tokS c.2.2 93 (c.2.1.length*3)).keys:=by
     intro d Y;rw[Y];simp[tokS,Store.keys]
    refine⟨[Ms.cs ⟨x.act,x.item,e⟩],rfl,by simp[Ms.cs],by simp[Ms.cs],?_⟩;refine km (sz:=3) (bytes:=24) (rows:=c.2.1.map Ms.cs) (ys:=[Ms.cs ⟨x.act,x.item,e⟩]) (m:=c.2.1.length*3) [(N,_)] [(b9,_),(b8,_),(b4,_),(V,_)] ?_ ?_ (by rw[length_map]) ?_ (by rw[length_map];simp;omega) (λgn aa=>?_)
    ·intro p hp;simp only[mem_singleton]at hp;subst hp;simp[Store.keys,n1];simpa[Store.keys]using n1.2.2.2.2
    ·intro d Y;have h1:=ac d Y;have h2:=o4 d Y;simp[Store.keys]at h2 ⊢;refine⟨λq=>n2.2.2.2 (q ▸ h1),λq=>n3.2.2 (q ▸ h1),h2.1,h2.2⟩
    ·simp[Store.keys,n2,n3,q1]
    (repeat' (simp only[EV,seval,n1,n2,n3,q1,ah,hw,D]));refine ak I (v,c.2.1++[⟨x.act,x.item,e⟩],gn) ⟨J.1,by simpa[he]using M,?_,?_⟩ ?_
    ·rw[length_append];exact Nat.succ_le_succ o3
    ·intro d Y;have:=aa d Y;simp[Store.keys]at this ⊢;exact⟨this.2.2.1,this.2.2.2⟩
    ·simp only[map_append,map_cons,map_nil,length_append,length_map,length_cons,length_nil];exact Weak.sub (SubN.tail (SubN.tail (SubN.refl _) _) _)
 ·(repeat' (simp only[EV,seval,hn,D]));obtain⟨o1,M,o3,o4⟩:=T;simp only[allP,append_nil]at M;rw[M]at hR;exact hR _ _ (.inr ⟨uK _,.inr ⟨rfl,rfl⟩,trivial⟩)
end
section
variable (G:Glob) (hG:GOk G)
end
structure MvOk (u:U) (i t:Idd) (wh:Int) (P:U) (dp:Nat):Prop where
 kids:P.kids.length<=64
 dp:dp<=2000
 here:fnd P.id u=P
 out:t≠i->P.id∈(without i u).ids
 pos:t≠i->wh=2\/wh=3->∃n,firstAt (λk=>decide (k.id=t)) (fnd P.id (without i u)).kids=some n
 few:t≠i->(fnd P.id (without i u)).kids.length<=64
def mC {α:Type} {p:α->Bool}:∀{l:List α} {x},x∈l->p x=true->∃n,firstAt p l=some n
 |[],x,h,_=>by cases h
 |a::l,x,h,hp=>by
  rw[firstAt];by_cases D:p a=true
  ·rw[if_pos D];exact⟨0,rfl⟩
  ·rw[if_neg D]
   rcases mem_cons.1 h with rfl|h'
   ·exact absurd hp D
   ·obtain⟨n,e⟩:=mC h' hp;rw[e];exact⟨n+1,rfl⟩
def rest_ids {u:U} (T:u.ids.Nodup) {i:Idd} {own:U} {d j:Nat} (w1:aQ i u=some (own,d,j)) (N:Par i u own d j) {P:U} (X:P.id∈u.ids) (O:fnd P.id u=P) (V:P.id∉(fnd i u).ids):
  (fnd P.id (without i u)).kids.map U.id=(cN P own j).map U.id:=by
 obtain⟨a,x,b,s,hx,Z,hl⟩:=N.split
 have M:fnd i u=x:=aI hl
 rw[M]at V
 subst Z
 have Y:without i u=U.wth own.id (λy=>{y with kids:=aN y.kids a.length}) u:=by unfold without;rw[w1]
 rw[Y]
 have D:=jH (t:=P.id) T N s.eq V
 obtain⟨F,I⟩:∃F:U->U,F=λy=>{y with kids:=aN y.kids a.length}:=⟨_,rfl⟩
 rw[←I]at D ⊢
 have J:fnd P.id (U.wth own.id F u)=U.wth own.id F P:=by
  refine aI ?_;rw[D,getLast?_map,(dH u T X).2,O];rfl
 rw[J]
 unfold cN
 by_cases E:own.id=P.id
 ·have e:P=own:=by rw[←O,←E,N.fnd]
  subst e;rw[if_pos rfl,bz rfl,I]
 ·rw[if_neg E,sh,if_neg (Ne.symm E)]
  simp only;exact kd U.id (ez U.id (λy=>by rw[I]) λ_ _=>rfl) P.kids
def mv_ok {u:U} (F:Good u) {i t:Idd} (hi:i∈u.ids) (M:i≠u.id) {wh:Int} {P:U} {dp k:Nat} (g:Goal u t wh P dp k) (Z:t≠i->t∉(fnd i u).ids):MvOk u i t wh P dp:=by
 have V:P∈u.flat:=by
  have:=aU u F.nd g.mem;rw[g.here]at this;exact this
 have hk:=cy (F.node _ V);obtain⟨own,d,j,w1,w2,T⟩:=br F.nd hi (Ne.symm M);obtain⟨J,-,-,A,B,-,hA,hB⟩:=fy F hi (Ne.symm M)
 have E:t≠i->P.id∈(without i u).ids:=by
  intro h;have I:=g.out i hi (Z h);have D:=g.mem;rw[hA,mem_append,mem_append]at D;rw[hB,mem_append]
  rcases D with D|D|D
  ·exact .inl D
  ·exact absurd D I
  ·exact .inr D
 refine⟨hk,?_,g.here,E,?_,?_⟩
 ·have I:=(j1 (f:=λy=>y) u F.nd g.mem).2;have D:=g.deep;have h3:=F.dep;omega
 ·intro h hw;have hr:=rest_ids F.nd w1 T g.mem g.here (g.out i hi (Z h));have N:=g.pos
  rcases N with⟨e,_⟩|⟨e,_⟩|⟨_,j',a,y,b,X,O,e3,e4,_⟩
  ·omega
  ·omega
  ·have Y:t∈(cN P own j).map U.id:=by
    unfold cN;split
    ·next ho=>
     have e:P=own:=by rw[←g.here,←ho,T.fnd]
     obtain⟨a',x,b',s,hx,hj,hl⟩:=T.split;subst e;subst hj;rw[s.eq,bM]
     have:y∈a'++x::b':=by rw[←s.eq,X];simp
     rw[mem_map];refine⟨y,?_,O⟩;rw[mem_append,mem_cons]at this;rw[mem_append]
     rcases this with I|rfl|I
     ·exact .inl I
     ·exact absurd (O.symm.trans hx) h
     ·exact .inr I
    ·rw[X];exact mem_map.2 ⟨y,by simp,O⟩
   rw[←hr,mem_map]at Y;obtain⟨z,hz,he⟩:=Y;exact mC hz (decide_eq_true he)
 ·intro h;have:=aU (without i u) J.nd (E h);exact cy (J.node _ this)
end Go.Av
