/-
  ENACT, M31: an item applied.
-/
import Derived.Test.YtppjieiiibgagaaGreatDoorWXZ0toXM30
import Derived.Test.YtppjieiiibgagaaGreatDoorWXL32toXL54
import Derived.Test.YtppjieiiibgagaaGreatDoorWXM26toXM19
import Derived.Test.YtppjieiiibgagaaGreatDoorWXM20toXR4
set_option linter.all false
namespace Go.Av
open Go Go.RowKit Go.Proofs List
def fH:List (Int×AV):=[(0,fnv 123),(1,fnv 124),(2,fnv 125),(3,fnv 126),(4,fnv 127),(5,fnv 128),(6,fnv 129)]
def db:∀τ w,Rep τ w (.sc .nilFunc) .nilFunc:=by
 intro τ w;simp only[Rep]
def do_none {k:Int} (h:¬(0<=k/\k<=6)):bi k fH=none:=by
 simp only[fH,bi];rw[if_neg (by omega),if_neg (by omega),if_neg (by omega),if_neg (by omega),if_neg (by omega),if_neg (by omega),if_neg (by omega)]
def may_cnt {x:Itm} (h:x.may=true) (F:x.kind=0):x.unit.flat.length<=1024:=by
 have:=ij h;unfold Itm.own at this;simp only[F,if_true,Bool.and_eq_true]at this;have D:=this.2.1;rw[i7]at D;unfold ib bS at D;simp only[Bool.and_eq_true,decide_eq_true_eq]at D;have E:=D.1.2.2.1;unfold U.cnt at E;omega
def jQ {x:Itm} (h:x.may=true) (E:x.kind=2\/x.kind=3):x.old.length<=256/\x.new.length<=256/\(0<=x.nth/\x.nth<=256)/\(x.kind=2->x.old≠[])/\(x.kind=3->1<=x.new.length/\(x.old=[]->x.nth=0)):=by
 have:=ij h;unfold Itm.own de inR at this
 rcases E with E|E
 ·rw[if_neg (by omega),if_pos E]at this;simp only[Bool.and_eq_true,decide_eq_true_eq]at this;obtain⟨⟨F,I⟩,⟨J,M⟩,c1,c2⟩:=this;refine⟨(dQ F).2,(dQ J).2,⟨c1,c2⟩,λ_ e=>?_,λe=>?_⟩
  ·rw[e]at I;simp at I
  ·omega
 ·rw[if_neg (by omega),if_neg (by omega),if_pos E]at this;simp only[Bool.and_eq_true,Bool.or_eq_true,decide_eq_true_eq]at this;obtain⟨⟨F,I⟩,⟨J,M⟩,⟨c1,c2⟩,D⟩:=this;refine⟨(dQ F).2,(dQ J).2,⟨c1,c2⟩,λe=>?_,λ_=>⟨by omega,λe=>?_⟩⟩
  ·omega
  ·rcases D with D|D
   ·rw[e]at D;simp at D
   ·exact D
def lG {x:Itm} (h:x.may=true) (D:x.kind=4):x.new.length<=256:=(dQ (oo h (.inr (.inr D)))).2
section
variable (G:Glob) (hG:GOk G)
include hG
omit hG in
def f59:aj G Tryz.prog 59 [] [] (λr σ=>∃b,r= .sc (.map (some b))/\σ=[(b,.map (cD intK fH))]):=by
 refine aj.w c59 ?_;unfold s59 r59;(try simp only[EV,seval]);refine dn ?_;intro b D;(try simp only[EV,seval]);refine cV bt (l:=[]) (k:=0) (eT:=107) rfl (gV 0) rfl (by kernel_rfl) aW ?_;(repeat' (first|simp only[EV,seval]|(refine cV bt (eT:=107) rfl (gV _) rfl (by kernel_rfl) aW ?_)));exact RET.mk (SubN.refl _) ⟨b,rfl,rfl⟩
omit hG in
set_option maxHeartbeats 8000000 in
def qv (u:U) (Z:Good u) (d:Dd) (X:¬(0<=d.it.kind/\d.it.kind<=6)):Pure G Tryz.prog 25 [.agg u.cs,.agg d.cs] (aV (u,1)):=by
 have O:=f59 G;have F:=do_none X;have J:=b0 u;unfold Dd.cs aV;rw[dT,J];refine Pure.w c25 λR T=>?_;unfold s25 r25;(repeat' (first|simp only[EV,seval,F,Option.getD_none,Option.isSome_none,D]|simp only[EV,seval,F,Option.getD_none,Option.isSome_none]|(with_reducible intro N E;(try(have I:=E;simp only[EVK]at I;(have D:=I))))|(refine aC [] _ O.v (hH _) (SubN.refl _) (λr σ' V M=>?_);obtain⟨Y,rfl,rfl⟩:=V;(have D:=M);(try simp[Store.keys]at D))|(refine aO bt (l:=fH) (k:=d.it.kind) (z:=.nilFunc) (zv:=.sc .nilFunc) (eT:=107) rfl (bZ _) (by kernel_rfl) (by exact aW) (by kernel_rfl) db ?_)))
 all_goals exact RQ T
set_option maxHeartbeats 8000000 in
def apply_of (u:U) (hu:Good u) (d:Dd) (hs:d.it.Shorts) (fn:Nat) (I:bi d.it.kind fH=some (fnv fn)) (q:U×Int)
  (hq:d.it.may=true->(one u d.it.at_).2=0->(d.it.kind=0\/(one u d.it.at_).1≠u.id)->Pure G Tryz.prog fn [.agg u.cs,.agg (fnd (one u d.it.at_).1 u).cs,.agg d.cs] (aV q)):
  Pure G Tryz.prog 25 [.agg u.cs,.agg d.cs] (aV (if d.it.may=false then (u,1)else if (one u d.it.at_).2≠0 then (u,(one u d.it.at_).2)else if d.it.kind=0\/(one u d.it.at_).1≠u.id then q else if d.it.kind=6/\(one u d.it.to_).2≠0 then (u,(one u d.it.to_).2)else (u,9))):=by
 have aa:=hu.short
 obtain⟨q1,_⟩:=(rI d.it).1 hs
 have hV:=f60 G hG d.it hs
 have hO:=f26 G u d.it.at_ aa.1 hu.cnt q1.at_
 have T:=f26 G u d.it.to_ aa.1 hu.cnt q1.to_
 have hD:=f59 G
 have hid:=bH (u:=u) (p:=d.it.at_)
 have ac:=λi=>f27 G i u aa
 unfold gQ at hO T
 obtain⟨⟨i,e⟩,ah⟩:∃z,one u d.it.at_=z:=⟨_,rfl⟩
 obtain⟨⟨t,e'⟩,an⟩:∃z,one u d.it.to_=z:=⟨_,rfl⟩
 rw[ah]at hO hid hq ⊢
 rw[an]at T ⊢
 simp only at hO T hid hq ⊢
 obtain⟨mv,al⟩:∃b,d.it.may=b:=⟨_,rfl⟩
 rw[al]at hV hq ⊢
 have N:=b0 u
 obtain⟨f,hf⟩:∃f,fnv fn= .sc f:=⟨_,rfl⟩
 have ad:f= .func (.func fn) #[] #[]:=by unfold fnv at hf;injection hf with hf;exact hf.symm
 rw[hf]at I
 unfold Dd.cs at hq ⊢
 rw[dT]at hV hq ⊢
 unfold aV at hq ⊢
 refine Pure.w c25 λR M=>?_
 unfold s25 r25
 cases mv with
 |false=>
  rw[if_pos rfl]at M;rw[N]at M ⊢;(repeat' (first|(with_reducible refine ab hV ?_)|simp only[EV,seval,I,Option.getD_some,Option.isSome_some,D]|simp only[EV,seval,I,Option.getD_some,Option.isSome_some]|(with_reducible intro O F;(try(have E:=F;simp only[EVK]at E;(have D:=E))))|(refine aC [] _ hD.v (hH _) (SubN.refl _) (λr σ' V J=>?_);obtain⟨bm,rfl,rfl⟩:=V;(have D:=J);(try simp[Store.keys]at D))|(refine aO bt (l:=fH) (k:=d.it.kind) (z:=.nilFunc) (zv:=.sc .nilFunc) (eT:=107) rfl (bZ _) (by kernel_rfl) (by exact aW) (by kernel_rfl) db ?_)))
  all_goals exact RQ M
 |true=>
  rw[if_neg (by simp)]at M
  rcases Classical.em (e=0)with h|h
  ·subst h;rw[if_neg (by simp)]at M;have hi:=hid rfl;have Z:=ac i;unfold iL at Z;rw[gw hi,if_neg (by simp)]at Z;clear ac hid;obtain⟨X,hX⟩:∃X,fnd i u=X:=⟨_,rfl⟩;rw[hX]at Z hq
   rcases Classical.em (d.it.kind=0\/i≠u.id)with g|g
   ·rw[if_pos g]at M;have hC:=(hq rfl rfl g).v;rw[←ad]at hC;rw[N]at hO Z hC ⊢;simp only[Idd.cs]at Z
    rcases Classical.em (i=u.id)with g1|g1
    ·have g0:d.it.kind=0:=g.resolve_right (λh=>h g1);have Y:decide (i=u.id)=true:=decide_eq_true g1;have e2:decide (d.it.kind=0)=true:=decide_eq_true g0;(repeat' (first|(with_reducible first|refine ab hV ?_|refine ab hO ?_|refine ab Z ?_)|simp only[EV,seval,I,Option.getD_some,Option.isSome_some,am,Y,e2,D]|simp only[EV,seval,I,Option.getD_some,Option.isSome_some,am,Y,e2]|(with_reducible intro O F;(try(have E:=F;simp only[EVK]at E;first|(have D:=AI E D)|(have D:=E))))|(refine aC [] _ hD.v (hH _) (SubN.refl _) (λr σ' V J=>?_);obtain⟨bm,rfl,rfl⟩:=V;(have D:=J);(try simp[Store.keys]at D))|(refine aO bt (l:=fH) (k:=d.it.kind) (z:=.nilFunc) (zv:=.sc .nilFunc) (eT:=107) rfl (bZ _) (by kernel_rfl) (by exact aW) (by kernel_rfl) db ?_)|(refine aP hC ?_)))
     all_goals exact RQ M
    ·have Y:decide (i=u.id)=false:=decide_eq_false g1;(repeat' (first|(with_reducible first|refine ab hV ?_|refine ab hO ?_|refine ab Z ?_)|simp only[EV,seval,I,Option.getD_some,Option.isSome_some,am,Y,D]|simp only[EV,seval,I,Option.getD_some,Option.isSome_some,am,Y]|(with_reducible intro O F;(try(have E:=F;simp only[EVK]at E;first|(have D:=AI E D)|(have D:=E))))|(refine aC [] _ hD.v (hH _) (SubN.refl _) (λr σ' V J=>?_);obtain⟨bm,rfl,rfl⟩:=V;(have D:=J);(try simp[Store.keys]at D))|(refine aO bt (l:=fH) (k:=d.it.kind) (z:=.nilFunc) (zv:=.sc .nilFunc) (eT:=107) rfl (bZ _) (by kernel_rfl) (by exact aW) (by kernel_rfl) db ?_)|(refine aP hC ?_)))
     all_goals exact RQ M
   ·rw[if_neg g]at M;rw[not_or,Classical.not_not]at g;obtain⟨g0,g1⟩:=g;have Y:decide (i=u.id)=true:=decide_eq_true g1;have e2:decide (d.it.kind=0)=false:=decide_eq_false g0;rw[N]at hO T Z ⊢;simp only[Idd.cs]at Z
    rcases Classical.em (d.it.kind=6)with k6|k6
    ·have e3:decide (d.it.kind=6)=true:=decide_eq_true k6
     rcases Classical.em (e'=0)with h'|h'
     ·subst h';rw[if_neg (by simp)]at M;simp only at M;rw[N]at M;(repeat' (first|(with_reducible first|refine ab hV ?_|refine ab hO ?_|refine ab T ?_|refine ab Z ?_)|simp only[EV,seval,I,Option.getD_some,Option.isSome_some,am,Y,e2,e3,D]|simp only[EV,seval,I,Option.getD_some,Option.isSome_some,am,Y,e2,e3]|(with_reducible intro O F;(try(have E:=F;simp only[EVK]at E;first|(have D:=AI E D)|(have D:=E))))|(refine aC [] _ hD.v (hH _) (SubN.refl _) (λr σ' V J=>?_);obtain⟨bm,rfl,rfl⟩:=V;(have D:=J);(try simp[Store.keys]at D))|(refine aO bt (l:=fH) (k:=d.it.kind) (z:=.nilFunc) (zv:=.sc .nilFunc) (eT:=107) rfl (bZ _) (by kernel_rfl) (by exact aW) (by kernel_rfl) db ?_)))
      all_goals exact RQ M
     ·rw[if_pos ⟨k6,h'⟩]at M;simp only at M;rw[N]at M;(repeat' (first|(with_reducible (refine ae (λh=>?_) λh=>?_)<;>(try simp only[DZ]at h))|(with_reducible first|refine ab hV ?_|refine ab hO ?_|refine ab T ?_|refine ab Z ?_)|simp only[EV,seval,I,Option.getD_some,Option.isSome_some,am,Y,e2,e3,h',D]|simp only[EV,seval,I,Option.getD_some,Option.isSome_some,am,Y,e2,e3,h']|(with_reducible intro O F;(try(have E:=F;simp only[EVK]at E;first|(have D:=AI E D)|(have D:=E))))|(refine aC [] _ hD.v (hH _) (SubN.refl _) (λr σ' V J=>?_);obtain⟨bm,rfl,rfl⟩:=V;(have D:=J);(try simp[Store.keys]at D))|(refine aO bt (l:=fH) (k:=d.it.kind) (z:=.nilFunc) (zv:=.sc .nilFunc) (eT:=107) rfl (bZ _) (by kernel_rfl) (by exact aW) (by kernel_rfl) db ?_)|(exfalso;omega)))
      all_goals exact RQ M
    ·have e3:decide (d.it.kind=6)=false:=decide_eq_false k6;rw[if_neg (λh=>k6 h.1)]at M;simp only at M;rw[N]at M;(repeat' (first|(with_reducible first|refine ab hV ?_|refine ab hO ?_|refine ab Z ?_)|simp only[EV,seval,I,Option.getD_some,Option.isSome_some,am,Y,e2,e3,D]|simp only[EV,seval,I,Option.getD_some,Option.isSome_some,am,Y,e2,e3]|(with_reducible intro O F;(try(have E:=F;simp only[EVK]at E;first|(have D:=AI E D)|(have D:=E))))|(refine aC [] _ hD.v (hH _) (SubN.refl _) (λr σ' V J=>?_);obtain⟨bm,rfl,rfl⟩:=V;(have D:=J);(try simp[Store.keys]at D))|(refine aO bt (l:=fH) (k:=d.it.kind) (z:=.nilFunc) (zv:=.sc .nilFunc) (eT:=107) rfl (bZ _) (by kernel_rfl) (by exact aW) (by kernel_rfl) db ?_)))
     all_goals exact RQ M
  ·rw[if_pos h]at M;rw[N]at hO M ⊢;(repeat' (first|(with_reducible (refine ae (λh=>?_) λh=>?_)<;>(try simp only[DZ]at h))|(with_reducible first|refine ab hV ?_|refine ab hO ?_)|simp only[EV,seval,I,Option.getD_some,Option.isSome_some,h,D]|simp only[EV,seval,I,Option.getD_some,Option.isSome_some,h]|(with_reducible intro O F;(try(have E:=F;simp only[EVK]at E;first|(have D:=AI E D)|(have D:=E))))|(refine aC [] _ hD.v (hH _) (SubN.refl _) (λr σ' V J=>?_);obtain⟨bm,rfl,rfl⟩:=V;(have D:=J);(try simp[Store.keys]at D))|(refine aO bt (l:=fH) (k:=d.it.kind) (z:=.nilFunc) (zv:=.sc .nilFunc) (eT:=107) rfl (bZ _) (by kernel_rfl) (by exact aW) (by kernel_rfl) db ?_)|(exfalso;omega)))
   all_goals exact RQ M
end
section
variable (G:Glob)
set_option maxHeartbeats 8000000 in
def f31 (u:U) (hu:Good u) (d:Dd) (hs:d.it.Shorts):Pure G Tryz.prog 31 [.agg u.cs,.agg d.cs] (aV (doR u d)):=by
 obtain⟨q1,_⟩:=(rI d.it).1 hs;have ad:=hu.short.1;have hC:=f29 G d.it.kind;have V:=f30 G d.it hs;have hO:=f32 G u d.it.at_ ad hu.cnt q1.at_ q1.atl;unfold gQ at hO;have aa:=b0 u;have hid:=bH (u:=u) (p:=d.it.at_);obtain⟨R0,ac⟩:∃R0,doR u d=R0:=⟨_,rfl⟩;by_cases ah:chg d.it.kind=false\/d.it.may=false
 ·have e:R0=(u,1):=by rw[←ac];unfold doR;rw[if_pos ah]
  rw[ac,e];unfold Dd.cs aV;simp only;rw[dT]at V ⊢;rw[aa];refine Pure.w c31 λR N=>?_;unfold s31 r31;(repeat' (first|(with_reducible (first|refine ae (λh=>?_) λh=>?_|refine ai (λh=>?_) λh=>?_)<;>(try simp only[DZ]at h))|(with_reducible first|refine ab hC ?_|refine ab V ?_)|simp only[EV,seval,E]|simp only[EV,seval]|(with_reducible intro Y I;(try(have D:=I;simp only[EVK]at D;(have E:=D))))|fail))
  all_goals first|exact RQ N|(exfalso;simp_all;done)
 rw[not_or,Bool.not_eq_false,Bool.not_eq_false]at ah;obtain⟨hc,hm⟩:=ah;rw[hc]at hC;rw[hm]at V;obtain⟨⟨i,e⟩,an⟩:∃z,one u d.it.at_=z:=⟨_,rfl⟩;rw[an]at hO hid;have J:=ac;unfold doR at J;rw[if_neg (by simp[hc,hm]),an]at J;simp only at hO hid J;have bd:∀a b:Int,decide (a=b)=true↔a=b:=λa b=>decide_eq_true_iff
 rcases Classical.em (e=0)with he|he
 case inr=>
  rw[if_pos he]at J;have Z:decide (e≠0)=true:=decide_eq_true he;rw[ac,←J];unfold Dd.cs aV;simp only;rw[dT]at V ⊢;rw[aa]at hO ⊢;refine Pure.w c31 λR N=>?_;unfold s31 r31;(repeat' (first|(with_reducible first|refine ab hC ?_|refine ab V ?_|refine ab hO ?_)|simp only[EV,seval,Z,E]|simp only[EV,seval,Z]|(with_reducible intro Y I;(try(have D:=I;simp only[EVK]at D;first|(have E:=AI D E)|(have E:=D))))|fail))
  all_goals exact RQ N
 subst he;have hi:=hid rfl;rw[if_neg (by simp)]at J
 have hk:d.it.kind=0\/d.it.kind=1\/d.it.kind=2\/d.it.kind=3\/d.it.kind=4\/d.it.kind=5\/d.it.kind=6:=by
  have:chg d.it.kind=true:=hc;unfold chg at this;simp at this;omega
 have Z:decide ((0:Int)≠0)=false:=decide_eq_false (by simp)
 rcases Classical.em (d.it.kind=0\/d.it.kind=6)with hk0|hk0
 ·obtain⟨w0,w3⟩:=dU hm hk0
  have M:∃fn,(d.it.kind=0/\fn=80\/d.it.kind=6/\fn=81)/\Pure G Tryz.prog fn [.agg u.cs,.agg i.cs,.agg d.cs] (aV R0):=by
   rcases hk0 with h|h
   ·rw[if_pos h]at J;rw[←J];exact⟨_,.inl ⟨h,rfl⟩,f80 G u hu i hi d w0 w3 ⟨jO hm h,may_cnt hm h⟩⟩
   ·rw[if_neg (by omega),if_pos h]at J;rw[←J];exact⟨_,.inr ⟨h,rfl⟩,f81 G u hu i hi d w0 w3 q1.to_ q1.tol⟩
  rw[ac];obtain⟨fn,hf,M⟩:=M;unfold Dd.cs aV at M ⊢;rw[dT]at V M ⊢;rw[aa]at hO M ⊢;simp only[Idd.cs]at M;refine Pure.w c31 λR N=>?_;unfold s31 r31
  rcases hf with⟨F,rfl⟩|⟨F,rfl⟩
  all_goals rw[F]at hC V M
  all_goals(repeat' (first|(with_reducible first|refine ab hC ?_|refine ab V ?_|refine ab hO ?_|refine ab M ?_)|simp only[EV,seval,Z,F,E]|simp only[EV,seval,Z,F]|(with_reducible intro Y I;(try(have D:=I;simp only[EVK]at D;first|(have E:=AI D E)|(have E:=D))))|fail))
  all_goals exact RQ N
 rw[if_neg λh=>hk0 (.inl h),if_neg λh=>hk0 (.inr h)]at J
 have F:d.it.kind=1\/d.it.kind=2\/d.it.kind=3\/d.it.kind=4\/d.it.kind=5:=by omega
 rcases Classical.em (i=u.id)with hiu|hiu
 ·rw[if_pos hiu]at J;have e0:decide (i=u.id)=true:=decide_eq_true hiu;have g0:decide (d.it.kind=0)=false:=decide_eq_false (by omega);have g6:decide (d.it.kind=6)=false:=decide_eq_false (by omega);rw[ac,←J];unfold Dd.cs aV;simp only;rw[dT]at V ⊢;rw[aa]at hO ⊢;refine Pure.w c31 λR N=>?_;unfold s31 r31;(repeat' (first|(with_reducible first|refine ab hC ?_|refine ab V ?_|refine ab hO ?_)|simp only[EV,seval,Z,e0,g0,g6,am,E]|simp only[EV,seval,Z,e0,g0,g6,am]|(with_reducible intro Y I;(try(have D:=I;simp only[EVK]at D;first|(have E:=AI D E)|(have E:=D))))|fail))
  all_goals exact RQ N
 rw[if_neg hiu]at J;have e0:decide (i=u.id)=false:=decide_eq_false hiu;obtain⟨p,dO,j,w1,w2,bh⟩:=aU hu.nd hi (Ne.symm hiu);obtain⟨hj,aw,_⟩:=er hu i _ w1;simp only at hj aw;have hP:=f83 G i u ad;unfold iP at hP;rw[eD u hu.nd hi,w1]at hP;rw[w2]at J;simp only at hP J;have O:=f82 G i u ad;obtain⟨ni,be,bb⟩:=(lP i u).1 hi;rw[bb]at O;have al:=(dr (hu.node _ (aJ u hu.nd hi))).words.1;obtain⟨X,hX⟩:∃X,fnd i u=X:=⟨_,rfl⟩;rw[hX]at O J al;have T:=λy=>f85 G y u ad;rw[b0 p]at hP;rw[b0 X]at O;rw[aa]at hP O T hO;simp only[Idd.cs]at hP O;rw[ac];unfold Dd.cs aV;rw[dT]at V ⊢;rw[aa]
 rcases F with F|F|F|F|F
 ·have M:=f84 G p.kids j hj (by omega);have hB:=T {p with kids:=aG p.kids j};rw[b0 {p with kids:=aG p.kids j}]at hB;rw[if_pos F]at J;rw[←J];rw[F]at hC V;refine Pure.w c31 λR N=>?_;unfold s31 r31;(repeat' (first|(with_reducible first|refine ab hC ?_|refine ab V ?_|refine ab hO ?_|refine ab O ?_|refine ab hP ?_|refine ab M ?_|refine ab hB ?_)|simp only[EV,seval,Z,e0,F,am,E]|simp only[EV,seval,Z,e0,F,am]|(with_reducible intro Y I;(try(have D:=I;simp only[EVK]at D;first|(have E:=AI D E)|(have E:=D))))|fail))
  all_goals exact RQ N
 ·obtain⟨m1,m2,m3,m4,m5⟩:=jQ hm (.inl F);have M:=f86 G X.words d.it d.act d.item al m2 m1 (.inl F) m4 m3 λh h'=>(m5 h).2 h';rw[if_neg (by omega),if_pos (.inl F)]at J;obtain⟨⟨w',f⟩,hq⟩:∃q,bj X.words d.it d.act d.item=q:=⟨_,rfl⟩;have hB:=T {X with words:=w'};rw[b0 {X with words:=w'}]at hB;unfold fy at M;rw[hq]at J M;simp only at J M;rw[dT]at M;rw[F]at hC V M;refine Pure.w c31 λR N=>?_;unfold s31 r31
  rcases Classical.em (f=0)with hf|hf
  ·have e2:decide (f≠0)=false:=decide_eq_false (by simp[hf]);rw[if_neg (by simp[hf])]at J;rw[←J]at N;(repeat' (first|(with_reducible first|refine ab hC ?_|refine ab V ?_|refine ab hO ?_|refine ab O ?_|refine ab hP ?_|refine ab M ?_|refine ab hB ?_)|simp only[EV,seval,Z,e0,e2,F,am,E]|simp only[EV,seval,Z,e0,e2,F,am]|(with_reducible intro Y I;(try(have D:=I;simp only[EVK]at D;first|(have E:=AI D E)|(have E:=D))))|fail))
   all_goals exact RQ N
  ·have e2:decide (f≠0)=true:=decide_eq_true hf;rw[if_pos hf]at J;rw[←J]at N;simp only at N;rw[aa]at N;(repeat' (first|(with_reducible first|refine ab hC ?_|refine ab V ?_|refine ab hO ?_|refine ab O ?_|refine ab hP ?_|refine ab M ?_)|simp only[EV,seval,Z,e0,e2,F,am,E]|simp only[EV,seval,Z,e0,e2,F,am]|(with_reducible intro Y I;(try(have D:=I;simp only[EVK]at D;first|(have E:=AI D E)|(have E:=D))))|fail))
   all_goals exact RQ N
 ·obtain⟨m1,m2,m3,m4,m5⟩:=jQ hm (.inr F);have M:=f86 G X.words d.it d.act d.item al m2 m1 (.inr F) m4 m3 λh h'=>(m5 h).2 h';rw[if_neg (by omega),if_pos (.inr F)]at J;obtain⟨⟨w',f⟩,hq⟩:∃q,bj X.words d.it d.act d.item=q:=⟨_,rfl⟩;have hB:=T {X with words:=w'};rw[b0 {X with words:=w'}]at hB;unfold fy at M;rw[hq]at J M;simp only at J M;rw[dT]at M;rw[F]at hC V M;refine Pure.w c31 λR N=>?_;unfold s31 r31
  rcases Classical.em (f=0)with hf|hf
  ·have e2:decide (f≠0)=false:=decide_eq_false (by simp[hf]);rw[if_neg (by simp[hf])]at J;rw[←J]at N;(repeat' (first|(with_reducible first|refine ab hC ?_|refine ab V ?_|refine ab hO ?_|refine ab O ?_|refine ab hP ?_|refine ab M ?_|refine ab hB ?_)|simp only[EV,seval,Z,e0,e2,F,am,E]|simp only[EV,seval,Z,e0,e2,F,am]|(with_reducible intro Y I;(try(have D:=I;simp only[EVK]at D;first|(have E:=AI D E)|(have E:=D))))|fail))
   all_goals exact RQ N
  ·have e2:decide (f≠0)=true:=decide_eq_true hf;rw[if_pos hf]at J;rw[←J]at N;simp only at N;rw[aa]at N;(repeat' (first|(with_reducible first|refine ab hC ?_|refine ab V ?_|refine ab hO ?_|refine ab O ?_|refine ab hP ?_|refine ab M ?_)|simp only[EV,seval,Z,e0,e2,F,am,E]|simp only[EV,seval,Z,e0,e2,F,am]|(with_reducible intro Y I;(try(have D:=I;simp only[EVK]at D;first|(have E:=AI D E)|(have E:=D))))|fail))
   all_goals exact RQ N
 ·have M:=f87 G d.it.new d.act d.item 0 (by have:=lG hm F;omega) (by decide) (by decide);have hB:=T {X with head:=aR d.act d.item d.it.new 0};rw[b0 {X with head:=aR d.act d.item d.it.new 0}]at hB;rw[if_neg (by omega),if_neg (by omega),if_pos F]at J;rw[←J];rw[F]at hC V;refine Pure.w c31 λR N=>?_;unfold s31 r31;(repeat' (first|(with_reducible first|refine ab hC ?_|refine ab V ?_|refine ab hO ?_|refine ab O ?_|refine ab hP ?_|refine ab M ?_|refine ab hB ?_)|simp only[EV,seval,Z,e0,F,am,E]|simp only[EV,seval,Z,e0,F,am]|(with_reducible intro Y I;(try(have D:=I;simp only[EVK]at D;first|(have E:=AI D E)|(have E:=D))))|fail))
  all_goals exact RQ N
 ·have M:=f88 G p.kids X.kind d.it.label (by omega);have hB:=T {X with label:=d.it.label};rw[b0 {X with label:=d.it.label}]at hB;rw[if_neg (by omega),if_neg (by omega),if_neg (by omega)]at J;rw[F]at hC V;refine Pure.w c31 λR N=>?_;unfold s31 r31
  cases ht:bW p.kids X.kind d.it.label with
  |true=>
   rw[ht]at M J;rw[if_pos rfl]at J;rw[←J]at N;simp only at N;rw[aa]at N;(repeat' (first|(with_reducible first|refine ab hC ?_|refine ab V ?_|refine ab hO ?_|refine ab O ?_|refine ab hP ?_|refine ab M ?_)|simp only[EV,seval,Z,e0,F,am,E]|simp only[EV,seval,Z,e0,F,am]|(with_reducible intro Y I;(try(have D:=I;simp only[EVK]at D;first|(have E:=AI D E)|(have E:=D))))|fail))
   all_goals exact RQ N
  |false=>
   rw[ht]at M J;rw[if_neg (by decide)]at J;rw[←J]at N;(repeat' (first|(with_reducible first|refine ab hC ?_|refine ab V ?_|refine ab hO ?_|refine ab O ?_|refine ab hP ?_|refine ab M ?_|refine ab hB ?_)|simp only[EV,seval,Z,e0,F,am,E]|simp only[EV,seval,Z,e0,F,am]|(with_reducible intro Y I;(try(have D:=I;simp only[EVK]at D;first|(have E:=AI D E)|(have E:=D))))|fail))
   all_goals exact RQ N
end
section
variable (G:Glob)
end
section
variable (G:Glob)
end
def uu {a b c:Nat×AObj} {κ:Store}:SubN (κ++[c]) (a::b::c::κ):=
 SubN.tail (SubN.tail (nm (perm_append_comm (l₁:=κ) (l₂:=[c]))) _) _
def uv {a b c:Nat×AObj} {κ σ:Store}:SubN (a::b::c::(κ++σ)) (κ++a::b::c::σ):=tM (l:=[a,b,c])
def uE {a b c:Nat×AObj} {κ:Store}:SubN (κ++[a,b,c]) (a::b::c::κ):=by
 exact nm (perm_append_comm (l₁:=κ) (l₂:=[a,b,c]))
def uw {a b c:Nat×AObj} {κ:Store}:SubN (a::b::c::κ) (κ++[a,b,c]):=nm (perm_append_comm (l₁:=[a,b,c]) (l₂:=κ))
section
variable (G:Glob)
set_option maxHeartbeats 4000000 in
def v276 (a j:Nat) (x:U) (hj:j<x.kids.length) (hl:x.kids.length<1000000):
  DoesV G (.func (.func 276) #[] #[.p a]) (λz=>{z with kids:=aG z.kids j}) [(a,.cells 3 [.i j])] x:=by
 have V:=f278 G (x.kids.map U.cs) (eP _) (by rw[length_map];omega)
 have X:(x.kids.map U.cs).take j++(x.kids.map U.cs).drop (j+1)=(aG x.kids j).map U.cs:=by unfold aG;rw[map_append,map_take,map_drop]
 have I:=λv κ F=>f277 G (x.kids.map U.cs) v κ F j (by rw[length_map];exact hj) (by rw[length_map];exact hl)
 rw[X]at I
 have hw:IntKind.i64.wrap ((j:Int)+1)=((j+1:Nat):Int):=by rw[av (by omega) (by omega)];omega
 refine⟨_,_,_,rfl,?_⟩
 show aj G Tryz.prog 276 [.agg x.cs,.p a] _ _
 refine sC (R1:=λσ'=>σ'=[(a,.cells 3 [.i j])]) ?_
 refine aj.w c276 ?_
 unfold s276 r276
 have M:=λv κ (F:bI 27 8 ((aG x.kids j).map U.cs) v κ)=>sm (x:={x with kids:=aG x.kids j}) F
 generalize (aG x.kids j).map U.cs=rows2 at*
 rw[b0 x]
 (repeat' (first|simp only[EV,seval,hw,length_map,D]|simp only[EV,seval,hw,length_map]|(with_reducible intro ad J;(try(have E:=J;simp only[EVK]at E;first|(have D:=AI E D)|(have D:=E))))|(with_reducible first|refine af ?_ ?_|refine ag ?_)|(refine bq [] ((_,_)::(_,_)::(_,_)::[]) V.v (hH _) (SubN.refl _) (λv κ F ah=>⟨_,uv,?_⟩);have I:=I v κ F;have hv:=F;obtain⟨Z,cap,rfl,_⟩:=hv;simp only[length_map]at F I)|(refine bq κ [(_,_),(_,_),(_,_)] I.v (hH _) uE (λr1 O N ac=>?_);have Y:=N;obtain⟨T,aa,rfl,al⟩:=Y;refine⟨_,uw,?_⟩)|fail))
 all_goals exact rv (σ':=O++[(a,.cells 3 [.i j])]) uu ⟨_,O,_,rfl,M _ _ N,rfl,rfl⟩
def f185 (u:U) (hs:u.Short) (E:u.ids.Nodup) (i:Idd) (hi:i∈u.ids) (T:u.id≠i) (Y:∀p∈u.flat,p.kids.length<=64):Pure G Tryz.prog 185 [.agg u.cs,.agg i.cs] (.agg (without i u).cs):=by
 obtain⟨p,d,j,e1,e2,M⟩:=aU E hi T
 have hp:p∈u.flat:=by have:=aJ u E M.mem;rw[M.fnd]at this;exact this
 have aa:=Y p hp
 have X:j<p.kids.length:=by
  obtain⟨a,k,b,s,_,X,_⟩:=M.split;rw[s.eq,X,length_append,length_cons];omega
 have N:=f135 G i u hs E;unfold jK at N;rw[e1]at N;have V:=λbn=>f188 G _ _ _ p.id u hs E M.mem (by rw[M.fnd];exact v276 G bn j p X (by omega))
 have Z:without i u=U.wth p.id (λy=>{y with kids:=aG y.kids j}) u:=by unfold without;rw[e1]
 rw[Z];have D:=hJ (U.wth p.id (λy=>{y with kids:=aG y.kids j}) u);generalize (U.wth p.id (λy=>{y with kids:=aG y.kids j}) u).cs=ys at*;have J:ys.take 8=ys:=take_of_length_le (by omega);simp only[Idd.cs]at N V;rw[b0 u]at N V ⊢;refine Pure.w c185 λR hR=>?_;unfold s185 r185;(repeat' (first|(with_reducible refine ab N ?_)|simp only[EV,seval,D,J,F]|simp only[EV,seval,D,J]|(with_reducible intro ac O;(try(have I:=O;simp only[EVK]at I;first|(have F:=AI I F)|(have F:=I))))|(refine fm (V _).v (by refine⟨?_,λE=>?_⟩;(repeat(first|exact jh|(refine fZ (by repeat(exact mem_cons_self)) ?_)));(simp only[ND,@eq_comm Nat]at E ⊢ <;>simp only[E,not_false_eq_true,and_self])) ?_)|fail))
 all_goals exact hR _ _ (.inl (.inl (by simp[D,J])))
end
end Go.Av
