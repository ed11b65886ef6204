/-
  ENACT, M31: an item applied.
-/
import Derived.Test.YtjdccoplpljmlaaGreatDoorVXM27toXM30
import Derived.Test.YtjdccoplpljmlaaGreatDoorVXL35toXM9
import Derived.Test.YtjdccoplpljmlaaGreatDoorVXOpTtoXY14
namespace Go.Av
open Go Go.RowKit Go.Proofs List
set_option linter.unusedSimpArgs false
set_option linter.unusedVariables false
def eP:List (Int×AV):=[(0,fnv 230),(1,fnv 231),(2,fnv 232),(3,fnv 233),(4,fnv 234),(5,fnv 235),(6,fnv 236)]
theorem dL:∀τ w,Rep τ w (.sc .nilFunc) .nilFunc:=by
 intro τ w
 simp only[Rep]
theorem do_none {k:Int} (h:¬(0<=k/\k<=6)):aN k eP=none:=by
 simp only[eP,aN]
 rw[if_neg (by omega),if_neg (by omega),if_neg (by omega),if_neg (by omega),if_neg (by omega),if_neg (by omega),if_neg (by omega)]
theorem may_cnt {x:Itm} (h:x.may=true) (I:x.kind=0):x.unit.flat.length<=1024:=by
 have:=gw h
 unfold Itm.own at this
 simp only[I,if_true,Bool.and_eq_true]at this
 have E:=this.2.1
 rw[gK]at E
 unfold gA cv at E
 simp only[Bool.and_eq_true,decide_eq_true_eq]at E
 have F:=E.1.2.2.1
 unfold U.cnt at F
 omega
theorem nb {x:Itm} (h:x.may=true) (F:x.kind=2\/x.kind=3):x.old.length<=256/\x.new.length<=256/\(0<=x.nth/\x.nth<=256)/\(x.kind=2->x.old≠[])/\(x.kind=3->1<=x.new.length/\(x.old=[]->x.nth=0)):=by
 have:=gw h
 unfold Itm.own cV inR at this
 rcases F with F|F
 ·rw[if_neg (by omega),if_pos F]at this
  simp only[Bool.and_eq_true,decide_eq_true_eq]at this
  obtain⟨⟨I,J⟩,⟨M,N⟩,c1,c2⟩:=this
  refine⟨(dr I).2,(dr M).2,⟨c1,c2⟩,λ_ e=>?_,λe=>?_⟩
  ·rw[e]at J;simp at J
  ·omega
 ·rw[if_neg (by omega),if_neg (by omega),if_pos F]at this
  simp only[Bool.and_eq_true,Bool.or_eq_true,decide_eq_true_eq]at this
  obtain⟨⟨I,J⟩,⟨M,N⟩,⟨c1,c2⟩,E⟩:=this
  refine⟨(dr I).2,(dr M).2,⟨c1,c2⟩,λe=>?_,λ_=>⟨by omega,λe=>?_⟩⟩
  ·omega
  ·rcases E with E|E
   ·rw[e]at E;simp at E
   ·exact E
theorem oy {x:Itm} (h:x.may=true) (E:x.kind=4):x.new.length<=256:=(dr (mj h (.inr (.inr E)))).2
section
variable (G:Glob) (hG:GOk G)
include hG
omit hG in
theorem f184:aj G Tryz.prog 184 [] [] (λr σ=>∃b,r= .sc (.map (some b))/\σ=[(b,.map (bB intK eP))]):=by
 refine aj.w c184 ?_
 unfold s184 r184
 (try simp only[EVz,seval,↓reduceIte,EV6,EV7])
 refine cc ?_
 intro b E
 (try simp only[EVz,seval,↓reduceIte,EV6,EV7])
 refine dq bE (l:=[]) (k:=0) (eT:=202) rfl (mD 0) rfl (by kernel_rfl) aH ?_
 (repeat' (first|simp only[EVz,seval,↓reduceIte,EV6,EV7]|(refine dq bE (eT:=202) rfl (mD _) rfl (by kernel_rfl) aH ?_)))
 exact RET.mk (SubN.refl _) ⟨b,rfl,rfl⟩
omit hG in
set_option maxHeartbeats 8000000 in
theorem oe (u:U) (hu:Good u) (d:Dd) (Y:¬(0<=d.it.kind/\d.it.kind<=6)):Pure G Tryz.prog 124 [.agg u.cs,.agg d.cs] (cJ (u,1)):=by
 have T:=f184 G
 have I:=do_none Y
 have M:=U.cs_eq u
 unfold Dd.cs cJ
 rw[Itm.cs_eq,M]
 refine Pure.w c124 λR V=>?_
 unfold s124 r124
 (repeat' (first|simp only[EVz,seval,↓reduceIte,EV6,EV7,I,Option.getD_none,Option.isSome_none,E]|simp only[EVz,seval,↓reduceIte,EV6,EV7,I,Option.getD_none,Option.isSome_none]|(with_reducible intro O F;(try(have J:=F;simp only[EVK]at J;(have E:=J))))|(refine ay [] _ T.v (aA.rfl' _) (SubN.refl _) (λr σ' X N=>?_);obtain⟨Z,rfl,rfl⟩:=X;(have E:=N);(try simp[Store.keys]at E))|(refine aC bE (l:=eP) (k:=d.it.kind) (z:=.nilFunc) (zv:=.sc .nilFunc) (eT:=202) rfl (bZ _) (by kernel_rfl) (by exact aH) (by kernel_rfl) dL ?_)))
 all_goals exact RQ V
set_option maxHeartbeats 8000000 in
theorem apply_of (u:U) (hu:Good u) (d:Dd) (hs:d.it.Shorts) (fn:Nat) (J:aN d.it.kind eP=some (fnv fn)) (q:U×Int)
  (hq:d.it.may=true->(one u d.it.at_).2=0->(d.it.kind=0\/(one u d.it.at_).1≠u.id)->Pure G Tryz.prog fn [.agg u.cs,.agg (fnd (one u d.it.at_).1 u).cs,.agg d.cs] (cJ q)):
  Pure G Tryz.prog 124 [.agg u.cs,.agg d.cs] (cJ (if d.it.may=false then (u,1)else if (one u d.it.at_).2≠0 then (u,(one u d.it.at_).2)else if d.it.kind=0\/(one u d.it.at_).1≠u.id then q else if d.it.kind=6/\(one u d.it.to_).2≠0 then (u,(one u d.it.to_).2)else (u,9))):=by
 have ac:=hu.short
 obtain⟨q1,_⟩:=(Itm.Shorts_eq d.it).1 hs
 have hV:=f67 G hG d.it hs
 have hO:=f185 G u d.it.at_ ac.1 hu.cnt q1.at_
 have V:=f185 G u d.it.to_ ac.1 hu.cnt q1.to_
 have hD:=f184 G
 have hid:=cM (u:=u) (p:=d.it.at_)
 have ad:=λi=>f111 G i u ac
 unfold oneAV at hO V
 obtain⟨⟨i,e⟩,ah⟩:∃z,one u d.it.at_=z:=⟨_,rfl⟩
 obtain⟨⟨t,e'⟩,an⟩:∃z,one u d.it.to_=z:=⟨_,rfl⟩
 rw[ah]at hO hid hq ⊢
 rw[an]at V ⊢
 simp only at hO V hid hq ⊢
 obtain⟨mv,al⟩:∃b,d.it.may=b:=⟨_,rfl⟩
 rw[al]at hV hq ⊢
 have O:=U.cs_eq u
 obtain⟨f,hf⟩:∃f,fnv fn= .sc f:=⟨_,rfl⟩
 have ag:f= .func (.func fn) #[] #[]:=by unfold fnv at hf;injection hf with hf;exact hf.symm
 rw[hf]at J
 unfold Dd.cs at hq ⊢
 rw[Itm.cs_eq]at hV hq ⊢
 unfold cJ at hq ⊢
 refine Pure.w c124 λR N=>?_
 unfold s124 r124
 cases mv with
 |false=>
  rw[if_pos rfl]at N
  rw[O]at N ⊢
  (repeat' (first|(with_reducible refine aa hV ?_)|simp only[EVz,seval,↓reduceIte,EV6,EV7,J,Option.getD_some,Option.isSome_some,E]|simp only[EVz,seval,↓reduceIte,EV6,EV7,J,Option.getD_some,Option.isSome_some]|(with_reducible intro T I;(try(have F:=I;simp only[EVK]at F;(have E:=F))))|(refine ay [] _ hD.v (aA.rfl' _) (SubN.refl _) (λr σ' Y M=>?_);obtain⟨bm,rfl,rfl⟩:=Y;(have E:=M);(try simp[Store.keys]at E))|(refine aC bE (l:=eP) (k:=d.it.kind) (z:=.nilFunc) (zv:=.sc .nilFunc) (eT:=202) rfl (bZ _) (by kernel_rfl) (by exact aH) (by kernel_rfl) dL ?_)))
  all_goals exact RQ N
 |true=>
  rw[if_neg (by simp)]at N
  rcases Classical.em (e=0)with h|h
  ·subst h
   rw[if_neg (by simp)]at N
   have hi:=hid rfl
   have hF:=ad i
   unfold ja at hF
   rw[fU hi,if_neg (by simp)]at hF
   clear ad hid
   obtain⟨X,hX⟩:∃X,fnd i u=X:=⟨_,rfl⟩
   rw[hX]at hF hq
   rcases Classical.em (d.it.kind=0\/i≠u.id)with g|g
   ·rw[if_pos g]at N
    have hC:=(hq rfl rfl g).v
    rw[←ag]at hC
    rw[O]at hO hF hC ⊢
    simp only[Idd.cs]at hF
    rcases Classical.em (i=u.id)with g1|g1
    ·have g0:d.it.kind=0:=g.resolve_right (λh=>h g1)
     have Z:decide (i=u.id)=true:=decide_eq_true g1
     have e2:decide (d.it.kind=0)=true:=decide_eq_true g0
     (repeat' (first|(with_reducible first|refine aa hV ?_|refine aa hO ?_|refine aa hF ?_)|simp only[EVz,seval,↓reduceIte,EV6,EV7,J,Option.getD_some,Option.isSome_some,idd_eq,Z,e2,E]|simp only[EVz,seval,↓reduceIte,EV6,EV7,J,Option.getD_some,Option.isSome_some,idd_eq,Z,e2]|(with_reducible intro T I;(try(have F:=I;simp only[EVK]at F;first|(have E:=AI F E)|(have E:=F))))|(refine ay [] _ hD.v (aA.rfl' _) (SubN.refl _) (λr σ' Y M=>?_);obtain⟨bm,rfl,rfl⟩:=Y;(have E:=M);(try simp[Store.keys]at E))|(refine aC bE (l:=eP) (k:=d.it.kind) (z:=.nilFunc) (zv:=.sc .nilFunc) (eT:=202) rfl (bZ _) (by kernel_rfl) (by exact aH) (by kernel_rfl) dL ?_)|(refine aD hC ?_)))
     all_goals exact RQ N
    ·have Z:decide (i=u.id)=false:=decide_eq_false g1
     (repeat' (first|(with_reducible first|refine aa hV ?_|refine aa hO ?_|refine aa hF ?_)|simp only[EVz,seval,↓reduceIte,EV6,EV7,J,Option.getD_some,Option.isSome_some,idd_eq,Z,E]|simp only[EVz,seval,↓reduceIte,EV6,EV7,J,Option.getD_some,Option.isSome_some,idd_eq,Z]|(with_reducible intro T I;(try(have F:=I;simp only[EVK]at F;first|(have E:=AI F E)|(have E:=F))))|(refine ay [] _ hD.v (aA.rfl' _) (SubN.refl _) (λr σ' Y M=>?_);obtain⟨bm,rfl,rfl⟩:=Y;(have E:=M);(try simp[Store.keys]at E))|(refine aC bE (l:=eP) (k:=d.it.kind) (z:=.nilFunc) (zv:=.sc .nilFunc) (eT:=202) rfl (bZ _) (by kernel_rfl) (by exact aH) (by kernel_rfl) dL ?_)|(refine aD hC ?_)))
     all_goals exact RQ N
   ·rw[if_neg g]at N
    rw[not_or,Classical.not_not]at g
    obtain⟨g0,g1⟩:=g
    have Z:decide (i=u.id)=true:=decide_eq_true g1
    have e2:decide (d.it.kind=0)=false:=decide_eq_false g0
    rw[O]at hO V hF ⊢
    simp only[Idd.cs]at hF
    rcases Classical.em (d.it.kind=6)with k6|k6
    ·have e3:decide (d.it.kind=6)=true:=decide_eq_true k6
     rcases Classical.em (e'=0)with h'|h'
     ·subst h'
      rw[if_neg (by simp)]at N
      simp only at N
      rw[O]at N
      (repeat' (first|(with_reducible first|refine aa hV ?_|refine aa hO ?_|refine aa V ?_|refine aa hF ?_)|simp only[EVz,seval,↓reduceIte,EV6,EV7,J,Option.getD_some,Option.isSome_some,idd_eq,Z,e2,e3,E]|simp only[EVz,seval,↓reduceIte,EV6,EV7,J,Option.getD_some,Option.isSome_some,idd_eq,Z,e2,e3]|(with_reducible intro T I;(try(have F:=I;simp only[EVK]at F;first|(have E:=AI F E)|(have E:=F))))|(refine ay [] _ hD.v (aA.rfl' _) (SubN.refl _) (λr σ' Y M=>?_);obtain⟨bm,rfl,rfl⟩:=Y;(have E:=M);(try simp[Store.keys]at E))|(refine aC bE (l:=eP) (k:=d.it.kind) (z:=.nilFunc) (zv:=.sc .nilFunc) (eT:=202) rfl (bZ _) (by kernel_rfl) (by exact aH) (by kernel_rfl) dL ?_)))
      all_goals exact RQ N
     ·rw[if_pos ⟨k6,h'⟩]at N
      simp only at N
      rw[O]at N
      (repeat' (first|(with_reducible (refine ab (λh=>?_) (λh=>?_))<;>(try simp only[DZ]at h))|(with_reducible first|refine aa hV ?_|refine aa hO ?_|refine aa V ?_|refine aa hF ?_)|simp only[EVz,seval,↓reduceIte,EV6,EV7,J,Option.getD_some,Option.isSome_some,idd_eq,Z,e2,e3,h',E]|simp only[EVz,seval,↓reduceIte,EV6,EV7,J,Option.getD_some,Option.isSome_some,idd_eq,Z,e2,e3,h']|(with_reducible intro T I;(try(have F:=I;simp only[EVK]at F;first|(have E:=AI F E)|(have E:=F))))|(refine ay [] _ hD.v (aA.rfl' _) (SubN.refl _) (λr σ' Y M=>?_);obtain⟨bm,rfl,rfl⟩:=Y;(have E:=M);(try simp[Store.keys]at E))|(refine aC bE (l:=eP) (k:=d.it.kind) (z:=.nilFunc) (zv:=.sc .nilFunc) (eT:=202) rfl (bZ _) (by kernel_rfl) (by exact aH) (by kernel_rfl) dL ?_)|(exfalso;omega)))
      all_goals exact RQ N
    ·have e3:decide (d.it.kind=6)=false:=decide_eq_false k6
     rw[if_neg (λh=>k6 h.1)]at N
     simp only at N
     rw[O]at N
     (repeat' (first|(with_reducible first|refine aa hV ?_|refine aa hO ?_|refine aa hF ?_)|simp only[EVz,seval,↓reduceIte,EV6,EV7,J,Option.getD_some,Option.isSome_some,idd_eq,Z,e2,e3,E]|simp only[EVz,seval,↓reduceIte,EV6,EV7,J,Option.getD_some,Option.isSome_some,idd_eq,Z,e2,e3]|(with_reducible intro T I;(try(have F:=I;simp only[EVK]at F;first|(have E:=AI F E)|(have E:=F))))|(refine ay [] _ hD.v (aA.rfl' _) (SubN.refl _) (λr σ' Y M=>?_);obtain⟨bm,rfl,rfl⟩:=Y;(have E:=M);(try simp[Store.keys]at E))|(refine aC bE (l:=eP) (k:=d.it.kind) (z:=.nilFunc) (zv:=.sc .nilFunc) (eT:=202) rfl (bZ _) (by kernel_rfl) (by exact aH) (by kernel_rfl) dL ?_)))
     all_goals exact RQ N
  ·rw[if_pos h]at N
   rw[O]at hO N ⊢
   (repeat' (first|(with_reducible (refine ab (λh=>?_) (λh=>?_))<;>(try simp only[DZ]at h))|(with_reducible first|refine aa hV ?_|refine aa hO ?_)|simp only[EVz,seval,↓reduceIte,EV6,EV7,J,Option.getD_some,Option.isSome_some,h,E]|simp only[EVz,seval,↓reduceIte,EV6,EV7,J,Option.getD_some,Option.isSome_some,h]|(with_reducible intro T I;(try(have F:=I;simp only[EVK]at F;first|(have E:=AI F E)|(have E:=F))))|(refine ay [] _ hD.v (aA.rfl' _) (SubN.refl _) (λr σ' Y M=>?_);obtain⟨bm,rfl,rfl⟩:=Y;(have E:=M);(try simp[Store.keys]at E))|(refine aC bE (l:=eP) (k:=d.it.kind) (z:=.nilFunc) (zv:=.sc .nilFunc) (eT:=202) rfl (bZ _) (by kernel_rfl) (by exact aH) (by kernel_rfl) dL ?_)|(exfalso;omega)))
   all_goals exact RQ N
end
theorem doP_two (u:U) (d:Dd) (J:chg d.it.kind=true) (q:U×Int) (h:d.it.may=true->(one u d.it.at_).2=0->(d.it.kind=0\/(one u d.it.at_).1≠u.id)->doP u d=q):
  doP u d=if d.it.may=false then (u,1)else if (one u d.it.at_).2≠0 then (u,(one u d.it.at_).2)else if d.it.kind=0\/(one u d.it.at_).1≠u.id then q else if d.it.kind=6/\(one u d.it.to_).2≠0 then (u,(one u d.it.to_).2)else (u,9):=by
 by_cases I:d.it.may=false
 ·rw[if_pos I];unfold doP;rw[if_pos (.inr I)]
 ·rw[if_neg I]
  have E:d.it.may=true:=by simpa using I
  by_cases F:(one u d.it.at_).2=0
  ·rw[if_neg (by simpa using F)]
   by_cases g:d.it.kind=0\/(one u d.it.at_).1≠u.id
   ·rw[if_pos g,h E F g]
   ·rw[if_neg g]
    rw[not_or,Classical.not_not]at g
    unfold doP
    rw[if_neg (by simp[J,E]),if_neg (by simpa using F),if_neg g.1,if_pos g.2]
  ·rw[if_pos F];unfold doP;rw[if_neg (by simp[J,E]),if_pos F]
section
variable (G:Glob) (hG:GOk G)
include hG
theorem f124 (u:U) (O:Good u) (d:Dd) (hs:d.it.Shorts):Pure G Tryz.prog 124 [.agg u.cs,.agg d.cs] (cJ (doP u d)):=by
 by_cases hk:0<=d.it.kind/\d.it.kind<=6
 case neg=>
  have T:chg d.it.kind=false:=by unfold chg;simp;omega
  have e:doP u d=(u,1):=by unfold doP;rw[if_pos (.inl T)]
  rw[e]
  exact oe G u O d hk
 have T:chg d.it.kind=true:=by unfold chg;simp;omega
 obtain⟨X,_⟩:=(Itm.Shorts_eq d.it).1 hs
 have hid:=cM (u:=u) (p:=d.it.at_)
 have I:(one u d.it.at_).2=0->(fnd (one u d.it.at_).1 u).id=(one u d.it.at_).1:=λh=>(fj u O.nd (hid h)).1
 have hw:(one u d.it.at_).2=0->(fnd (one u d.it.at_).1 u).words.length<=256:=λh=>(dJ (O.node _ (bI u O.nd (hid h)))).words.1
 have hh:d.it.kind=0\/d.it.kind=1\/d.it.kind=2\/d.it.kind=3\/d.it.kind=4\/d.it.kind=5\/d.it.kind=6:=by omega
 have V:∀fn q,aN d.it.kind eP=some (fnv fn)->(d.it.may=true->(one u d.it.at_).2=0->(d.it.kind=0\/(one u d.it.at_).1≠u.id)->doP u d=q)->(d.it.may=true->(one u d.it.at_).2=0->(d.it.kind=0\/(one u d.it.at_).1≠u.id)->Pure G Tryz.prog fn [.agg u.cs,.agg (fnd (one u d.it.at_).1 u).cs,.agg d.cs] (cJ q))->Pure G Tryz.prog 124 [.agg u.cs,.agg d.cs] (cJ (doP u d)):=by
  intro fn q N h2 h3
  rw[doP_two u d T q h2]
  exact apply_of G hG u O d hs fn N q h3
 have J:d.it.may=true->(one u d.it.at_).2=0->(d.it.kind=0\/(one u d.it.at_).1≠u.id)->d.it.kind≠0->(one u d.it.at_).1≠u.id:=λ_ _ h h0=>h.resolve_left h0
 rcases hh with h|h|h|h|h|h|h
 ·refine V 230 (insP u (one u d.it.at_).1 d) (by rw[h];rfl) (λF E _=>?_) (λF E _=>?_)
  ·unfold doP;rw[if_neg (by simp[T,F]),if_neg (by simpa using E),if_pos h]
  ·obtain⟨w0,w3⟩:=gb F (.inl h)
   exact f230 G hG u O _ d _ (Prod.ext rfl E) h w0 w3 ⟨nK F h,may_cnt F h⟩ X.at_ X.to_
 ·refine V 231 (aL (one u d.it.at_).1 u,0) (by rw[h];rfl) (λF E M=>?_) (λF E M=>?_)
  ·have N:=J F E M (by omega)
   unfold doP;rw[if_neg (by simp[T,F]),if_neg (by simpa using E),if_neg (by omega),if_neg N,if_pos h]
  ·have N:=J F E M (by omega)
   have:=f231 G u O (fnd (one u d.it.at_).1 u) (by rw[I E];exact hid E) (by rw[I E];exact λe=>N e.symm) d
   rw[I E]at this
   exact this
 ·refine V 232 (if (bJ (fnd (one u d.it.at_).1 u).words d.it d.act d.item).2≠0 then (u,(bJ (fnd (one u d.it.at_).1 u).words d.it d.act d.item).2)else (U.wth (one u d.it.at_).1 (λy=>{y with words:=(bJ (fnd (one u d.it.at_).1 u).words d.it d.act d.item).1}) u,0)) (by rw[h];rfl) (λF E M=>?_) (λF E M=>?_)
  rotate_left
  ·obtain⟨Y,Z,m3,m4,m5⟩:=nb F (.inl h)
   have N:=J F E M (by omega)
   have:=f232 G u O (fnd (one u d.it.at_).1 u) (by rw[I E];exact hid E) d (hw E) h (m4 h) Y Z m3
   rw[I E]at this
   exact this
  ·have N:=J F E M (by omega)
   unfold doP;rw[if_neg (by simp[T,F]),if_neg (by simpa using E),if_neg (by omega),if_neg N,if_neg (by omega),if_pos (.inl h)]
 ·refine V 233 (if (bJ (fnd (one u d.it.at_).1 u).words d.it d.act d.item).2≠0 then (u,(bJ (fnd (one u d.it.at_).1 u).words d.it d.act d.item).2)else (U.wth (one u d.it.at_).1 (λy=>{y with words:=(bJ (fnd (one u d.it.at_).1 u).words d.it d.act d.item).1}) u,0)) (by rw[h];rfl) (λF E M=>?_) (λF E M=>?_)
  rotate_left
  ·obtain⟨Y,Z,m3,m4,m5⟩:=nb F (.inr h)
   have N:=J F E M (by omega)
   have:=f233 G u O (fnd (one u d.it.at_).1 u) (by rw[I E];exact hid E) d (hw E) h Y Z (m5 h).1 m3 (m5 h).2
   rw[I E]at this
   exact this
  ·have N:=J F E M (by omega)
   unfold doP;rw[if_neg (by simp[T,F]),if_neg (by simpa using E),if_neg (by omega),if_neg N,if_neg (by omega),if_pos (.inr h)]
 ·refine V 234 (U.wth (one u d.it.at_).1 (λy=>{y with head:=aW d.act d.item d.it.new 0}) u,0) (by rw[h];rfl) (λF E M=>?_) (λF E M=>?_)
  rotate_left
  ·have:=f234 G u O (fnd (one u d.it.at_).1 u) (by rw[I E];exact hid E) d (oy F h)
   rw[I E]at this
   exact this
  ·have N:=J F E M (by omega)
   unfold doP;rw[if_neg (by simp[T,F]),if_neg (by simpa using E),if_neg (by omega),if_neg N,if_neg (by omega),if_neg (by omega),if_pos h]
 ·refine V 235 (if d9 (parR (one u d.it.at_).1 u).1 (parR (one u d.it.at_).1 u).1.kids {fnd (one u d.it.at_).1 u with label:=d.it.label}=10 then (u,10)else (U.wth (one u d.it.at_).1 (λy=>{y with label:=d.it.label}) u,0)) (by rw[h];rfl) (λF E M=>?_) (λF E M=>?_)
  rotate_left
  ·have N:=J F E M (by omega)
   have:=f235 G hG u O (fnd (one u d.it.at_).1 u) (by rw[I E]) (by rw[I E];exact hid E) (by rw[I E];exact λe=>N e.symm) d
   rw[I E]at this
   exact this
  ·have N:=J F E M (by omega)
   unfold doP;rw[if_neg (by simp[T,F]),if_neg (by simpa using E),if_neg (by omega),if_neg N,if_neg (by omega),if_neg (by omega),if_neg (by omega),if_pos h]
 ·refine V 236 (if (one u d.it.to_).2≠0 then (u,(one u d.it.to_).2)else movP u (one u d.it.at_).1 (one u d.it.to_).1 d) (by rw[h];rfl) (λF E M=>?_) (λF E M=>?_)
  rotate_left
  ·have N:=J F E M (by omega)
   obtain⟨w0,w3⟩:=gb F (.inr h)
   exact f236 G hG u O d _ (Prod.ext rfl E) (λe=>N e.symm) h w0 w3 X.at_ X.to_
  ·have N:=J F E M (by omega)
   unfold doP;rw[if_neg (by simp[T,F]),if_neg (by simpa using E),if_neg (by omega),if_neg N,if_neg (by omega),if_neg (by omega),if_neg (by omega),if_neg (by omega)]
end
theorem dY {e:TypeId} {sz bytes m:Nat} {g:Option Nat} {rows ys:List (List AV)} {K:AV->Store->Prop} (pre κ:Store) (Y:∀p∈pre,p.1∉Store.keys (κ++tokS g e m)) (T:∀b,g=some b->b∉κ.keys) (I:m=rows.length*sz) (J:κ.keys.Nodup) (V:(rows.length+ys.length)*bytes<=140737488355328)
  (X:∀F,(∀b,F=some b->b∉κ.keys)->K (.own F e sz (rows++ys)) (κ++tokS F e ((rows++ys).length*sz))):appX e sz bytes (pre++(κ++tokS g e m)) g rows ys K:=by
 subst I
 refine fN κ (λb h=>?_) V ⟨λq N=>?_,λ_=>J⟩ X
 ·have O:=tokF (e:=e) (m:=rows.length*sz) T b h
  have E:b∈Store.keys (κ++tokS g e (rows.length*sz)):=mem_map.2 ⟨_,Store.get_mem O,rfl⟩
  rw[ao]
  ·exact O
  ·intro I
   obtain⟨p,M,rfl⟩:=mem_map.1 I
   exact Y p M E
 ·cases g with
  |none=>exact mem_append.2 (.inr (mem_append.2 (.inl N)))
  |some b=>
   refine mem_filter.2 ⟨mem_append.2 (.inr (mem_append.2 (.inl N))),?_⟩
   have:q.1≠b:=λh=>T b rfl (by rw[←h];exact mem_map.2 ⟨q,N,rfl⟩)
   simpa using this
def allAV (q:U×List Ms):AV:=.tup [.agg q.1.cs,.lst 3 (q.2.map Ms.cs)]
theorem chg_inR (k:Int):inR k 0 6=chg k:=rfl
section
variable (G:Glob) (hG:GOk G)
include hG
set_option maxHeartbeats 4000000 in
theorem f70 (u:U) (hu:Good u) (l:List Dd) (hl:l.length<1000000) (hs:∀d∈l,d.it.Shorts):Pure G Tryz.prog 70 [.agg u.cs,.lst 28 (l.map Dd.cs)] (allAV (allP u l)):=by
 refine Pure.w c70 λR hR=>?_
 unfold s70 r70
 unfold allAV at hR
 (repeat' (first|simp only[EVz,seval,↓reduceIte,EV6,EV7]|(with_reducible intro O F;(try(have I:=F;simp only[EVK]at I;first|(have E:=AI I E)|(have E:=I))))))
 rename_i X _ _ _
 generalize al:O=b4 at*
 have q1:¬b4=X:=by simpa[Store.keys]using F
 have ah:¬X=b4:=λe=>q1 e.symm
 refine ax (ι:=U×List Ms×Option Nat) l (λi r c=>Good c.1/\allP u l=((allP c.1 r).1,c.2.1++(allP c.1 r).2)/\c.2.1.length<=i/\(∀d,c.2.2=some d->d∉Store.keys [(b4,AObj.cells 29 zU),(X,.cells 29 zU)])) (λi c=>[(2,.sc (.pointer (some ⟨X,0,none⟩))),(4,.sc (.pointer (some ⟨b4,0,none⟩))),(6,.own c.2.2 166 3 (c.2.1.map Ms.cs)),(11,.lst 28 (l.map Dd.cs)),(12,.int .i64 l.length),(13,.int .i64 i)]) (λi c=>[(b4,.cells 29 zU),(X,.cells 29 c.1.cs)]++tokS c.2.2 166 (c.2.1.length*3)) (u,[],none) ⟨hu,by simp,by simp,by simp⟩ (Weak.of (by simp[dI,Env.get,AVle,aU]) (SubN.refl _)) (by omega) (λi x r c V J hw=>?_) (λc V hn=>?_)
 ·obtain⟨o1,N,o3,o4⟩:=V
  have T:=f116 G x.it.kind
  rw[chg_inR]at T
  have Y:=f124 G hG c.1 o1 x (hs x J.mem)
  have M:=iQ o1 x
  have an:=J.lt
  rw[lO]at N
  unfold cJ at Y
  unfold fv at N M
  cases hc:chg x.it.kind with
  |false=>
   rw[hc]at T
   rw[hc,if_pos rfl]at N M
   (repeat' (first|(with_reducible refine aa T ?_)|simp only[EVz,seval,↓reduceIte,EV6,EV7,J.yes,J.le0,J.lt',J.get,J.row,hw,Dd.cs,Itm.cs_eq,E]|(with_reducible intro O F;(try(have I:=F;simp only[EVK]at I;(have E:=AI I E))))))
   exact am J c ⟨o1,by simpa using N,by omega,o4⟩ (Weak.sub (SubN.tail (SubN.refl _) _))
  |true=>
   rw[hc]at T
   rw[hc,if_neg (by simp)]at N M
   obtain⟨⟨v,e⟩,ag⟩:∃z,doP c.1 x=z:=⟨_,rfl⟩
   rw[ag]at Y N M
   unfold missOf at N M
   simp only[Dd.cs,Itm.cs_eq]at Y
   rcases Classical.em (e=0)with he|he
   ·subst he
    (repeat' (first|(with_reducible first|refine aa T ?_|refine aa Y ?_)|simp only[EVz,seval,↓reduceIte,EV6,EV7,J.yes,J.le0,J.lt',J.get,J.row,hw,Dd.cs,Itm.cs_eq,E]|(with_reducible intro O F;(try(have I:=F;simp only[EVK]at I;(have E:=AI I E))))))
    exact am J (v,c.2.1,c.2.2) ⟨M.1,by simpa using N,Nat.le_succ_of_le o3,o4⟩ (Weak.sub (SubN.tail (SubN.tail (SubN.refl _) _) _))
   ·(repeat' (first|(with_reducible (refine ab (λh=>?_) (λh=>?_))<;>(try simp only[DZ]at h))|(with_reducible first|refine aa T ?_|refine aa Y ?_)|simp only[EVz,seval,↓reduceIte,EV6,EV7,J.yes,J.le0,J.lt',J.get,J.row,hw,Dd.cs,Itm.cs_eq,he,E]|(with_reducible intro O F;(try(have I:=F;simp only[EVK]at I;(have E:=AI I E))))|(exfalso;omega)))
    clear Y T
    rename_i b8 _ _ _ b9 _ _ _
    obtain⟨n1,n2,n3,n4⟩:=E
    have ad:∀d,c.2.2=some d->d∈(tokS c.2.2 166 (c.2.1.length*3)).keys:=by
     intro d Z
     rw[Z]
     simp[tokS,Store.keys]
    refine⟨[Ms.cs ⟨x.act,x.item,e⟩],rfl,by simp[Ms.cs],by simp[Ms.cs],?_⟩
    refine dY (sz:=3) (bytes:=24) (rows:=c.2.1.map Ms.cs) (ys:=[Ms.cs ⟨x.act,x.item,e⟩]) (m:=c.2.1.length*3) [(O,_)] [(b9,_),(b8,_),(b4,_),(X,_)] ?_ ?_ (by rw[length_map]) ?_ (by rw[length_map];simp;omega) (λgn ac=>?_)
    ·intro p hp
     simp only[mem_singleton]at hp
     subst hp
     simp[Store.keys,n1]
     simpa[Store.keys]using n1.2.2.2.2
    ·intro d Z
     have h1:=ad d Z
     have h2:=o4 d Z
     simp[Store.keys]at h2 ⊢
     refine⟨λq=>n2.2.2.2 (q ▸ h1),λq=>n3.2.2 (q ▸ h1),h2.1,h2.2⟩
    ·simp[Store.keys,n2,n3,q1]
    (repeat' (simp only[EVz,seval,↓reduceIte,EV6,EV7,n1,n2,n3,q1,ah,hw,E]))
    refine am J (v,c.2.1++[⟨x.act,x.item,e⟩],gn) ⟨M.1,by simpa[he]using N,?_,?_⟩ ?_
    ·rw[length_append];exact Nat.succ_le_succ o3
    ·intro d Z
     have:=ac d Z
     simp[Store.keys]at this ⊢
     exact⟨this.2.2.1,this.2.2.2⟩
    ·simp only[map_append,map_cons,map_nil,length_append,length_map,length_cons,length_nil]
     exact Weak.sub (SubN.tail (SubN.tail (SubN.refl _) _) _)
 ·(repeat' (simp only[EVz,seval,↓reduceIte,EV6,EV7,hn,E]))
  obtain⟨o1,N,o3,o4⟩:=V
  simp only[allP,append_nil]at N
  rw[N]at hR
  exact hR _ _ (.inr ⟨aU.rfl' _,.inr ⟨rfl,rfl⟩,trivial⟩)
end
end Go.Av
