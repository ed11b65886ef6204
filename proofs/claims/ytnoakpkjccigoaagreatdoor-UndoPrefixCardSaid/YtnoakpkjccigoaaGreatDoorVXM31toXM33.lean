/-
  ENACT, M31: an item applied.
-/
import Derived.Test.YtnoakpkjccigoaaGreatDoorVXV10toXM30
import Derived.Test.YtnoakpkjccigoaaGreatDoorVXL32toXL54
import Derived.Test.YtnoakpkjccigoaaGreatDoorVXM2toXOpE
namespace Go.Av
open Go Go.RowKit Go.Proofs List
set_option linter.unusedSimpArgs false
set_option linter.unusedVariables false
def fc:List (Int×AV):=[(0,fnv 92),(1,fnv 93),(2,fnv 94),(3,fnv 95),(4,fnv 96),(5,fnv 97),(6,fnv 98)]
theorem cE:∀τ w,Rep τ w (.sc .nilFunc) .nilFunc:=by
 intro τ w
 simp only[Rep]
theorem do_none {k:Int} (h:¬(0<=k/\k<=6)):aS k fc=none:=by
 simp only[fc,aS]
 rw[if_neg (by omega),if_neg (by omega),if_neg (by omega),if_neg (by omega),if_neg (by omega),if_neg (by omega),if_neg (by omega)]
theorem may_cnt {x:Itm} (h:x.may=true) (F:x.kind=0):x.unit.flat.length<=1024:=by
 have:=gj h
 unfold Itm.own at this
 simp only[F,if_true,Bool.and_eq_true]at this
 have D:=this.2.1
 rw[gZ]at D
 unfold pN pq at D
 simp only[Bool.and_eq_true,decide_eq_true_eq]at D
 have E:=D.1.2.2.1
 unfold U.cnt at E
 omega
theorem ns {x:Itm} (h:x.may=true) (E:x.kind=2\/x.kind=3):x.old.length<=256/\x.new.length<=256/\(0<=x.nth/\x.nth<=256)/\(x.kind=2->x.old≠[])/\(x.kind=3->1<=x.new.length/\(x.old=[]->x.nth=0)):=by
 have:=gj h
 unfold Itm.own cX inR at this
 rcases E with E|E
 ·rw[if_neg (by omega),if_pos E]at this
  simp only[Bool.and_eq_true,decide_eq_true_eq]at this
  obtain⟨⟨F,I⟩,⟨J,M⟩,c1,c2⟩:=this
  refine⟨(dB F).2,(dB J).2,⟨c1,c2⟩,λ_ e=>?_,λe=>?_⟩
  ·rw[e]at I;simp at I
  ·omega
 ·rw[if_neg (by omega),if_neg (by omega),if_pos E]at this
  simp only[Bool.and_eq_true,Bool.or_eq_true,decide_eq_true_eq]at this
  obtain⟨⟨F,I⟩,⟨J,M⟩,⟨c1,c2⟩,D⟩:=this
  refine⟨(dB F).2,(dB J).2,⟨c1,c2⟩,λe=>?_,λ_=>⟨by omega,λe=>?_⟩⟩
  ·omega
  ·rcases D with D|D
   ·rw[e]at D;simp at D
   ·exact D
theorem oM {x:Itm} (h:x.may=true) (D:x.kind=4):x.new.length<=256:=(dB (mp h (.inr (.inr D)))).2
section
variable (G:Glob) (hG:GOk G)
include hG
omit hG in
theorem f46:ag G Tryz.prog 46 [] [] (λr σ=>∃b,r= .sc (.map (some b))/\σ=[(b,.map (cl intK fc))]):=by
 refine ag.w c46 ?_
 unfold s46 r46
 (try simp only[EVz,seval,↓reduceIte,EV6,EV7])
 refine cV ?_
 intro b D
 (try simp only[EVz,seval,↓reduceIte,EV6,EV7])
 refine cA bg (l:=[]) (k:=0) (eT:=95) rfl (fT 0) rfl (by kernel_rfl) aQ ?_
 (repeat' (first|simp only[EVz,seval,↓reduceIte,EV6,EV7]|(refine cA bg (eT:=95) rfl (fT _) rfl (by kernel_rfl) aQ ?_)))
 exact RET.mk (SubN.refl _) ⟨b,rfl,rfl⟩
omit hG in
set_option maxHeartbeats 8000000 in
theorem oK (u:U) (Z:Good u) (d:Dd) (X:¬(0<=d.it.kind/\d.it.kind<=6)):Pure G Tryz.prog 18 [.agg u.cs,.agg d.cs] (aO (u,1)):=by
 have O:=f46 G
 have F:=do_none X
 have J:=U.cs_eq u
 unfold Dd.cs aO
 rw[Itm.cs_eq,J]
 refine Pure.w c18 λR T=>?_
 unfold s18 r18
 (repeat' (first|simp only[EVz,seval,↓reduceIte,EV6,EV7,F,Option.getD_none,Option.isSome_none,D]|simp only[EVz,seval,↓reduceIte,EV6,EV7,F,Option.getD_none,Option.isSome_none]|(with_reducible intro N E;(try(have I:=E;simp only[EVK]at I;(have D:=I))))|(refine av [] _ O.v (ax.rfl' _) (SubN.refl _) (λr σ' V M=>?_);obtain⟨Y,rfl,rfl⟩:=V;(have D:=M);(try simp[Store.keys]at D))|(refine aG bg (l:=fc) (k:=d.it.kind) (z:=.nilFunc) (zv:=.sc .nilFunc) (eT:=95) rfl (bK _) (by kernel_rfl) (by exact aQ) (by kernel_rfl) cE ?_)))
 all_goals exact RQ T
set_option maxHeartbeats 8000000 in
theorem apply_of (u:U) (hu:Good u) (d:Dd) (hs:d.it.Shorts) (fn:Nat) (I:aS d.it.kind fc=some (fnv fn)) (q:U×Int)
  (hq:d.it.may=true->(one u d.it.at_).2=0->(d.it.kind=0\/(one u d.it.at_).1≠u.id)->Pure G Tryz.prog fn [.agg u.cs,.agg (fnd (one u d.it.at_).1 u).cs,.agg d.cs] (aO q)):
  Pure G Tryz.prog 18 [.agg u.cs,.agg d.cs] (aO (if d.it.may=false then (u,1)else if (one u d.it.at_).2≠0 then (u,(one u d.it.at_).2)else if d.it.kind=0\/(one u d.it.at_).1≠u.id then q else if d.it.kind=6/\(one u d.it.to_).2≠0 then (u,(one u d.it.to_).2)else (u,9))):=by
 have ac:=hu.short
 obtain⟨q1,_⟩:=(Itm.Shorts_eq d.it).1 hs
 have hV:=f47 G hG d.it hs
 have hO:=f43 G u d.it.at_ ac.1 hu.cnt q1.at_
 have T:=f43 G u d.it.to_ ac.1 hu.cnt q1.to_
 have hD:=f46 G
 have hid:=bZ (u:=u) (p:=d.it.at_)
 have ah:=λi=>f44 G i u ac
 unfold lH at hO T
 obtain⟨⟨i,e⟩,an⟩:∃z,one u d.it.at_=z:=⟨_,rfl⟩
 obtain⟨⟨t,e'⟩,ba⟩:∃z,one u d.it.to_=z:=⟨_,rfl⟩
 rw[an]at hO hid hq ⊢
 rw[ba]at T ⊢
 simp only at hO T hid hq ⊢
 obtain⟨mv,aw⟩:∃b,d.it.may=b:=⟨_,rfl⟩
 rw[aw]at hV hq ⊢
 have N:=U.cs_eq u
 obtain⟨f,hf⟩:∃f,fnv fn= .sc f:=⟨_,rfl⟩
 have al:f= .func (.func fn) #[] #[]:=by unfold fnv at hf;injection hf with hf;exact hf.symm
 rw[hf]at I
 unfold Dd.cs at hq ⊢
 rw[Itm.cs_eq]at hV hq ⊢
 unfold aO at hq ⊢
 refine Pure.w c18 λR M=>?_
 unfold s18 r18
 cases mv with
 |false=>
  rw[if_pos rfl]at M
  rw[N]at M ⊢
  (repeat' (first|(with_reducible refine aa hV ?_)|simp only[EVz,seval,↓reduceIte,EV6,EV7,I,Option.getD_some,Option.isSome_some,D]|simp only[EVz,seval,↓reduceIte,EV6,EV7,I,Option.getD_some,Option.isSome_some]|(with_reducible intro O F;(try(have E:=F;simp only[EVK]at E;(have D:=E))))|(refine av [] _ hD.v (ax.rfl' _) (SubN.refl _) (λr σ' V J=>?_);obtain⟨bm,rfl,rfl⟩:=V;(have D:=J);(try simp[Store.keys]at D))|(refine aG bg (l:=fc) (k:=d.it.kind) (z:=.nilFunc) (zv:=.sc .nilFunc) (eT:=95) rfl (bK _) (by kernel_rfl) (by exact aQ) (by kernel_rfl) cE ?_)))
  all_goals exact RQ M
 |true=>
  rw[if_neg (by simp)]at M
  rcases Classical.em (e=0)with h|h
  ·subst h
   rw[if_neg (by simp)]at M
   have hi:=hid rfl
   have Z:=ah i
   unfold gV at Z
   rw[fG hi,if_neg (by simp)]at Z
   clear ah hid
   obtain⟨X,hX⟩:∃X,fnd i u=X:=⟨_,rfl⟩
   rw[hX]at Z hq
   rcases Classical.em (d.it.kind=0\/i≠u.id)with g|g
   ·rw[if_pos g]at M
    have hC:=(hq rfl rfl g).v
    rw[←al]at hC
    rw[N]at hO Z hC ⊢
    simp only[Idd.cs]at Z
    rcases Classical.em (i=u.id)with g1|g1
    ·have g0:d.it.kind=0:=g.resolve_right (λh=>h g1)
     have Y:decide (i=u.id)=true:=decide_eq_true g1
     have e2:decide (d.it.kind=0)=true:=decide_eq_true g0
     (repeat' (first|(with_reducible first|refine aa hV ?_|refine aa hO ?_|refine aa Z ?_)|simp only[EVz,seval,↓reduceIte,EV6,EV7,I,Option.getD_some,Option.isSome_some,gv,Y,e2,D]|simp only[EVz,seval,↓reduceIte,EV6,EV7,I,Option.getD_some,Option.isSome_some,gv,Y,e2]|(with_reducible intro O F;(try(have E:=F;simp only[EVK]at E;first|(have D:=AI E D)|(have D:=E))))|(refine av [] _ hD.v (ax.rfl' _) (SubN.refl _) (λr σ' V J=>?_);obtain⟨bm,rfl,rfl⟩:=V;(have D:=J);(try simp[Store.keys]at D))|(refine aG bg (l:=fc) (k:=d.it.kind) (z:=.nilFunc) (zv:=.sc .nilFunc) (eT:=95) rfl (bK _) (by kernel_rfl) (by exact aQ) (by kernel_rfl) cE ?_)|(refine aI hC ?_)))
     all_goals exact RQ M
    ·have Y:decide (i=u.id)=false:=decide_eq_false g1
     (repeat' (first|(with_reducible first|refine aa hV ?_|refine aa hO ?_|refine aa Z ?_)|simp only[EVz,seval,↓reduceIte,EV6,EV7,I,Option.getD_some,Option.isSome_some,gv,Y,D]|simp only[EVz,seval,↓reduceIte,EV6,EV7,I,Option.getD_some,Option.isSome_some,gv,Y]|(with_reducible intro O F;(try(have E:=F;simp only[EVK]at E;first|(have D:=AI E D)|(have D:=E))))|(refine av [] _ hD.v (ax.rfl' _) (SubN.refl _) (λr σ' V J=>?_);obtain⟨bm,rfl,rfl⟩:=V;(have D:=J);(try simp[Store.keys]at D))|(refine aG bg (l:=fc) (k:=d.it.kind) (z:=.nilFunc) (zv:=.sc .nilFunc) (eT:=95) rfl (bK _) (by kernel_rfl) (by exact aQ) (by kernel_rfl) cE ?_)|(refine aI hC ?_)))
     all_goals exact RQ M
   ·rw[if_neg g]at M
    rw[not_or,Classical.not_not]at g
    obtain⟨g0,g1⟩:=g
    have Y:decide (i=u.id)=true:=decide_eq_true g1
    have e2:decide (d.it.kind=0)=false:=decide_eq_false g0
    rw[N]at hO T Z ⊢
    simp only[Idd.cs]at Z
    rcases Classical.em (d.it.kind=6)with k6|k6
    ·have e3:decide (d.it.kind=6)=true:=decide_eq_true k6
     rcases Classical.em (e'=0)with h'|h'
     ·subst h'
      rw[if_neg (by simp)]at M
      simp only at M
      rw[N]at M
      (repeat' (first|(with_reducible first|refine aa hV ?_|refine aa hO ?_|refine aa T ?_|refine aa Z ?_)|simp only[EVz,seval,↓reduceIte,EV6,EV7,I,Option.getD_some,Option.isSome_some,gv,Y,e2,e3,D]|simp only[EVz,seval,↓reduceIte,EV6,EV7,I,Option.getD_some,Option.isSome_some,gv,Y,e2,e3]|(with_reducible intro O F;(try(have E:=F;simp only[EVK]at E;first|(have D:=AI E D)|(have D:=E))))|(refine av [] _ hD.v (ax.rfl' _) (SubN.refl _) (λr σ' V J=>?_);obtain⟨bm,rfl,rfl⟩:=V;(have D:=J);(try simp[Store.keys]at D))|(refine aG bg (l:=fc) (k:=d.it.kind) (z:=.nilFunc) (zv:=.sc .nilFunc) (eT:=95) rfl (bK _) (by kernel_rfl) (by exact aQ) (by kernel_rfl) cE ?_)))
      all_goals exact RQ M
     ·rw[if_pos ⟨k6,h'⟩]at M
      simp only at M
      rw[N]at M
      (repeat' (first|(with_reducible (refine ab (λh=>?_) (λh=>?_))<;>(try simp only[DZ]at h))|(with_reducible first|refine aa hV ?_|refine aa hO ?_|refine aa T ?_|refine aa Z ?_)|simp only[EVz,seval,↓reduceIte,EV6,EV7,I,Option.getD_some,Option.isSome_some,gv,Y,e2,e3,h',D]|simp only[EVz,seval,↓reduceIte,EV6,EV7,I,Option.getD_some,Option.isSome_some,gv,Y,e2,e3,h']|(with_reducible intro O F;(try(have E:=F;simp only[EVK]at E;first|(have D:=AI E D)|(have D:=E))))|(refine av [] _ hD.v (ax.rfl' _) (SubN.refl _) (λr σ' V J=>?_);obtain⟨bm,rfl,rfl⟩:=V;(have D:=J);(try simp[Store.keys]at D))|(refine aG bg (l:=fc) (k:=d.it.kind) (z:=.nilFunc) (zv:=.sc .nilFunc) (eT:=95) rfl (bK _) (by kernel_rfl) (by exact aQ) (by kernel_rfl) cE ?_)|(exfalso;omega)))
      all_goals exact RQ M
    ·have e3:decide (d.it.kind=6)=false:=decide_eq_false k6
     rw[if_neg (λh=>k6 h.1)]at M
     simp only at M
     rw[N]at M
     (repeat' (first|(with_reducible first|refine aa hV ?_|refine aa hO ?_|refine aa Z ?_)|simp only[EVz,seval,↓reduceIte,EV6,EV7,I,Option.getD_some,Option.isSome_some,gv,Y,e2,e3,D]|simp only[EVz,seval,↓reduceIte,EV6,EV7,I,Option.getD_some,Option.isSome_some,gv,Y,e2,e3]|(with_reducible intro O F;(try(have E:=F;simp only[EVK]at E;first|(have D:=AI E D)|(have D:=E))))|(refine av [] _ hD.v (ax.rfl' _) (SubN.refl _) (λr σ' V J=>?_);obtain⟨bm,rfl,rfl⟩:=V;(have D:=J);(try simp[Store.keys]at D))|(refine aG bg (l:=fc) (k:=d.it.kind) (z:=.nilFunc) (zv:=.sc .nilFunc) (eT:=95) rfl (bK _) (by kernel_rfl) (by exact aQ) (by kernel_rfl) cE ?_)))
     all_goals exact RQ M
  ·rw[if_pos h]at M
   rw[N]at hO M ⊢
   (repeat' (first|(with_reducible (refine ab (λh=>?_) (λh=>?_))<;>(try simp only[DZ]at h))|(with_reducible first|refine aa hV ?_|refine aa hO ?_)|simp only[EVz,seval,↓reduceIte,EV6,EV7,I,Option.getD_some,Option.isSome_some,h,D]|simp only[EVz,seval,↓reduceIte,EV6,EV7,I,Option.getD_some,Option.isSome_some,h]|(with_reducible intro O F;(try(have E:=F;simp only[EVK]at E;first|(have D:=AI E D)|(have D:=E))))|(refine av [] _ hD.v (ax.rfl' _) (SubN.refl _) (λr σ' V J=>?_);obtain⟨bm,rfl,rfl⟩:=V;(have D:=J);(try simp[Store.keys]at D))|(refine aG bg (l:=fc) (k:=d.it.kind) (z:=.nilFunc) (zv:=.sc .nilFunc) (eT:=95) rfl (bK _) (by kernel_rfl) (by exact aQ) (by kernel_rfl) cE ?_)|(exfalso;omega)))
   all_goals exact RQ M
end
def g9:List (Int×AV):=[(0,fnv 57),(1,fnv 59),(2,fnv 61),(3,fnv 63),(4,fnv 65),(5,fnv 67)]
theorem tak_none {k:Int} (h:¬(0<=k/\k<=5)):aS k g9=none:=by
 simp only[g9,aS]
 rw[if_neg (by omega),if_neg (by omega),if_neg (by omega),if_neg (by omega),if_neg (by omega),if_neg (by omega)]
theorem unit_eq (p:Pt):p.unit.cs=[.int .i64 p.unit.id.act,.int .i64 p.unit.id.item,.int .i64 p.unit.id.n,.int .i64 p.unit.kind,.str p.unit.label,.lst 4 (p.unit.head.map Wd.cs),.lst 4 (p.unit.words.map Wd.cs),.lst 8 (p.unit.kids.map U.cs)]:=U.cs_eq _
section
variable (G:Glob) (hG:GOk G)
include hG
theorem f57 (u:U) (X:Good u) (p:Pt):Pure G Tryz.prog 57 [.agg u.cs,.agg p.cs] (aO (remT u p.id)):=by
 have D:=f58 G hG u X p.id
 unfold aO
 have J:=U.cs_len (remT u p.id).1
 have M:=U.cs_len (remU u p.id)
 generalize (remT u p.id).1.cs=xs at*
 generalize (remT u p.id).2=e at*
 generalize (remU u p.id).cs=ys at*
 have N:xs.take 8=xs:=take_of_length_le (by omega)
 have O:ys.take 8=ys:=take_of_length_le (by omega)
 simp only[Idd.cs]at D
 unfold Pt.cs
 rw[U.cs_eq u]at D ⊢
 refine Pure.w c57 λR V=>?_
 unfold s57 r57
 (repeat' (first|(with_reducible refine aa D ?_)|simp only[EVz,seval,↓reduceIte,EV6,EV7,J,M,N,O,E]|simp only[EVz,seval,↓reduceIte,EV6,EV7,J,M,N,O]|(with_reducible intro T I;(try(have F:=I;simp only[EVK]at F;first|(have E:=AI F E)|(have E:=F))))|fail))
 all_goals exact V _ _ (.inl (.inl (by rfl)))
theorem f59 (u:U) (X:Good u) (T:u.kind=0) (p:Pt) (Y:p.unit.Short) (I:p.unit.flat.length<=1000000):Pure G Tryz.prog 59 [.agg u.cs,.agg p.cs] (aO (insT u p.parent p.at_ p.unit)):=by
 have D:=f60 G hG u X T p.parent p.at_ p.unit Y I
 unfold aO at D ⊢
 have M:=U.cs_len (insT u p.parent p.at_ p.unit).1
 generalize (insT u p.parent p.at_ p.unit).1.cs=xs at*
 generalize (insT u p.parent p.at_ p.unit).2=e at*
 have N:xs.take 8=xs:=take_of_length_le (by omega)
 simp only[Idd.cs]at D
 rw[unit_eq p]at D
 unfold Pt.cs
 rw[U.cs_eq u]at D ⊢
 refine Pure.w c59 λR V=>?_
 unfold s59 r59
 (repeat' (first|(with_reducible refine aa D ?_)|simp only[EVz,seval,↓reduceIte,EV6,EV7,M,N,J]|simp only[EVz,seval,↓reduceIte,EV6,EV7,M,N]|(with_reducible intro O E;(try(have F:=E;simp only[EVK]at F;(have J:=F))))|fail))
 all_goals exact V _ _ (.inl (.inl (by rfl)))
theorem f61 (u:U) (V:Good u) (O:u.kind=0) (p:Pt):Pure G Tryz.prog 61 [.agg u.cs,.agg p.cs] (aO (movT u p.id p.parent p.at_)):=by
 have D:=f62 G hG u V O p.id p.parent p.at_
 unfold aO at D ⊢
 have J:=U.cs_len (movT u p.id p.parent p.at_).1
 generalize (movT u p.id p.parent p.at_).1.cs=xs at*
 generalize (movT u p.id p.parent p.at_).2=e at*
 have M:xs.take 8=xs:=take_of_length_le (by omega)
 simp only[Idd.cs]at D
 unfold Pt.cs
 rw[U.cs_eq u]at D ⊢
 refine Pure.w c61 λR T=>?_
 unfold s61 r61
 (repeat' (first|(with_reducible refine aa D ?_)|simp only[EVz,seval,↓reduceIte,EV6,EV7,J,M,I]|simp only[EVz,seval,↓reduceIte,EV6,EV7,J,M]|(with_reducible intro N E;(try(have F:=E;simp only[EVK]at F;(have I:=F))))|fail))
 all_goals exact T _ _ (.inl (.inl (by rfl)))
theorem f63 (u:U) (V:Good u) (O:u.kind=0) (p:Pt):Pure G Tryz.prog 63 [.agg u.cs,.agg p.cs] (aO (relT u p.id p.label)):=by
 have D:=f64 G hG u V O p.id p.label
 unfold aO at D ⊢
 have J:=U.cs_len (relT u p.id p.label).1
 generalize (relT u p.id p.label).1.cs=xs at*
 generalize (relT u p.id p.label).2=e at*
 have M:xs.take 8=xs:=take_of_length_le (by omega)
 simp only[Idd.cs]at D
 unfold Pt.cs
 rw[U.cs_eq u]at D ⊢
 refine Pure.w c63 λR T=>?_
 unfold s63 r63
 (repeat' (first|(with_reducible refine aa D ?_)|simp only[EVz,seval,↓reduceIte,EV6,EV7,J,M,I]|simp only[EVz,seval,↓reduceIte,EV6,EV7,J,M]|(with_reducible intro N E;(try(have F:=E;simp only[EVK]at F;(have I:=F))))|fail))
 all_goals exact T _ _ (.inl (.inl (by rfl)))
theorem f65 (u:U) (T:Good u) (p:Pt) (V:p.words.length<1000000):Pure G Tryz.prog 65 [.agg u.cs,.agg p.cs] (aO (wrT u p.id p.words (λy=>{y with words:=p.words}))):=by
 have D:=f66 G hG u T p.id p.words V
 unfold aO at D ⊢
 have J:=U.cs_len (wrT u p.id p.words (λy=>{y with words:=p.words})).1
 generalize (wrT u p.id p.words (λy=>{y with words:=p.words})).1.cs=xs at*
 generalize (wrT u p.id p.words (λy=>{y with words:=p.words})).2=e at*
 have M:xs.take 8=xs:=take_of_length_le (by omega)
 simp only[Idd.cs]at D
 unfold Pt.cs
 rw[U.cs_eq u]at D ⊢
 refine Pure.w c65 λR O=>?_
 unfold s65 r65
 (repeat' (first|(with_reducible refine aa D ?_)|simp only[EVz,seval,↓reduceIte,EV6,EV7,J,M,I]|simp only[EVz,seval,↓reduceIte,EV6,EV7,J,M]|(with_reducible intro N E;(try(have F:=E;simp only[EVK]at F;(have I:=F))))|fail))
 all_goals exact O _ _ (.inl (.inl (by rfl)))
theorem f67 (u:U) (T:Good u) (p:Pt) (V:p.words.length<1000000):Pure G Tryz.prog 67 [.agg u.cs,.agg p.cs] (aO (wrT u p.id p.words (λy=>{y with head:=p.words}))):=by
 have D:=f68 G hG u T p.id p.words V
 unfold aO at D ⊢
 have J:=U.cs_len (wrT u p.id p.words (λy=>{y with head:=p.words})).1
 generalize (wrT u p.id p.words (λy=>{y with head:=p.words})).1.cs=xs at*
 generalize (wrT u p.id p.words (λy=>{y with head:=p.words})).2=e at*
 have M:xs.take 8=xs:=take_of_length_le (by omega)
 simp only[Idd.cs]at D
 unfold Pt.cs
 rw[U.cs_eq u]at D ⊢
 refine Pure.w c67 λR O=>?_
 unfold s67 r67
 (repeat' (first|(with_reducible refine aa D ?_)|simp only[EVz,seval,↓reduceIte,EV6,EV7,J,M,I]|simp only[EVz,seval,↓reduceIte,EV6,EV7,J,M]|(with_reducible intro N E;(try(have F:=E;simp only[EVK]at F;(have I:=F))))|fail))
 all_goals exact O _ _ (.inl (.inl (by rfl)))
omit hG
theorem f36:ag G Tryz.prog 36 [] [] (λr σ=>∃b,r= .sc (.map (some b))/\σ=[(b,.map (cl intK g9))]):=by
 refine ag.w c36 ?_
 unfold s36 r36
 (try simp only[EVz,seval,↓reduceIte,EV6,EV7])
 refine cV ?_
 intro b D
 (try simp only[EVz,seval,↓reduceIte,EV6,EV7])
 refine cA bg (l:=[]) (k:=0) (eT:=41) rfl (fT 0) rfl (by kernel_rfl) aQ ?_
 (repeat' (first|simp only[EVz,seval,↓reduceIte,EV6,EV7]|(refine cA bg (eT:=41) rfl (fT _) rfl (by kernel_rfl) aQ ?_)|fail))
 exact RET.mk (SubN.refl _) ⟨b,rfl,rfl⟩
end
theorem doP_two (u:U) (d:Dd) (I:chg d.it.kind=true) (q:U×Int) (h:d.it.may=true->(one u d.it.at_).2=0->(d.it.kind=0\/(one u d.it.at_).1≠u.id)->doP u d=q):
  doP u d=if d.it.may=false then (u,1)else if (one u d.it.at_).2≠0 then (u,(one u d.it.at_).2)else if d.it.kind=0\/(one u d.it.at_).1≠u.id then q else if d.it.kind=6/\(one u d.it.to_).2≠0 then (u,(one u d.it.to_).2)else (u,9):=by
 by_cases F:d.it.may=false
 ·rw[if_pos F];unfold doP;rw[if_pos (.inr F)]
 ·rw[if_neg F]
  have D:d.it.may=true:=by simpa using F
  by_cases E:(one u d.it.at_).2=0
  ·rw[if_neg (by simpa using E)]
   by_cases g:d.it.kind=0\/(one u d.it.at_).1≠u.id
   ·rw[if_pos g,h D E g]
   ·rw[if_neg g]
    rw[not_or,Classical.not_not]at g
    unfold doP
    rw[if_neg (by simp[I,D]),if_neg (by simpa using E),if_neg g.1,if_pos g.2]
  ·rw[if_pos E];unfold doP;rw[if_neg (by simp[I,D]),if_pos E]
section
variable (G:Glob) (hG:GOk G)
include hG
theorem f18 (u:U) (N:Good u) (d:Dd) (hs:d.it.Shorts):Pure G Tryz.prog 18 [.agg u.cs,.agg d.cs] (aO (doP u d)):=by
 by_cases hk:0<=d.it.kind/\d.it.kind<=6
 case neg=>
  have O:chg d.it.kind=false:=by unfold chg;simp;omega
  have e:doP u d=(u,1):=by unfold doP;rw[if_pos (.inl O)]
  rw[e]
  exact oK G u N d hk
 have O:chg d.it.kind=true:=by unfold chg;simp;omega
 obtain⟨V,_⟩:=(Itm.Shorts_eq d.it).1 hs
 have hid:=bZ (u:=u) (p:=d.it.at_)
 have F:(one u d.it.at_).2=0->(fnd (one u d.it.at_).1 u).id=(one u d.it.at_).1:=λh=>(cS u N.nd (hid h)).1
 have hw:(one u d.it.at_).2=0->(fnd (one u d.it.at_).1 u).words.length<=256:=λh=>(dN (N.node _ (aP u N.nd (hid h)))).words.1
 have hh:d.it.kind=0\/d.it.kind=1\/d.it.kind=2\/d.it.kind=3\/d.it.kind=4\/d.it.kind=5\/d.it.kind=6:=by omega
 have T:∀fn q,aS d.it.kind fc=some (fnv fn)->(d.it.may=true->(one u d.it.at_).2=0->(d.it.kind=0\/(one u d.it.at_).1≠u.id)->doP u d=q)->(d.it.may=true->(one u d.it.at_).2=0->(d.it.kind=0\/(one u d.it.at_).1≠u.id)->Pure G Tryz.prog fn [.agg u.cs,.agg (fnd (one u d.it.at_).1 u).cs,.agg d.cs] (aO q))->Pure G Tryz.prog 18 [.agg u.cs,.agg d.cs] (aO (doP u d)):=by
  intro fn q M h2 h3
  rw[doP_two u d O q h2]
  exact apply_of G hG u N d hs fn M q h3
 have I:d.it.may=true->(one u d.it.at_).2=0->(d.it.kind=0\/(one u d.it.at_).1≠u.id)->d.it.kind≠0->(one u d.it.at_).1≠u.id:=λ_ _ h h0=>h.resolve_left h0
 rcases hh with h|h|h|h|h|h|h
 ·refine T 92 (insP u (one u d.it.at_).1 d) (by rw[h];rfl) (λE D _=>?_) (λE D _=>?_)
  ·unfold doP;rw[if_neg (by simp[O,E]),if_neg (by simpa using D),if_pos h]
  ·obtain⟨w0,w3⟩:=fd E (.inl h)
   exact f92 G hG u N _ d _ (Prod.ext rfl D) h w0 w3 ⟨kD E h,may_cnt E h⟩ V.at_ V.to_
 ·refine T 93 (without (one u d.it.at_).1 u,0) (by rw[h];rfl) (λE D J=>?_) (λE D J=>?_)
  ·have M:=I E D J (by omega)
   unfold doP;rw[if_neg (by simp[O,E]),if_neg (by simpa using D),if_neg (by omega),if_neg M,if_pos h]
  ·have M:=I E D J (by omega)
   have:=f93 G u N (fnd (one u d.it.at_).1 u) (by rw[F D];exact hid D) (by rw[F D];exact λe=>M e.symm) d
   rw[F D]at this
   exact this
 ·refine T 94 (if (bJ (fnd (one u d.it.at_).1 u).words d.it d.act d.item).2≠0 then (u,(bJ (fnd (one u d.it.at_).1 u).words d.it d.act d.item).2)else (U.wth (one u d.it.at_).1 (λy=>{y with words:=(bJ (fnd (one u d.it.at_).1 u).words d.it d.act d.item).1}) u,0)) (by rw[h];rfl) (λE D J=>?_) (λE D J=>?_)
  rotate_left
  ·obtain⟨X,Y,Z,m4,m5⟩:=ns E (.inl h)
   have M:=I E D J (by omega)
   have:=f94 G u N (fnd (one u d.it.at_).1 u) (by rw[F D];exact hid D) d (hw D) h (m4 h) X Y Z
   rw[F D]at this
   exact this
  ·have M:=I E D J (by omega)
   unfold doP;rw[if_neg (by simp[O,E]),if_neg (by simpa using D),if_neg (by omega),if_neg M,if_neg (by omega),if_pos (.inl h)]
 ·refine T 95 (if (bJ (fnd (one u d.it.at_).1 u).words d.it d.act d.item).2≠0 then (u,(bJ (fnd (one u d.it.at_).1 u).words d.it d.act d.item).2)else (U.wth (one u d.it.at_).1 (λy=>{y with words:=(bJ (fnd (one u d.it.at_).1 u).words d.it d.act d.item).1}) u,0)) (by rw[h];rfl) (λE D J=>?_) (λE D J=>?_)
  rotate_left
  ·obtain⟨X,Y,Z,m4,m5⟩:=ns E (.inr h)
   have M:=I E D J (by omega)
   have:=f95 G u N (fnd (one u d.it.at_).1 u) (by rw[F D];exact hid D) d (hw D) h X Y (m5 h).1 Z (m5 h).2
   rw[F D]at this
   exact this
  ·have M:=I E D J (by omega)
   unfold doP;rw[if_neg (by simp[O,E]),if_neg (by simpa using D),if_neg (by omega),if_neg M,if_neg (by omega),if_pos (.inr h)]
 ·refine T 96 (U.wth (one u d.it.at_).1 (λy=>{y with head:=aX d.act d.item d.it.new 0}) u,0) (by rw[h];rfl) (λE D J=>?_) (λE D J=>?_)
  rotate_left
  ·have:=f96 G u N (fnd (one u d.it.at_).1 u) (by rw[F D];exact hid D) d (oM E h)
   rw[F D]at this
   exact this
  ·have M:=I E D J (by omega)
   unfold doP;rw[if_neg (by simp[O,E]),if_neg (by simpa using D),if_neg (by omega),if_neg M,if_neg (by omega),if_neg (by omega),if_pos h]
 ·refine T 97 (if dR (parR (one u d.it.at_).1 u).1 (parR (one u d.it.at_).1 u).1.kids {fnd (one u d.it.at_).1 u with label:=d.it.label}=10 then (u,10)else (U.wth (one u d.it.at_).1 (λy=>{y with label:=d.it.label}) u,0)) (by rw[h];rfl) (λE D J=>?_) (λE D J=>?_)
  rotate_left
  ·have M:=I E D J (by omega)
   have:=f97 G hG u N (fnd (one u d.it.at_).1 u) (by rw[F D]) (by rw[F D];exact hid D) (by rw[F D];exact λe=>M e.symm) d
   rw[F D]at this
   exact this
  ·have M:=I E D J (by omega)
   unfold doP;rw[if_neg (by simp[O,E]),if_neg (by simpa using D),if_neg (by omega),if_neg M,if_neg (by omega),if_neg (by omega),if_neg (by omega),if_pos h]
 ·refine T 98 (if (one u d.it.to_).2≠0 then (u,(one u d.it.to_).2)else movP u (one u d.it.at_).1 (one u d.it.to_).1 d) (by rw[h];rfl) (λE D J=>?_) (λE D J=>?_)
  rotate_left
  ·have M:=I E D J (by omega)
   obtain⟨w0,w3⟩:=fd E (.inr h)
   exact f98 G hG u N d _ (Prod.ext rfl D) (λe=>M e.symm) h w0 w3 V.at_ V.to_
  ·have M:=I E D J (by omega)
   unfold doP;rw[if_neg (by simp[O,E]),if_neg (by simpa using D),if_neg (by omega),if_neg M,if_neg (by omega),if_neg (by omega),if_neg (by omega),if_neg (by omega)]
end
section
variable (G:Glob)
theorem iZ (u:U) (p:Pt) (fn:Nat) (N:aS p.kind g9=some (fnv fn)) (q:U×Int) (hq:Pure G Tryz.prog fn [.agg u.cs,.agg p.cs] (aO q)):Pure G Tryz.prog 14 [.agg u.cs,.agg p.cs] (aO q):=by
 have Y:=f36 G
 obtain⟨f,F⟩:∃f,fnv fn= .sc f:=⟨_,rfl⟩
 have M:f= .func (.func fn) #[] #[]:=by unfold fnv at F;injection F with F;exact F.symm
 rw[F]at N
 have J:=hq.v
 subst M
 unfold aO at J ⊢
 have T:=U.cs_len q.1
 generalize q.1.cs=xs at*
 generalize q.2=e at*
 have V:xs.take 8=xs:=take_of_length_le (by omega)
 unfold Pt.cs at J ⊢
 rw[U.cs_eq u]at J ⊢
 refine Pure.w c14 λR Z=>?_
 unfold s14 r14
 (repeat' (first|simp only[EVz,seval,↓reduceIte,EV6,EV7,N,Option.getD_some,Option.isSome_some,T,V,D]|simp only[EVz,seval,↓reduceIte,EV6,EV7,N,Option.getD_some,Option.isSome_some,T,V]|(with_reducible intro X E;(try(have I:=E;simp only[EVK]at I;(have D:=I))))|(refine av [] _ Y.v (ax.rfl' _) (SubN.refl _) (λr σ' hh O=>?_);obtain⟨bm,rfl,rfl⟩:=hh;(have D:=O);(try simp[Store.keys]at D))|(refine aG bg (l:=g9) (k:=p.kind) (z:=.nilFunc) (zv:=.sc .nilFunc) (eT:=41) rfl (bK _) (by kernel_rfl) (by exact aQ) (by kernel_rfl) cE ?_)|(refine aI J ?_)|fail))
 all_goals exact Z _ _ (.inl (.inl (by rfl)))
theorem rev_none (u:U) (p:Pt) (J:aS p.kind g9=none):Pure G Tryz.prog 14 [.agg u.cs,.agg p.cs] (aO (noU,1)):=by
 have N:=f36 G
 unfold Pt.cs
 rw[U.cs_eq u]
 refine Pure.wL c14 λR O=>?_
 unfold s14 r14
 (repeat' (first|simp only[EVz,seval,↓reduceIte,EV6,EV7,J,Option.getD_none,Option.isSome_none,D]|simp only[EVz,seval,↓reduceIte,EV6,EV7,J,Option.getD_none,Option.isSome_none]|(with_reducible intro M E;(try(have F:=E;simp only[EVK]at F;(have D:=F))))|(refine av [] _ N.v (ax.rfl' _) (SubN.refl _) (λr σ' T I=>?_);obtain⟨V,rfl,rfl⟩:=T;(have D:=I);(try simp[Store.keys]at D))|(refine aG bg (l:=g9) (k:=p.kind) (z:=.nilFunc) (zv:=.sc .nilFunc) (eT:=41) rfl (bK _) (by kernel_rfl) (by exact aQ) (by kernel_rfl) cE ?_)|fail))
 all_goals exact O _ _ (dG 1)
variable (hG:GOk G)
include hG
theorem f14 (u:U) (D:Good u) (E:u.kind=0) (p:Pt) (T:p.unit.Short) (F:p.unit.flat.length<=1000000) (O:p.words.length<1000000):Pure G Tryz.prog 14 [.agg u.cs,.agg p.cs] (aO (revP u p)):=by
 unfold revP
 by_cases I:p.kind=0
 ·rw[if_pos I]
  exact iZ G u p 57 (by rw[I];rfl) _ (f57 G hG u D p)
 rw[if_neg I]
 by_cases k1:p.kind=1
 ·rw[if_pos k1]
  exact iZ G u p 59 (by rw[k1];rfl) _ (f59 G hG u D E p T F)
 rw[if_neg k1]
 by_cases J:p.kind=2
 ·rw[if_pos J]
  exact iZ G u p 61 (by rw[J];rfl) _ (f61 G hG u D E p)
 rw[if_neg J]
 by_cases M:p.kind=3
 ·rw[if_pos M]
  exact iZ G u p 63 (by rw[M];rfl) _ (f63 G hG u D E p)
 rw[if_neg M]
 by_cases N:p.kind=4
 ·rw[if_pos N]
  exact iZ G u p 65 (by rw[N];rfl) _ (f65 G hG u D p O)
 rw[if_neg N]
 by_cases k5:p.kind=5
 ·rw[if_pos k5]
  exact iZ G u p 67 (by rw[k5];rfl) _ (f67 G hG u D p O)
 rw[if_neg k5]
 exact rev_none G u p (tak_none (by omega))
end
/-! ### the patch of an item -/
def makTab:List (Int×AV):=[(1,fnv 87),(6,fnv 89),(2,fnv 85),(3,fnv 85),(4,fnv 90),(5,fnv 91)]
section
variable (G:Glob)
theorem f88 (u:U) (M:Good u) (i:Idd) (hi:i∈u.ids) (J:u.id≠i):Pure G Tryz.prog 88 [.agg u.cs,.agg i.cs] (.agg (Pt.cs ⟨0,(parR i u).2.2,i,(parR i u).1.id,noU,[],[]⟩)):=by
 obtain⟨own,d,j,O,T,X⟩:=bt M.nd hi J
 have F:=f131 G i u M.short M.nd
 unfold gW at F
 rw[O]at F
 rw[T]
 simp only[Idd.cs]at F
 rw[U.cs_eq u]at F ⊢
 refine Pure.w c88 λR V=>?_
 unfold s88 r88
 (repeat' (first|(with_reducible refine aa F ?_)|simp only[EVz,seval,↓reduceIte,EV6,EV7,D]|simp only[EVz,seval,↓reduceIte,EV6,EV7]|(with_reducible intro N I;(try(have E:=I;simp only[EVK]at E;first|(have D:=AI E D)|(have D:=E))))|fail))
 all_goals exact V _ _ (.inr (by simp[Pt.cs,noU,zId,bc,aR]))
theorem f85 (u x:U) (N:x.words.length<1000000):Pure G Tryz.prog 85 [.agg u.cs,.agg x.cs] (.agg (Pt.cs ⟨4,0,x.id,zId,noU,[],x.words⟩)):=by
 have J:=f86p G x.words N
 rw[U.cs_eq u,U.cs_eq x]
 refine Pure.w c85 λR M=>?_
 unfold s85 r85
 (repeat' (first|(with_reducible refine aa J ?_)|simp only[EVz,seval,↓reduceIte,EV6,EV7,F]|simp only[EVz,seval,↓reduceIte,EV6,EV7]|(with_reducible intro I D;(try(have E:=D;simp only[EVK]at E;(have F:=E))))|fail))
 all_goals exact M _ _ (.inr (by simp[Pt.cs,noU,zId,bc,aR]))
theorem f87 (u x:U) (O:Good u) (hi:x.id∈u.ids) (I:u.id≠x.id):Pure G Tryz.prog 87 [.agg u.cs,.agg x.cs] (.agg (Pt.cs ⟨1,(parR x.id u).2.2,x.id,(parR x.id u).1.id,x,[],[]⟩)):=by
 have J:=f88 G u O x.id hi I
 simp only[Idd.cs]at J
 unfold Pt.cs noU at J
 rw[U.cs_eq u]at J ⊢
 rw[U.cs_eq x]
 refine Pure.w c87 λR N=>?_
 unfold s87 r87
 (repeat' (first|(with_reducible refine aa J ?_)|simp only[EVz,seval,↓reduceIte,EV6,EV7,D]|simp only[EVz,seval,↓reduceIte,EV6,EV7]|(with_reducible intro M F;(try(have E:=F;simp only[EVK]at E;first|(have D:=AI E D)|(have D:=E))))|fail))
 all_goals exact N _ _ (.inr (by simp[Pt.cs,noU,zId,bc,aR]))
theorem f89 (u x:U) (O:Good u) (hi:x.id∈u.ids) (I:u.id≠x.id):Pure G Tryz.prog 89 [.agg u.cs,.agg x.cs] (.agg (Pt.cs ⟨2,(parR x.id u).2.2,x.id,(parR x.id u).1.id,noU,[],[]⟩)):=by
 have J:=f88 G u O x.id hi I
 simp only[Idd.cs]at J
 unfold Pt.cs noU at J
 rw[U.cs_eq u]at J ⊢
 rw[U.cs_eq x]
 refine Pure.w c89 λR N=>?_
 unfold s89 r89
 (repeat' (first|(with_reducible refine aa J ?_)|simp only[EVz,seval,↓reduceIte,EV6,EV7,D]|simp only[EVz,seval,↓reduceIte,EV6,EV7]|(with_reducible intro M F;(try(have E:=F;simp only[EVK]at E;first|(have D:=AI E D)|(have D:=E))))|fail))
 all_goals exact N _ _ (.inr (by simp[Pt.cs,noU,zId,bc,aR]))
theorem f90 (u x:U) (N:x.head.length<1000000):Pure G Tryz.prog 90 [.agg u.cs,.agg x.cs] (.agg (Pt.cs ⟨5,0,x.id,zId,noU,[],x.head⟩)):=by
 have J:=f86p G x.head N
 rw[U.cs_eq u,U.cs_eq x]
 refine Pure.w c90 λR M=>?_
 unfold s90 r90
 (repeat' (first|(with_reducible refine aa J ?_)|simp only[EVz,seval,↓reduceIte,EV6,EV7,F]|simp only[EVz,seval,↓reduceIte,EV6,EV7]|(with_reducible intro I D;(try(have E:=D;simp only[EVK]at E;(have F:=E))))|fail))
 all_goals exact M _ _ (.inr (by simp[Pt.cs,noU,zId,bc,aR]))
theorem f91 (u x:U):Pure G Tryz.prog 91 [.agg u.cs,.agg x.cs] (.agg (Pt.cs ⟨3,0,x.id,zId,noU,x.label,[]⟩)):=by
 rw[U.cs_eq u,U.cs_eq x]
 refine Pure.w c91 λR I=>?_
 unfold s91 r91
 (repeat' (first|simp only[EVz,seval,↓reduceIte,EV6,EV7]|(with_reducible intro F D;(try(have E:=D;simp only[EVK]at E;(have J:=E))))|fail))
 all_goals exact I _ _ (.inr (by simp[Pt.cs,noU,zId,bc,aR]))
theorem f45:ag G Tryz.prog 45 [] [] (λr σ=>∃b,r= .sc (.map (some b))/\σ=[(b,.map (cl intK makTab))]):=by
 refine ag.w c45 ?_
 unfold s45 r45
 (try simp only[EVz,seval,↓reduceIte,EV6,EV7])
 refine cV ?_
 intro b D
 (try simp only[EVz,seval,↓reduceIte,EV6,EV7])
 refine cA bg (l:=[]) (k:=1) (eT:=91) rfl (fT 1) rfl (by kernel_rfl) aQ ?_
 (repeat' (first|simp only[EVz,seval,↓reduceIte,EV6,EV7]|(refine cA bg (eT:=91) rfl (fT _) rfl (by kernel_rfl) aQ ?_)|fail))
 all_goals exact RET.mk (SubN.refl _) ⟨b,rfl,rfl⟩
end
def invAV (q:Pt×Int):AV:=.tup [.agg q.1.cs,.int .i64 q.2]
theorem le_zPt:LeRep (.agg [.int .i64 0,.int .i64 0,.int .i64 0,.int .i64 0,.int .i64 0,.int .i64 0,.int .i64 0,.int .i64 0,.int .i64 0,.int .i64 0,.int .i64 0,.int .i64 0,.str [],.nil,.nil,.nil,.str [],.nil]) (.agg zPt.cs):=by
 refine LeRep.agg ?_
 unfold Pt.cs zPt zId noU
 repeat' first
  |exact LeReps.nil
  |refine LeReps.cons ?_ ?_
 all_goals first|exact LeRep.refl _|exact LeRep.nil
theorem le_iPt (a b c:Int):LeRep (.agg [.int .i64 0,.int .i64 0,.int .i64 a,.int .i64 b,.int .i64 c,.int .i64 0,.int .i64 0,.int .i64 0,.int .i64 0,.int .i64 0,.int .i64 0,.int .i64 0,.str [],.nil,.nil,.nil,.str [],.nil]) (.agg (Pt.cs ⟨0,0,⟨a,b,c⟩,zId,noU,[],[]⟩)):=by
 refine LeRep.agg ?_
 unfold Pt.cs zId noU
 repeat' first
  |exact LeReps.nil
  |refine LeReps.cons ?_ ?_
 all_goals first|exact LeRep.refl _|exact LeRep.nil
theorem do_ok {u:U} {d:Dd} (h:(doP u d).2=0):chg d.it.kind=true/\d.it.may=true/\(one u d.it.at_).2=0/\(d.it.kind=0\/(one u d.it.at_).1≠u.id):=by
 unfold doP at h
 split at h
 ·cases h
 rename_i c1
 rw[not_or]at c1
 split at h
 ·rename_i c2;exact absurd h c2
 rename_i c2
 refine⟨by simpa using c1.1,by simpa using c1.2,by simpa using c2,?_⟩
 by_cases D:d.it.kind=0
 ·exact .inl D
 rw[if_neg D]at h
 right
 intro c3
 rw[if_pos c3]at h
 split at h
 ·rename_i c;exact absurd h c.2
 ·cases h
section
variable (G:Glob) (hG:GOk G)
include hG
set_option maxHeartbeats 4000000 in
theorem kH (u:U) (Z:Good u) (d:Dd) (T:d.it.Shorts) (he:(doP u d).2=0) (k0:d.it.kind≠0) (fn:Nat) (hm:aS d.it.kind makTab=some (fnv fn)) (p:Pt)
  (hq:Pure G Tryz.prog fn [.agg u.cs,.agg (fnd (one u d.it.at_).1 u).cs] (.agg p.cs)):Pure G Tryz.prog 17 [.agg u.cs,.agg d.cs] (invAV (p,0)):=by
 have hs:=Z.short
 obtain⟨q1,_⟩:=(Itm.Shorts_eq d.it).1 T
 have I:=f18 G hG u Z d T
 have J:=f43 G u d.it.at_ hs.1 Z.cnt q1.at_
 have hD:=f45 G
 have O:=do_ok he
 have hi:=bZ (u:=u) (p:=d.it.at_) O.2.2.1
 have E:=cj G (one u d.it.at_).1 u hs
 unfold aO at I
 unfold lH at J
 rw[O.2.2.1]at J
 rw[he]at I
 have h1:=U.cs_len (doP u d).1
 generalize (doP u d).1.cs=vs at*
 obtain⟨i,ac⟩:∃i,(one u d.it.at_).1=i:=⟨_,rfl⟩
 rw[ac]at J E hq hi
 rw[show hasP i u=true from decide_eq_true hi]at E
 obtain⟨X,hX⟩:∃X,fnd i u=X:=⟨_,rfl⟩
 rw[hX]at E hq
 obtain⟨f,N⟩:∃f,fnv fn= .sc f:=⟨_,rfl⟩
 have Y:f= .func (.func fn) #[] #[]:=by unfold fnv at N;injection N with N;exact N.symm
 rw[N]at hm
 subst Y
 have V:=hq.v
 have h3:vs.take 8=vs:=take_of_length_le (by omega)
 have h4:=Pt.cs_len p
 unfold invAV
 simp only
 generalize p.cs=ps at*
 have h5:ps.take 18=ps:=take_of_length_le (by omega)
 have e0:decide (d.it.kind=0)=false:=decide_eq_false k0
 unfold Dd.cs at I ⊢
 rw[Itm.cs_eq]at I ⊢
 simp only[Idd.cs]at E
 rw[U.cs_eq X]at E V
 rw[U.cs_eq u]at I J E V ⊢
 refine Pure.w c17 λR hR=>?_
 unfold s17 r17
 (repeat' (first|(with_reducible first|refine aa I ?_|refine aa J ?_|refine aa E ?_)|simp only[EVz,seval,↓reduceIte,EV6,EV7,hm,Option.getD_some,Option.isSome_some,h1,h3,h4,h5,e0,D]|simp only[EVz,seval,↓reduceIte,EV6,EV7,hm,Option.getD_some,Option.isSome_some,h1,h3,h4,h5,e0]|(with_reducible intro al M;(try(have F:=M;simp only[EVK]at F;first|(have D:=AI F D)|(have D:=F))))|(with_reducible first|refine ae ?_ ?_|refine af ?_)|(refine av [] _ hD.v (ax.rfl' _) (SubN.refl _) (λr σ' hh ah=>?_);obtain⟨bm,rfl,rfl⟩:=hh;(have D:=ah);(try simp[Store.keys]at D))|(refine aG bg (l:=makTab) (k:=d.it.kind) (z:=.nilFunc) (zv:=.sc .nilFunc) (eT:=91) rfl (bK _) (by kernel_rfl) (by exact aQ) (by kernel_rfl) cE ?_)|(refine aI V ?_)|fail))
 all_goals exact hR _ _ (.inl (.inl (by rfl)))
set_option maxHeartbeats 4000000 in
theorem f17 (u:U) (J:Good u) (d:Dd) (F:d.it.Shorts):Pure G Tryz.prog 17 [.agg u.cs,.agg d.cs] (invAV (invP u d)):=by
 have hs:=J.short
 by_cases T:(doP u d).2=0
 ·have N:invP u d=(mkPt u d (one u d.it.at_).1,0):=by unfold invP;rw[if_neg (by simp[T])]
  rw[N]
  obtain⟨o1,o2,o3,o4⟩:=do_ok T
  have hi:=bZ (u:=u) (p:=d.it.at_) o3
  by_cases V:d.it.kind=0
  ·have I:=f18 G hG u J d F
   unfold aO at I
   rw[T]at I
   have Y:=U.cs_len (doP u d).1
   generalize (doP u d).1.cs=vs at*
   have Z:vs.take 8=vs:=take_of_length_le (by omega)
   have e0:decide (d.it.kind=0)=true:=decide_eq_true V
   have ah:mkPt u d (one u d.it.at_).1=⟨0,0,⟨d.act,d.item,1⟩,zId,noU,[],[]⟩:=by unfold mkPt;rw[if_pos V]
   rw[ah]
   unfold Dd.cs at I ⊢
   rw[Itm.cs_eq]at I ⊢
   rw[U.cs_eq u]at I ⊢
   refine Pure.wL c17 λR hR=>?_
   unfold s17 r17
   (repeat' (first|(with_reducible refine aa I ?_)|simp only[EVz,seval,↓reduceIte,EV6,EV7,Y,Z,e0,D]|simp only[EVz,seval,↓reduceIte,EV6,EV7,Y,Z,e0]|(with_reducible intro ac M;(try(have E:=M;simp only[EVK]at E;first|(have D:=AI E D)|(have D:=E))))|fail))
   all_goals exact hR _ _ (LeRep.tup (.cons (le_iPt _ _ _) (.cons (LeRep.refl _) .nil)))
  ·have D:=o4.resolve_left V
   have X:u.id≠(one u d.it.at_).1:=λe=>D e.symm
   have hid:=(cS u J.nd hi).1
   have al:0<=d.it.kind/\d.it.kind<=6:=by simpa[chg]using o1
   have O:=(hs.node (aP u J.nd hi)).2 _ (U.flat_self _)
   unfold mkPt
   rw[if_neg V]
   by_cases k1:d.it.kind=1
   ·rw[if_pos k1]
    have:=f87 G u (fnd (one u d.it.at_).1 u) J (by rw[hid];exact hi) (by rw[hid];exact X)
    rw[hid]at this
    exact kH G hG u J d F T V 87 (by rw[k1];rfl) _ this
   rw[if_neg k1]
   by_cases k2:d.it.kind=2\/d.it.kind=3
   ·rw[if_pos k2]
    have:=f85 G u (fnd (one u d.it.at_).1 u) O.2.2.1
    rw[hid]at this
    exact kH G hG u J d F T V 85 (by rcases k2 with k|k<;>rw[k]<;>rfl) _ this
   rw[if_neg k2]
   by_cases k4:d.it.kind=4
   ·rw[if_pos k4]
    have:=f90 G u (fnd (one u d.it.at_).1 u) O.2.1
    rw[hid]at this
    exact kH G hG u J d F T V 90 (by rw[k4];rfl) _ this
   rw[if_neg k4]
   by_cases k5:d.it.kind=5
   ·rw[if_pos k5]
    have:=f91 G u (fnd (one u d.it.at_).1 u)
    rw[hid]at this
    exact kH G hG u J d F T V 91 (by rw[k5];rfl) _ this
   rw[if_neg k5]
   have k6:d.it.kind=6:=by omega
   have:=f89 G u (fnd (one u d.it.at_).1 u) J (by rw[hid];exact hi) (by rw[hid];exact X)
   rw[hid]at this
   exact kH G hG u J d F T V 89 (by rw[k6];rfl) _ this
 ·have N:invP u d=(zPt,(doP u d).2):=by unfold invP;rw[if_pos T]
  rw[N]
  have I:=f18 G hG u J d F
  unfold aO at I
  have Y:=U.cs_len (doP u d).1
  generalize (doP u d).1.cs=vs at*
  generalize (doP u d).2=e at*
  have Z:vs.take 8=vs:=take_of_length_le (by omega)
  have e1:decide (e≠0)=true:=decide_eq_true T
  unfold Dd.cs at I ⊢
  rw[Itm.cs_eq]at I ⊢
  rw[U.cs_eq u]at I ⊢
  refine Pure.wL c17 λR hR=>?_
  unfold s17 r17
  (repeat' (first|(with_reducible refine aa I ?_)|simp only[EVz,seval,↓reduceIte,EV6,EV7,Y,Z,e1,D]|simp only[EVz,seval,↓reduceIte,EV6,EV7,Y,Z,e1]|(with_reducible intro ac M;(try(have E:=M;simp only[EVK]at E;first|(have D:=AI E D)|(have D:=E))))|fail))
  all_goals exact hR _ _ (LeRep.tup (.cons le_zPt (.cons (LeRep.refl _) .nil)))
end
theorem rO {e:TypeId} {sz bytes m:Nat} {g:Option Nat} {rows ys:List (List AV)} {K:AV->Store->Prop} (pre κ:Store) (X:∀p∈pre,p.1∉Store.keys (κ++tokS g e m)) (O:∀b,g=some b->b∉κ.keys) (F:m=rows.length*sz) (I:κ.keys.Nodup) (T:(rows.length+ys.length)*bytes<=140737488355328)
  (V:∀E,(∀b,E=some b->b∉κ.keys)->K (.own E e sz (rows++ys)) (κ++tokS E e ((rows++ys).length*sz))):appX e sz bytes (pre++(κ++tokS g e m)) g rows ys K:=by
 subst F
 refine fM κ (λb h=>?_) T ⟨λq M=>?_,λ_=>I⟩ V
 ·have N:=tokF (e:=e) (m:=rows.length*sz) O b h
  have D:b∈Store.keys (κ++tokS g e (rows.length*sz)):=mem_map.2 ⟨_,Store.get_mem N,rfl⟩
  rw[ak]
  ·exact N
  ·intro F
   obtain⟨p,J,rfl⟩:=mem_map.1 F
   exact X p J D
 ·cases g with
  |none=>exact mem_append.2 (.inr (mem_append.2 (.inl M)))
  |some b=>
   refine mem_filter.2 ⟨mem_append.2 (.inr (mem_append.2 (.inl M))),?_⟩
   have:q.1≠b:=λh=>O b rfl (by rw[←h];exact mem_map.2 ⟨q,M,rfl⟩)
   simpa using this
def allAV (q:U×List Ms):AV:=.tup [.agg q.1.cs,.lst 3 (q.2.map Ms.cs)]
theorem chg_inR (k:Int):inR k 0 6=chg k:=rfl
section
variable (G:Glob) (hG:GOk G)
include hG
set_option maxHeartbeats 4000000 in
theorem f22 (u:U) (hu:Good u) (l:List Dd) (hl:l.length<1000000) (hs:∀d∈l,d.it.Shorts):Pure G Tryz.prog 22 [.agg u.cs,.lst 28 (l.map Dd.cs)] (allAV (allP u l)):=by
 refine Pure.w c22 λR hR=>?_
 unfold s22 r22
 unfold allAV at hR
 (repeat' (first|simp only[EVz,seval,↓reduceIte,EV6,EV7]|(with_reducible intro N E;(try(have F:=E;simp only[EVK]at F;first|(have D:=AI F D)|(have D:=F))))))
 rename_i V _ _ _
 generalize aw:N=b4 at*
 have q1:¬b4=V:=by simpa[Store.keys]using E
 have an:¬V=b4:=λe=>q1 e.symm
 refine ay (ι:=U×List Ms×Option Nat) l (λi r c=>Good c.1/\allP u l=((allP c.1 r).1,c.2.1++(allP c.1 r).2)/\c.2.1.length<=i/\(∀d,c.2.2=some d->d∉Store.keys [(b4,AObj.cells 27 zU),(V,.cells 27 zU)])) (λi c=>[(2,.sc (.pointer (some ⟨V,0,none⟩))),(4,.sc (.pointer (some ⟨b4,0,none⟩))),(6,.own c.2.2 104 3 (c.2.1.map Ms.cs)),(11,.lst 28 (l.map Dd.cs)),(12,.int .i64 l.length),(13,.int .i64 i)]) (λi c=>[(b4,.cells 27 zU),(V,.cells 27 c.1.cs)]++tokS c.2.2 104 (c.2.1.length*3)) (u,[],none) ⟨hu,by simp,by simp,by simp⟩ (Weak.of (by simp[eJ,Env.get,AVle,aR]) (SubN.refl _)) (by omega) (λi x r c T I hw=>?_) (λc T hn=>?_)
 ·obtain⟨o1,M,o3,o4⟩:=T
  have O:=f48 G x.it.kind
  rw[chg_inR]at O
  have X:=f18 G hG c.1 o1 x (hs x I.mem)
  have J:=ly o1 x
  have ba:=I.lt
  rw[rA]at M
  unfold aO at X
  unfold fP at M J
  cases Z:chg x.it.kind with
  |false=>
   rw[Z]at O
   rw[Z,if_pos rfl]at M J
   (repeat' (first|(with_reducible refine aa O ?_)|simp only[EVz,seval,↓reduceIte,EV6,EV7,I.yes,I.le0,I.lt',I.get,I.row,hw,Dd.cs,Itm.cs_eq,D]|(with_reducible intro N E;(try(have F:=E;simp only[EVK]at F;(have D:=AI F D))))))
   exact ap I c ⟨o1,by simpa using M,by omega,o4⟩ (Weak.sub (SubN.tail (SubN.refl _) _))
  |true=>
   rw[Z]at O
   rw[Z,if_neg (by simp)]at M J
   obtain⟨⟨v,e⟩,al⟩:∃z,doP c.1 x=z:=⟨_,rfl⟩
   rw[al]at X M J
   unfold rG at M J
   simp only[Dd.cs,Itm.cs_eq]at X
   rcases Classical.em (e=0)with he|he
   ·subst he
    (repeat' (first|(with_reducible first|refine aa O ?_|refine aa X ?_)|simp only[EVz,seval,↓reduceIte,EV6,EV7,I.yes,I.le0,I.lt',I.get,I.row,hw,Dd.cs,Itm.cs_eq,D]|(with_reducible intro N E;(try(have F:=E;simp only[EVK]at F;(have D:=AI F D))))))
    exact ap I (v,c.2.1,c.2.2) ⟨J.1,by simpa using M,Nat.le_succ_of_le o3,o4⟩ (Weak.sub (SubN.tail (SubN.tail (SubN.refl _) _) _))
   ·(repeat' (first|(with_reducible (refine ab (λh=>?_) (λh=>?_))<;>(try simp only[DZ]at h))|(with_reducible first|refine aa O ?_|refine aa X ?_)|simp only[EVz,seval,↓reduceIte,EV6,EV7,I.yes,I.le0,I.lt',I.get,I.row,hw,Dd.cs,Itm.cs_eq,he,D]|(with_reducible intro N E;(try(have F:=E;simp only[EVK]at F;(have D:=AI F D))))|(exfalso;omega)))
    clear X O
    rename_i b8 _ _ _ b9 _ _ _
    obtain⟨n1,n2,n3,n4⟩:=D
    have ah:∀d,c.2.2=some d->d∈(tokS c.2.2 104 (c.2.1.length*3)).keys:=by
     intro d Y
     rw[Y]
     simp[tokS,Store.keys]
    refine⟨[Ms.cs ⟨x.act,x.item,e⟩],rfl,by simp[Ms.cs],by simp[Ms.cs],?_⟩
    refine rO (sz:=3) (bytes:=24) (rows:=c.2.1.map Ms.cs) (ys:=[Ms.cs ⟨x.act,x.item,e⟩]) (m:=c.2.1.length*3) [(N,_)] [(b9,_),(b8,_),(b4,_),(V,_)] ?_ ?_ (by rw[length_map]) ?_ (by rw[length_map];simp;omega) (λgn ac=>?_)
    ·intro p hp
     simp only[mem_singleton]at hp
     subst hp
     simp[Store.keys,n1]
     simpa[Store.keys]using n1.2.2.2.2
    ·intro d Y
     have h1:=ah d Y
     have h2:=o4 d Y
     simp[Store.keys]at h2 ⊢
     refine⟨λq=>n2.2.2.2 (q ▸ h1),λq=>n3.2.2 (q ▸ h1),h2.1,h2.2⟩
    ·simp[Store.keys,n2,n3,q1]
    (repeat' (simp only[EVz,seval,↓reduceIte,EV6,EV7,n1,n2,n3,q1,an,hw,D]))
    refine ap I (v,c.2.1++[⟨x.act,x.item,e⟩],gn) ⟨J.1,by simpa[he]using M,?_,?_⟩ ?_
    ·rw[length_append];exact Nat.succ_le_succ o3
    ·intro d Y
     have:=ac d Y
     simp[Store.keys]at this ⊢
     exact⟨this.2.2.1,this.2.2.2⟩
    ·simp only[map_append,map_cons,map_nil,length_append,length_map,length_cons,length_nil]
     exact Weak.sub (SubN.tail (SubN.tail (SubN.refl _) _) _)
 ·(repeat' (simp only[EVz,seval,↓reduceIte,EV6,EV7,hn,D]))
  obtain⟨o1,M,o3,o4⟩:=T
  simp only[allP,append_nil]at M
  rw[M]at hR
  exact hR _ _ (.inr ⟨aR.rfl' _,.inr ⟨rfl,rfl⟩,trivial⟩)
end
end Go.Av
