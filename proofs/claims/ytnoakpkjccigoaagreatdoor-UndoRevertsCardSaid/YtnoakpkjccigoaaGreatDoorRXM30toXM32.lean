/-
  ENACT, M30: a unit moved.
-/
import Derived.Test.YtnoakpkjccigoaaGreatDoorRXV10toXM29
import Derived.Test.YtnoakpkjccigoaaGreatDoorRXL23toXL37
namespace Go.Av
open Go Go.RowKit Go.Proofs List
set_option linter.unusedSimpArgs false
set_option linter.unusedVariables false
theorem SubN.seven {n x a b c d e:Nat×AObj}:SubN [n,x,a,b,c,d,e] [a,b,c,n,d,e,x]:=
 SubN.perm ((perm_middle (l₁:=[a,b,c]) (l₂:=[d,e,x])).trans (List.Perm.cons _ (perm_middle (l₁:=[a,b,c,d,e]) (l₂:=[])))).symm
section
variable (G:Glob)
theorem nu (u X:U) (d:Dd) (e:Int) (J:e≠0) (D:Pure G Tryz.prog 144 [.agg u.cs,.agg d.it.cs] (cI (.inr e))):Pure G Tryz.prog 98 [.agg u.cs,.agg X.cs,.agg d.cs] (aO (u,e)):=by
 unfold cI at D
 unfold Dd.cs aO
 rw[Itm.cs_eq]at D ⊢
 rw[U.cs_eq X]
 refine Pure.w c98 λR N=>?_
 unfold s98 r98
 (repeat' (first|(with_reducible (refine ab (λh=>?_) (λh=>?_))<;>(try simp only[DZ]at h))|(with_reducible refine aa D ?_)|simp only[EVz,seval,↓reduceIte,EV6,EV7,J,E]|simp only[EVz,seval,↓reduceIte,EV6,EV7,J]|(with_reducible intro M I;(try(have F:=I;simp only[EVK]at F;first|(have E:=AI F E)|(have E:=F))))|(exfalso;omega)))
 all_goals exact RQ N
end
section
variable (G:Glob) (hG:GOk G)
include hG
set_option maxHeartbeats 4000000 in
theorem f98 (u:U) (J:Good u) (d:Dd) (i:Idd) (hO:one u d.it.at_=(i,0)) (F:u.id≠i) (be:d.it.kind=6) (h0:0<=d.it.wh) (h3:d.it.wh<=3) (hp:d.it.at_.length<1000000) (bp:d.it.to_.length<1000000):
  Pure G Tryz.prog 98 [.agg u.cs,.agg (fnd i u).cs,.agg d.cs] (aO (if (one u d.it.to_).2≠0 then (u,(one u d.it.to_).2)else movP u i (one u d.it.to_).1 d)):=by
 have hs:=J.short
 have bm:=J.cnt
 have hi:i∈u.ids:=by have:=bZ (u:=u) (p:=d.it.at_);rw[hO]at this;exact this rfl
 have D:=f144 G u d.it hs bm J.nd (good_hk J) (nj J) (.inr be) h0 h3 hp bp
 have Z:=(cS u J.nd hi).1
 have aw:=aP u J.nd hi
 have Y:=bZ (u:=u) (p:=d.it.to_)
 have bb:dest u d.it=if (one u d.it.to_).2≠0 then .inr (one u d.it.to_).2 else (match dY u i (one u d.it.to_).1 d.it.wh with|none=>.inr 9|some q=>.inl q):=by
  unfold dest
  rw[hO]
  simp[be]
  rfl
 rw[bb]at D
 obtain⟨⟨t,e⟩,bs⟩:∃z,one u d.it.to_=z:=⟨_,rfl⟩
 rw[bs]at D Y ⊢
 simp only at D Y ⊢
 rcases Classical.em (e=0)with he|he
 ·subst he
  rw[if_neg (by simp)]at D ⊢
  have ht:=Y rfl
  have al:=λq k=>nZ (q:=q) (k:=k) J hi F ht h0 h3
  have ah:=λq k=>goes_le (q:=q) (k:=k) J hi F ht h0 h3
  unfold movP
  obtain⟨z,hz⟩:∃z,dY u i t d.it.wh=z:=⟨_,rfl⟩
  rw[hz]at D al ah ⊢
  rcases z with _|⟨q,k⟩
  ·exact nu G u _ d 9 (by omega) D
  ·obtain⟨m1,m2,m3⟩:=al q k rfl
   have T:=ah q k rfl
   obtain⟨g1,g2,g3,g4⟩:=cN J hi F
   obtain⟨own,dO,j,w1,w2,bq⟩:=bt J.nd hi F
   have hP:=f131 G i u hs J.nd
   unfold gW at hP
   rw[w1]at hP
   have O:=f156 G u J i hi F
   have ba:(fnd i u).Short:=hs.node aw
   rw[w2]
   simp only
   obtain⟨V,hV⟩:∃V,l7 i u=V:=⟨_,rfl⟩
   rw[hV]at O g1 m3 T ⊢
   have ad:=g1.short
   have hF:=f44 G q V ad
   unfold gV at hF
   rw[fG m3,if_neg (by simp)]at hF
   have bd:=gq g1 q
   have ac:=mh m3
   have bw:=g1.cnt
   clear al ah bb Y g4 g2 g3 w1 w2 bq hz m1 m2
   obtain⟨X,hX⟩:∃X,fnd i u=X:=⟨_,rfl⟩
   rw[hX]at Z aw ba ⊢
   subst Z
   have M:=f147 G V q X ad.1 ba.1
   have hT:=f146 G hG (fnd q V) X (by omega)
   have hW:=λbn bx=>f153 G _ _ _ q V ad g1.nd m3 (d164 G bn bx k X _ T (by omega))
   obtain⟨P,bk⟩:∃P,fnd q V=P:=⟨_,rfl⟩
   rw[bk]at hF hT T bd ⊢
   obtain⟨tk,bu⟩:∃tk,dR P P.kids X=tk:=⟨_,rfl⟩
   rw[bu]at hT ⊢
   rw[←ac]
   obtain⟨an,bl⟩:∃an,(anc q V).length=an:=⟨_,rfl⟩
   rw[bl]at M ⊢
   unfold cI at D
   simp only[Idd.cs]at hF M hP O hW
   simp only at D
   rw[U.cs_eq P]at hF hT
   rw[U.cs_eq X]at hT M hW ⊢
   unfold Dd.cs aO
   rw[show(((an+1:Nat):Int))=(an:Int)+1 by omega]
   refine Pure.w c98 λR hR=>?_
   unfold s98 r98
   rw[Itm.cs_eq]at D ⊢
   rcases Classical.em (tk=0)with h|h
   ·subst h
    rw[if_neg (by simp)]at hR
    (repeat' (first|(with_reducible (first|refine ab (λh=>?_) (λh=>?_)|refine ai (λh=>?_) (λh=>?_))<;>(try simp only[DZ]at h))|(with_reducible first|refine aa D ?_|refine aa hP ?_|refine aa O ?_|refine aa hF ?_|refine aa hT ?_|refine aa M ?_)|simp only[EVz,seval,↓reduceIte,EV6,EV7,gv,E]|simp only[EVz,seval,↓reduceIte,EV6,EV7,gv]|(with_reducible intro bi N;(try(have I:=N;simp only[EVK]at I;first|(have E:=AI I E)|(have E:=I))))))
    all_goals try(
     refine hR _ _ (.inl (.inl ?_))
     rw[if_pos (by first|exact .inl ⟨by assumption,by omega⟩|exact .inr (by omega))]
     done)
    all_goals
     have bo:¬((q≠own.id/\64<=P.kids.length)\/8<(an:Int)+1+X.dep):=by
      rintro(⟨g2,g3⟩|g4)
      ·first
        |omega
        |exact g2 (by assumption)
      ·omega
     rw[if_neg bo]at hR
     refine aT [(_,_),(_,_)] [_,_,_,_,_] (hW _ _).v (ax.rfl' _) SubN.seven (λr1 ch hr bh=>?_)
     obtain⟨rfl,rfl⟩:=hr
     refine⟨_,SubN.refl _,?_⟩
     have E:=bh
     simp[Store.keys]at E
     (repeat' (simp only[EVz,seval,↓reduceIte,EV6,EV7,E]))
     all_goals exact RQ hR
   ·rw[if_pos h]at hR
    have h1:decide (tk≠0)=true:=decide_eq_true h
    clear M hW bd ac T
    (repeat' (first|(with_reducible first|refine aa D ?_|refine aa hP ?_|refine aa O ?_|refine aa hF ?_|refine aa hT ?_)|simp only[EVz,seval,↓reduceIte,EV6,EV7,h1,E]|simp only[EVz,seval,↓reduceIte,EV6,EV7,h1]|(with_reducible intro bi N;(try(have I:=N;simp only[EVK]at I;first|(have E:=AI I E)|(have E:=I))))))
    all_goals exact RQ hR
 ·rw[if_pos he]at D ⊢
  exact nu G u _ d e he D
end
def fc:List (Int×AV):=[(0,fnv 92),(1,fnv 93),(2,fnv 94),(3,fnv 95),(4,fnv 96),(5,fnv 97),(6,fnv 98)]
theorem cE:∀τ w,Rep τ w (.sc .nilFunc) .nilFunc:=by
 intro τ w
 simp only[Rep]
theorem do_none {k:Int} (h:¬(0<=k/\k<=6)):aS k fc=none:=by
 simp only[fc,aS]
 rw[if_neg (by omega),if_neg (by omega),if_neg (by omega),if_neg (by omega),if_neg (by omega),if_neg (by omega),if_neg (by omega)]
theorem may_cnt {x:Itm} (h:x.may=true) (F:x.kind=0):x.unit.flat.length<=1024:=by
 have:=gj h
 unfold Itm.own at this
 simp only[F,if_true,Bool.and_eq_true]at this
 have D:=this.2.1
 rw[gZ]at D
 unfold pN pq at D
 simp only[Bool.and_eq_true,decide_eq_true_eq]at D
 have E:=D.1.2.2.1
 unfold U.cnt at E
 omega
theorem ns {x:Itm} (h:x.may=true) (E:x.kind=2\/x.kind=3):x.old.length<=256/\x.new.length<=256/\(0<=x.nth/\x.nth<=256)/\(x.kind=2->x.old≠[])/\(x.kind=3->1<=x.new.length/\(x.old=[]->x.nth=0)):=by
 have:=gj h
 unfold Itm.own cX inR at this
 rcases E with E|E
 ·rw[if_neg (by omega),if_pos E]at this
  simp only[Bool.and_eq_true,decide_eq_true_eq]at this
  obtain⟨⟨F,I⟩,⟨J,M⟩,c1,c2⟩:=this
  refine⟨(dB F).2,(dB J).2,⟨c1,c2⟩,λ_ e=>?_,λe=>?_⟩
  ·rw[e]at I;simp at I
  ·omega
 ·rw[if_neg (by omega),if_neg (by omega),if_pos E]at this
  simp only[Bool.and_eq_true,Bool.or_eq_true,decide_eq_true_eq]at this
  obtain⟨⟨F,I⟩,⟨J,M⟩,⟨c1,c2⟩,D⟩:=this
  refine⟨(dB F).2,(dB J).2,⟨c1,c2⟩,λe=>?_,λ_=>⟨by omega,λe=>?_⟩⟩
  ·omega
  ·rcases D with D|D
   ·rw[e]at D;simp at D
   ·exact D
theorem oM {x:Itm} (h:x.may=true) (D:x.kind=4):x.new.length<=256:=(dB (mp h (.inr (.inr D)))).2
section
variable (G:Glob) (hG:GOk G)
include hG
omit hG in
theorem f46:ag G Tryz.prog 46 [] [] (λr σ=>∃b,r= .sc (.map (some b))/\σ=[(b,.map (cl intK fc))]):=by
 refine ag.w c46 ?_
 unfold s46 r46
 (try simp only[EVz,seval,↓reduceIte,EV6,EV7])
 refine cV ?_
 intro b D
 (try simp only[EVz,seval,↓reduceIte,EV6,EV7])
 refine cA bg (l:=[]) (k:=0) (eT:=95) rfl (fT 0) rfl (by kernel_rfl) aQ ?_
 (repeat' (first|simp only[EVz,seval,↓reduceIte,EV6,EV7]|(refine cA bg (eT:=95) rfl (fT _) rfl (by kernel_rfl) aQ ?_)))
 exact RET.mk (SubN.refl _) ⟨b,rfl,rfl⟩
omit hG in
set_option maxHeartbeats 8000000 in
theorem oK (u:U) (Z:Good u) (d:Dd) (X:¬(0<=d.it.kind/\d.it.kind<=6)):Pure G Tryz.prog 18 [.agg u.cs,.agg d.cs] (aO (u,1)):=by
 have O:=f46 G
 have F:=do_none X
 have J:=U.cs_eq u
 unfold Dd.cs aO
 rw[Itm.cs_eq,J]
 refine Pure.w c18 λR T=>?_
 unfold s18 r18
 (repeat' (first|simp only[EVz,seval,↓reduceIte,EV6,EV7,F,Option.getD_none,Option.isSome_none,D]|simp only[EVz,seval,↓reduceIte,EV6,EV7,F,Option.getD_none,Option.isSome_none]|(with_reducible intro N E;(try(have I:=E;simp only[EVK]at I;(have D:=I))))|(refine av [] _ O.v (ax.rfl' _) (SubN.refl _) (λr σ' V M=>?_);obtain⟨Y,rfl,rfl⟩:=V;(have D:=M);(try simp[Store.keys]at D))|(refine aG bg (l:=fc) (k:=d.it.kind) (z:=.nilFunc) (zv:=.sc .nilFunc) (eT:=95) rfl (bK _) (by kernel_rfl) (by exact aQ) (by kernel_rfl) cE ?_)))
 all_goals exact RQ T
set_option maxHeartbeats 8000000 in
theorem apply_of (u:U) (hu:Good u) (d:Dd) (hs:d.it.Shorts) (fn:Nat) (I:aS d.it.kind fc=some (fnv fn)) (q:U×Int)
  (hq:d.it.may=true->(one u d.it.at_).2=0->(d.it.kind=0\/(one u d.it.at_).1≠u.id)->Pure G Tryz.prog fn [.agg u.cs,.agg (fnd (one u d.it.at_).1 u).cs,.agg d.cs] (aO q)):
  Pure G Tryz.prog 18 [.agg u.cs,.agg d.cs] (aO (if d.it.may=false then (u,1)else if (one u d.it.at_).2≠0 then (u,(one u d.it.at_).2)else if d.it.kind=0\/(one u d.it.at_).1≠u.id then q else if d.it.kind=6/\(one u d.it.to_).2≠0 then (u,(one u d.it.to_).2)else (u,9))):=by
 have ac:=hu.short
 obtain⟨q1,_⟩:=(Itm.Shorts_eq d.it).1 hs
 have hV:=f47 G hG d.it hs
 have hO:=f43 G u d.it.at_ ac.1 hu.cnt q1.at_
 have T:=f43 G u d.it.to_ ac.1 hu.cnt q1.to_
 have hD:=f46 G
 have hid:=bZ (u:=u) (p:=d.it.at_)
 have ad:=λi=>f44 G i u ac
 unfold lH at hO T
 obtain⟨⟨i,e⟩,al⟩:∃z,one u d.it.at_=z:=⟨_,rfl⟩
 obtain⟨⟨t,e'⟩,aw⟩:∃z,one u d.it.to_=z:=⟨_,rfl⟩
 rw[al]at hO hid hq ⊢
 rw[aw]at T ⊢
 simp only at hO T hid hq ⊢
 obtain⟨mv,an⟩:∃b,d.it.may=b:=⟨_,rfl⟩
 rw[an]at hV hq ⊢
 have N:=U.cs_eq u
 obtain⟨f,hf⟩:∃f,fnv fn= .sc f:=⟨_,rfl⟩
 have ah:f= .func (.func fn) #[] #[]:=by unfold fnv at hf;injection hf with hf;exact hf.symm
 rw[hf]at I
 unfold Dd.cs at hq ⊢
 rw[Itm.cs_eq]at hV hq ⊢
 unfold aO at hq ⊢
 refine Pure.w c18 λR M=>?_
 unfold s18 r18
 cases mv with
 |false=>
  rw[if_pos rfl]at M
  rw[N]at M ⊢
  (repeat' (first|(with_reducible refine aa hV ?_)|simp only[EVz,seval,↓reduceIte,EV6,EV7,I,Option.getD_some,Option.isSome_some,D]|simp only[EVz,seval,↓reduceIte,EV6,EV7,I,Option.getD_some,Option.isSome_some]|(with_reducible intro O F;(try(have E:=F;simp only[EVK]at E;(have D:=E))))|(refine av [] _ hD.v (ax.rfl' _) (SubN.refl _) (λr σ' V J=>?_);obtain⟨bm,rfl,rfl⟩:=V;(have D:=J);(try simp[Store.keys]at D))|(refine aG bg (l:=fc) (k:=d.it.kind) (z:=.nilFunc) (zv:=.sc .nilFunc) (eT:=95) rfl (bK _) (by kernel_rfl) (by exact aQ) (by kernel_rfl) cE ?_)))
  all_goals exact RQ M
 |true=>
  rw[if_neg (by simp)]at M
  rcases Classical.em (e=0)with h|h
  ·subst h
   rw[if_neg (by simp)]at M
   have hi:=hid rfl
   have Z:=ad i
   unfold gV at Z
   rw[fG hi,if_neg (by simp)]at Z
   clear ad hid
   obtain⟨X,hX⟩:∃X,fnd i u=X:=⟨_,rfl⟩
   rw[hX]at Z hq
   rcases Classical.em (d.it.kind=0\/i≠u.id)with g|g
   ·rw[if_pos g]at M
    have hC:=(hq rfl rfl g).v
    rw[←ah]at hC
    rw[N]at hO Z hC ⊢
    simp only[Idd.cs]at Z
    rcases Classical.em (i=u.id)with g1|g1
    ·have g0:d.it.kind=0:=g.resolve_right (λh=>h g1)
     have Y:decide (i=u.id)=true:=decide_eq_true g1
     have e2:decide (d.it.kind=0)=true:=decide_eq_true g0
     (repeat' (first|(with_reducible first|refine aa hV ?_|refine aa hO ?_|refine aa Z ?_)|simp only[EVz,seval,↓reduceIte,EV6,EV7,I,Option.getD_some,Option.isSome_some,gv,Y,e2,D]|simp only[EVz,seval,↓reduceIte,EV6,EV7,I,Option.getD_some,Option.isSome_some,gv,Y,e2]|(with_reducible intro O F;(try(have E:=F;simp only[EVK]at E;first|(have D:=AI E D)|(have D:=E))))|(refine av [] _ hD.v (ax.rfl' _) (SubN.refl _) (λr σ' V J=>?_);obtain⟨bm,rfl,rfl⟩:=V;(have D:=J);(try simp[Store.keys]at D))|(refine aG bg (l:=fc) (k:=d.it.kind) (z:=.nilFunc) (zv:=.sc .nilFunc) (eT:=95) rfl (bK _) (by kernel_rfl) (by exact aQ) (by kernel_rfl) cE ?_)|(refine aI hC ?_)))
     all_goals exact RQ M
    ·have Y:decide (i=u.id)=false:=decide_eq_false g1
     (repeat' (first|(with_reducible first|refine aa hV ?_|refine aa hO ?_|refine aa Z ?_)|simp only[EVz,seval,↓reduceIte,EV6,EV7,I,Option.getD_some,Option.isSome_some,gv,Y,D]|simp only[EVz,seval,↓reduceIte,EV6,EV7,I,Option.getD_some,Option.isSome_some,gv,Y]|(with_reducible intro O F;(try(have E:=F;simp only[EVK]at E;first|(have D:=AI E D)|(have D:=E))))|(refine av [] _ hD.v (ax.rfl' _) (SubN.refl _) (λr σ' V J=>?_);obtain⟨bm,rfl,rfl⟩:=V;(have D:=J);(try simp[Store.keys]at D))|(refine aG bg (l:=fc) (k:=d.it.kind) (z:=.nilFunc) (zv:=.sc .nilFunc) (eT:=95) rfl (bK _) (by kernel_rfl) (by exact aQ) (by kernel_rfl) cE ?_)|(refine aI hC ?_)))
     all_goals exact RQ M
   ·rw[if_neg g]at M
    rw[not_or,Classical.not_not]at g
    obtain⟨g0,g1⟩:=g
    have Y:decide (i=u.id)=true:=decide_eq_true g1
    have e2:decide (d.it.kind=0)=false:=decide_eq_false g0
    rw[N]at hO T Z ⊢
    simp only[Idd.cs]at Z
    rcases Classical.em (d.it.kind=6)with k6|k6
    ·have e3:decide (d.it.kind=6)=true:=decide_eq_true k6
     rcases Classical.em (e'=0)with h'|h'
     ·subst h'
      rw[if_neg (by simp)]at M
      simp only at M
      rw[N]at M
      (repeat' (first|(with_reducible first|refine aa hV ?_|refine aa hO ?_|refine aa T ?_|refine aa Z ?_)|simp only[EVz,seval,↓reduceIte,EV6,EV7,I,Option.getD_some,Option.isSome_some,gv,Y,e2,e3,D]|simp only[EVz,seval,↓reduceIte,EV6,EV7,I,Option.getD_some,Option.isSome_some,gv,Y,e2,e3]|(with_reducible intro O F;(try(have E:=F;simp only[EVK]at E;first|(have D:=AI E D)|(have D:=E))))|(refine av [] _ hD.v (ax.rfl' _) (SubN.refl _) (λr σ' V J=>?_);obtain⟨bm,rfl,rfl⟩:=V;(have D:=J);(try simp[Store.keys]at D))|(refine aG bg (l:=fc) (k:=d.it.kind) (z:=.nilFunc) (zv:=.sc .nilFunc) (eT:=95) rfl (bK _) (by kernel_rfl) (by exact aQ) (by kernel_rfl) cE ?_)))
      all_goals exact RQ M
     ·rw[if_pos ⟨k6,h'⟩]at M
      simp only at M
      rw[N]at M
      (repeat' (first|(with_reducible (refine ab (λh=>?_) (λh=>?_))<;>(try simp only[DZ]at h))|(with_reducible first|refine aa hV ?_|refine aa hO ?_|refine aa T ?_|refine aa Z ?_)|simp only[EVz,seval,↓reduceIte,EV6,EV7,I,Option.getD_some,Option.isSome_some,gv,Y,e2,e3,h',D]|simp only[EVz,seval,↓reduceIte,EV6,EV7,I,Option.getD_some,Option.isSome_some,gv,Y,e2,e3,h']|(with_reducible intro O F;(try(have E:=F;simp only[EVK]at E;first|(have D:=AI E D)|(have D:=E))))|(refine av [] _ hD.v (ax.rfl' _) (SubN.refl _) (λr σ' V J=>?_);obtain⟨bm,rfl,rfl⟩:=V;(have D:=J);(try simp[Store.keys]at D))|(refine aG bg (l:=fc) (k:=d.it.kind) (z:=.nilFunc) (zv:=.sc .nilFunc) (eT:=95) rfl (bK _) (by kernel_rfl) (by exact aQ) (by kernel_rfl) cE ?_)|(exfalso;omega)))
      all_goals exact RQ M
    ·have e3:decide (d.it.kind=6)=false:=decide_eq_false k6
     rw[if_neg (λh=>k6 h.1)]at M
     simp only at M
     rw[N]at M
     (repeat' (first|(with_reducible first|refine aa hV ?_|refine aa hO ?_|refine aa Z ?_)|simp only[EVz,seval,↓reduceIte,EV6,EV7,I,Option.getD_some,Option.isSome_some,gv,Y,e2,e3,D]|simp only[EVz,seval,↓reduceIte,EV6,EV7,I,Option.getD_some,Option.isSome_some,gv,Y,e2,e3]|(with_reducible intro O F;(try(have E:=F;simp only[EVK]at E;first|(have D:=AI E D)|(have D:=E))))|(refine av [] _ hD.v (ax.rfl' _) (SubN.refl _) (λr σ' V J=>?_);obtain⟨bm,rfl,rfl⟩:=V;(have D:=J);(try simp[Store.keys]at D))|(refine aG bg (l:=fc) (k:=d.it.kind) (z:=.nilFunc) (zv:=.sc .nilFunc) (eT:=95) rfl (bK _) (by kernel_rfl) (by exact aQ) (by kernel_rfl) cE ?_)))
     all_goals exact RQ M
  ·rw[if_pos h]at M
   rw[N]at hO M ⊢
   (repeat' (first|(with_reducible (refine ab (λh=>?_) (λh=>?_))<;>(try simp only[DZ]at h))|(with_reducible first|refine aa hV ?_|refine aa hO ?_)|simp only[EVz,seval,↓reduceIte,EV6,EV7,I,Option.getD_some,Option.isSome_some,h,D]|simp only[EVz,seval,↓reduceIte,EV6,EV7,I,Option.getD_some,Option.isSome_some,h]|(with_reducible intro O F;(try(have E:=F;simp only[EVK]at E;first|(have D:=AI E D)|(have D:=E))))|(refine av [] _ hD.v (ax.rfl' _) (SubN.refl _) (λr σ' V J=>?_);obtain⟨bm,rfl,rfl⟩:=V;(have D:=J);(try simp[Store.keys]at D))|(refine aG bg (l:=fc) (k:=d.it.kind) (z:=.nilFunc) (zv:=.sc .nilFunc) (eT:=95) rfl (bK _) (by kernel_rfl) (by exact aQ) (by kernel_rfl) cE ?_)|(exfalso;omega)))
   all_goals exact RQ M
end
def g9:List (Int×AV):=[(0,fnv 57),(1,fnv 59),(2,fnv 61),(3,fnv 63),(4,fnv 65),(5,fnv 67)]
theorem tak_none {k:Int} (h:¬(0<=k/\k<=5)):aS k g9=none:=by
 simp only[g9,aS]
 rw[if_neg (by omega),if_neg (by omega),if_neg (by omega),if_neg (by omega),if_neg (by omega),if_neg (by omega)]
theorem unit_eq (p:Pt):p.unit.cs=[.int .i64 p.unit.id.act,.int .i64 p.unit.id.item,.int .i64 p.unit.id.n,.int .i64 p.unit.kind,.str p.unit.label,.lst 4 (p.unit.head.map Wd.cs),.lst 4 (p.unit.words.map Wd.cs),.lst 8 (p.unit.kids.map U.cs)]:=U.cs_eq _
section
variable (G:Glob) (hG:GOk G)
include hG
theorem f57 (u:U) (X:Good u) (p:Pt):Pure G Tryz.prog 57 [.agg u.cs,.agg p.cs] (aO (remT u p.id)):=by
 have D:=f58 G hG u X p.id
 unfold aO
 have J:=U.cs_len (remT u p.id).1
 have M:=U.cs_len (remU u p.id)
 generalize (remT u p.id).1.cs=xs at*
 generalize (remT u p.id).2=e at*
 generalize (remU u p.id).cs=ys at*
 have N:xs.take 8=xs:=take_of_length_le (by omega)
 have O:ys.take 8=ys:=take_of_length_le (by omega)
 simp only[Idd.cs]at D
 unfold Pt.cs
 rw[U.cs_eq u]at D ⊢
 refine Pure.w c57 λR V=>?_
 unfold s57 r57
 (repeat' (first|(with_reducible refine aa D ?_)|simp only[EVz,seval,↓reduceIte,EV6,EV7,J,M,N,O,E]|simp only[EVz,seval,↓reduceIte,EV6,EV7,J,M,N,O]|(with_reducible intro T I;(try(have F:=I;simp only[EVK]at F;first|(have E:=AI F E)|(have E:=F))))|fail))
 all_goals exact V _ _ (.inl (.inl (by rfl)))
theorem f59 (u:U) (X:Good u) (T:u.kind=0) (p:Pt) (Y:p.unit.Short) (I:p.unit.flat.length<=1000000):Pure G Tryz.prog 59 [.agg u.cs,.agg p.cs] (aO (insT u p.parent p.at_ p.unit)):=by
 have D:=f60 G hG u X T p.parent p.at_ p.unit Y I
 unfold aO at D ⊢
 have M:=U.cs_len (insT u p.parent p.at_ p.unit).1
 generalize (insT u p.parent p.at_ p.unit).1.cs=xs at*
 generalize (insT u p.parent p.at_ p.unit).2=e at*
 have N:xs.take 8=xs:=take_of_length_le (by omega)
 simp only[Idd.cs]at D
 rw[unit_eq p]at D
 unfold Pt.cs
 rw[U.cs_eq u]at D ⊢
 refine Pure.w c59 λR V=>?_
 unfold s59 r59
 (repeat' (first|(with_reducible refine aa D ?_)|simp only[EVz,seval,↓reduceIte,EV6,EV7,M,N,J]|simp only[EVz,seval,↓reduceIte,EV6,EV7,M,N]|(with_reducible intro O E;(try(have F:=E;simp only[EVK]at F;(have J:=F))))|fail))
 all_goals exact V _ _ (.inl (.inl (by rfl)))
theorem f61 (u:U) (V:Good u) (O:u.kind=0) (p:Pt):Pure G Tryz.prog 61 [.agg u.cs,.agg p.cs] (aO (movT u p.id p.parent p.at_)):=by
 have D:=f62 G hG u V O p.id p.parent p.at_
 unfold aO at D ⊢
 have J:=U.cs_len (movT u p.id p.parent p.at_).1
 generalize (movT u p.id p.parent p.at_).1.cs=xs at*
 generalize (movT u p.id p.parent p.at_).2=e at*
 have M:xs.take 8=xs:=take_of_length_le (by omega)
 simp only[Idd.cs]at D
 unfold Pt.cs
 rw[U.cs_eq u]at D ⊢
 refine Pure.w c61 λR T=>?_
 unfold s61 r61
 (repeat' (first|(with_reducible refine aa D ?_)|simp only[EVz,seval,↓reduceIte,EV6,EV7,J,M,I]|simp only[EVz,seval,↓reduceIte,EV6,EV7,J,M]|(with_reducible intro N E;(try(have F:=E;simp only[EVK]at F;(have I:=F))))|fail))
 all_goals exact T _ _ (.inl (.inl (by rfl)))
theorem f63 (u:U) (V:Good u) (O:u.kind=0) (p:Pt):Pure G Tryz.prog 63 [.agg u.cs,.agg p.cs] (aO (relT u p.id p.label)):=by
 have D:=f64 G hG u V O p.id p.label
 unfold aO at D ⊢
 have J:=U.cs_len (relT u p.id p.label).1
 generalize (relT u p.id p.label).1.cs=xs at*
 generalize (relT u p.id p.label).2=e at*
 have M:xs.take 8=xs:=take_of_length_le (by omega)
 simp only[Idd.cs]at D
 unfold Pt.cs
 rw[U.cs_eq u]at D ⊢
 refine Pure.w c63 λR T=>?_
 unfold s63 r63
 (repeat' (first|(with_reducible refine aa D ?_)|simp only[EVz,seval,↓reduceIte,EV6,EV7,J,M,I]|simp only[EVz,seval,↓reduceIte,EV6,EV7,J,M]|(with_reducible intro N E;(try(have F:=E;simp only[EVK]at F;(have I:=F))))|fail))
 all_goals exact T _ _ (.inl (.inl (by rfl)))
theorem f65 (u:U) (T:Good u) (p:Pt) (V:p.words.length<1000000):Pure G Tryz.prog 65 [.agg u.cs,.agg p.cs] (aO (wrT u p.id p.words (λy=>{y with words:=p.words}))):=by
 have D:=f66 G hG u T p.id p.words V
 unfold aO at D ⊢
 have J:=U.cs_len (wrT u p.id p.words (λy=>{y with words:=p.words})).1
 generalize (wrT u p.id p.words (λy=>{y with words:=p.words})).1.cs=xs at*
 generalize (wrT u p.id p.words (λy=>{y with words:=p.words})).2=e at*
 have M:xs.take 8=xs:=take_of_length_le (by omega)
 simp only[Idd.cs]at D
 unfold Pt.cs
 rw[U.cs_eq u]at D ⊢
 refine Pure.w c65 λR O=>?_
 unfold s65 r65
 (repeat' (first|(with_reducible refine aa D ?_)|simp only[EVz,seval,↓reduceIte,EV6,EV7,J,M,I]|simp only[EVz,seval,↓reduceIte,EV6,EV7,J,M]|(with_reducible intro N E;(try(have F:=E;simp only[EVK]at F;(have I:=F))))|fail))
 all_goals exact O _ _ (.inl (.inl (by rfl)))
theorem f67 (u:U) (T:Good u) (p:Pt) (V:p.words.length<1000000):Pure G Tryz.prog 67 [.agg u.cs,.agg p.cs] (aO (wrT u p.id p.words (λy=>{y with head:=p.words}))):=by
 have D:=f68 G hG u T p.id p.words V
 unfold aO at D ⊢
 have J:=U.cs_len (wrT u p.id p.words (λy=>{y with head:=p.words})).1
 generalize (wrT u p.id p.words (λy=>{y with head:=p.words})).1.cs=xs at*
 generalize (wrT u p.id p.words (λy=>{y with head:=p.words})).2=e at*
 have M:xs.take 8=xs:=take_of_length_le (by omega)
 simp only[Idd.cs]at D
 unfold Pt.cs
 rw[U.cs_eq u]at D ⊢
 refine Pure.w c67 λR O=>?_
 unfold s67 r67
 (repeat' (first|(with_reducible refine aa D ?_)|simp only[EVz,seval,↓reduceIte,EV6,EV7,J,M,I]|simp only[EVz,seval,↓reduceIte,EV6,EV7,J,M]|(with_reducible intro N E;(try(have F:=E;simp only[EVK]at F;(have I:=F))))|fail))
 all_goals exact O _ _ (.inl (.inl (by rfl)))
omit hG
theorem f36:ag G Tryz.prog 36 [] [] (λr σ=>∃b,r= .sc (.map (some b))/\σ=[(b,.map (cl intK g9))]):=by
 refine ag.w c36 ?_
 unfold s36 r36
 (try simp only[EVz,seval,↓reduceIte,EV6,EV7])
 refine cV ?_
 intro b D
 (try simp only[EVz,seval,↓reduceIte,EV6,EV7])
 refine cA bg (l:=[]) (k:=0) (eT:=41) rfl (fT 0) rfl (by kernel_rfl) aQ ?_
 (repeat' (first|simp only[EVz,seval,↓reduceIte,EV6,EV7]|(refine cA bg (eT:=41) rfl (fT _) rfl (by kernel_rfl) aQ ?_)|fail))
 exact RET.mk (SubN.refl _) ⟨b,rfl,rfl⟩
end
theorem doP_two (u:U) (d:Dd) (I:chg d.it.kind=true) (q:U×Int) (h:d.it.may=true->(one u d.it.at_).2=0->(d.it.kind=0\/(one u d.it.at_).1≠u.id)->doP u d=q):
  doP u d=if d.it.may=false then (u,1)else if (one u d.it.at_).2≠0 then (u,(one u d.it.at_).2)else if d.it.kind=0\/(one u d.it.at_).1≠u.id then q else if d.it.kind=6/\(one u d.it.to_).2≠0 then (u,(one u d.it.to_).2)else (u,9):=by
 by_cases F:d.it.may=false
 ·rw[if_pos F];unfold doP;rw[if_pos (.inr F)]
 ·rw[if_neg F]
  have D:d.it.may=true:=by simpa using F
  by_cases E:(one u d.it.at_).2=0
  ·rw[if_neg (by simpa using E)]
   by_cases g:d.it.kind=0\/(one u d.it.at_).1≠u.id
   ·rw[if_pos g,h D E g]
   ·rw[if_neg g]
    rw[not_or,Classical.not_not]at g
    unfold doP
    rw[if_neg (by simp[I,D]),if_neg (by simpa using E),if_neg g.1,if_pos g.2]
  ·rw[if_pos E];unfold doP;rw[if_neg (by simp[I,D]),if_pos E]
section
variable (G:Glob) (hG:GOk G)
include hG
theorem f18 (u:U) (N:Good u) (d:Dd) (hs:d.it.Shorts):Pure G Tryz.prog 18 [.agg u.cs,.agg d.cs] (aO (doP u d)):=by
 by_cases hk:0<=d.it.kind/\d.it.kind<=6
 case neg=>
  have O:chg d.it.kind=false:=by unfold chg;simp;omega
  have e:doP u d=(u,1):=by unfold doP;rw[if_pos (.inl O)]
  rw[e]
  exact oK G u N d hk
 have O:chg d.it.kind=true:=by unfold chg;simp;omega
 obtain⟨V,_⟩:=(Itm.Shorts_eq d.it).1 hs
 have hid:=bZ (u:=u) (p:=d.it.at_)
 have F:(one u d.it.at_).2=0->(fnd (one u d.it.at_).1 u).id=(one u d.it.at_).1:=λh=>(cS u N.nd (hid h)).1
 have hw:(one u d.it.at_).2=0->(fnd (one u d.it.at_).1 u).words.length<=256:=λh=>(dN (N.node _ (aP u N.nd (hid h)))).words.1
 have hh:d.it.kind=0\/d.it.kind=1\/d.it.kind=2\/d.it.kind=3\/d.it.kind=4\/d.it.kind=5\/d.it.kind=6:=by omega
 have T:∀fn q,aS d.it.kind fc=some (fnv fn)->(d.it.may=true->(one u d.it.at_).2=0->(d.it.kind=0\/(one u d.it.at_).1≠u.id)->doP u d=q)->(d.it.may=true->(one u d.it.at_).2=0->(d.it.kind=0\/(one u d.it.at_).1≠u.id)->Pure G Tryz.prog fn [.agg u.cs,.agg (fnd (one u d.it.at_).1 u).cs,.agg d.cs] (aO q))->Pure G Tryz.prog 18 [.agg u.cs,.agg d.cs] (aO (doP u d)):=by
  intro fn q M h2 h3
  rw[doP_two u d O q h2]
  exact apply_of G hG u N d hs fn M q h3
 have I:d.it.may=true->(one u d.it.at_).2=0->(d.it.kind=0\/(one u d.it.at_).1≠u.id)->d.it.kind≠0->(one u d.it.at_).1≠u.id:=λ_ _ h h0=>h.resolve_left h0
 rcases hh with h|h|h|h|h|h|h
 ·refine T 92 (insP u (one u d.it.at_).1 d) (by rw[h];rfl) (λE D _=>?_) (λE D _=>?_)
  ·unfold doP;rw[if_neg (by simp[O,E]),if_neg (by simpa using D),if_pos h]
  ·obtain⟨w0,w3⟩:=fd E (.inl h)
   exact f92 G hG u N _ d _ (Prod.ext rfl D) h w0 w3 ⟨kD E h,may_cnt E h⟩ V.at_ V.to_
 ·refine T 93 (l7 (one u d.it.at_).1 u,0) (by rw[h];rfl) (λE D J=>?_) (λE D J=>?_)
  ·have M:=I E D J (by omega)
   unfold doP;rw[if_neg (by simp[O,E]),if_neg (by simpa using D),if_neg (by omega),if_neg M,if_pos h]
  ·have M:=I E D J (by omega)
   have:=f93 G u N (fnd (one u d.it.at_).1 u) (by rw[F D];exact hid D) (by rw[F D];exact λe=>M e.symm) d
   rw[F D]at this
   exact this
 ·refine T 94 (if (bJ (fnd (one u d.it.at_).1 u).words d.it d.act d.item).2≠0 then (u,(bJ (fnd (one u d.it.at_).1 u).words d.it d.act d.item).2)else (U.wth (one u d.it.at_).1 (λy=>{y with words:=(bJ (fnd (one u d.it.at_).1 u).words d.it d.act d.item).1}) u,0)) (by rw[h];rfl) (λE D J=>?_) (λE D J=>?_)
  rotate_left
  ·obtain⟨X,Y,Z,m4,m5⟩:=ns E (.inl h)
   have M:=I E D J (by omega)
   have:=f94 G u N (fnd (one u d.it.at_).1 u) (by rw[F D];exact hid D) d (hw D) h (m4 h) X Y Z
   rw[F D]at this
   exact this
  ·have M:=I E D J (by omega)
   unfold doP;rw[if_neg (by simp[O,E]),if_neg (by simpa using D),if_neg (by omega),if_neg M,if_neg (by omega),if_pos (.inl h)]
 ·refine T 95 (if (bJ (fnd (one u d.it.at_).1 u).words d.it d.act d.item).2≠0 then (u,(bJ (fnd (one u d.it.at_).1 u).words d.it d.act d.item).2)else (U.wth (one u d.it.at_).1 (λy=>{y with words:=(bJ (fnd (one u d.it.at_).1 u).words d.it d.act d.item).1}) u,0)) (by rw[h];rfl) (λE D J=>?_) (λE D J=>?_)
  rotate_left
  ·obtain⟨X,Y,Z,m4,m5⟩:=ns E (.inr h)
   have M:=I E D J (by omega)
   have:=f95 G u N (fnd (one u d.it.at_).1 u) (by rw[F D];exact hid D) d (hw D) h X Y (m5 h).1 Z (m5 h).2
   rw[F D]at this
   exact this
  ·have M:=I E D J (by omega)
   unfold doP;rw[if_neg (by simp[O,E]),if_neg (by simpa using D),if_neg (by omega),if_neg M,if_neg (by omega),if_pos (.inr h)]
 ·refine T 96 (U.wth (one u d.it.at_).1 (λy=>{y with head:=aX d.act d.item d.it.new 0}) u,0) (by rw[h];rfl) (λE D J=>?_) (λE D J=>?_)
  rotate_left
  ·have:=f96 G u N (fnd (one u d.it.at_).1 u) (by rw[F D];exact hid D) d (oM E h)
   rw[F D]at this
   exact this
  ·have M:=I E D J (by omega)
   unfold doP;rw[if_neg (by simp[O,E]),if_neg (by simpa using D),if_neg (by omega),if_neg M,if_neg (by omega),if_neg (by omega),if_pos h]
 ·refine T 97 (if dR (parR (one u d.it.at_).1 u).1 (parR (one u d.it.at_).1 u).1.kids {fnd (one u d.it.at_).1 u with label:=d.it.label}=10 then (u,10)else (U.wth (one u d.it.at_).1 (λy=>{y with label:=d.it.label}) u,0)) (by rw[h];rfl) (λE D J=>?_) (λE D J=>?_)
  rotate_left
  ·have M:=I E D J (by omega)
   have:=f97 G hG u N (fnd (one u d.it.at_).1 u) (by rw[F D]) (by rw[F D];exact hid D) (by rw[F D];exact λe=>M e.symm) d
   rw[F D]at this
   exact this
  ·have M:=I E D J (by omega)
   unfold doP;rw[if_neg (by simp[O,E]),if_neg (by simpa using D),if_neg (by omega),if_neg M,if_neg (by omega),if_neg (by omega),if_neg (by omega),if_pos h]
 ·refine T 98 (if (one u d.it.to_).2≠0 then (u,(one u d.it.to_).2)else movP u (one u d.it.at_).1 (one u d.it.to_).1 d) (by rw[h];rfl) (λE D J=>?_) (λE D J=>?_)
  rotate_left
  ·have M:=I E D J (by omega)
   obtain⟨w0,w3⟩:=fd E (.inr h)
   exact f98 G hG u N d _ (Prod.ext rfl D) (λe=>M e.symm) h w0 w3 V.at_ V.to_
  ·have M:=I E D J (by omega)
   unfold doP;rw[if_neg (by simp[O,E]),if_neg (by simpa using D),if_neg (by omega),if_neg M,if_neg (by omega),if_neg (by omega),if_neg (by omega),if_neg (by omega)]
end
end Go.Av
