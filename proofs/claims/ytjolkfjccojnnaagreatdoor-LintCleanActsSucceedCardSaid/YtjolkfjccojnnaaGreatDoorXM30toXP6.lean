/-
  ENACT, M30: a unit moved.
-/
import Derived.Test.YtjolkfjccojnnaaGreatDoorXM20toXM29
import Derived.Test.YtjolkfjccojnnaaGreatDoorXL34toXL53
import Derived.Test.YtjolkfjccojnnaaGreatDoorXE14toXM13
namespace Go.Av
open Go Go.RowKit Go.Proofs List
set_option linter.unusedSimpArgs false
set_option linter.unusedVariables false
theorem SubN.seven {n x a b c d e:Nat×AObj}:SubN [n,x,a,b,c,d,e] [a,b,c,n,d,e,x]:=
 SubN.perm ((perm_middle (l₁:=[a,b,c]) (l₂:=[d,e,x])).trans (List.Perm.cons _ (perm_middle (l₁:=[a,b,c,d,e]) (l₂:=[])))).symm
section
variable (G:Glob)
theorem oP (u X:U) (d:Dd) (e:Int) (he:e≠0) (hDe:Pure G Tryz.prog 105 [.agg u.cs,.agg d.it.cs] (cU (.inr e))):Pure G Tryz.prog 66 [.agg u.cs,.agg X.cs,.agg d.cs] (aQ (u,e)):=by
 unfold cU at hDe
 unfold Dd.cs aQ
 rw[Itm.cs_eq]at hDe ⊢
 rw[U.cs_eq X]
 refine Pure.w c66 λR hR=>?_
 unfold s66 r66
 (repeat' (first|(with_reducible (refine ae (λh=>?_) (λh=>?_))<;>(try simp only[Da,Db,Dc,Dw,De,Df,Dg,Dh]at h))|(with_reducible refine ab hDe ?_)|simp only[EVz,seval,↓reduceIte,EV6,EV7,he,hne]|simp only[EVz,seval,↓reduceIte,EV6,EV7,he]|(with_reducible intro blk hblk;(try(have hnx:=hblk;simp only[EVK]at hnx;first|(have hne:=AI hnx hne)|(have hne:=hnx))))|(exfalso;omega)|fail))
 all_goals exact RQ hR
end
section
variable (G:Glob) (hG:GOk G)
include hG
set_option maxHeartbeats 4000000 in
theorem f66 (u:U) (hu:Good u) (d:Dd) (i:Idd) (hO:one u d.it.at_=(i,0)) (hne0:u.id≠i) (hk6:d.it.kind=6) (h0:0<=d.it.wh) (h3:d.it.wh<=3) (hp:d.it.at_.length<1000000) (hp2:d.it.to_.length<1000000):
  Pure G Tryz.prog 66 [.agg u.cs,.agg (fnd i u).cs,.agg d.cs] (aQ (if (one u d.it.to_).2≠0 then (u,(one u d.it.to_).2)else movP u i (one u d.it.to_).1 d)):=by
 have hs:=hu.short
 have hcu:=hu.cnt
 have hi:i∈u.ids:=by have:=bU (u:=u) (p:=d.it.at_);rw[hO]at this;exact this rfl
 have hDe:=f105 G u d.it hs hcu hu.nd (good_hk hu) (nW hu) (.inr hk6) h0 h3 hp hp2
 have hXid:=(dj u hu.nd hi).1
 have hXf:=aM u hu.nd hi
 have htm:=bU (u:=u) (p:=d.it.to_)
 have hde:dest u d.it=if (one u d.it.to_).2≠0 then .inr (one u d.it.to_).2 else (match fk u i (one u d.it.to_).1 d.it.wh with|none=>.inr 9|some q=>.inl q):=by
  unfold dest
  rw[hO]
  simp[hk6]
  rfl
 rw[hde]at hDe
 obtain⟨⟨t,e⟩,hte⟩:∃z,one u d.it.to_=z:=⟨_,rfl⟩
 rw[hte]at hDe htm ⊢
 simp only at hDe htm ⊢
 rcases Classical.em (e=0)with he|he
 ·subst he
  rw[if_neg (by simp)]at hDe ⊢
  have ht:=htm rfl
  have hgm:=λq k=>nN (q:=q) (k:=k) hu hi hne0 ht h0 h3
  have hgl:=λq k=>goes_le (q:=q) (k:=k) hu hi hne0 ht h0 h3
  unfold movP
  obtain⟨z,hz⟩:∃z,fk u i t d.it.wh=z:=⟨_,rfl⟩
  rw[hz]at hDe hgm hgl ⊢
  rcases z with _|⟨q,k⟩
  ·exact oP G u _ d 9 (by omega) hDe
  ·obtain⟨m1,m2,m3⟩:=hgm q k rfl
   have hkl:=hgl q k rfl
   obtain⟨g1,g2,g3,g4⟩:=ff hu hi hne0
   obtain⟨own,dO,j,w1,w2,hpp⟩:=aW hu.nd hi hne0
   have hP:=f124 G i u hs hu.nd
   unfold km at hP
   rw[w1]at hP
   have hWo:=f117 G u hu i hi hne0
   have hXs:(fnd i u).Short:=hs.node hXf
   rw[w2]
   simp only
   obtain⟨V,hV⟩:∃V,dF i u=V:=⟨_,rfl⟩
   rw[hV]at hWo g1 m3 hkl ⊢
   have hVs:=g1.short
   have hF:=f37 G q V hVs
   unfold i8 at hF
   rw[gf m3,if_neg (by simp)]at hF
   have hfk:=mY g1 q
   have hanc:=anc_len m3
   have hvl:=g1.cnt
   clear hgm hgl hde htm g4 g2 g3 w1 w2 hpp hz m1 m2
   obtain⟨X,hX⟩:∃X,fnd i u=X:=⟨_,rfl⟩
   rw[hX]at hXid hXf hXs ⊢
   subst hXid
   have hDp:=f108 G V q X hVs.1 hXs.1
   have hT:=f107 G hG (fnd q V) X (by omega)
   have hW:=λbn bx=>f114 G _ _ _ q V hVs g1.nd m3 (d126 G bn bx k X _ hkl (by omega))
   obtain⟨P,hPe⟩:∃P,fnd q V=P:=⟨_,rfl⟩
   rw[hPe]at hF hT hkl hfk ⊢
   obtain⟨tk,htk⟩:∃tk,bJ P P.kids X=tk:=⟨_,rfl⟩
   rw[htk]at hT ⊢
   rw[←hanc]
   obtain⟨an,han⟩:∃an,(anc q V).length=an:=⟨_,rfl⟩
   rw[han]at hDp ⊢
   unfold cU at hDe
   simp only[Idd.cs]at hF hDp hP hWo hW
   simp only at hDe
   rw[U.cs_eq P]at hF hT
   rw[U.cs_eq X]at hT hDp hW ⊢
   unfold Dd.cs aQ
   rw[show(((an+1:Nat):Int))=(an:Int)+1 by omega]
   refine Pure.w c66 λR hR=>?_
   unfold s66 r66
   rw[Itm.cs_eq]at hDe ⊢
   rcases Classical.em (tk=0)with h|h
   ·subst h
    rw[if_neg (by simp)]at hR
    (repeat' (first|(with_reducible (first|refine ae (λh=>?_) (λh=>?_)|refine ag (λh=>?_) (λh=>?_))<;>(try simp only[Da,Db,Dc,Dw,De,Df,Dg,Dh]at h))|(with_reducible first|refine ab hDe ?_|refine ab hP ?_|refine ab hWo ?_|refine ab hF ?_|refine ab hT ?_|refine ab hDp ?_)|simp only[EVz,seval,↓reduceIte,EV6,EV7,ai,hne]|simp only[EVz,seval,↓reduceIte,EV6,EV7,ai]|(with_reducible intro blk hblk;(try(have hnx:=hblk;simp only[EVK]at hnx;first|(have hne:=AI hnx hne)|(have hne:=hnx))))|fail))
    all_goals try(
     refine hR _ _ (.inl (.inl ?_))
     rw[if_pos (by first|exact .inl ⟨by assumption,by omega⟩|exact .inr (by omega))]
     done)
    all_goals
     have hno:¬((q≠own.id/\64<=P.kids.length)\/8<(an:Int)+1+X.dep):=by
      rintro(⟨g2,g3⟩|g4)
      ·first
        |omega
        |exact g2 (by assumption)
      ·omega
     rw[if_neg hno]at hR
     refine bL [(_,_),(_,_)] [_,_,_,_,_] (hW _ _).v (aB.rfl' _) SubN.seven (λr1 σ1 hr hnd2=>?_)
     obtain⟨rfl,rfl⟩:=hr
     refine⟨_,SubN.refl _,?_⟩
     have hne:=hnd2
     simp[Store.keys]at hne
     (repeat' (simp only[EVz,seval,↓reduceIte,EV6,EV7,hne]))
     all_goals exact RQ hR
   ·rw[if_pos h]at hR
    have h1:decide (tk≠0)=true:=decide_eq_true h
    clear hDp hW hfk hanc hkl
    (repeat' (first|(with_reducible first|refine ab hDe ?_|refine ab hP ?_|refine ab hWo ?_|refine ab hF ?_|refine ab hT ?_)|simp only[EVz,seval,↓reduceIte,EV6,EV7,h1,hne]|simp only[EVz,seval,↓reduceIte,EV6,EV7,h1]|(with_reducible intro blk hblk;(try(have hnx:=hblk;simp only[EVK]at hnx;first|(have hne:=AI hnx hne)|(have hne:=hnx))))|fail))
    all_goals exact RQ hR
 ·rw[if_pos he]at hDe ⊢
  exact oP G u _ d e he hDe
end
def fS:List (Int×AV):=[(0,fnv 60),(1,fnv 61),(2,fnv 62),(3,fnv 63),(4,fnv 64),(5,fnv 65),(6,fnv 66)]
theorem et:∀τ w,Rep τ w (.sc .nilFunc) .nilFunc:=by
 intro τ w
 simp only[Rep]
theorem do_none {k:Int} (h:¬(0<=k/\k<=6)):aX k fS=none:=by
 simp only[fS,aX]
 rw[if_neg (by omega),if_neg (by omega),if_neg (by omega),if_neg (by omega),if_neg (by omega),if_neg (by omega),if_neg (by omega)]
theorem gH {x:Itm} (h:x.may=true) (hk:x.kind=0):x.unit.flat.length<=1024:=by
 have:=gO h
 unfold Itm.own at this
 simp only[hk,if_true,Bool.and_eq_true]at this
 have h2:=this.2.1
 rw[iw]at h2
 unfold gS cG at h2
 simp only[Bool.and_eq_true,decide_eq_true_eq]at h2
 have h3:=h2.1.2.2.1
 unfold U.cnt at h3
 omega
theorem ja {x:Itm} (h:x.may=true) (hk:x.kind=2\/x.kind=3):x.old.length<=256/\x.new.length<=256/\(0<=x.nth/\x.nth<=256)/\(x.kind=2->x.old≠[])/\(x.kind=3->1<=x.new.length/\(x.old=[]->x.nth=0)):=by
 have:=gO h
 unfold Itm.own cY inR at this
 rcases hk with hk|hk
 ·rw[if_neg (by omega),if_pos hk]at this
  simp only[Bool.and_eq_true,decide_eq_true_eq]at this
  obtain⟨⟨a1,a2⟩,⟨b1,b2⟩,c1,c2⟩:=this
  refine⟨(ec a1).2,(ec b1).2,⟨c1,c2⟩,λ_ e=>?_,λe=>?_⟩
  ·rw[e]at a2;simp at a2
  ·omega
 ·rw[if_neg (by omega),if_neg (by omega),if_pos hk]at this
  simp only[Bool.and_eq_true,Bool.or_eq_true,decide_eq_true_eq]at this
  obtain⟨⟨a1,a2⟩,⟨b1,b2⟩,⟨c1,c2⟩,d1⟩:=this
  refine⟨(ec a1).2,(ec b1).2,⟨c1,c2⟩,λe=>?_,λ_=>⟨by omega,λe=>?_⟩⟩
  ·omega
  ·rcases d1 with d1|d1
   ·rw[e]at d1;simp at d1
   ·exact d1
theorem lF {x:Itm} (h:x.may=true) (hk:x.kind=4):x.new.length<=256:=(ec (ns h (.inr (.inr hk)))).2
section
variable (G:Glob) (hG:GOk G)
include hG
omit hG in
theorem f34:aj G Tryz.prog 34 [] [] (λr σ=>∃b,r= .sc (.map (some b))/\σ=[(b,.map (cJ intK fS))]):=by
 refine aj.w c34 ?_
 unfold s34 r34
 (try simp only[EVz,seval,↓reduceIte,EV6,EV7])
 refine ep ?_
 intro b hb
 (try simp only[EVz,seval,↓reduceIte,EV6,EV7])
 refine fW bO (l:=[]) (k:=0) (eT:=76) rfl (mS 0) rfl (by kernel_rfl) bf ?_
 (repeat' (first|simp only[EVz,seval,↓reduceIte,EV6,EV7]|(refine fW bO (eT:=76) rfl (mS _) rfl (by kernel_rfl) bf ?_)|fail))
 exact RET.mk (SubN.refl _) ⟨b,rfl,rfl⟩
omit hG in
set_option maxHeartbeats 8000000 in
theorem pI (u:U) (hu:Good u) (d:Dd) (hk:¬(0<=d.it.kind/\d.it.kind<=6)):Pure G Tryz.prog 12 [.agg u.cs,.agg d.cs] (aQ (u,1)):=by
 have hD:=f34 G
 have hm1:=do_none hk
 have hcs:=U.cs_eq u
 unfold Dd.cs aQ
 rw[Itm.cs_eq,hcs]
 refine Pure.w c12 λR hR=>?_
 unfold s12 r12
 (repeat' (first|simp only[EVz,seval,↓reduceIte,EV6,EV7,hm1,Option.getD_none,Option.isSome_none,hne]|simp only[EVz,seval,↓reduceIte,EV6,EV7,hm1,Option.getD_none,Option.isSome_none]|(with_reducible intro blk hblk;(try(have hnx:=hblk;simp only[EVK]at hnx;(have hne:=hnx))))|(refine az [] _ hD.v (aB.rfl' _) (SubN.refl _) (λr σ' hh hnd=>?_);obtain⟨bm,rfl,rfl⟩:=hh;(have hne:=hnd);(try simp[Store.keys]at hne))|(refine aI bO (l:=fS) (k:=d.it.kind) (z:=.nilFunc) (zv:=.sc .nilFunc) (eT:=76) rfl (ct _) (by kernel_rfl) (by exact bf) (by kernel_rfl) et ?_)|fail))
 all_goals exact RQ hR
set_option maxHeartbeats 8000000 in
theorem apply_of (u:U) (hu:Good u) (d:Dd) (hs:d.it.Shorts) (fn:Nat) (hm1:aX d.it.kind fS=some (fnv fn)) (q:U×Int)
  (hq:d.it.may=true->(one u d.it.at_).2=0->(d.it.kind=0\/(one u d.it.at_).1≠u.id)->Pure G Tryz.prog fn [.agg u.cs,.agg (fnd (one u d.it.at_).1 u).cs,.agg d.cs] (aQ q)):
  Pure G Tryz.prog 12 [.agg u.cs,.agg d.cs] (aQ (if d.it.may=false then (u,1)else if (one u d.it.at_).2≠0 then (u,(one u d.it.at_).2)else if d.it.kind=0\/(one u d.it.at_).1≠u.id then q else if d.it.kind=6/\(one u d.it.to_).2≠0 then (u,(one u d.it.to_).2)else (u,9))):=by
 have hsh:=hu.short
 obtain⟨q1,_⟩:=(Itm.Shorts_eq d.it).1 hs
 have hV:=f35 G hG d.it hs
 have hO:=f36 G u d.it.at_ hsh.1 hu.cnt q1.at_
 have hO2:=f36 G u d.it.to_ hsh.1 hu.cnt q1.to_
 have hD:=f34 G
 have hid:=bU (u:=u) (p:=d.it.at_)
 have hFF:=λi=>f37 G i u hsh
 unfold gx at hO hO2
 obtain⟨⟨i,e⟩,hie⟩:∃z,one u d.it.at_=z:=⟨_,rfl⟩
 obtain⟨⟨t,e'⟩,hte⟩:∃z,one u d.it.to_=z:=⟨_,rfl⟩
 rw[hie]at hO hid hq ⊢
 rw[hte]at hO2 ⊢
 simp only at hO hO2 hid hq ⊢
 obtain⟨mv,hmv⟩:∃b,d.it.may=b:=⟨_,rfl⟩
 rw[hmv]at hV hq ⊢
 have hcs:=U.cs_eq u
 obtain⟨f,hf⟩:∃f,fnv fn= .sc f:=⟨_,rfl⟩
 have hfv:f= .func (.func fn) #[] #[]:=by unfold fnv at hf;injection hf with hf;exact hf.symm
 rw[hf]at hm1
 unfold Dd.cs at hq ⊢
 rw[Itm.cs_eq]at hV hq ⊢
 unfold aQ at hq ⊢
 refine Pure.w c12 λR hR=>?_
 unfold s12 r12
 cases mv with
 |false=>
  rw[if_pos rfl]at hR
  rw[hcs]at hR ⊢
  (repeat' (first|(with_reducible refine ab hV ?_)|simp only[EVz,seval,↓reduceIte,EV6,EV7,hm1,Option.getD_some,Option.isSome_some,hne]|simp only[EVz,seval,↓reduceIte,EV6,EV7,hm1,Option.getD_some,Option.isSome_some]|(with_reducible intro blk hblk;(try(have hnx:=hblk;simp only[EVK]at hnx;(have hne:=hnx))))|(refine az [] _ hD.v (aB.rfl' _) (SubN.refl _) (λr σ' hh hnd=>?_);obtain⟨bm,rfl,rfl⟩:=hh;(have hne:=hnd);(try simp[Store.keys]at hne))|(refine aI bO (l:=fS) (k:=d.it.kind) (z:=.nilFunc) (zv:=.sc .nilFunc) (eT:=76) rfl (ct _) (by kernel_rfl) (by exact bf) (by kernel_rfl) et ?_)|fail))
  all_goals exact RQ hR
 |true=>
  rw[if_neg (by simp)]at hR
  rcases Classical.em (e=0)with h|h
  ·subst h
   rw[if_neg (by simp)]at hR
   have hi:=hid rfl
   have hF:=hFF i
   unfold i8 at hF
   rw[gf hi,if_neg (by simp)]at hF
   clear hFF hid
   obtain⟨X,hX⟩:∃X,fnd i u=X:=⟨_,rfl⟩
   rw[hX]at hF hq
   rcases Classical.em (d.it.kind=0\/i≠u.id)with g|g
   ·rw[if_pos g]at hR
    have hC:=(hq rfl rfl g).v
    rw[←hfv]at hC
    rw[hcs]at hO hF hC ⊢
    simp only[Idd.cs]at hF
    rcases Classical.em (i=u.id)with g1|g1
    ·have g0:d.it.kind=0:=g.resolve_right (λh=>h g1)
     have e1:decide (i=u.id)=true:=decide_eq_true g1
     have e2:decide (d.it.kind=0)=true:=decide_eq_true g0
     (repeat' (first|(with_reducible first|refine ab hV ?_|refine ab hO ?_|refine ab hF ?_)|simp only[EVz,seval,↓reduceIte,EV6,EV7,hm1,Option.getD_some,Option.isSome_some,ai,e1,e2,hne]|simp only[EVz,seval,↓reduceIte,EV6,EV7,hm1,Option.getD_some,Option.isSome_some,ai,e1,e2]|(with_reducible intro blk hblk;(try(have hnx:=hblk;simp only[EVK]at hnx;first|(have hne:=AI hnx hne)|(have hne:=hnx))))|(refine az [] _ hD.v (aB.rfl' _) (SubN.refl _) (λr σ' hh hnd=>?_);obtain⟨bm,rfl,rfl⟩:=hh;(have hne:=hnd);(try simp[Store.keys]at hne))|(refine aI bO (l:=fS) (k:=d.it.kind) (z:=.nilFunc) (zv:=.sc .nilFunc) (eT:=76) rfl (ct _) (by kernel_rfl) (by exact bf) (by kernel_rfl) et ?_)|(refine aK hC ?_)|fail))
     all_goals exact RQ hR
    ·have e1:decide (i=u.id)=false:=decide_eq_false g1
     (repeat' (first|(with_reducible first|refine ab hV ?_|refine ab hO ?_|refine ab hF ?_)|simp only[EVz,seval,↓reduceIte,EV6,EV7,hm1,Option.getD_some,Option.isSome_some,ai,e1,hne]|simp only[EVz,seval,↓reduceIte,EV6,EV7,hm1,Option.getD_some,Option.isSome_some,ai,e1]|(with_reducible intro blk hblk;(try(have hnx:=hblk;simp only[EVK]at hnx;first|(have hne:=AI hnx hne)|(have hne:=hnx))))|(refine az [] _ hD.v (aB.rfl' _) (SubN.refl _) (λr σ' hh hnd=>?_);obtain⟨bm,rfl,rfl⟩:=hh;(have hne:=hnd);(try simp[Store.keys]at hne))|(refine aI bO (l:=fS) (k:=d.it.kind) (z:=.nilFunc) (zv:=.sc .nilFunc) (eT:=76) rfl (ct _) (by kernel_rfl) (by exact bf) (by kernel_rfl) et ?_)|(refine aK hC ?_)|fail))
     all_goals exact RQ hR
   ·rw[if_neg g]at hR
    rw[not_or,Classical.not_not]at g
    obtain⟨g0,g1⟩:=g
    have e1:decide (i=u.id)=true:=decide_eq_true g1
    have e2:decide (d.it.kind=0)=false:=decide_eq_false g0
    rw[hcs]at hO hO2 hF ⊢
    simp only[Idd.cs]at hF
    rcases Classical.em (d.it.kind=6)with k6|k6
    ·have e3:decide (d.it.kind=6)=true:=decide_eq_true k6
     rcases Classical.em (e'=0)with h'|h'
     ·subst h'
      rw[if_neg (by simp)]at hR
      simp only at hR
      rw[hcs]at hR
      (repeat' (first|(with_reducible first|refine ab hV ?_|refine ab hO ?_|refine ab hO2 ?_|refine ab hF ?_)|simp only[EVz,seval,↓reduceIte,EV6,EV7,hm1,Option.getD_some,Option.isSome_some,ai,e1,e2,e3,hne]|simp only[EVz,seval,↓reduceIte,EV6,EV7,hm1,Option.getD_some,Option.isSome_some,ai,e1,e2,e3]|(with_reducible intro blk hblk;(try(have hnx:=hblk;simp only[EVK]at hnx;first|(have hne:=AI hnx hne)|(have hne:=hnx))))|(refine az [] _ hD.v (aB.rfl' _) (SubN.refl _) (λr σ' hh hnd=>?_);obtain⟨bm,rfl,rfl⟩:=hh;(have hne:=hnd);(try simp[Store.keys]at hne))|(refine aI bO (l:=fS) (k:=d.it.kind) (z:=.nilFunc) (zv:=.sc .nilFunc) (eT:=76) rfl (ct _) (by kernel_rfl) (by exact bf) (by kernel_rfl) et ?_)|fail))
      all_goals exact RQ hR
     ·rw[if_pos ⟨k6,h'⟩]at hR
      simp only at hR
      rw[hcs]at hR
      (repeat' (first|(with_reducible (refine ae (λh=>?_) (λh=>?_))<;>(try simp only[Da,Db,Dc,Dw,De,Df,Dg,Dh]at h))|(with_reducible first|refine ab hV ?_|refine ab hO ?_|refine ab hO2 ?_|refine ab hF ?_)|simp only[EVz,seval,↓reduceIte,EV6,EV7,hm1,Option.getD_some,Option.isSome_some,ai,e1,e2,e3,h',hne]|simp only[EVz,seval,↓reduceIte,EV6,EV7,hm1,Option.getD_some,Option.isSome_some,ai,e1,e2,e3,h']|(with_reducible intro blk hblk;(try(have hnx:=hblk;simp only[EVK]at hnx;first|(have hne:=AI hnx hne)|(have hne:=hnx))))|(refine az [] _ hD.v (aB.rfl' _) (SubN.refl _) (λr σ' hh hnd=>?_);obtain⟨bm,rfl,rfl⟩:=hh;(have hne:=hnd);(try simp[Store.keys]at hne))|(refine aI bO (l:=fS) (k:=d.it.kind) (z:=.nilFunc) (zv:=.sc .nilFunc) (eT:=76) rfl (ct _) (by kernel_rfl) (by exact bf) (by kernel_rfl) et ?_)|(exfalso;omega)|fail))
      all_goals exact RQ hR
    ·have e3:decide (d.it.kind=6)=false:=decide_eq_false k6
     rw[if_neg (λh=>k6 h.1)]at hR
     simp only at hR
     rw[hcs]at hR
     (repeat' (first|(with_reducible first|refine ab hV ?_|refine ab hO ?_|refine ab hF ?_)|simp only[EVz,seval,↓reduceIte,EV6,EV7,hm1,Option.getD_some,Option.isSome_some,ai,e1,e2,e3,hne]|simp only[EVz,seval,↓reduceIte,EV6,EV7,hm1,Option.getD_some,Option.isSome_some,ai,e1,e2,e3]|(with_reducible intro blk hblk;(try(have hnx:=hblk;simp only[EVK]at hnx;first|(have hne:=AI hnx hne)|(have hne:=hnx))))|(refine az [] _ hD.v (aB.rfl' _) (SubN.refl _) (λr σ' hh hnd=>?_);obtain⟨bm,rfl,rfl⟩:=hh;(have hne:=hnd);(try simp[Store.keys]at hne))|(refine aI bO (l:=fS) (k:=d.it.kind) (z:=.nilFunc) (zv:=.sc .nilFunc) (eT:=76) rfl (ct _) (by kernel_rfl) (by exact bf) (by kernel_rfl) et ?_)|fail))
     all_goals exact RQ hR
  ·rw[if_pos h]at hR
   rw[hcs]at hO hR ⊢
   (repeat' (first|(with_reducible (refine ae (λh=>?_) (λh=>?_))<;>(try simp only[Da,Db,Dc,Dw,De,Df,Dg,Dh]at h))|(with_reducible first|refine ab hV ?_|refine ab hO ?_)|simp only[EVz,seval,↓reduceIte,EV6,EV7,hm1,Option.getD_some,Option.isSome_some,h,hne]|simp only[EVz,seval,↓reduceIte,EV6,EV7,hm1,Option.getD_some,Option.isSome_some,h]|(with_reducible intro blk hblk;(try(have hnx:=hblk;simp only[EVK]at hnx;first|(have hne:=AI hnx hne)|(have hne:=hnx))))|(refine az [] _ hD.v (aB.rfl' _) (SubN.refl _) (λr σ' hh hnd=>?_);obtain⟨bm,rfl,rfl⟩:=hh;(have hne:=hnd);(try simp[Store.keys]at hne))|(refine aI bO (l:=fS) (k:=d.it.kind) (z:=.nilFunc) (zv:=.sc .nilFunc) (eT:=76) rfl (ct _) (by kernel_rfl) (by exact bf) (by kernel_rfl) et ?_)|(exfalso;omega)|fail))
   all_goals exact RQ hR
end
theorem doP_two (u:U) (d:Dd) (hc:chg d.it.kind=true) (q:U×Int) (h:d.it.may=true->(one u d.it.at_).2=0->(d.it.kind=0\/(one u d.it.at_).1≠u.id)->doP u d=q):
  doP u d=if d.it.may=false then (u,1)else if (one u d.it.at_).2≠0 then (u,(one u d.it.at_).2)else if d.it.kind=0\/(one u d.it.at_).1≠u.id then q else if d.it.kind=6/\(one u d.it.to_).2≠0 then (u,(one u d.it.to_).2)else (u,9):=by
 by_cases hm:d.it.may=false
 ·rw[if_pos hm];unfold doP;rw[if_pos (.inr hm)]
 ·rw[if_neg hm]
  have hm':d.it.may=true:=by simpa using hm
  by_cases ho:(one u d.it.at_).2=0
  ·rw[if_neg (by simpa using ho)]
   by_cases g:d.it.kind=0\/(one u d.it.at_).1≠u.id
   ·rw[if_pos g,h hm' ho g]
   ·rw[if_neg g]
    rw[not_or,Classical.not_not]at g
    unfold doP
    rw[if_neg (by simp[hc,hm']),if_neg (by simpa using ho),if_neg g.1,if_pos g.2]
  ·rw[if_pos ho];unfold doP;rw[if_neg (by simp[hc,hm']),if_pos ho]
section
variable (G:Glob) (hG:GOk G)
include hG
theorem f12 (u:U) (hu:Good u) (d:Dd) (hs:d.it.Shorts):Pure G Tryz.prog 12 [.agg u.cs,.agg d.cs] (aQ (doP u d)):=by
 by_cases hk:0<=d.it.kind/\d.it.kind<=6
 case neg=>
  have hc:chg d.it.kind=false:=by unfold chg;simp;omega
  have e:doP u d=(u,1):=by unfold doP;rw[if_pos (.inl hc)]
  rw[e]
  exact pI G u hu d hk
 have hc:chg d.it.kind=true:=by unfold chg;simp;omega
 obtain⟨q1,_⟩:=(Itm.Shorts_eq d.it).1 hs
 have hid:=bU (u:=u) (p:=d.it.at_)
 have hf1:(one u d.it.at_).2=0->(fnd (one u d.it.at_).1 u).id=(one u d.it.at_).1:=λh=>(dj u hu.nd (hid h)).1
 have hw:(one u d.it.at_).2=0->(fnd (one u d.it.at_).1 u).words.length<=256:=λh=>(dk (hu.node _ (aM u hu.nd (hid h)))).words.1
 have hh:d.it.kind=0\/d.it.kind=1\/d.it.kind=2\/d.it.kind=3\/d.it.kind=4\/d.it.kind=5\/d.it.kind=6:=by omega
 have go:∀fn q,aX d.it.kind fS=some (fnv fn)->(d.it.may=true->(one u d.it.at_).2=0->(d.it.kind=0\/(one u d.it.at_).1≠u.id)->doP u d=q)->(d.it.may=true->(one u d.it.at_).2=0->(d.it.kind=0\/(one u d.it.at_).1≠u.id)->Pure G Tryz.prog fn [.agg u.cs,.agg (fnd (one u d.it.at_).1 u).cs,.agg d.cs] (aQ q))->Pure G Tryz.prog 12 [.agg u.cs,.agg d.cs] (aQ (doP u d)):=by
  intro fn q h1 h2 h3
  rw[doP_two u d hc q h2]
  exact apply_of G hG u hu d hs fn h1 q h3
 have hdo:d.it.may=true->(one u d.it.at_).2=0->(d.it.kind=0\/(one u d.it.at_).1≠u.id)->d.it.kind≠0->(one u d.it.at_).1≠u.id:=λ_ _ h h0=>h.resolve_left h0
 rcases hh with h|h|h|h|h|h|h
 ·refine go 60 (insP u (one u d.it.at_).1 d) (by rw[h];rfl) (λhm ho _=>?_) (λhm ho _=>?_)
  ·unfold doP;rw[if_neg (by simp[hc,hm]),if_neg (by simpa using ho),if_pos h]
  ·obtain⟨w0,w3⟩:=eM hm (.inl h)
   exact f60 G hG u hu _ d _ (Prod.ext rfl ho) h w0 w3 ⟨fh hm h,gH hm h⟩ q1.at_ q1.to_
 ·refine go 61 (dF (one u d.it.at_).1 u,0) (by rw[h];rfl) (λhm ho hx=>?_) (λhm ho hx=>?_)
  ·have h1:=hdo hm ho hx (by omega)
   unfold doP;rw[if_neg (by simp[hc,hm]),if_neg (by simpa using ho),if_neg (by omega),if_neg h1,if_pos h]
  ·have h1:=hdo hm ho hx (by omega)
   have:=f61 G u hu (fnd (one u d.it.at_).1 u) (by rw[hf1 ho];exact hid ho) (by rw[hf1 ho];exact λe=>h1 e.symm) d
   rw[hf1 ho]at this
   exact this
 ·refine go 62 (if (hY (fnd (one u d.it.at_).1 u).words d.it d.act d.item).2≠0 then (u,(hY (fnd (one u d.it.at_).1 u).words d.it d.act d.item).2)else (U.wth (one u d.it.at_).1 (λy=>{y with words:=(hY (fnd (one u d.it.at_).1 u).words d.it d.act d.item).1}) u,0)) (by rw[h];rfl) (λhm ho hx=>?_) (λhm ho hx=>?_)
  rotate_left
  ·obtain⟨m1,m2,m3,m4,m5⟩:=ja hm (.inl h)
   have h1:=hdo hm ho hx (by omega)
   have:=f62 G u hu (fnd (one u d.it.at_).1 u) (by rw[hf1 ho];exact hid ho) d (hw ho) h (m4 h) m1 m2 m3
   rw[hf1 ho]at this
   exact this
  ·have h1:=hdo hm ho hx (by omega)
   unfold doP;rw[if_neg (by simp[hc,hm]),if_neg (by simpa using ho),if_neg (by omega),if_neg h1,if_neg (by omega),if_pos (.inl h)]
 ·refine go 63 (if (hY (fnd (one u d.it.at_).1 u).words d.it d.act d.item).2≠0 then (u,(hY (fnd (one u d.it.at_).1 u).words d.it d.act d.item).2)else (U.wth (one u d.it.at_).1 (λy=>{y with words:=(hY (fnd (one u d.it.at_).1 u).words d.it d.act d.item).1}) u,0)) (by rw[h];rfl) (λhm ho hx=>?_) (λhm ho hx=>?_)
  rotate_left
  ·obtain⟨m1,m2,m3,m4,m5⟩:=ja hm (.inr h)
   have h1:=hdo hm ho hx (by omega)
   have:=f63 G u hu (fnd (one u d.it.at_).1 u) (by rw[hf1 ho];exact hid ho) d (hw ho) h m1 m2 (m5 h).1 m3 (m5 h).2
   rw[hf1 ho]at this
   exact this
  ·have h1:=hdo hm ho hx (by omega)
   unfold doP;rw[if_neg (by simp[hc,hm]),if_neg (by simpa using ho),if_neg (by omega),if_neg h1,if_neg (by omega),if_pos (.inr h)]
 ·refine go 64 (U.wth (one u d.it.at_).1 (λy=>{y with head:=dP d.act d.item d.it.new 0}) u,0) (by rw[h];rfl) (λhm ho hx=>?_) (λhm ho hx=>?_)
  rotate_left
  ·have:=f64 G u hu (fnd (one u d.it.at_).1 u) (by rw[hf1 ho];exact hid ho) d (lF hm h)
   rw[hf1 ho]at this
   exact this
  ·have h1:=hdo hm ho hx (by omega)
   unfold doP;rw[if_neg (by simp[hc,hm]),if_neg (by simpa using ho),if_neg (by omega),if_neg h1,if_neg (by omega),if_neg (by omega),if_pos h]
 ·refine go 65 (if bJ (parR (one u d.it.at_).1 u).1 (parR (one u d.it.at_).1 u).1.kids {fnd (one u d.it.at_).1 u with label:=d.it.label}=10 then (u,10)else (U.wth (one u d.it.at_).1 (λy=>{y with label:=d.it.label}) u,0)) (by rw[h];rfl) (λhm ho hx=>?_) (λhm ho hx=>?_)
  rotate_left
  ·have h1:=hdo hm ho hx (by omega)
   have:=f65 G hG u hu (fnd (one u d.it.at_).1 u) (by rw[hf1 ho]) (by rw[hf1 ho];exact hid ho) (by rw[hf1 ho];exact λe=>h1 e.symm) d
   rw[hf1 ho]at this
   exact this
  ·have h1:=hdo hm ho hx (by omega)
   unfold doP;rw[if_neg (by simp[hc,hm]),if_neg (by simpa using ho),if_neg (by omega),if_neg h1,if_neg (by omega),if_neg (by omega),if_neg (by omega),if_pos h]
 ·refine go 66 (if (one u d.it.to_).2≠0 then (u,(one u d.it.to_).2)else movP u (one u d.it.at_).1 (one u d.it.to_).1 d) (by rw[h];rfl) (λhm ho hx=>?_) (λhm ho hx=>?_)
  rotate_left
  ·have h1:=hdo hm ho hx (by omega)
   obtain⟨w0,w3⟩:=eM hm (.inr h)
   exact f66 G hG u hu d _ (Prod.ext rfl ho) (λe=>h1 e.symm) h w0 w3 q1.at_ q1.to_
  ·have h1:=hdo hm ho hx (by omega)
   unfold doP;rw[if_neg (by simp[hc,hm]),if_neg (by simpa using ho),if_neg (by omega),if_neg h1,if_neg (by omega),if_neg (by omega),if_neg (by omega),if_neg (by omega)]
end
theorem rd {s:Stp} {r:List Stp} {l:List U} {x:U} (hx:x∈(r++[s]).foldl ay l):aJ x s=true:=by
 rw[foldl_append]at hx
 obtain⟨z,hz,hx⟩:=mem_flatMap.1 hx
 exact(mem_filter.1 hx).2
theorem list_end {α:Type} (l:List α):l=[]\/∃l' t,l=l'++[t]:=by
 cases l with
 |nil=>exact .inl rfl
 |cons a l=>exact .inr ⟨_,_,(dropLast_concat_getLast (l:=a::l) (by simp)).symm⟩
theorem qN {u:U} {p:List Stp} (hb:l5 p=false) {x:U} (hx:x∈eu u p):x.kind=(m0 p).kind/\x.label=(m0 p).label:=by
 have hc:aJ x (m0 p)=true:=by
  unfold m0
  rw[hb]
  unfold eu at hx
  split at hx
  ·cases hx
  ·cases p with
   |nil=>simp[l5]at hb
   |cons s r=>
    simp only at hx
    rcases list_end r with rfl|⟨r',t,rfl⟩
    ·simp only[foldl_nil]at hx
     have hs:j5 s=false:=by
      unfold l5 at hb
      unfold j5
      cases s
      simp_all
     rw[hs]at hx
     simpa using(mem_filter.1 hx).2
    ·have h1:=rd hx
     have e:(s::(r'++[t])).getLastD ⟨0,[]⟩=t:=by rw[←cons_append,getLastD_eq_getLast?,getLast?_append];rfl
     simp only[Bool.false_eq_true,if_false]
     rw[e];exact h1
 unfold aJ at hc
 simpa using hc
theorem qH {u:U} {p:List Stp} (hb:l5 p=true) {x:U} (hx:x∈eu u p):x=u:=by
 unfold l5 at hb
 simp only[Bool.or_eq_true,decide_eq_true_eq]at hb
 unfold eu at hx
 split at hx
 ·cases hx
 ·rcases hb with rfl|rfl
  ·simpa using hx
  ·simpa[j5]using hx
theorem one_found {u:U} {p:List Stp} (h:(one u p).2=0):∃x,eu u p=[x]/\(one u p).1=x.id/\x∈u.flat:=by
 have hf:=po (u:=u) (p:=p)
 unfold one at h ⊢
 split at h
 ·cases h
 ·rename_i x e
  rw[e]at hf
  exact⟨x,e,rfl,hf x (by simp)⟩
 ·cases h
theorem one_fnd {u:U} (hn:u.ids.Nodup) (h0:u.kind=0) {p:List Stp} (h:(one u p).2=0):(one u p).1∈u.ids/\(fnd (one u p).1 u).kind=(m0 p).kind/\(l5 p=true->(one u p).1=u.id)/\(l5 p=false->(fnd (one u p).1 u).label=(m0 p).label):=by
 obtain⟨x,e,e1,hx⟩:=one_found h
 have hm:x∈eu u p:=by rw[e];simp
 have hfx:fnd x.id u=x:=fnd_here hn hx
 refine⟨bU h,?_,λhb=>?_,λhb=>?_⟩
 ·rw[e1,hfx]
  cases hb:l5 p with
  |true=>rw[qH hb hm,h0];unfold m0;rw[if_pos hb]
  |false=>exact(qN hb hm).1
 ·rw[e1,qH hb hm]
 ·rw[e1,hfx];exact(qN hb hm).2
theorem goes_root {u:U} {i:Idd} {wh:Int} (hi:i≠u.id) (hw:wh=2\/wh=3):fk u i u.id wh=none:=by
 unfold fk
 split
 ·rfl
 ·have hu:jZ u i u.id=false:=by unfold jZ;rw[aO rfl];simp
  rw[hu,if_neg (by rintro(h|⟨h,_⟩);cases h;exact hi h.symm),if_neg (λh=>hi h.symm)]
  unfold spot
  rw[cB rfl]
  rcases hw with rfl|rfl<;>simp
theorem goes_self {u:U} {i:Idd} {wh:Int} (hw:besides wh=false):fk u i i wh=none:=by
 unfold fk
 split
 ·rfl
 ·rw[if_pos (.inr ⟨rfl,hw⟩)]
theorem mov_kind {u:U} (h:Good u) {i t:Idd} (hi:i∈u.ids) (hne:u.id≠i) (ht:t∈u.ids) {d:Dd} (hw:d.it.wh=0\/d.it.wh=1) (hk:g6 (fnd t u).kind (fnd i u).kind=false):(movP u i t d).2≠0:=by
 obtain⟨own,dO,j,w1,w2,hp⟩:=aW h.nd hi hne
 obtain⟨a,x,b,s,hx,hj,hl⟩:=hp.split
 have hfx:fnd i u=x:=aF hl
 unfold movP
 split
 ·simp
 ·rename_i q k e
  have hq:(fnd q (dF i u)).kind=(fnd t u).kind:=by
   unfold fk at e
   rw[w1]at e
   simp only at e
   split at e
   ·cases e
   ·rename_i hc
    rw[not_or]at hc
    split at e
    ·rename_i hti
     exfalso
     refine hc.2 ⟨hti,?_⟩
     unfold besides
     rcases hw with hw|hw<;>simp[hw]
    ·rename_i hti
     obtain⟨⟨q',k'⟩,e5,e6⟩:=Option.map_eq_some_iff.1 e
     have hqt:q'=t:=by
      unfold spot at e5
      rcases hw with hw|hw<;>simp[hw]at e5<;>exact e5.1.symm
     injection e6 with e7 e8
     simp only at e7
     rw[←e7,hqt]
     have htx:t∉x.ids:=λhm=>hc.1 ((gI u h.nd ht hi).2 ⟨hti,by rw[hfx];exact hm⟩)
     subst hj
     have hW:dF i u=U.wth own.id (λy=>{y with kids:=aL y.kids a.length}) u:=by unfold dF;rw[w1]
     have hway:=jg (t:=t) h.nd hp s.eq htx
     have hl2:=(dj u h.nd ht).2
     have:fnd t (dF i u)=U.wth own.id (λy=>{y with kids:=aL y.kids a.length}) (fnd t u):=by
      rw[hW]
      refine aF ?_
      rw[hway,getLast?_map,hl2,Option.map_some]
     rw[this]
     exact ek (f:=λy=>{y with kids:=aL y.kids a.length}) U.kind (λ_=>rfl) (λ_ _=>rfl) _
  have htk:bJ (fnd q (dF i u)) (fnd q (dF i u)).kids (fnd i u)=9:=by unfold bJ;rw[hq,hk];simp
  rw[htk]
  simp
theorem rf {x:Itm} (hm:x.may=true) (hk:x.kind≠11) {f:Fnd} (hf:f∈x.finds) (hw:f.why=9\/f.why=10):o7 x=true\/o9 x=true\/qm x=true\/qk x=true:=by
 rw[Itm.finds_eq,if_pos hm,may_by hm hk,Itm.findss_nil,append_nil]at hf
 unfold n8 optF at hf
 simp only[mem_append]at hf
 rcases hf with hf|hf|hf|hf|hf
 ·split at hf
  ·exact .inl (by assumption)
  ·cases hf
 ·split at hf
  ·exact .inr (.inl (by assumption))
  ·cases hf
 ·split at hf
  ·exact .inr (.inr (.inl (by assumption)))
  ·cases hf
 ·split at hf
  ·simp only[mem_singleton]at hf
   subst hf
   exfalso
   rcases hw with hw|hw<;>exact absurd hw (by decide)
  ·cases hf
 ·split at hf
  ·exact .inr (.inr (.inr (by assumption)))
  ·cases hf
theorem sound {u:U} (h:Good u) (h0:u.kind=0) (d:Dd) (hm:d.it.may=true) (hc:chg d.it.kind=true) (hr:o7 d.it=true\/o9 d.it=true\/qm d.it=true\/qk d.it=true):(doP u d).2≠0:=by
 have hk:0<=d.it.kind/\d.it.kind<=6:=by simpa[chg]using hc
 unfold doP
 rw[if_neg (by rw[hm,hc];simp)]
 split
 ·rename_i c;exact c
 rename_i c2
 have ha:(one u d.it.at_).2=0:=by simpa using c2
 obtain⟨hi,f1,f2,f3⟩:=one_fnd h.nd h0 ha
 obtain⟨i,hie⟩:∃i,(one u d.it.at_).1=i:=⟨_,rfl⟩
 rw[hie]at hi f1 f2 f3 ⊢
 split
 ·rename_i k0
  have hw:=eM hm (.inl k0)
  rcases hr with hr|hr|hr|hr
  ·unfold o7 bes at hr
   simp[k0]at hr
   rw[f2 hr.1]
   unfold insP spot
   rw[cB rfl]
   rcases hr.2 with h2|h2<;>simp[h2]
  ·unfold o9 ins bes at hr
   simp[k0]at hr
   have h01:d.it.wh=0\/d.it.wh=1:=by omega
   have hst:(l6 d.it.unit d.act d.item).kind=d.it.unit.kind:=congrArg Prod.fst (dW d.it.unit d.act d.item (fh hm k0)).2.2.2.1
   have:∃k,spot u i d.it.wh=some (i,k):=by
    unfold spot
    rcases h01 with h2|h2<;>simp[h2]
   obtain⟨k,hk2⟩:=this
   unfold insP
   rw[hk2]
   have htk:bJ (fnd i u) (fnd i u).kids (l6 d.it.unit d.act d.item)=9:=by unfold bJ;rw[f1,hst,hr.2];simp
   simp only
   rw[htk];simp
  ·unfold qm ins at hr
   simp[k0]at hr
  ·unfold qk at hr
   simp[k0]at hr
 rename_i k0
 split
 ·split
  ·rename_i c;exact c.2
  ·simp
 rename_i hiu
 have hne:u.id≠i:=λe=>hiu e.symm
 have hnb:l5 d.it.at_=false:=by
  cases hb:l5 d.it.at_ with
  |false=>rfl
  |true=>exact absurd (f2 hb) hiu
 by_cases k5:d.it.kind=5
 ·rw[if_neg (by omega),if_neg (by omega),if_neg (by omega),if_pos k5]
  have hl:(fnd i u).label=d.it.label:=by
   rw[f3 hnb]
   rcases hr with hr|hr|hr|hr
   ·unfold o7 at hr;simp[k5,hnb]at hr
   ·unfold o9 ins at hr;simp[k5]at hr
   ·unfold qm ins at hr;simp[k5]at hr
   ·unfold qk at hr;simpa[k5]using hr
  obtain⟨own,dO,j,w1,w2,hp⟩:=aW h.nd hi hne
  obtain⟨a,k,b,s,hkk,hj,hlk⟩:=hp.split
  have hpf:own∈u.flat:=by
   have:=aM u h.nd hp.mem
   rw[hp.fnd]at this;exact this
  have hnest:=gh (h.node own hpf) k (by rw[s.eq];simp)
  have hfk:fnd i u=k:=aF hlk
  rw[hfk]at hl ⊢
  rw[w2]
  have htk:cK own.kids k.kind d.it.label=true:=by
   unfold cK
   rw[s.eq,←hl]
   simp
  have:bJ own own.kids {k with label:=d.it.label}=10:=by unfold bJ;simp only;rw[hnest,htk];simp
  rw[if_pos this];simp
 ·have k6:d.it.kind=6:=by
   rcases hr with hr|hr|hr|hr
   ·unfold o7 at hr;simp[hnb]at hr;exact hr.1
   ·unfold o9 ins at hr;simp[k0]at hr;exact hr.1.1
   ·unfold qm ins at hr;simp at hr;exact hr.1.1
   ·unfold qk at hr;simp[k5]at hr
  rw[if_neg (by omega),if_neg (by omega),if_neg (by omega),if_neg (by omega)]
  split
  ·rename_i c;exact c
  rename_i c7
  have hb:(one u d.it.to_).2=0:=by simpa using c7
  obtain⟨ht,g1,g2,g3⟩:=one_fnd h.nd h0 hb
  have hw:=eM hm (.inr k6)
  rcases hr with hr|hr|hr|hr
  ·unfold o7 bes at hr
   simp[hnb,k6]at hr
   unfold movP
   rw[g2 hr.2,goes_root hiu hr.1]
   simp
  ·unfold o9 ins bes at hr
   simp[k6]at hr
   refine mov_kind h hi hne ht (by omega) ?_
   rw[g1,f1];exact hr.2
  ·unfold qm ins bes at hr
   simp[k6]at hr
   unfold movP
   rw[←hr.2,hie,goes_self (by unfold besides;simp;omega)]
   simp
  ·unfold qk at hr
   simp[k6]at hr
end Go.Av
