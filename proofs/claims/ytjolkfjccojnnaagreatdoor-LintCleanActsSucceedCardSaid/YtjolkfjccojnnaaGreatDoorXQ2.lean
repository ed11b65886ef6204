/-
  LINT ON BOOKS, 2: the law LintSound, walked.
-/
import Derived.Test.YtjolkfjccojnnaaGreatDoorXM14toXAv31
import Derived.Test.YtjolkfjccojnnaaGreatDoorXM30toXP6
import Derived.Test.YtjolkfjccojnnaaGreatDoorXE14toXM13
namespace Go.Av
open Go Go.RowKit Go.Proofs List
set_option linter.unusedSimpArgs false
set_option linter.unusedVariables false
section
variable (G:Glob) (hG:GOk G)
include hG
set_option maxHeartbeats 8000000 in
theorem f3 (u:U) (hfit:u.fit) (d:Dd) (hb:d.it.big):Pure G Tryz.prog 3 [.agg u.cs,.agg d.cs] (.bool true):=by
 have hf:=big_fit d.it hb
 have hAw:=f11 G hG
 have hW:=f5 G u 30 hfit (by omega) (by omega)
 have hQ:=f7 G d.it hf
 have hC:=f9 G d.it.kind
 have hds:d.cs.length=28:=by unfold Dd.cs;simp[Itm.cs_len]
 cases h1:u.few 30 with
 |false=>
  rw[h1]at hW
  unfold Dd.cs
  rw[Itm.cs_eq]
  refine Pure.w c3 λR hR=>?_
  unfold s3 r3
  (repeat' (first|(with_reducible first|refine ab hAw ?_|refine ab hW ?_)|simp only[EVz,seval,↓reduceIte,EV6,EV7]|fail))
  all_goals exact RQ hR
 |true=>
 have hs:=qM hfit (by omega) (by omega) h1
 rw[h1]at hW
 have hB:=f6 G u hs
 cases h2:qD u with
 |false=>
  rw[h2]at hB
  unfold Dd.cs
  rw[Itm.cs_eq]
  refine Pure.w c3 λR hR=>?_
  unfold s3 r3
  (repeat' (first|(with_reducible first|refine ab hAw ?_|refine ab hW ?_|refine ab hB ?_)|simp only[EVz,seval,↓reduceIte,EV6,EV7]|fail))
  all_goals exact RQ hR
 |true=>
 rw[h2]at hB
 cases h3:d.it.few with
 |false=>
  rw[h3]at hQ
  unfold Dd.cs
  rw[Itm.cs_eq]at hQ ⊢
  refine Pure.w c3 λR hR=>?_
  unfold s3 r3
  (repeat' (first|(with_reducible first|refine ab hAw ?_|refine ab hW ?_|refine ab hB ?_|refine ab hQ ?_)|simp only[EVz,seval,↓reduceIte,EV6,EV7]|fail))
  all_goals exact RQ hR
 |true=>
 have hsh:=rh d.it hf h3
 have hM:=f8 G d.it hsh
 rw[h3]at hQ
 cases h4:d.it.may with
 |false=>
  rw[h4]at hM
  unfold Dd.cs
  rw[Itm.cs_eq]at hQ hM ⊢
  refine Pure.w c3 λR hR=>?_
  unfold s3 r3
  (repeat' (first|(with_reducible first|refine ab hAw ?_|refine ab hW ?_|refine ab hB ?_|refine ab hQ ?_|refine ab hM ?_)|simp only[EVz,seval,↓reduceIte,EV6,EV7]|fail))
  all_goals exact RQ hR
 |true=>
 rw[h4]at hM
 cases h5:chg d.it.kind with
 |false=>
  rw[h5]at hC
  unfold Dd.cs
  rw[Itm.cs_eq]at hQ hM ⊢
  refine Pure.w c3 λR hR=>?_
  unfold s3 r3
  (repeat' (first|(with_reducible first|refine ab hAw ?_|refine ab hW ?_|refine ab hB ?_|refine ab hQ ?_|refine ab hM ?_|refine ab hC ?_)|simp only[EVz,seval,↓reduceIte,EV6,EV7]|fail))
  all_goals exact RQ hR
 |true=>
 rw[h5]at hC
 have hFr:=f10 G u hs.1 [d] (by simp)
 simp only[map_cons,map_nil]at hFr
 cases h6:o6 u.ids [] [d]with
 |false=>
  rw[h6]at hFr
  unfold Dd.cs at hFr hds ⊢
  rw[Itm.cs_eq]at hQ hM hFr hds ⊢
  refine Pure.w c3 λR hR=>?_
  unfold s3 r3
  (repeat' (first|(with_reducible first|refine ab hAw ?_|refine ab hW ?_|refine ab hB ?_|refine ab hQ ?_|refine ab hM ?_|refine ab hC ?_)|simp only[EVz,seval,↓reduceIte,EV6,EV7,hne]|simp only[EVz,seval,↓reduceIte,EV6,EV7]|(with_reducible intro blk hblk;(try(have hnx:=hblk;simp only[EVK]at hnx;(have hne:=hnx))))|(refine⟨[_],rfl,(by intro r hr;simp only[mem_singleton]at hr;subst hr;exact hds),rfl,?_⟩)|(refine aC hFr ⟨AVle.rfl' _,.inl (.inr ⟨rfl,rfl⟩),trivial⟩ ?_)|fail))
  all_goals exact RQ hR
 |true=>
 rw[h6]at hFr
 have hg:=qZ h2
 have hk0:u.kind=0:=by unfold qD at h2;simp only[Bool.and_eq_true,decide_eq_true_eq]at h2;exact h2.1
 have hAp:=f12 G hG u hg d hsh
 have hCI:=f13 G hG d.it hsh
 have hfl:=qQ d.it
 have hsnd:∀x∈d.it.finds,x.why=9\/x.why=10->(doP u d).2≠0/\(doP u d).1=u:=by
  intro x hx hw
  have hk:0<=d.it.kind/\d.it.kind<=6:=by simpa[chg]using h5
  have hne:=sound hg hk0 d h4 h5 (rf h4 (by omega) hx hw)
  exact⟨hne,doP_err hne⟩
 have hfv:(doP u d).1.fit:=((m9 hg d).1).short.1.1
 unfold aQ at hAp
 obtain⟨⟨v,e⟩,hve⟩:∃z,doP u d=z:=⟨_,rfl⟩
 rw[hve]at hAp hsnd hfv
 simp only at hAp hsnd hfv
 have hSm:=f14 G v hfv u
 unfold Dd.cs at hFr hds hAp ⊢
 rw[Itm.cs_eq]at hQ hM hFr hds hAp hCI ⊢
 refine Pure.w c3 λR hR=>?_
 unfold s3 r3
 (repeat' (first|(with_reducible first|refine ab hW ?_|refine ab hB ?_|refine ab hQ ?_|refine ab hM ?_|refine ab hC ?_|refine ab hAp ?_|refine ab hCI ?_)|simp only[EVz,seval,↓reduceIte,EV6,EV7,hne]|simp only[EVz,seval,↓reduceIte,EV6,EV7]|(with_reducible intro blk hblk;(try(have hnx:=hblk;simp only[EVK]at hnx;first|(have hne:=AI hnx hne)|(have hne:=hnx))))|(refine⟨[_],rfl,(by intro r hr;simp only[mem_singleton]at hr;subst hr;exact hds),rfl,?_⟩)|(refine aC hFr ⟨AVle.rfl' _,.inl (.inr ⟨rfl,rfl⟩),trivial⟩ ?_)|fail))
 clear hnx hne
 refine Zq d.it.finds (λi r (c:Unit)=>True) (λi c=>[(2,.ref u.cs),(5,.sc (.pointer (some ⟨blk,0,none⟩))),(6,.int .i64 e),(52,.lst 6 (d.it.finds.map Fnd.cs)),(53,.int .i64 d.it.finds.length),(54,.int .i64 i)]) (λ_ _=>[(blk,.cells 27 v.cs)]) () trivial (Weak.sub (SubN.cons (SubN.nil _) _)) (by omega) (λi x r c hok hx hw=>?_) (λc hok hn=>?_)
 ·have hne:=True.intro
  by_cases hq:x.why=9\/x.why=10
  ·obtain⟨he,hv⟩:=hsnd x hx.mem hq
   rw[hv]at hSm ⊢
   have e0:decide (e=0)=false:=decide_eq_false he
   have e1:decide (u=u)=true:=decide_eq_true rfl
   rw[e1]at hSm
   (repeat' (first|(with_reducible (refine ag (λh=>?_) (λh=>?_))<;>(try simp only[Da,Db,Dc,Dw,De,Df,Dg,Dh]at h))|(with_reducible refine ab hSm ?_)|simp only[EVz,seval,↓reduceIte,EV6,EV7,hx.yes,hx.le0,hx.lt',hx.get,hx.row,hw,e0,Fnd.cs,hne]|(with_reducible intro blk hblk;(try(have hnx:=hblk;simp only[EVK]at hnx;(have hne:=AI hnx hne))))|(refine af hx () trivial ?_)|(exfalso;omega)|fail))
   all_goals exact Weak.sub (SubN.tail (SubN.refl _) _)
  ·(repeat' (first|(with_reducible (refine ag (λh=>?_) (λh=>?_))<;>(try simp only[Da,Db,Dc,Dw,De,Df,Dg,Dh]at h))|simp only[EVz,seval,↓reduceIte,EV6,EV7,hx.yes,hx.le0,hx.lt',hx.get,hx.row,hw,Fnd.cs,hne]|(with_reducible intro blk hblk;(try(have hnx:=hblk;simp only[EVK]at hnx;(have hne:=AI hnx hne))))|(refine af hx () trivial ?_)|(exfalso;omega)|fail))
   all_goals exact Weak.sub (SubN.tail (SubN.refl _) _)
 ·(repeat' (first|(with_reducible refine ab hAw ?_)|simp only[EVz,seval,↓reduceIte,EV6,EV7,hn,hne]|fail))
  all_goals exact RQ hR
end
end Go.Av
