/-
  UNDO, walks 8: a unit put in, a unit taken out: as the document says.
-/
import Derived.Test.YtppjieiiibgagaaGreatDoorWXM31toXV6
import Derived.Test.YtppjieiiibgagaaGreatDoorWXU4toXN0
set_option linter.all false
namespace Go.Av
open Go Go.RowKit Go.Proofs List
def remU (u:U) (i:Idd):U:=if (remT u i).2≠0 then noU else fnd i u
def rem_ok {u:U} {i:Idd} (h:(remT u i).2=0):i∈u.ids/\u.id≠i/\(remT u i).1=without i u:=by
 unfold remT at*;split at h
 ·cases h
 rename_i c1;split at h
 ·cases h
 rename_i c2;split at h
 ·cases h
 rename_i c3;rw[if_neg c1,if_neg c2,if_neg c3];exact⟨by simpa using c2,c3,rfl⟩
def rem_bad {u:U} {i:Idd} (h:(remT u i).2≠0):(remT u i).1=noU:=by
 unfold remT at*;split
 ·rfl
 rename_i c1;rw[if_neg c1]at h;split
 ·rfl
 rename_i c2;rw[if_neg c2]at h;split
 ·rfl
 rename_i c3;rw[if_neg c3]at h;exact absurd rfl h
section
variable (G:Glob) (hG:GOk G)
include hG
def f180 (b:Nat) (u:U) (M:u.Short):aj G Tryz.prog 180 [.p b] [(b,.cells 27 u.cs)] λr σ'=>r= .bool (!stP u)/\σ'=[(b,.cells 27 u.cs)]:=by
 have I:=f181 G hG u M;refine aj.w c180 ?_;unfold s180 r180;rw[b0 u]at I ⊢;(repeat' (first|(with_reducible (first|refine ae (λh=>?_) λh=>?_|refine ai (λh=>?_) λh=>?_|refine ax (λh=>?_) λh=>?_)<;>(try simp only[DZ]at h))|(with_reducible first|refine AI (by omega) ?_|refine ab I ?_)|simp only[EV,seval,D]|simp only[EV,seval]|(with_reducible intro J F;(try(have E:=F;simp only[EVK]at E;first|(have D:=AI E D)|(have D:=E))))|(with_reducible first|refine af ?_ ?_|refine ag ?_)|(exfalso;omega)))
 all_goals exact RET.keep rfl (SubN.refl _)
omit hG
def f182 (b c:Nat) (u:U) (O:u.Short) (i:Idd):aj G Tryz.prog 182 [.p b,.p c] [(b,.cells 27 u.cs),(c,.cells 23 i.cs)] λr σ'=>r= .bool (!hasP i u)/\σ'=[(b,.cells 27 u.cs),(c,.cells 23 i.cs)]:=by
 have J:=f183 G i u O;simp only[Idd.cs]at J;refine aj.wn c182 λI=>?_
 have M:¬b=c:=by simp[Store.keys]at I;exact I
 unfold s182 r182;rw[b0 u]at J ⊢;(repeat' (first|(with_reducible (first|refine ae (λh=>?_) λh=>?_|refine ai (λh=>?_) λh=>?_|refine ax (λh=>?_) λh=>?_)<;>(try simp only[DZ]at h))|(with_reducible first|refine AI (by omega) ?_|refine ab J ?_)|simp only[EV,seval,M,D]|simp only[EV,seval,M]|(with_reducible intro N F;(try(have E:=F;simp only[EVK]at E;first|(have D:=AI E D)|(have D:=E))))|(with_reducible first|refine af ?_ ?_|refine ag ?_)|(exfalso;omega)))
 all_goals exact RET.keep rfl (SubN.refl _)
def f184 (b c:Nat) (u:U) (i:Idd):aj G Tryz.prog 184 [.p b,.p c] [(b,.cells 27 u.cs),(c,.cells 23 i.cs)] λr σ'=>r= .bool (decide (u.id=i))/\σ'=[(b,.cells 27 u.cs),(c,.cells 23 i.cs)]:=by
 refine aj.wn c184 λI=>?_
 have J:¬b=c:=by simp[Store.keys]at I;exact I
 unfold s184 r184;rw[b0 u];(repeat' (first|(with_reducible (first|refine ae (λh=>?_) λh=>?_|refine ai (λh=>?_) λh=>?_|refine ax (λh=>?_) λh=>?_)<;>(try simp only[DZ]at h))|(with_reducible refine AI (by omega) ?_)|simp only[EV,seval,J,am,D]|simp only[EV,seval,J,am]|(with_reducible intro M F;(try(have E:=F;simp only[EVK]at E;first|(have D:=AI E D)|(have D:=E))))|(with_reducible first|refine af ?_ ?_|refine ag ?_)|(exfalso;omega)))
 all_goals exact RET.keep rfl (SubN.refl _)
include hG
set_option maxHeartbeats 4000000 in
def f112 (u:U) (hg:Good u) (i:Idd):Pure G Tryz.prog 112 [.agg u.cs,.agg i.cs] (.tup [.agg (remT u i).1.cs,.agg (remU u i).cs,.i (remT u i).2]):=by
 have hs:=hg.short;have c1:=λb=>f180 G hG b u hs;have c2:=λb c=>f182 G b c u hs i;have c3:=λb c=>f184 G b c u i;have N:=λf1 f2 f3=>rem_first u i f1 f2 f3;have hU:=b0 u;obtain⟨e,Y⟩:∃e,(remT u i).2=e:=⟨_,rfl⟩
 have aa:(remU u i)=if e≠0 then noU else fnd i u:=by unfold remU;rw[Y]
 rw[aa];simp only[Y]at N;rw[Y];simp only[Idd.cs]at c2 c3;by_cases h0:e=0
 ·subst h0;obtain⟨hi,Z,hw⟩:=rem_ok Y;rw[hw,if_neg (by simp)];have V:=f185 G u hs hg.nd i hi Z (λp hp=>ca (hg.node p hp));have hF:=oW G i u hs;have hC:=f186 G (fnd i u) (nl hs i);have J:=hJ (without i u);have M:=hJ (fnd i u);generalize (without i u).cs=xs at*;generalize (fnd i u).cs=ys at*;have O:xs.take 8=xs:=take_of_length_le (by omega);have T:ys.take 8=ys:=take_of_length_le (by omega);simp only[Idd.cs]at V hF;rw[hU]at c1 c2 c3 V hF ⊢;refine Pure.w c112 λR hR=>?_;unfold s112 r112;(repeat' (first|(with_reducible (first|refine ae (λh=>?_) λh=>?_|refine ai (λh=>?_) λh=>?_|refine ax (λh=>?_) λh=>?_)<;>(try simp only[DZ]at h))|(with_reducible first|refine AI (by omega) ?_|refine ab V ?_|refine ab hF ?_|refine ab hC ?_)|simp only[EV,seval,J,M,O,T,D]|simp only[EV,seval,J,M,O,T]|(with_reducible intro X F;(try(have E:=F;simp only[EVK]at E;first|(have D:=AI E D)|(have D:=E))))|(with_reducible first|refine af ?_ ?_|refine ag ?_)|(refine⟨[[.sc _,.i _],[.sc _,.i _],[.sc _,.i _]],rfl,(by simp),rfl,?_⟩)|(exfalso;omega)));refine lF G (l:=[(_,!stP u,1),(_,!hasP i u,4),(_,decide (u.id=i),9)]) rfl (by simp) (λy hy=>?_) ?_
  ·simp only[mem_cons,not_mem_nil,or_false]at hy
   rcases hy with rfl|rfl|rfl
   ·exact⟨_,(by refine⟨?_,λI=>?_⟩;(repeat(first|exact jh|(refine fZ (by repeat(first|exact mem_cons_self|refine mem_cons_of_mem _ ?_)) ?_)));(simp only[ND,@eq_comm Nat]at I ⊢ <;>simp only[I,not_false_eq_true,and_self])),_,_,_,rfl,c1 _⟩
   ·exact⟨_,(by refine⟨?_,λI=>?_⟩;(repeat(first|exact jh|(refine fZ (by repeat(first|exact mem_cons_self|refine mem_cons_of_mem _ ?_)) ?_)));(simp only[ND,@eq_comm Nat]at I ⊢ <;>simp only[I,not_false_eq_true,and_self])),_,_,_,rfl,c2 _ _⟩
   ·exact⟨_,(by refine⟨?_,λI=>?_⟩;(repeat(first|exact jh|(refine fZ (by repeat(first|exact mem_cons_self|refine mem_cons_of_mem _ ?_)) ?_)));(simp only[ND,@eq_comm Nat]at I ⊢ <;>simp only[I,not_false_eq_true,and_self])),_,_,_,rfl,c3 _ _⟩
  ·rw[N];(repeat' (first|(with_reducible (first|refine ae (λh=>?_) λh=>?_|refine ai (λh=>?_) λh=>?_|refine ax (λh=>?_) λh=>?_)<;>(try simp only[DZ]at h))|(with_reducible first|refine AI (by omega) ?_|refine ab V ?_|refine ab hF ?_|refine ab hC ?_)|simp only[EV,seval,J,M,O,T,D]|simp only[EV,seval,J,M,O,T]|(with_reducible intro X F;(try(have E:=F;simp only[EVK]at E;first|(have D:=AI E D)|(have D:=E))))|(with_reducible first|refine af ?_ ?_|refine ag ?_)|(exfalso;omega)))
   all_goals exact hR _ _ (.inl (.inl (by first|rfl|(simp[J,M,O,T];done))))
 ·have e1:decide (e≠0)=true:=decide_eq_true h0;rw[if_pos h0,rem_bad (by rw[Y];exact h0)];rw[hU]at c1 c2 c3 ⊢;refine sG c112 λR hR=>?_;unfold s112 r112;(repeat' (first|(with_reducible (first|refine ae (λh=>?_) λh=>?_|refine ai (λh=>?_) λh=>?_|refine ax (λh=>?_) λh=>?_)<;>(try simp only[DZ]at h))|(with_reducible refine AI (by omega) ?_)|simp only[EV,seval,e1,D]|simp only[EV,seval,e1]|(with_reducible intro X F;(try(have E:=F;simp only[EVK]at E;first|(have D:=AI E D)|(have D:=E))))|(with_reducible first|refine af ?_ ?_|refine ag ?_)|(refine⟨[[.sc _,.i _],[.sc _,.i _],[.sc _,.i _]],rfl,(by simp),rfl,?_⟩)|(exfalso;omega)));refine lF G (l:=[(_,!stP u,1),(_,!hasP i u,4),(_,decide (u.id=i),9)]) rfl (by simp) (λy hy=>?_) ?_
  ·simp only[mem_cons,not_mem_nil,or_false]at hy
   rcases hy with rfl|rfl|rfl
   ·exact⟨_,(by refine⟨?_,λI=>?_⟩;(repeat(first|exact jh|(refine fZ (by repeat(first|exact mem_cons_self|refine mem_cons_of_mem _ ?_)) ?_)));(simp only[ND,@eq_comm Nat]at I ⊢ <;>simp only[I,not_false_eq_true,and_self])),_,_,_,rfl,c1 _⟩
   ·exact⟨_,(by refine⟨?_,λI=>?_⟩;(repeat(first|exact jh|(refine fZ (by repeat(first|exact mem_cons_self|refine mem_cons_of_mem _ ?_)) ?_)));(simp only[ND,@eq_comm Nat]at I ⊢ <;>simp only[I,not_false_eq_true,and_self])),_,_,_,rfl,c2 _ _⟩
   ·exact⟨_,(by refine⟨?_,λI=>?_⟩;(repeat(first|exact jh|(refine fZ (by repeat(first|exact mem_cons_self|refine mem_cons_of_mem _ ?_)) ?_)));(simp only[ND,@eq_comm Nat]at I ⊢ <;>simp only[I,not_false_eq_true,and_self])),_,_,_,rfl,c3 _ _⟩
  ·rw[N];(repeat' (first|(with_reducible (first|refine ae (λh=>?_) λh=>?_|refine ai (λh=>?_) λh=>?_|refine ax (λh=>?_) λh=>?_)<;>(try simp only[DZ]at h))|(with_reducible refine AI (by omega) ?_)|simp only[EV,seval,e1,D]|simp only[EV,seval,e1]|(with_reducible intro X F;(try(have E:=F;simp only[EVK]at E;first|(have D:=AI E D)|(have D:=E))))|(with_reducible first|refine af ?_ ?_|refine ag ?_)|(exfalso;omega)))
   all_goals exact hR _ _ (LeRep.tup (.cons le_noU (.cons le_noU (.cons (LeRep.refl _) .nil))))
end
section
variable (G:Glob)
end
section
variable (G:Glob) (hG:GOk G)
include hG
end
section
variable (G:Glob) (hG:GOk G)
include hG
end
section
variable (G:Glob) (hG:GOk G)
include hG
end
section
variable (G:Glob) (hG:GOk G)
include hG
end
def takTab:List (Int×AV):=[(0,fnv 111),(1,fnv 113),(2,fnv 115),(3,fnv 117),(4,fnv 119),(5,fnv 121)]
section
variable (G:Glob) (hG:GOk G)
include hG
def f111 (u:U) (X:Good u) (p:Pt):Pure G Tryz.prog 111 [.agg u.cs,.agg p.cs] (aV (remT u p.id)):=by
 have D:=f112 G hG u X p.id;unfold aV;have J:=hJ (remT u p.id).1;have M:=hJ (remU u p.id);generalize (remT u p.id).1.cs=xs at*;generalize (remT u p.id).2=e at*;generalize (remU u p.id).cs=ys at*;have N:xs.take 8=xs:=take_of_length_le (by omega);have O:ys.take 8=ys:=take_of_length_le (by omega);simp only[Idd.cs]at D;unfold Pt.cs;rw[b0 u]at D ⊢;refine Pure.w c111 λR V=>?_;unfold s111 r111;(repeat' (first|(with_reducible refine ab D ?_)|simp only[EV,seval,J,M,N,O,E]|simp only[EV,seval,J,M,N,O]|(with_reducible intro T I;(try(have F:=I;simp only[EVK]at F;first|(have E:=AI F E)|(have E:=F))))|fail))
 all_goals exact V _ _ (.inl (.inl (by rfl)))
def f58:aj G Tryz.prog 58 [] [] (λr σ=>∃b,r= .sc (.map (some b))/\σ=[(b,.map (cD intK takTab))]):=by
 refine aj.w c58 ?_;unfold s58 r58;(try simp only[EV,seval]);refine dn ?_;intro b D;(try simp only[EV,seval]);refine cV bt (l:=[]) (k:=0) (eT:=66) rfl (gV 0) rfl (by kernel_rfl) aW ?_;(repeat' (first|simp only[EV,seval]|(refine cV bt (eT:=66) rfl (gV _) rfl (by kernel_rfl) aW ?_)|fail));exact RET.mk (SubN.refl _) ⟨b,rfl,rfl⟩
end
def doP_two (u:U) (d:Dd) (I:chg d.it.kind=true) (q:U×Int) (h:d.it.may=true->(one u d.it.at_).2=0->(d.it.kind=0\/(one u d.it.at_).1≠u.id)->doP u d=q):
  doP u d=if d.it.may=false then (u,1)else if (one u d.it.at_).2≠0 then (u,(one u d.it.at_).2)else if d.it.kind=0\/(one u d.it.at_).1≠u.id then q else if d.it.kind=6/\(one u d.it.to_).2≠0 then (u,(one u d.it.to_).2)else (u,9):=by
 by_cases F:d.it.may=false
 ·rw[if_pos F];unfold doP;rw[if_pos (.inr F)]
 ·rw[if_neg F]
  have D:d.it.may=true:=by simpa using F
  by_cases E:(one u d.it.at_).2=0
  ·rw[if_neg (by simpa using E)];by_cases g:d.it.kind=0\/(one u d.it.at_).1≠u.id
   ·rw[if_pos g,h D E g]
   ·rw[if_neg g];rw[not_or,Classical.not_not]at g;unfold doP;rw[if_neg (by simp[I,D]),if_neg (by simpa using E),if_neg g.1,if_pos g.2]
  ·rw[if_pos E];unfold doP;rw[if_neg (by simp[I,D]),if_pos E]
section
variable (G:Glob) (hG:GOk G)
include hG
def f25 (u:U) (N:Good u) (d:Dd) (hs:d.it.Shorts):Pure G Tryz.prog 25 [.agg u.cs,.agg d.cs] (aV (doP u d)):=by
 by_cases hk:0<=d.it.kind/\d.it.kind<=6
 case neg=>
  have O:chg d.it.kind=false:=by unfold chg;simp;omega
  have e:doP u d=(u,1):=by unfold doP;rw[if_pos (.inl O)]
  rw[e];exact qv G u N d hk
 have O:chg d.it.kind=true:=by unfold chg;simp;omega
 obtain⟨V,_⟩:=(rI d.it).1 hs;have hid:=bH (u:=u) (p:=d.it.at_);have F:(one u d.it.at_).2=0->(fnd (one u d.it.at_).1 u).id=(one u d.it.at_).1:=λh=>(cr u N.nd (hid h)).1;have hw:(one u d.it.at_).2=0->(fnd (one u d.it.at_).1 u).words.length<=256:=λh=>(dr (N.node _ (aJ u N.nd (hid h)))).words.1
 have hh:d.it.kind=0\/d.it.kind=1\/d.it.kind=2\/d.it.kind=3\/d.it.kind=4\/d.it.kind=5\/d.it.kind=6:=by omega
 have T:∀fn q,bi d.it.kind fH=some (fnv fn)->(d.it.may=true->(one u d.it.at_).2=0->(d.it.kind=0\/(one u d.it.at_).1≠u.id)->doP u d=q)->(d.it.may=true->(one u d.it.at_).2=0->(d.it.kind=0\/(one u d.it.at_).1≠u.id)->Pure G Tryz.prog fn [.agg u.cs,.agg (fnd (one u d.it.at_).1 u).cs,.agg d.cs] (aV q))->Pure G Tryz.prog 25 [.agg u.cs,.agg d.cs] (aV (doP u d)):=by
  intro fn q M h2 h3;rw[doP_two u d O q h2];exact apply_of G hG u N d hs fn M q h3
 have I:d.it.may=true->(one u d.it.at_).2=0->(d.it.kind=0\/(one u d.it.at_).1≠u.id)->d.it.kind≠0->(one u d.it.at_).1≠u.id:=λ_ _ h h0=>h.resolve_left h0
 rcases hh with h|h|h|h|h|h|h
 ·refine T 123 (insP u (one u d.it.at_).1 d) (by rw[h];rfl) (λE D _=>?_) (λE D _=>?_)
  ·unfold doP;rw[if_neg (by simp[O,E]),if_neg (by simpa using D),if_pos h]
  ·obtain⟨w0,w3⟩:=dU E (.inl h);exact f123 G hG u N _ d _ (Prod.ext rfl D) h w0 w3 ⟨jO E h,may_cnt E h⟩ V.at_ V.to_
 ·refine T 124 (without (one u d.it.at_).1 u,0) (by rw[h];rfl) (λE D J=>?_) (λE D J=>?_)
  ·have M:=I E D J (by omega);unfold doP;rw[if_neg (by simp[O,E]),if_neg (by simpa using D),if_neg (by omega),if_neg M,if_pos h]
  ·have M:=I E D J (by omega);have:=f124 G u N (fnd (one u d.it.at_).1 u) (by rw[F D];exact hid D) (by rw[F D];exact λe=>M e.symm) d;rw[F D]at this;exact this
 ·refine T 125 (if (bj (fnd (one u d.it.at_).1 u).words d.it d.act d.item).2≠0 then (u,(bj (fnd (one u d.it.at_).1 u).words d.it d.act d.item).2)else (U.wth (one u d.it.at_).1 (λy=>{y with words:=(bj (fnd (one u d.it.at_).1 u).words d.it d.act d.item).1}) u,0)) (by rw[h];rfl) (λE D J=>?_) (λE D J=>?_)
  rotate_left
  ·obtain⟨X,Y,Z,m4,m5⟩:=jQ E (.inl h);have M:=I E D J (by omega);have:=f125 G u N (fnd (one u d.it.at_).1 u) (by rw[F D];exact hid D) d (hw D) h (m4 h) X Y Z;rw[F D]at this;exact this
  ·have M:=I E D J (by omega);unfold doP;rw[if_neg (by simp[O,E]),if_neg (by simpa using D),if_neg (by omega),if_neg M,if_neg (by omega),if_pos (.inl h)]
 ·refine T 126 (if (bj (fnd (one u d.it.at_).1 u).words d.it d.act d.item).2≠0 then (u,(bj (fnd (one u d.it.at_).1 u).words d.it d.act d.item).2)else (U.wth (one u d.it.at_).1 (λy=>{y with words:=(bj (fnd (one u d.it.at_).1 u).words d.it d.act d.item).1}) u,0)) (by rw[h];rfl) (λE D J=>?_) (λE D J=>?_)
  rotate_left
  ·obtain⟨X,Y,Z,m4,m5⟩:=jQ E (.inr h);have M:=I E D J (by omega);have:=f126 G u N (fnd (one u d.it.at_).1 u) (by rw[F D];exact hid D) d (hw D) h X Y (m5 h).1 Z (m5 h).2;rw[F D]at this;exact this
  ·have M:=I E D J (by omega);unfold doP;rw[if_neg (by simp[O,E]),if_neg (by simpa using D),if_neg (by omega),if_neg M,if_neg (by omega),if_pos (.inr h)]
 ·refine T 127 (U.wth (one u d.it.at_).1 (λy=>{y with head:=aR d.act d.item d.it.new 0}) u,0) (by rw[h];rfl) (λE D J=>?_) (λE D J=>?_)
  rotate_left
  ·have:=f127 G u N (fnd (one u d.it.at_).1 u) (by rw[F D];exact hid D) d (lG E h);rw[F D]at this;exact this
  ·have M:=I E D J (by omega);unfold doP;rw[if_neg (by simp[O,E]),if_neg (by simpa using D),if_neg (by omega),if_neg M,if_neg (by omega),if_neg (by omega),if_pos h]
 ·refine T 128 (if bB (parR (one u d.it.at_).1 u).1 (parR (one u d.it.at_).1 u).1.kids {fnd (one u d.it.at_).1 u with label:=d.it.label}=10 then (u,10)else (U.wth (one u d.it.at_).1 (λy=>{y with label:=d.it.label}) u,0)) (by rw[h];rfl) (λE D J=>?_) (λE D J=>?_)
  rotate_left
  ·have M:=I E D J (by omega);have:=f128 G hG u N (fnd (one u d.it.at_).1 u) (by rw[F D]) (by rw[F D];exact hid D) (by rw[F D];exact λe=>M e.symm) d;rw[F D]at this;exact this
  ·have M:=I E D J (by omega);unfold doP;rw[if_neg (by simp[O,E]),if_neg (by simpa using D),if_neg (by omega),if_neg M,if_neg (by omega),if_neg (by omega),if_neg (by omega),if_pos h]
 ·refine T 129 (if (one u d.it.to_).2≠0 then (u,(one u d.it.to_).2)else movP u (one u d.it.at_).1 (one u d.it.to_).1 d) (by rw[h];rfl) (λE D J=>?_) (λE D J=>?_)
  rotate_left
  ·have M:=I E D J (by omega);obtain⟨w0,w3⟩:=dU E (.inr h);exact f129 G hG u N d _ (Prod.ext rfl D) (λe=>M e.symm) h w0 w3 V.at_ V.to_
  ·have M:=I E D J (by omega);unfold doP;rw[if_neg (by simp[O,E]),if_neg (by simpa using D),if_neg (by omega),if_neg M,if_neg (by omega),if_neg (by omega),if_neg (by omega),if_neg (by omega)]
end
section
variable (G:Glob)
def rev_of (u:U) (p:Pt) (fn:Nat) (N:bi p.kind takTab=some (fnv fn)) (q:U×Int) (hq:Pure G Tryz.prog fn [.agg u.cs,.agg p.cs] (aV q)):Pure G Tryz.prog 24 [.agg u.cs,.agg p.cs] (aV q):=by
 have Y:=f58 G;obtain⟨f,F⟩:∃f,fnv fn= .sc f:=⟨_,rfl⟩
 have M:f= .func (.func fn) #[] #[]:=by unfold fnv at F;injection F with F;exact F.symm
 rw[F]at N;have J:=hq.v;subst M;unfold aV at J ⊢;have T:=hJ q.1;generalize q.1.cs=xs at*;generalize q.2=e at*;have V:xs.take 8=xs:=take_of_length_le (by omega);unfold Pt.cs at J ⊢;rw[b0 u]at J ⊢;refine Pure.w c24 λR Z=>?_;unfold s24 r24;(repeat' (first|simp only[EV,seval,N,Option.getD_some,Option.isSome_some,T,V,D]|simp only[EV,seval,N,Option.getD_some,Option.isSome_some,T,V]|(with_reducible intro X E;(try(have I:=E;simp only[EVK]at I;(have D:=I))))|(refine aC [] _ Y.v (hH _) (SubN.refl _) (λr σ' hh O=>?_);obtain⟨bm,rfl,rfl⟩:=hh;(have D:=O);(try simp[Store.keys]at D))|(refine aO bt (l:=takTab) (k:=p.kind) (z:=.nilFunc) (zv:=.sc .nilFunc) (eT:=66) rfl (bZ _) (by kernel_rfl) (by exact aW) (by kernel_rfl) db ?_)|(refine aP J ?_)|fail))
 all_goals exact Z _ _ (.inl (.inl (by rfl)))
variable (hG:GOk G)
include hG
end
/-! ### the patch of an item -/
def makTab:List (Int×AV):=[(1,fnv 66),(6,fnv 68),(2,fnv 64),(3,fnv 64),(4,fnv 69),(5,fnv 70)]
section
variable (G:Glob)
def f67 (u:U) (M:Good u) (i:Idd) (hi:i∈u.ids) (J:u.id≠i):Pure G Tryz.prog 67 [.agg u.cs,.agg i.cs] (.agg (Pt.cs ⟨0,(parR i u).2.2,i,(parR i u).1.id,noU,[],[]⟩)):=by
 obtain⟨own,d,j,O,T,X⟩:=aU M.nd hi J;have F:=f135 G i u M.short M.nd;unfold jK at F;rw[O]at F;rw[T];simp only[Idd.cs]at F;rw[b0 u]at F ⊢;refine Pure.w c67 λR V=>?_;unfold s67 r67;(repeat' (first|(with_reducible refine ab F ?_)|simp only[EV,seval,D]|simp only[EV,seval]|(with_reducible intro N I;(try(have E:=I;simp only[EVK]at E;first|(have D:=AI E D)|(have D:=E))))|fail))
 all_goals exact V _ _ (.inr (by simp[Pt.cs,noU,zId,aY,aT]))
def f64 (u x:U) (N:x.words.length<1000000):Pure G Tryz.prog 64 [.agg u.cs,.agg x.cs] (.agg (Pt.cs ⟨4,0,x.id,zId,noU,[],x.words⟩)):=by
 have J:=f65p G x.words N;rw[b0 u,b0 x];refine Pure.w c64 λR M=>?_;unfold s64 r64;(repeat' (first|(with_reducible refine ab J ?_)|simp only[EV,seval,F]|simp only[EV,seval]|(with_reducible intro I D;(try(have E:=D;simp only[EVK]at E;(have F:=E))))|fail))
 all_goals exact M _ _ (.inr (by simp[Pt.cs,noU,zId,aY,aT]))
def f66 (u x:U) (O:Good u) (hi:x.id∈u.ids) (I:u.id≠x.id):Pure G Tryz.prog 66 [.agg u.cs,.agg x.cs] (.agg (Pt.cs ⟨1,(parR x.id u).2.2,x.id,(parR x.id u).1.id,x,[],[]⟩)):=by
 have J:=f67 G u O x.id hi I;simp only[Idd.cs]at J;unfold Pt.cs noU at J;rw[b0 u]at J ⊢;rw[b0 x];refine Pure.w c66 λR N=>?_;unfold s66 r66;(repeat' (first|(with_reducible refine ab J ?_)|simp only[EV,seval,D]|simp only[EV,seval]|(with_reducible intro M F;(try(have E:=F;simp only[EVK]at E;first|(have D:=AI E D)|(have D:=E))))|fail))
 all_goals exact N _ _ (.inr (by simp[Pt.cs,noU,zId,aY,aT]))
def f68 (u x:U) (O:Good u) (hi:x.id∈u.ids) (I:u.id≠x.id):Pure G Tryz.prog 68 [.agg u.cs,.agg x.cs] (.agg (Pt.cs ⟨2,(parR x.id u).2.2,x.id,(parR x.id u).1.id,noU,[],[]⟩)):=by
 have J:=f67 G u O x.id hi I;simp only[Idd.cs]at J;unfold Pt.cs noU at J;rw[b0 u]at J ⊢;rw[b0 x];refine Pure.w c68 λR N=>?_;unfold s68 r68;(repeat' (first|(with_reducible refine ab J ?_)|simp only[EV,seval,D]|simp only[EV,seval]|(with_reducible intro M F;(try(have E:=F;simp only[EVK]at E;first|(have D:=AI E D)|(have D:=E))))|fail))
 all_goals exact N _ _ (.inr (by simp[Pt.cs,noU,zId,aY,aT]))
def f69 (u x:U) (N:x.head.length<1000000):Pure G Tryz.prog 69 [.agg u.cs,.agg x.cs] (.agg (Pt.cs ⟨5,0,x.id,zId,noU,[],x.head⟩)):=by
 have J:=f65p G x.head N;rw[b0 u,b0 x];refine Pure.w c69 λR M=>?_;unfold s69 r69;(repeat' (first|(with_reducible refine ab J ?_)|simp only[EV,seval,F]|simp only[EV,seval]|(with_reducible intro I D;(try(have E:=D;simp only[EVK]at E;(have F:=E))))|fail))
 all_goals exact M _ _ (.inr (by simp[Pt.cs,noU,zId,aY,aT]))
def f70 (u x:U):Pure G Tryz.prog 70 [.agg u.cs,.agg x.cs] (.agg (Pt.cs ⟨3,0,x.id,zId,noU,x.label,[]⟩)):=by
 rw[b0 u,b0 x];refine Pure.w c70 λR I=>?_;unfold s70 r70;(repeat' (first|simp only[EV,seval]|(with_reducible intro F D;(try(have E:=D;simp only[EVK]at E;(have J:=E))))|fail))
 all_goals exact I _ _ (.inr (by simp[Pt.cs,noU,zId,aY,aT]))
def f28:aj G Tryz.prog 28 [] [] (λr σ=>∃b,r= .sc (.map (some b))/\σ=[(b,.map (cD intK makTab))]):=by
 refine aj.w c28 ?_;unfold s28 r28;(try simp only[EV,seval]);refine dn ?_;intro b D;(try simp only[EV,seval]);refine cV bt (l:=[]) (k:=1) (eT:=72) rfl (gV 1) rfl (by kernel_rfl) aW ?_;(repeat' (first|simp only[EV,seval]|(refine cV bt (eT:=72) rfl (gV _) rfl (by kernel_rfl) aW ?_)|fail))
 all_goals exact RET.mk (SubN.refl _) ⟨b,rfl,rfl⟩
end
def lj (q:Pt×Int):AV:=.tup [.agg q.1.cs,.i q.2]
def le_zPt:LeRep (.agg [.i 0,.i 0,.i 0,.i 0,.i 0,.i 0,.i 0,.i 0,.i 0,.i 0,.i 0,.i 0,.str [],.nil,.nil,.nil,.str [],.nil]) (.agg zPt.cs):=by
 refine LeRep.agg ?_;unfold Pt.cs zPt zId noU
 repeat' first
  |exact LeReps.nil
  |refine LeReps.cons ?_ ?_
 all_goals first|exact LeRep.refl _|exact LeRep.nil
def le_iPt (a b c:Int):LeRep (.agg [.i 0,.i 0,.i a,.i b,.i c,.i 0,.i 0,.i 0,.i 0,.i 0,.i 0,.i 0,.str [],.nil,.nil,.nil,.str [],.nil]) (.agg (Pt.cs ⟨0,0,⟨a,b,c⟩,zId,noU,[],[]⟩)):=by
 refine LeRep.agg ?_;unfold Pt.cs zId noU
 repeat' first
  |exact LeReps.nil
  |refine LeReps.cons ?_ ?_
 all_goals first|exact LeRep.refl _|exact LeRep.nil
def do_ok {u:U} {d:Dd} (h:(doP u d).2=0):chg d.it.kind=true/\d.it.may=true/\(one u d.it.at_).2=0/\(d.it.kind=0\/(one u d.it.at_).1≠u.id):=by
 unfold doP at h;split at h
 ·cases h
 rename_i c1;rw[not_or]at c1;split at h
 ·rename_i c2;exact absurd h c2
 rename_i c2;refine⟨by simpa using c1.1,by simpa using c1.2,by simpa using c2,?_⟩;by_cases D:d.it.kind=0
 ·exact .inl D
 rw[if_neg D]at h;right;intro c3;rw[if_pos c3]at h;split at h
 ·rename_i c;exact absurd h c.2
 ·cases h
section
variable (G:Glob) (hG:GOk G)
include hG
set_option maxHeartbeats 4000000 in
def lY (u:U) (Z:Good u) (d:Dd) (T:d.it.Shorts) (he:(doP u d).2=0) (k0:d.it.kind≠0) (fn:Nat) (hm:bi d.it.kind makTab=some (fnv fn)) (p:Pt)
  (hq:Pure G Tryz.prog fn [.agg u.cs,.agg (fnd (one u d.it.at_).1 u).cs] (.agg p.cs)):Pure G Tryz.prog 7 [.agg u.cs,.agg d.cs] (lj (p,0)):=by
 have hs:=Z.short
 obtain⟨q1,_⟩:=(rI d.it).1 T
 have I:=f25 G hG u Z d T
 have J:=f26 G u d.it.at_ hs.1 Z.cnt q1.at_
 have hD:=f28 G
 have O:=do_ok he
 have hi:=bH (u:=u) (p:=d.it.at_) O.2.2.1
 have E:=oW G (one u d.it.at_).1 u hs
 unfold aV at I
 unfold gQ at J
 rw[O.2.2.1]at J
 rw[he]at I
 have h1:=hJ (doP u d).1
 generalize (doP u d).1.cs=vs at*
 obtain⟨i,aa⟩:∃i,(one u d.it.at_).1=i:=⟨_,rfl⟩
 rw[aa]at J E hq hi
 rw[show hasP i u=true from decide_eq_true hi]at E
 obtain⟨X,hX⟩:∃X,fnd i u=X:=⟨_,rfl⟩
 rw[hX]at E hq
 obtain⟨f,N⟩:∃f,fnv fn= .sc f:=⟨_,rfl⟩
 have Y:f= .func (.func fn) #[] #[]:=by unfold fnv at N;injection N with N;exact N.symm
 rw[N]at hm
 subst Y
 have V:=hq.v
 have h3:vs.take 8=vs:=take_of_length_le (by omega)
 have h4:=ti p
 unfold lj
 simp only
 generalize p.cs=ps at*
 have h5:ps.take 18=ps:=take_of_length_le (by omega)
 have e0:decide (d.it.kind=0)=false:=decide_eq_false k0
 unfold Dd.cs at I ⊢
 rw[dT]at I ⊢
 simp only[Idd.cs]at E
 rw[b0 X]at E V
 rw[b0 u]at I J E V ⊢
 refine Pure.w c7 λR hR=>?_
 unfold s7 r7
 (repeat' (first|(with_reducible first|refine ab I ?_|refine ab J ?_|refine ab E ?_)|simp only[EV,seval,hm,Option.getD_some,Option.isSome_some,h1,h3,h4,h5,e0,D]|simp only[EV,seval,hm,Option.getD_some,Option.isSome_some,h1,h3,h4,h5,e0]|(with_reducible intro ad M;(try(have F:=M;simp only[EVK]at F;first|(have D:=AI F D)|(have D:=F))))|(with_reducible first|refine af ?_ ?_|refine ag ?_)|(refine aC [] _ hD.v (hH _) (SubN.refl _) (λr σ' hh ac=>?_);obtain⟨bm,rfl,rfl⟩:=hh;(have D:=ac);(try simp[Store.keys]at D))|(refine aO bt (l:=makTab) (k:=d.it.kind) (z:=.nilFunc) (zv:=.sc .nilFunc) (eT:=72) rfl (bZ _) (by kernel_rfl) (by exact aW) (by kernel_rfl) db ?_)|(refine aP V ?_)|fail))
 all_goals exact hR _ _ (.inl (.inl (by rfl)))
set_option maxHeartbeats 4000000 in
def f7 (u:U) (J:Good u) (d:Dd) (F:d.it.Shorts):Pure G Tryz.prog 7 [.agg u.cs,.agg d.cs] (lj (invP u d)):=by
 have hs:=J.short;by_cases T:(doP u d).2=0
 ·have N:invP u d=(mkPt u d (one u d.it.at_).1,0):=by unfold invP;rw[if_neg (by simp[T])]
  rw[N];obtain⟨o1,o2,o3,o4⟩:=do_ok T;have hi:=bH (u:=u) (p:=d.it.at_) o3;by_cases V:d.it.kind=0
  ·have I:=f25 G hG u J d F;unfold aV at I;rw[T]at I;have Y:=hJ (doP u d).1;generalize (doP u d).1.cs=vs at*;have Z:vs.take 8=vs:=take_of_length_le (by omega);have e0:decide (d.it.kind=0)=true:=decide_eq_true V
   have ac:mkPt u d (one u d.it.at_).1=⟨0,0,⟨d.act,d.item,1⟩,zId,noU,[],[]⟩:=by unfold mkPt;rw[if_pos V]
   rw[ac];unfold Dd.cs at I ⊢;rw[dT]at I ⊢;rw[b0 u]at I ⊢;refine sG c7 λR hR=>?_;unfold s7 r7;(repeat' (first|(with_reducible refine ab I ?_)|simp only[EV,seval,Y,Z,e0,D]|simp only[EV,seval,Y,Z,e0]|(with_reducible intro aa M;(try(have E:=M;simp only[EVK]at E;first|(have D:=AI E D)|(have D:=E))))|fail))
   all_goals exact hR _ _ (LeRep.tup (.cons (le_iPt _ _ _) (.cons (LeRep.refl _) .nil)))
  ·have D:=o4.resolve_left V;have X:u.id≠(one u d.it.at_).1:=λe=>D e.symm;have hid:=(cr u J.nd hi).1
   have ad:0<=d.it.kind/\d.it.kind<=6:=by simpa[chg]using o1
   have O:=(hs.node (aJ u J.nd hi)).2 _ (U.flat_self _);unfold mkPt;rw[if_neg V];by_cases k1:d.it.kind=1
   ·rw[if_pos k1];have:=f66 G u (fnd (one u d.it.at_).1 u) J (by rw[hid];exact hi) (by rw[hid];exact X);rw[hid]at this;exact lY G hG u J d F T V 66 (by rw[k1];rfl) _ this
   rw[if_neg k1];by_cases k2:d.it.kind=2\/d.it.kind=3
   ·rw[if_pos k2];have:=f64 G u (fnd (one u d.it.at_).1 u) O.2.2.1;rw[hid]at this;exact lY G hG u J d F T V 64 (by rcases k2 with k|k<;>rw[k]<;>rfl) _ this
   rw[if_neg k2];by_cases k4:d.it.kind=4
   ·rw[if_pos k4];have:=f69 G u (fnd (one u d.it.at_).1 u) O.2.1;rw[hid]at this;exact lY G hG u J d F T V 69 (by rw[k4];rfl) _ this
   rw[if_neg k4];by_cases k5:d.it.kind=5
   ·rw[if_pos k5];have:=f70 G u (fnd (one u d.it.at_).1 u);rw[hid]at this;exact lY G hG u J d F T V 70 (by rw[k5];rfl) _ this
   rw[if_neg k5]
   have k6:d.it.kind=6:=by omega
   have:=f68 G u (fnd (one u d.it.at_).1 u) J (by rw[hid];exact hi) (by rw[hid];exact X);rw[hid]at this;exact lY G hG u J d F T V 68 (by rw[k6];rfl) _ this
 ·have N:invP u d=(zPt,(doP u d).2):=by unfold invP;rw[if_pos T]
  rw[N];have I:=f25 G hG u J d F;unfold aV at I;have Y:=hJ (doP u d).1;generalize (doP u d).1.cs=vs at*;generalize (doP u d).2=e at*;have Z:vs.take 8=vs:=take_of_length_le (by omega);have e1:decide (e≠0)=true:=decide_eq_true T;unfold Dd.cs at I ⊢;rw[dT]at I ⊢;rw[b0 u]at I ⊢;refine sG c7 λR hR=>?_;unfold s7 r7;(repeat' (first|(with_reducible refine ab I ?_)|simp only[EV,seval,Y,Z,e1,D]|simp only[EV,seval,Y,Z,e1]|(with_reducible intro aa M;(try(have E:=M;simp only[EVK]at E;first|(have D:=AI E D)|(have D:=E))))|fail))
  all_goals exact hR _ _ (LeRep.tup (.cons le_zPt (.cons (LeRep.refl _) .nil)))
end
end Go.Av
