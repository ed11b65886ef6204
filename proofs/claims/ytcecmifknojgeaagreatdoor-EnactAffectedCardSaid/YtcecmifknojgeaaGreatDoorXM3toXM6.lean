/-
  ENACT, M3: ancestors; the reference's looks; words marked.
-/
import Derived.Test.YtcecmifknojgeaaGreatDoorXL34toXM2
namespace Go.Av
open Go Go.RowKit Go.Proofs List
set_option linter.unusedSimpArgs false
set_option linter.unusedVariables false
theorem iJ (a b:Int) (l:List (List UInt8)) (m:Int) {i:Nat} {s:List UInt8} {r:List (List UInt8)} (hx:Rest l i s r):markW a b (l.take (i+1)) m=markW a b (l.take i) m++[⟨s,a,b,m+i⟩]:=by
 have h:(l.take i).length=i:=by rw[length_take];have:=hx.lt;omega
 rw[hx.take,mC,h]
 rfl
theorem gi {α:Type} {p:α->Bool}:∀{l:List α} {k:Nat},firstAt p l=some k->k<l.length
 |[],_,h=>by cases h
 |x::l,k,h=>by
  rw[firstAt]at h
  split at h
  ·injection h with h;subst h;simp
  ·obtain⟨k',h2,rfl⟩:=Option.map_eq_some_iff.1 h
   have:=gi h2
   simp;omega
theorem ky {j:Idd}:∀{u p:U} {d k:Nat},U.par j u=some (p,d,k)->d<u.flat.length/\k<1000000+p.kids.length:=by
 intro u
 refine U.ind (p:=λu=>∀{p:U} {d k:Nat},U.par j u=some (p,d,k)->d<u.flat.length/\k<1000000+p.kids.length) (λu ih p d k h=>?_) u
 have hp:=u.flat_pos
 rw[U.par_eq]at h
 split at h
 ·rename_i k' e
  injection h with h
  injection h with h1 h2
  injection h2 with h2 h3
  subst h1 h2 h3
  have:=gi e
  exact⟨by omega,by omega⟩
 ·have:∀us:List U,(∀k∈us,k∈u.kids)->∀{p:U} {d k:Nat},U.pars j us=some (p,d,k)->d<1+(U.flats us).length/\k<1000000+p.kids.length:=by
   intro us
   induction us with
   |nil=>intro _ p d k h;rw[U.pars_nil]at h;cases h
   |cons x us ihu=>
    intro hm p d k h
    rw[U.pars_cons]at h
    rw[aD,length_append]
    split at h
    ·rename_i p' d' k' e
     injection h with h
     injection h with h1 h2
     injection h2 with h2 h3
     subst h1 h2 h3
     have:=ih x (hm x (by simp)) e
     exact⟨by omega,this.2⟩
    ·have:=ihu (λk hk=>hm k (by simp[hk])) h
     exact⟨by omega,this.2⟩
  have:=this u.kids (λ_ h=>h) h
  rw[U.flat_eq,length_cons]
  exact⟨by omega,this.2⟩
section
variable (G:Glob)
theorem f58 (l:List Wd) (hl:l.length<1000000):Pure G Tryz.prog 58 [.lst 4 (l.map Wd.cs)] (.lst 1 ((l.map Wd.text).map srow)):=by
 refine Pure.w c58 λR hR=>?_
 unfold s58 r58
 (repeat' (first|simp only[EVz,seval,↓reduceIte,EV6,EV7,hx.yes,hx.le0,hx.lt',hx.get,hx.row,hw]|simp only[EVz,seval,↓reduceIte,EV6,EV7,hn]|simp only[EVz,seval,↓reduceIte,EV6,EV7]|(with_reducible intro blk hblk;(try(have hnx:=hblk;simp only[EVK]at hnx;(have hne:=hnx))))|(refine⟨[],rfl,(by simp),rfl,?_⟩)|(refine Zq (ι:=Option Nat) (l) (λi r c=>True) (λi c=>[(0,.lst 4 (l.map Wd.cs)),(3,.own c 9 1 ((l.take i).map (λw=>[AV.str w.text]))),(4,.int .i64 i)]) (λi c=>tokS c 9 (i)) (some blk) (by trivial) (Weak.rfl' _ _) (by omega) (λi x r c hok hx hw=>?_) (λc hok hn=>?_))|(refine cV (n:=i) (m':=(i+1)) (by exact bI) (by simp;have:=hx.lt;omega) (by omega) (by omega) rfl (by assumption) (by have:=hx.lt;omega) (λgn=>?_))|(refine af hx gn ?_ (by simp only[hx.take,map_append,map_cons,map_nil];exact Weak.rfl' _ _))|fail))
 (all_goals(((refine hR _ _ (Or.inl (Or.inr ⟨rfl,?_⟩));simp[kf,Function.comp_def];done))))
theorem f57 (l:List (List UInt8)) (a b m:Int) (hl:l.length<1000000) (hm0:0<=m) (hm:m<1000000000000):Pure G Tryz.prog 57 [.lst 1 (l.map srow),.int .i64 a,.int .i64 b,.int .i64 m] (.lst 4 ((markW a b l m).map Wd.cs)):=by
 refine Pure.w c57 λR hR=>?_
 unfold s57 r57
 (repeat' (first|simp only[EVz,seval,↓reduceIte,EV6,EV7,hx.yes,hx.le0,hx.lt',hx.get,hx.row,hw,au (x:=m+(i:Int)) (by omega) (by have:=hx.lt;omega)]|simp only[EVz,seval,↓reduceIte,EV6,EV7,hn]|simp only[EVz,seval,↓reduceIte,EV6,EV7]|(with_reducible intro blk hblk;(try(have hnx:=hblk;simp only[EVK]at hnx;(have hne:=hnx))))|(refine⟨[],rfl,(by simp),rfl,?_⟩)|(refine Zq (ι:=Option Nat) l (λi r c=>True) (λi c=>[(0,.lst 1 (l.map srow)),(1,.int .i64 a),(2,.int .i64 b),(3,.int .i64 m),(9,.own c 64 4 ((markW a b (l.take i) m).map Wd.cs)),(10,.int .i64 i)]) (λi c=>tokS c 64 (i*4)) (some blk) trivial (Weak.rfl' _ _) (by omega) (λi x r c hok hx hw=>?_) (λc hok hn=>?_))|fail))
 ·have hi:=hx.lt
  refine cV (n:=i) (m':=(i+1)*4) bI (by rw[length_map,bq,length_take];omega) rfl rfl rfl (by assumption) (by omega) (λgn=>?_)
  refine af hx gn trivial ?_
  rw[iJ a b l m hx,map_append]
  exact Weak.rfl' _ _
 ·exact hR _ _ (Or.inl (Or.inr ⟨rfl,by rw[take_length]⟩))
theorem f79 (l:List U) (k:Int) (t:List UInt8) (hl:l.length<1000000):Pure G Tryz.prog 79 [.lst 8 (l.map U.cs),.int .i64 k,.str t] (.bool (cK l k t)):=by
 refine Pure.w c79 λR hR=>?_
 unfold s79 r79
 unfold cK at hR
 (repeat' (first|(with_reducible (first|refine ae (λh=>?_) (λh=>?_)|refine ag (λh=>?_) (λh=>?_))<;>(try simp only[Da,Db,Dc,Dw,De,Df,Dg,Dh]at h))|simp only[EVz,seval,↓reduceIte,EV6,EV7,hx.yes,hx.le0,hx.lt',hx.get,hx.row,hw]|simp only[EVz,seval,↓reduceIte,EV6,EV7,hn]|simp only[EVz,seval,↓reduceIte,EV6,EV7]|(refine af hx () ?_ (Weak.rfl' _ _))|(refine Zq (l) (λi r (c:Unit)=>(l.any λx=>decide (x.kind=k)&&decide (x.label=t))=r.any λx=>decide (x.kind=k)&&decide (x.label=t)) (λi c=>[(0,.lst 8 (l.map U.cs)),(1,.int .i64 k),(2,.str t),(7,.int .i64 i)]) (λ_ _=>[]) () (by rfl) (Weak.rfl' _ _) (by omega) (λi x r c hok hx hw=>?_) (λc hok hn=>?_))|fail))
 (all_goals(first|(refine RET.eq hR ?_;first|(simp only[hok,EVC,decide_true,decide_false];done)|(simp_all[];done))|(rw[hok];simp only[h,EVC,decide_true,decide_false];done)))
theorem f151 (l:List U) (j:Idd) (hl:l.length<1000000):Pure G Tryz.prog 151 [.lst 8 (l.map U.cs),.agg j.cs] (.int .i64 (idxF (λk=>decide (k.id=j)) 0 l)):=by
 refine Pure.w c151 λR hR=>?_
 unfold s151 r151
 (repeat' (first|(with_reducible (refine ae (λh=>?_) (λh=>?_))<;>(try simp only[Da,Db,Dc,Dw,De,Df,Dg,Dh]at h))|simp only[EVz,seval,↓reduceIte,EV6,EV7,ai,hx.yes,hx.le0,hx.lt',hx.get,hx.row,hw]|simp only[EVz,seval,↓reduceIte,EV6,EV7,ai,hn]|simp only[EVz,seval,↓reduceIte,EV6,EV7,ai]|(refine af hx () ?_ (Weak.rfl' _ _))|(refine Zq (l) (λi r (c:Unit)=>idxF (λk=>decide (k.id=j)) 0 l=idxF (λk=>decide (k.id=j)) i r) (λi c=>[(0,.lst 8 (l.map U.cs)),(3,.ref j.cs),(5,.int .i64 i)]) (λ_ _=>[]) () (by rfl) (Weak.rfl' _ _) (by omega) (λi x r c hok hx hw=>?_) (λc hok hn=>?_))|fail))
 ·exact RET.eq hR (by rw[hok,idxF];simp[h])
 ·rw[hok,idxF];simp[h]
 ·exact RET.eq hR (by rw[hok];rfl)
theorem f148:∀(u:U),u.Tame->Pure G Tryz.prog 148 [.agg u.cs] (.int .i64 u.dep):=by
 refine U.ind λu ih ht=>?_
 have hkl:=ht.kids
 have hd0:0<=U.deps u.kids:=by rw[←U.dep_eq];exact u.dep_ge
 refine Pure.w c148 λR hR=>?_
 unfold s148 r148
 rw[U.dep_eq]at hR
 (repeat' (first|(with_reducible (refine ae (λh=>?_) (λh=>?_))<;>(try simp only[Da,Db,Dc,Dw,De,Df,Dg,Dh]at h))|(with_reducible refine ab (ih x hx.mem (ht.kid hx.mem)) ?_)|simp only[EVz,seval,↓reduceIte,EV6,EV7,hx.yes,hx.le0,hx.lt',hx.get,hx.row,hw,hwx]|simp only[EVz,seval,↓reduceIte,EV6,EV7,hn]|simp only[EVz,seval,↓reduceIte,EV6,EV7]|(refine Zq (ι:=Int) (u.kids) (λi r c=>U.deps u.kids=max c (U.deps r)/\0<=c) (λi c=>[(1,.ref u.cs),(3,.int .i64 c),(4,.int .i64 i)]) (λ_ _=>[]) (0) (by((simp;omega))) (Weak.rfl' _ _) (by omega) (λi x r c hok hx hw=>?_) (λc hok hn=>?_)<;>(try(have hwx:IntKind.i64.wrap (1+x.dep)=1+x.dep:=au (by have:=x.dep_ge;omega) (by have h1:=x.dep_cnt;have h2:=(ht.kid hx.mem).2;have h3:(x.flat.length:Int)=x.cnt:=rfl;omega))))|(refine af hx _ ?_ (Weak.rfl' _ _))|fail))
 ·have:=x.dep_ge
  rw[U.deps_cons]at hok;omega
 ·rw[U.deps_cons]at hok;omega
 ·exact RET.eq hR (by rw[hok.1,U.deps_nil,Int.max_eq_left hok.2])
theorem f45 (j:Idd):∀(u:U),u.Tame->Pure G Tryz.prog 45 [.agg u.cs,.agg j.cs] (eY j u):=by
 refine U.ind λu ih ht=>?_
 have hkl:=ht.kids
 have hc:=ht.2
 have hwl:=el j u
 refine Pure.w c45 λR hR=>?_
 unfold s45 r45
 unfold eY at hR
 rw[U.way_eq]at hR hwl
 by_cases h0:u.id=j
 ·have e0:decide (u.id=j)=true:=decide_eq_true h0
  have hf:fnd j u=u:=aF (by rw[aO h0];rfl)
  rw[if_pos h0,hf]at hR
  (repeat' (first|simp only[EVz,seval,↓reduceIte,EV6,EV7,ai,e0]|(with_reducible intro blk hblk;(try(have hnx:=hblk;simp only[EVK]at hnx;(have hne:=hnx))))|fail))
  exact hR _ _ (Or.inl (Or.inl rfl))
 ·have e0:decide (u.id=j)=false:=decide_eq_false h0
  rw[if_neg h0]at hR hwl
  simp only[Idd.cs,eY]at ih
  (repeat' (first|simp only[EVz,seval,↓reduceIte,EV6,EV7,ai,e0]|(with_reducible intro blk hblk;(try(have hnx:=hblk;simp only[EVK]at hnx;(have hne:=hnx))))|fail))
  refine Zq u.kids (λi r (c:Unit)=>U.ways j u.kids=U.ways j r) (λi c=>[(2,.ref u.cs),(3,.ref j.cs),(4,.sc (.pointer (some ⟨blk,0,none⟩))),(6,.int .i64 i)]) (λi c=>[(blk,.cells 27 zU)]) () rfl (Weak.rfl' _ _) (by omega) (λi x r c hok hx hw=>?_) (λc hok hn=>?_)
  ·rw[U.ways_cons]at hok
   rcases hwx:U.way j x with _|⟨y,l⟩
   ·have hih:=ih x hx.mem (ht.kid hx.mem)
    simp only[hwx]at hih
    rw[hwx]at hok
    (repeat' (first|(with_reducible refine ab hih ?_)|simp only[EVz,seval,↓reduceIte,EV6,EV7,hx.yes,hx.le0,hx.lt',hx.row,hw,hx.get,hne]|(with_reducible intro blk hblk;(try(have hnx:=hblk;simp only[EVK]at hnx;(have hne:=AI hnx hne))))|(with_reducible refine ak ?_ ?_)|(with_reducible refine am ?_)|fail))
    all_goals exact af hx () hok (Weak.sub ((SubN.refl _).tail _))
   ·have hih:=ih x hx.mem (ht.kid hx.mem)
    simp only[hwx]at hih
    rw[hwx]at hok
    have e:fN u (U.ways j u.kids)=u::y::l:=by rw[hok];rfl
    rw[e]at hR hwl
    simp only[length_cons]at hwl
    have hwp:IntKind.i64.wrap ((l.length:Int)+1)=((l.length+1:Nat):Int):=by rw[au (by omega) (by omega)];omega
    have hf:fnd j u=fnd j x:=by
     unfold fnd
     rw[U.way_eq,if_neg h0,e,hwx]
     simp[getLastD_cons]
    (repeat' (first|(with_reducible (refine ae (λh=>?_) (λh=>?_))<;>(try simp only[Da,Db,Dc,Dw,De,Df,Dg,Dh]at h))|(with_reducible refine ab hih ?_)|simp only[EVz,seval,↓reduceIte,EV6,EV7,hx.yes,hx.le0,hx.lt',hx.row,hw,hx.get,hwp,hne]|(with_reducible intro blk hblk;(try(have hnx:=hblk;simp only[EVK]at hnx;(have hne:=AI hnx hne))))|(with_reducible refine ak ?_ ?_)|(with_reducible refine am ?_)|(exfalso;omega)|fail))
    all_goals(exact hR _ _ (Or.inl (Or.inl (by rw[hf];rfl))))
  ·rw[hok,U.ways_nil]at hR
   (repeat' (simp only[EVz,seval,↓reduceIte,EV6,EV7,hn,hne]))
   exact hR _ _ (Or.inl (Or.inl rfl))
end
theorem ng {α:Type} (p:α->Bool) (x:α) (r:List α) (i:Nat) (h:p x=false):(firstAt p (x::r)).map (· +i)=(firstAt p r).map (· +(i+1)):=by
 rw[firstAt,h]
 simp only[Bool.false_eq_true,if_false,Option.map_map]
 congr 1
 funext y
 simp only[Function.comp]
 omega
section
variable (G:Glob)
theorem f75 (j:Idd):∀(u:U),u.Tame->Pure G Tryz.prog 75 [.agg u.cs,.agg j.cs] (ip j u):=by
 refine U.ind λu ih ht=>?_
 have hkl:=ht.kids
 have hc:=ht.2
 refine Pure.w c75 λR hR=>?_
 unfold s75 r75
 unfold ip at hR
 rw[U.par_eq]at hR
 simp only[Idd.cs,ip]at ih
 (repeat' (first|simp only[EVz,seval,↓reduceIte,EV6,EV7,ai]|(with_reducible intro blk hblk;(try(have hnx:=hblk;simp only[EVK]at hnx;(have hne:=hnx))))|fail))
 refine Zq u.kids (λi r (c:Unit)=>firstAt (λk=>decide (k.id=j)) u.kids=(firstAt (λk=>decide (k.id=j)) r).map (· +i)) (λi c=>[(2,.ref u.cs),(3,.ref j.cs),(4,.sc (.pointer (some ⟨blk,0,none⟩))),(7,.int .i64 i)]) (λi c=>[(blk,.cells 27 zU)]) () (by cases firstAt (λk=>decide (k.id=j)) u.kids<;>simp) (Weak.rfl' _ _) (by omega) (λi x r c hok hx hw=>?_) (λc hok hn=>?_)
 ·by_cases h1:x.id=j
  ·have e1:decide (x.id=j)=true:=decide_eq_true h1
   rw[firstAt,if_pos e1]at hok
   rw[hok]at hR
   simp only[Option.map_some,Nat.zero_add]at hR
   (repeat' (simp only[EVz,seval,↓reduceIte,EV6,EV7,hx.yes,hx.le0,hx.lt',hx.row,hw,hx.get,ai,e1,hne]))
   exact hR _ _ (Or.inl (Or.inl rfl))
  ·have e1:decide (x.id=j)=false:=decide_eq_false h1
   rw[ng _ x r i e1]at hok
   (repeat' (simp only[EVz,seval,↓reduceIte,EV6,EV7,hx.yes,hx.le0,hx.lt',hx.row,hw,hx.get,ai,e1,hne]))
   exact af hx () hok (Weak.rfl' _ _)
 ·rw[hok]at hR
  simp only[firstAt,Option.map_none]at hR
  (repeat' (simp only[EVz,seval,↓reduceIte,EV6,EV7,hn,hne]))
  refine Zq u.kids (λi r (c:Unit)=>U.pars j u.kids=U.pars j r) (λi c=>[(2,.ref u.cs),(3,.ref j.cs),(4,.sc (.pointer (some ⟨blk,0,none⟩))),(8,.int .i64 i)]) (λi c=>[(blk,.cells 27 zU)]) () rfl (Weak.rfl' _ _) (by omega) (λi x r c hok hx hw=>?_) (λc hok hn=>?_)
  ·rw[U.pars_cons]at hok
   have hih:=ih x hx.mem (ht.kid hx.mem)
   rcases hwx:U.par j x with _|⟨p,d,k⟩
   ·simp only[hwx]at hih hok
    (repeat' (first|(with_reducible refine ab hih ?_)|simp only[EVz,seval,↓reduceIte,EV6,EV7,hx.yes,hx.le0,hx.lt',hx.row,hw,hx.get,hne]|(with_reducible intro blk hblk;(try(have hnx:=hblk;simp only[EVK]at hnx;(have hne:=AI hnx hne))))|(with_reducible refine ak ?_ ?_)|(with_reducible refine am ?_)|fail))
    all_goals exact af hx () hok (Weak.sub ((SubN.refl _).tail _))
   ·simp only[hwx]at hih hok
    rw[hok]at hR
    simp only at hR
    have hd:=(ky hwx).1
    have hxl:=(ht.kid hx.mem).2
    have hwp:IntKind.i64.wrap ((d:Int)+1)=((d+1:Nat):Int):=by rw[au (by omega) (by omega)];omega
    (repeat' (first|(with_reducible (refine ae (λh=>?_) (λh=>?_))<;>(try simp only[Da,Db,Dc,Dw,De,Df,Dg,Dh]at h))|(with_reducible refine ab hih ?_)|simp only[EVz,seval,↓reduceIte,EV6,EV7,hx.yes,hx.le0,hx.lt',hx.row,hw,hx.get,hwp,hne]|(with_reducible intro blk hblk;(try(have hnx:=hblk;simp only[EVK]at hnx;(have hne:=AI hnx hne))))|(with_reducible refine ak ?_ ?_)|(with_reducible refine am ?_)|(exfalso;omega)|fail))
    all_goals exact hR _ _ (Or.inl (Or.inl rfl))
  ·rw[hok,U.pars_nil]at hR
   (repeat' (simp only[EVz,seval,↓reduceIte,EV6,EV7,hn,hne]))
   exact hR _ _ (Or.inl (Or.inl rfl))
def anc (j:Idd) (u:U):List Idd:=((U.way j u).dropLast.map U.id).reverse
theorem f165 (j:Idd) (u:U) (ht:u.Tame):Pure G Tryz.prog 165 [.agg u.cs,.agg j.cs] (.lst 3 ((anc j u).map Idd.cs)):=by
 have hW:=f50 G j u ht
 have hwl:=el j u
 have hc:=ht.2
 refine Pure.w c165 λR hR=>?_
 unfold s165 r165
 unfold anc at hR
 simp only[Idd.cs]at hW ⊢
 cases hw0:U.way j u with
 |nil=>
  rw[hw0]at hW hR
  simp only[gl]at hW
  (repeat' (first|(with_reducible refine ab hW ?_)|simp only[EVz,seval,↓reduceIte,EV6,EV7]|fail))
  refine Zq ([]:List U) (λi r (c:Unit)=>True) (λi c=>[(5,.nil),(6,.nil),(7,.int .i64 (-2))]) (λi c=>[]) () trivial (Weak.rfl' _ _) (by simp) (λi x r c hok hx hw=>?_) (λc hok hn=>?_)
  ·exact absurd hx.lt (by simp)
  ·(repeat' (simp only[EVz,seval,↓reduceIte,EV6,EV7,hn]))
   exact hR _ _ (Or.inl (Or.inr (by simp)))
 |cons y l=>
  have hwne:U.way j u≠[]:=by rw[hw0];simp
  rw[nF hwne]at hW
  obtain⟨L,hL⟩:∃L,U.way j u=L:=⟨_,rfl⟩
  rw[hL]at hW hwl hwne hR
  have hpos:1<=L.length:=by cases L<;>simp_all
  have hwp:IntKind.i64.wrap ((L.length:Int)-2)=(L.length:Int)-2:=au (by omega) (by omega)
  clear hw0 hL
  have hdl:L.dropLast.reverse.length=L.length-1:=by simp
  (repeat' (first|(with_reducible refine ab hW ?_)|simp only[EVz,seval,↓reduceIte,EV6,EV7,hwp]|fail))
  refine Zq (ι:=Option Nat) L.dropLast.reverse (λi r c=>True) (λi c=>[(5,.own c 23 3 ((L.dropLast.reverse.take i).map λx=>x.id.cs)),(6,.lst 8 (L.map U.cs)),(7,.int .i64 ((L.length:Int)-2-i))]) (λi c=>tokS c 23 (i*3)) none trivial (Weak.of (by simp[cQ,Env.get,AVle,aP]) (SubN.refl _)) (by omega) (λi x r c hok hx hw=>?_) (λc hok hn=>?_)
  ·have hi:=hx.lt
   rw[hdl]at hi
   have e1:decide ((0:Int)<=(L.length:Int)-2-i)=true:=decide_eq_true (by omega)
   have w1:IntKind.i64.wrap ((L.length:Int)-2-i-1)=(L.length:Int)-2-((i+1:Nat):Int):=by rw[au (by omega) (by omega)];omega
   have hn2:((L.length:Int)-2-i).toNat=L.length-2-i:=by omega
   have hg:(L.map U.cs).getD (L.length-2-i) []=x.cs:=by
    have h1:=hx.get noU
    have h2:L.dropLast.reverse[i]? =some x:=by
     rw[getD_eq_getElem?_getD]at h1
     rw[getElem?_eq_getElem (by rw[hdl];exact hi)]at h1 ⊢
     simp at h1 ⊢
     exact h1
    rw[getElem?_reverse (by simp;omega),getElem?_dropLast]at h2
    simp only[length_dropLast]at h2
    rw[show L.length-1-1-i=L.length-2-i by omega,if_pos (by omega)]at h2
    simp only[List.getD,getElem?_map,h2,Option.map_some,Option.getD_some]
   (repeat' (first|(with_reducible refine AI (by omega) ?_)|simp only[EVz,seval,↓reduceIte,EV6,EV7,e1,w1,hn2,hg]|(with_reducible intro blk hblk;(try(have hnx:=hblk;simp only[EVK]at hnx;(have hne:=hnx))))|fail))
   refine cV (n:=i) (m':=(i+1)*3) bI (by rw[length_map,length_take];omega) rfl rfl rfl (by assumption) (by omega) (λgn=>?_)
   refine af hx gn trivial ?_
   simp only[hx.take,map_append,map_cons,map_nil,Idd.cs]
   exact Weak.rfl' _ _
  ·have e1:decide ((0:Int)<=(L.length:Int)-2-(L.dropLast.reverse.length:Int))=false:=decide_eq_false (by rw[hdl];omega)
   (repeat' (simp only[EVz,seval,↓reduceIte,EV6,EV7,e1]))
   exact hR _ _ (Or.inl (Or.inr ⟨rfl,by rw[take_length,←map_reverse,map_map];rfl⟩))
end
def LeRep (x y:AV):Prop:=∀σ w u,Rep σ w x u->Rep σ w y u
inductive LeReps:List AV->List AV->Prop
 |nil:LeReps [] []
 |cons {x y xs ys}:LeRep x y->LeReps xs ys->LeReps (x::xs) (y::ys)
theorem LeRep.of {x y:AV} (h:AVle x y):LeRep x y:=λ_ _ _ hr=>h.rep hr
theorem LeRep.refl (x:AV):LeRep x x:=λ_ _ _ h=>h
theorem LeReps.rep {xs ys:List AV} (h:LeReps xs ys):∀{σ w us},RepL σ w xs us->RepL σ w ys us:=by
 induction h with
 |nil=>intro σ w us h;exact h
 |cons h1 h2 ih=>
  intro σ w us h
  simp only[RepL]at h ⊢
  obtain⟨u,us',rfl,g1,g2⟩:=h
  exact⟨u,us',rfl,h1 _ _ _ g1,ih g2⟩
theorem LeRep.tup {xs ys:List AV} (h:LeReps xs ys):LeRep (.tup xs) (.tup ys):=λσ w u hr=>by
 simp only[Rep]at hr ⊢
 obtain⟨vs,e,hr⟩:=hr
 exact⟨vs,e,h.rep hr⟩
theorem aj.toPure {G:Glob} {P:Program} {k:FuncId} {args:List AV} {R:AV->Store->Prop} {r0:AV} (h:aj G P k args [] R) (hR:∀r σ',R r σ'->LeRep r r0):Pure G P k args r0:=
 ⟨h.1,λρ w vs hS hA=>(h.2 ρ w vs hS hA).mono (by
  rintro e w' ⟨v,r,σ',rfl,hr,hS',hE,hrep⟩
  exact⟨v,r0,[],rfl,⟨rfl,rfl⟩,hS'.subN (SubN.nil σ'),hE.trans (Ev.of_sub (SubN.nil σ').1 w'),Rep.ev (Ev.of_sub (SubN.nil σ').1 w') _ _ (hR r σ' hr _ _ _ hrep)⟩)⟩
theorem RET.any {x:AV} {R:AV->Store->Prop} {σ:Store} (h:R x []):RET x σ R:=⟨x,[],AVle.rfl' _,SubN.nil _,h⟩
theorem tokF {g:Option Nat} {e:TypeId} {m:Nat} {κ:Store} (hg:∀b,g=some b->b∉κ.keys):∀b,g=some b->Store.get (κ++tokS g e m) b=some (.tok e m):=by
 rintro b rfl
 rw[ao (hg b rfl)]
 simp[tokS,Store.get]
theorem app_kept {e:TypeId} {sz bytes m:Nat} {g:Option Nat} {rows ys:List (List AV)} {K:AV->Store->Prop} {b':Nat} {y:AObj} (κ:Store) (hb':b'∉Store.keys (κ++tokS g e m)) (hg:∀b,g=some b->b∉κ.keys) (hm:m=rows.length*sz) (hnd:κ.keys.Nodup) (hb:(rows.length+ys.length)*bytes<=140737488355328)
  (hk:∀g',(∀b,g'=some b->b∉κ.keys)->K (.own g' e sz (rows++ys)) (κ++tokS g' e ((rows++ys).length*sz))):appX e sz bytes ((b',y)::(κ++tokS g e m)) g rows ys K:=by
 subst hm
 refine fR κ (λb h=>?_) hb ⟨λq hq=>?_,λ_=>hnd⟩ hk
 ·have h1:=tokF (e:=e) (m:=rows.length*sz) hg b h
  have h2:b'≠b:=by
   rintro rfl
   exact hb' (mem_map.2 ⟨_,Store.get_mem h1,rfl⟩)
  simp only[Store.get,if_neg h2]
  exact h1
 ·cases g with
  |none=>exact mem_cons_of_mem _ (mem_append.2 (.inl hq))
  |some b=>
   refine mem_filter.2 ⟨mem_cons_of_mem _ (mem_append.2 (.inl hq)),?_⟩
   have:q.1≠b:=λh=>hg b rfl (by rw[←h];exact mem_map.2 ⟨q,hq,rfl⟩)
   simpa using this
section
variable (G:Glob)
theorem f76 (l:List U) (k:Nat) (hk:k<l.length) (hl:l.length<1000000):Pure G Tryz.prog 76 [.lst 8 (l.map U.cs),.int .i64 k] (.lst 8 ((aL l k).map U.cs)):=by
 have hwp:IntKind.i64.wrap ((k:Int)+1)=((k+1:Nat):Int):=by rw[au (by omega) (by omega)];omega
 have hlt:List.take l.length (l.map U.cs)=l.map U.cs:=take_of_length_le (by simp)
 refine Pure.w c76 λR hR=>?_
 unfold s76 r76
 (repeat' (first|(with_reducible refine AI (by omega) ?_)|simp only[EVz,seval,↓reduceIte,EV6,EV7,hwp,hne]|simp only[EVz,seval,↓reduceIte,EV6,EV7,hwp]|(with_reducible intro blk hblk;(try(have hnx:=hblk;simp only[EVK]at hnx;(have hne:=hnx))))|(refine⟨[],rfl,(by simp),rfl,?_⟩)|(refine cH (by exact bI) rfl rfl (by simp<;>omega) (λgn=>?_))|fail))
 exact hR _ _ (Or.inl (Or.inr ⟨rfl,by rw[hlt,aL,map_append,map_take,map_drop]⟩))
theorem f150 (l:List U) (k:Nat) (x:U) (hk:k<=l.length) (hl:l.length<1000000):Pure G Tryz.prog 150 [.lst 8 (l.map U.cs),.int .i64 k,.agg x.cs] (.lst 8 ((aR l k x).map U.cs)):=by
 have hlt:List.take l.length (l.map U.cs)=l.map U.cs:=take_of_length_le (by simp)
 refine Pure.w c150 λR hR=>?_
 unfold s150 r150
 (repeat' (first|(with_reducible refine AI (by omega) ?_)|simp only[EVz,seval,↓reduceIte,EV6,EV7,hne]|simp only[EVz,seval,↓reduceIte,EV6,EV7]|(with_reducible intro blk hblk;(try(have hnx:=hblk;simp only[EVK]at hnx;first|(have hne:=AI hnx hne)|(have hne:=hnx))))|(with_reducible refine ak ?_ ?_)|(with_reducible refine am ?_)|(refine⟨[],rfl,(by simp),rfl,?_⟩)|(refine⟨[x.cs],rfl,(by simp[U.cs_len]),(by simp),?_⟩)|(refine cH (by first|exact bI|exact bT (by assumption)|(rintro d h<;>injection h with h<;>subst h<;>simp[Store.get,hne]<;>done)) rfl rfl (by simp<;>omega) (λgn=>?_))|fail))
 all_goals exact hR _ _ (Or.inl (Or.inr ⟨rfl,by rw[hlt,aR,map_append,map_take,map_cons,map_drop];simp⟩))
theorem f77 (x:U):∀(u:U),u.Tame->Pure G Tryz.prog 77 [.agg u.cs,.agg x.cs] (.agg (U.put x u).cs):=by
 refine U.ind λu ih ht=>?_
 have hkl:=ht.kids
 refine Pure.w c77 λR hR=>?_
 unfold s77 r77
 rw[U.put_eq]at hR
 rw[U.cs_eq u]
 by_cases h0:u.id=x.id
 ·have e0:decide (u.id=x.id)=true:=decide_eq_true h0
  rw[if_pos h0]at hR
  (repeat' (first|simp only[EVz,seval,↓reduceIte,EV6,EV7,ai,e0,U.cs_take3,U.cs_head,hne]|simp only[EVz,seval,↓reduceIte,EV6,EV7,ai,e0,U.cs_take3,U.cs_head]|(with_reducible intro blk hblk;(try(have hnx:=hblk;simp only[EVK]at hnx;first|(have hne:=AI hnx hne)|(have hne:=hnx))))|fail))
  exact RET.eq hR rfl
 ·have e0:decide (u.id=x.id)=false:=decide_eq_false h0
  rw[if_neg h0]at hR
  (repeat' (first|simp only[EVz,seval,↓reduceIte,EV6,EV7,ai,e0,hne]|simp only[EVz,seval,↓reduceIte,EV6,EV7,ai,e0]|(with_reducible intro blk hblk;(try(have hnx:=hblk;simp only[EVK]at hnx;first|(have hne:=AI hnx hne)|(have hne:=hnx))))|(refine⟨[],rfl,(by simp),rfl,?_⟩)|fail))
  rename_i b2 _ _ _ b4 _ _ _
  have hnd:Store.keys [(b4,AObj.cells 27 zU),(b2,.cells 27 u.cs)]|>.Nodup:=by simp[Store.keys,hne]
  refine Zq (ι:=Option Nat) u.kids (λi r c=>∀b,c=some b->b∉Store.keys [(b4,AObj.cells 27 zU),(b2,.cells 27 u.cs)]) (λi c=>[(2,.sc (.pointer (some ⟨b2,0,none⟩))),(3,.ref x.cs),(4,.sc (.pointer (some ⟨b4,0,none⟩))),(5,.own c 27 8 ((u.kids.take i).map λk=>(U.put x k).cs)),(6,.int .i64 i)])
   (λi c=>[(b4,AObj.cells 27 zU),(b2,.cells 27 u.cs)]++tokS c 27 (i*8)) (some blk) (by rintro b h;injection h with h;subst h;simp[Store.keys,hne]) (Weak.of (by simp[cQ,Env.get,AVle,aP]) (by rw[U.cs_eq u];exact SubN.perm (perm_append_comm (l₁:=[_,_]) (l₂:=[_])))) (by omega) (λi k r c hok hx hw=>?_) (λc hok hn=>?_)
  ·have hih:=ih k hx.mem (ht.kid hx.mem)
   (repeat' (first|(with_reducible refine ab hih ?_)|simp only[EVz,seval,↓reduceIte,EV6,EV7,hx.yes,hx.le0,hx.lt',hx.row,hw,hx.get,hne]|(with_reducible intro blk hblk;(try(have hnx:=hblk;simp only[EVK]at hnx;(have hne:=AI hnx hne))))|fail))
   have hi:=hx.lt
   refine⟨[(U.put x k).cs],rfl,by simp[U.cs_len],by simp,?_⟩
   refine app_kept (m:=i*8) [(b4,AObj.cells 27 zU),(b2,.cells 27 u.cs)] hblk hok (by rw[length_map,length_take];omega) hnd (by simp;omega) (λgn hgn=>?_)
   refine af hx gn hgn ?_
   have e:((u.kids.take i).map (λk=>(U.put x k).cs)++[(U.put x k).cs]).length*8=(i+1)*8:=by simp;omega
   rw[e,hx.take,map_append]
   exact Weak.rfl' _ _
  ·rw[U.cs_eq u]
   (repeat' (simp only[EVz,seval,↓reduceIte,EV6,EV7,hn,hne]))
   exact hR _ _ (Or.inr (by rw[U.cs_eq {u with kids:=u.kids.map (U.put x)}];simp[bz,aP,map_map,Function.comp_def]))
end
def U.wt (u:U):Nat:=(u.flat.map λy=>y.head.length+y.words.length).sum
def U.wts (us:List U):Nat:=((U.flats us).map λy=>y.head.length+y.words.length).sum
theorem U.wt_eq (u:U):u.wt=u.head.length+u.words.length+U.wts u.kids:=by unfold U.wt U.wts;rw[U.flat_eq];simp
theorem U.wts_nil:U.wts []=0:=by unfold U.wts;rw[bt];rfl
theorem U.wts_cons (u:U) (us:List U):U.wts (u::us)=u.wt+U.wts us:=by unfold U.wt U.wts;rw[aD];simp
theorem U.wts_app (a b:List U):U.wts (a++b)=U.wts a+U.wts b:=by unfold U.wts;rw[cv];simp
theorem iL (a b:Int) (x:U):∀(l:List U) (n m:Int),U.stamps a b (l++[x]) n m=((U.stamps a b l n m).1++[(U.stamp a b x (U.stamps a b l n m).2.1 (U.stamps a b l n m).2.2).1],(U.stamp a b x (U.stamps a b l n m).2.1 (U.stamps a b l n m).2.2).2)
 |[],n,m=>by rw[nil_append,U.stamps_cons,U.stamps_nil,U.stamps_nil];rfl
 |u::l,n,m=>by rw[cons_append,U.stamps_cons,iL a b x l,U.stamps_cons];rfl
theorem pi (a b:Int):∀(u:U) (n m:Int),(U.stamp a b u n m).2.2=m+u.wt:=by
 refine U.ind λu ih n m=>?_
 have h:∀(us:List U),(∀k∈us,∀n m,(U.stamp a b k n m).2.2=m+k.wt)->∀n m,(U.stamps a b us n m).2.2=m+U.wts us:=by
  intro us
  induction us with
  |nil=>intro _ n m;rw[U.stamps_nil,U.wts_nil];simp
  |cons x us ihu=>
   intro h n m
   rw[U.stamps_cons]
   simp only
   rw[ihu (λk hk=>h k (by simp[hk])),h x (by simp),U.wts_cons]
   omega
 rw[U.stamp_eq]
 simp only
 rw[h u.kids ih,U.wt_eq]
 omega
theorem gA (a b:Int) (us:List U) (n m:Int):(U.stamps a b us n m).2.1=n+(U.flats us).length/\(U.stamps a b us n m).2.2=m+U.wts us/\(U.stamps a b us n m).1.length=us.length:=by
 refine⟨(gL a b (λk _ n m=>lC a b k n m) n m).next,?_,?_⟩
 ·induction us generalizing n m with
  |nil=>rw[U.stamps_nil,U.wts_nil];simp
  |cons x us ih=>
   rw[U.stamps_cons]
   simp only
   rw[ih,pi,U.wts_cons]
   omega
 ·have:=congrArg List.length (gL a b (us:=us) (λk _ n m=>lC a b k n m) n m).key
  simpa using this
theorem lX {e:TypeId} {sz bytes m:Nat} {g:Option Nat} {rows ys:List (List AV)} {K:AV->Store->Prop} {b1 b2:Nat} {y1 y2:AObj} (κ:Store) (hb1:b1∉Store.keys (κ++tokS g e m)) (hb2:b2∉Store.keys ((b1,y1)::(κ++tokS g e m))) (hg:∀b,g=some b->b∉κ.keys) (hm:m=rows.length*sz) (hnd:κ.keys.Nodup) (hb:(rows.length+ys.length)*bytes<=140737488355328)
  (hk:∀g',(∀b,g'=some b->b∉κ.keys)->K (.own g' e sz (rows++ys)) (κ++tokS g' e ((rows++ys).length*sz))):appX e sz bytes ((b2,y2)::(b1,y1)::(κ++tokS g e m)) g rows ys K:=by
 subst hm
 refine fR κ (λb h=>?_) hb ⟨λq hq=>?_,λ_=>hnd⟩ hk
 ·have h1:=tokF (e:=e) (m:=rows.length*sz) hg b h
  have hkey:b∈Store.keys (κ++tokS g e (rows.length*sz)):=mem_map.2 ⟨_,Store.get_mem h1,rfl⟩
  have h2:b1≠b:=λe=>hb1 (by rw[e];exact hkey)
  have h3:b2≠b:=λe=>hb2 (by rw[e];exact mem_cons_of_mem _ hkey)
  simp only[Store.get,if_neg h2,if_neg h3]
  exact h1
 ·cases g with
  |none=>exact mem_cons_of_mem _ (mem_cons_of_mem _ (mem_append.2 (.inl hq)))
  |some b=>
   refine mem_filter.2 ⟨mem_cons_of_mem _ (mem_cons_of_mem _ (mem_append.2 (.inl hq))),?_⟩
   have:q.1≠b:=λh=>hg b rfl (by rw[←h];exact mem_map.2 ⟨q,hq,rfl⟩)
   simpa using this
section
variable (G:Glob)
def jl (a b:Int) (u:U) (n m:Int):AV:=.tup [.agg (U.stamp a b u n m).1.cs,.int .i64 (U.stamp a b u n m).2.1,.int .i64 (U.stamp a b u n m).2.2]
set_option maxHeartbeats 1000000 in
theorem f36 (a b:Int):∀(u:U),u.Short->∀n m:Int,0<=n->0<=m->n+u.flat.length<=100000000000->m+u.wt<=100000000000->Pure G Tryz.prog 36 [.agg u.cs,.int .i64 a,.int .i64 b,.int .i64 n,.int .i64 m] (jl a b u n m):=by
 refine U.ind λu ih hs n m hn0 hm0 hnb hmb=>?_
 have hkl:=hs.1.kids
 have hu:=hs.2 u u.flat_self
 rw[U.flat_eq,length_cons]at hnb
 rw[U.wt_eq]at hmb
 have hT1:=f58 G u.head hu.2.1
 have hT2:=f58 G u.words hu.2.2.1
 have hM1:=f57 G (u.head.map Wd.text) a b m (by rw[length_map];exact hu.2.1) hm0 (by omega)
 have hM2:=f57 G (u.words.map Wd.text) a b (m+u.head.length) (by rw[length_map];exact hu.2.2.1) (by omega) (by omega)
 have hl1:(markW a b (u.head.map Wd.text) m).length=u.head.length:=by rw[bq,length_map]
 have hl2:(markW a b (u.words.map Wd.text) (m+u.head.length)).length=u.words.length:=by rw[bq,length_map]
 have w1:IntKind.i64.wrap (n+1)=n+1:=au (by omega) (by omega)
 have w2:IntKind.i64.wrap (m+(u.head.length:Int))=m+u.head.length:=au (by omega) (by omega)
 have w3:IntKind.i64.wrap (m+(u.head.length:Int)+(u.words.length:Int))=m+u.head.length+u.words.length:=au (by omega) (by omega)
 refine aj.toPure (R:=λr _=>LeRep r (jl a b u n m)) (aj.w c36 ?_) (λr σ' h=>h)
 unfold s36 r36
 unfold jl
 rw[U.stamp_eq,U.cs_eq u]
 (repeat' (first|(with_reducible first|refine ab hT1 ?_|refine ab hT2 ?_|refine ab hM1 ?_|refine ab hM2 ?_)|simp only[EVz,seval,↓reduceIte,EV6,EV7,w1,w2,w3,hl1,hl2,hne]|simp only[EVz,seval,↓reduceIte,EV6,EV7,w1,w2,w3,hl1,hl2]|(with_reducible intro blk hblk;(try(have hnx:=hblk;simp only[EVK]at hnx;first|(have hne:=AI hnx hne)|(have hne:=hnx))))|(refine⟨[],rfl,(by simp),rfl,?_⟩)|fail))
 rename_i b5 _ _ _ b10 _ _ _
 obtain⟨n1,hn1⟩:∃n1,n+1=n1:=⟨_,rfl⟩
 obtain⟨m1,hm1⟩:∃m1,m+(u.head.length:Int)+(u.words.length:Int)=m1:=⟨_,rfl⟩
 obtain⟨S,hS⟩:∃S:Nat->List U×Int×Int,S=λi=>U.stamps a b (u.kids.take i) n1 m1:=⟨_,rfl⟩
 have hS0:S 0=([],n1,m1):=by rw[hS];simp only[take_zero,U.stamps_nil]
 have hSn:∀i,(S i).2.1=n1+(U.flats (u.kids.take i)).length/\(S i).2.2=m1+U.wts (u.kids.take i)/\(S i).1.length=(u.kids.take i).length:=λi=>by rw[hS];exact gA a b _ n1 m1
 obtain⟨row,hrow⟩:∃row,row=[AV.int .i64 a,.int .i64 b,.int .i64 n,.int .i64 u.kind,.str u.label,.lst 4 ((markW a b (u.head.map Wd.text) m).map Wd.cs),.lst 4 ((markW a b (u.words.map Wd.text) (m+u.head.length)).map Wd.cs),.lst 8 (u.kids.map U.cs)]:=⟨_,rfl⟩
 have hnd:Store.keys [(b10,AObj.cells 27 zU),(b5,.cells 27 row)]|>.Nodup:=by simp[Store.keys,hne]
 rw[hn1,hm1]
 refine Zq (ι:=Option Nat) u.kids (λi r c=>∀b',c=some b'->b'∉Store.keys [(b10,AObj.cells 27 zU),(b5,.cells 27 row)]) (λi c=>[(1,.int .i64 a),(2,.int .i64 b),(3,.int .i64 (S i).2.1),(4,.int .i64 (S i).2.2),(5,.sc (.pointer (some ⟨b5,0,none⟩))),(10,.sc (.pointer (some ⟨b10,0,none⟩))),(13,.own c 27 8 ((S i).1.map U.cs)),(14,.int .i64 i)])
  (λi c=>[(b10,AObj.cells 27 zU),(b5,.cells 27 row)]++tokS c 27 (i*8)) (some blk) (by rintro b h;injection h with h;subst h;simp[Store.keys,hne]) (Weak.of (by rw[hS0];simp[cQ,Env.get,AVle,aP]) (by rw[hrow];exact SubN.perm (perm_append_comm (l₁:=[_,_]) (l₂:=[_])))) (by omega) (λi k r c hok hx hw=>?_) (λc hok hn=>?_)
 ·obtain⟨s1,s2,s3⟩:=hSn i
  obtain⟨t1,t2,t3⟩:=hSn (i+1)
  have hfl:(U.flats (u.kids.take (i+1))).length<=(U.flats u.kids).length:=by
   conv=>rhs;rw[←take_append_drop (i+1) u.kids,cv,length_append]
   omega
  have hwl:U.wts (u.kids.take (i+1))<=U.wts u.kids:=by
   conv=>rhs;rw[←take_append_drop (i+1) u.kids,U.wts_app]
   omega
  have hfl2:(U.flats (u.kids.take (i+1))).length=(U.flats (u.kids.take i)).length+k.flat.length:=by rw[hx.take,cv,aD,bt];simp
  have hwl2:U.wts (u.kids.take (i+1))=U.wts (u.kids.take i)+k.wt:=by rw[hx.take,U.wts_app,U.wts_cons,U.wts_nil];simp
  have hih:=ih k hx.mem (hs.kid hx.mem) (S i).2.1 (S i).2.2 (by omega) (by omega) (by omega) (by omega)
  unfold jl at hih
  have hSs:S (i+1)=((S i).1++[(U.stamp a b k (S i).2.1 (S i).2.2).1],(U.stamp a b k (S i).2.1 (S i).2.2).2):=by
   simp only[hS]
   rw[hx.take,iL]
  subst hrow
  (repeat' (first|(with_reducible refine ab hih ?_)|simp only[EVz,seval,↓reduceIte,EV6,EV7,hx.yes,hx.le0,hx.lt',hx.row,hw,hx.get,hne]|(with_reducible intro blk hblk;(try(have hnx:=hblk;simp only[EVK]at hnx;(have hne:=AI hnx hne))))|fail))
  rename_i b15 hb15 _ _
  have hil:=hx.lt
  have htl:(u.kids.take i).length=i:=by rw[length_take];omega
  refine⟨[(U.stamp a b k (S i).2.1 (S i).2.2).1.cs],rfl,by simp[U.cs_len],by simp,?_⟩
  refine lX (m:=i*8) _ hb15 hblk hok (by rw[length_map,s3,htl]) hnd (by rw[length_map,s3,htl];simp;omega) (λgn hgn=>?_)
  refine af hx gn hgn ?_
  rw[hSs]
  have e:((S i).1.map U.cs++[(U.stamp a b k (S i).2.1 (S i).2.2).1.cs]).length*8=(i+1)*8:=by rw[length_append,length_map,s3,htl];rfl
  rw[e]
  simp only[map_append,map_cons,map_nil]
  exact Weak.rfl' _ _
 ·subst hrow
  have hSl:S u.kids.length=U.stamps a b u.kids n1 m1:=by simp only[hS];rw[take_length]
  (repeat' (simp only[EVz,seval,↓reduceIte,EV6,EV7,hn,hne]))
  rw[hSl]
  exact RET.any (LeRep.tup (.cons (LeRep.of (.inr (by rw[U.cs_eq];simp[bz,aP]))) (.cons (.refl _) (.cons (.refl _) .nil))))
end
end Go.Av
