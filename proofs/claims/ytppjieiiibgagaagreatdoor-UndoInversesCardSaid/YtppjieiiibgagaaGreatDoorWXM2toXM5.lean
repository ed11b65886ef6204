/-
  ENACT, M2: parents; the reference's own looks into trees.
-/
import Derived.Test.YtppjieiiibgagaaGreatDoorWXM1toXL31
import Derived.Test.YtppjieiiibgagaaGreatDoorWXL32toXL54
set_option linter.all false
namespace Go.Av
open Go Go.RowKit Go.Proofs List
def gz {α:Type} (p:α->Bool):∀(l:List α) (i k:Nat),firstAt p l=some k->idxF p i l=((i+k:Nat):Int)
 |[],i,k,h=>by cases h
 |x::l,i,k,h=>by
  rw[firstAt]at h;rw[idxF]
  cases D:p x with
  |true=>rw[D]at h;simp only[if_true]at h ⊢;injection h with h;subst h;rfl
  |false=>
   rw[D]at h;simp only[Bool.false_eq_true,if_false]at h ⊢;obtain⟨F,E,rfl⟩:=Option.map_eq_some_iff.1 h;rw[gz p l (i+1) F E];omega
def jK (j:Idd) (u:U):AV:=match aL j u with
 |some (p,_,k)=>.tup [.agg p.id.cs,.int .i64 k,.bool true]
 |none=>.tup [.agg [.int .i64 0,.int .i64 0,.int .i64 0],.int .i64 (-1),.bool false]
def eN (j:Idd) (u:U):AV:=match U.way j u with
 |[]=>.tup [.agg zU,.int .i64 (-1)]
 |x::l=>.tup [.agg (fnd j u).cs,.int .i64 l.length]
def iP (j:Idd) (u:U):AV:=match U.par j u with
 |some (p,d,k)=>.tup [.agg p.cs,.int .i64 d,.int .i64 k]
 |none=>.tup [.agg zU,.int .i64 0,.int .i64 (-1)]
section
variable (G:Glob)
def f256k (σ:Store) (f:Value) (p:U->Bool) (l:List U) (N:l.length<9000000000000000000) (I:∀x∈l,cu G Tryz.prog f [.agg x.cs] σ λr σ'=>r= .bool (p x)/\σ'=σ):
  aj G Tryz.prog 256 [.lst 8 (l.map U.cs),.sc f] σ λr σ'=>r= .i (idxF p 0 l)/\σ'=σ:=by
 refine tu c256 λR F=>?_
 unfold s256 r256
 (repeat' (first|(with_reducible (refine ae (λh=>?_) λh=>?_)<;>(try simp only[DZ]at h))|simp only[EV,seval,E.yes,E.le0,E.lt',E.get,E.row,M]|simp only[EV,seval,J]|simp only[EV,seval]|(refine ak E () ?_ (a0 _ _))|(refine ap l (λi r (c:Unit)=>idxF p 0 l=idxF p i r) (λi c=>[(0,.lst 8 (l.map U.cs)),(1,.sc f),(7,.i l.length),(8,.i i)]) (λ_ _=>σ) () rfl (a0 _ _) (by omega) (λi x r c D E M=>?_) (λc D J=>?_))|(refine eI (I _ E.mem) ?_)))
 ·refine F _ _ (.inl (.inl ?_)) (SubN.refl _)
  rw[D,idxF,if_pos h]
 ·rw[D,idxF,h];rfl
 ·refine F _ _ (.inl (.inl ?_)) (SubN.refl _)
  rw[D];rfl
def f289k (σ:Store) (f:Value) (p:U->Bool) (l:List U) (I:l.length<9000000000000000000) (F:∀x∈l,cu G Tryz.prog f [.agg x.cs] σ λr σ'=>r= .bool (p x)/\σ'=σ):
  aj G Tryz.prog 289 [.lst 8 (l.map U.cs),.sc f] σ λr σ'=>r= .bool (l.any p)/\σ'=σ:=by
 refine tu c289 λR E=>?_
 unfold s289 r289
 have D:=f256k G σ f p l I F
 (repeat' (first|simp only[EV,seval]|(refine eI D.v ?_)))
 exact E _ _ (.inl (.inl (congrArg AV.bool (eE p l 0)))) (SubN.refl _)
def f257 (b:Nat) (j:Idd) (u:U) (O:u.Tame):aj G Tryz.prog 257 [.agg u.cs,.p b] [(b,.cells 23 j.cs)] λr σ'=>r= .bool (!(U.way j u).isEmpty)/\σ'=[(b,.cells 23 j.cs)]:=by
 have E:=f62 G j u O;refine tu c257 λR I=>?_;unfold s257 r257;simp only[Idd.cs]at E
 cases J:U.way j u with
 |nil=>
  rw[J]at E I;simp only[gD]at E;(repeat' (first|(with_reducible refine ab E ?_)|simp only[EV,seval]));exact I _ _ (rH _) (SubN.refl _)
 |cons x l=>
  rw[J]at E I;simp only[gD,map_cons]at E;(repeat' (first|(with_reducible refine ab E ?_)|simp only[EV,seval]|(with_reducible intro M D;(try(have F:=D;simp only[EVK]at F;(have N:=F))))));have:=D (by simp);subst this;exact I _ _ (rH _) (SubN.refl _)
def f135 (j:Idd) (u:U) (hs:u.Short) (hn:u.ids.Nodup):Pure G Tryz.prog 135 [.agg u.cs,.agg j.cs] (jK j u):=by
 have O:=f62 G j u hs.1;have aw:=ee j u;have hc:=hs.1.2;refine Pure.w c135 λR hR=>?_;unfold s135 r135;unfold jK at hR;simp only[Idd.cs]at O ⊢;by_cases hi:j∈u.ids/\u.id≠j
 ·obtain⟨p,d,k,e1,e2,Z⟩:=aU hn hi.1 hi.2;rw[e1]at hR;obtain⟨a,x,b,s,hx,hj,hl⟩:=Z.split
  have an:p∈u.flat:=by
   have:=aJ u hn Z.mem;rw[Z.fnd]at this;exact this
  have ac:=hs.node an;have J:=Z.path;have M:=Z.deep;have I:=Z.last;obtain⟨q,hq⟩:∃q,U.way p.id u=q:=⟨_,rfl⟩;rw[hq]at J M I
  have N:(U.way j u).length=d+2:=by rw[J];simp;omega
  have ad:U.way j u≠[]:=by intro e;rw[e]at N;simp at N
  rw[oS ad]at O
  have hg:((U.way j u).map U.cs).getD d []=p.cs:=by
   have V:(U.way j u)[d]? =some p:=by
    rw[J,getElem?_append_left (by omega)];rw[getLast?_eq_getElem?,M]at I;simpa using I
   simp only[List.getD,getElem?_map,V,Option.map_some,Option.getD_some]
  obtain⟨L,hL⟩:∃L,U.way j u=L:=⟨_,rfl⟩;rw[hL]at O N hg aw
  have ah:IntKind.i64.wrap ((L.length:Int)-2)=(d:Int):=by rw[av (by omega) (by omega)];omega
  have bb:=ac.1.kids
  have al:idxF (λk=>!(U.way j k).isEmpty) 0 p.kids=(k:Int):=by
   rw[gz _ _ 0 k (by rw[s.no_way,hj])];simp
  have e0:decide ((L.length:Int)<2)=false:=decide_eq_false (by omega);(repeat' (first|(with_reducible first|refine AI (by omega) ?_|refine ab O ?_)|simp only[EV,seval,ah,hg,e0,D]|simp only[EV,seval,ah,hg,e0]|(with_reducible intro T F;(try(have E:=F;simp only[EVK]at E;first|(have D:=AI E D)|(have D:=E))))));rename_i Y _ _ _ b2 _ _ _;have hI:=f256k G [(Y,.cells 23 j.cs)] (.func (.func 257) #[] #[.p Y]) (λk=>!(U.way j k).isEmpty) p.kids (by omega)
   (λy hy=>⟨_,_,_,rfl,f257 G Y j y (ac.1.kid hy)⟩)
  rw[al]at hI;refine bl [(Y,.cells 23 j.cs)] [(T,.cells 27 p.cs),(b2,.cells 23 [.i 0,.i 0,.i 0])] hI.v (hH _) (nm perm_append_comm) ?_;rintro _ _ ⟨rfl,rfl⟩;have n1:¬Y=b2:=λe=>D.2.1 e.symm;have n2:¬Y=T:=λe=>D.1.2 e.symm;(repeat' (simp only[EV,seval,D,n1,n2,cons_append,nil_append]));exact hR _ _ (Or.inl (Or.inl rfl))
 ·have X:aL j u=none:=by
   by_cases V:j∈u.ids
   ·exact bT (Classical.byContradiction λh2=>hi ⟨V,h2⟩)
   ·unfold aL;rw[(cE u).2 V];rfl
  rw[X]at hR
  have aa:(U.way j u).length<2:=by
   by_cases V:j∈u.ids
   ·rw[aN (Classical.byContradiction λh2=>hi ⟨V,h2⟩)];simp
   ·rw[(cE u).2 V];simp
  cases hw:U.way j u with
  |nil=>
   rw[hw]at O;simp only[gD]at O;(repeat' (first|(with_reducible refine ab O ?_)|simp only[EV,seval,D]|simp only[EV,seval]|(with_reducible intro T F;(try(have E:=F;simp only[EVK]at E;first|(have D:=AI E D)|(have D:=E))))));exact hR _ _ (Or.inl (Or.inl rfl))
  |cons x l=>
   rw[hw]at O aa;simp only[gD,map_cons]at O;simp only[length_cons]at aa;have e0:decide (((l.length+1:Nat):Int)<2)=true:=decide_eq_true (by omega);(repeat' (first|(with_reducible refine ab O ?_)|simp only[EV,seval,e0,D]|simp only[EV,seval,e0]|(with_reducible intro T F;(try(have E:=F;simp only[EVK]at E;first|(have D:=AI E D)|(have D:=E))))));exact hR _ _ (Or.inl (Or.inl rfl))
end
def jf (a b:Int) (l:List (List UInt8)) (m:Int) {i:Nat} {s:List UInt8} {r:List (List UInt8)} (D:Rest l i s r):aR a b (l.take (i+1)) m=aR a b (l.take i) m++[⟨s,a,b,m+i⟩]:=by
 have h:(l.take i).length=i:=by rw[length_take];have:=D.lt;omega
 rw[D.take,nq,h];rfl
def gA {α:Type} {p:α->Bool}:∀{l:List α} {k:Nat},firstAt p l=some k->k<l.length
 |[],_,h=>by cases h
 |x::l,k,h=>by
  rw[firstAt]at h;split at h
  ·injection h with h;subst h;simp
  ·obtain⟨E,D,rfl⟩:=Option.map_eq_some_iff.1 h;have:=gA D;simp;omega
def lh {j:Idd}:∀{u p:U} {d k:Nat},U.par j u=some (p,d,k)->d<u.flat.length/\k<1000000+p.kids.length:=by
 intro u;refine U.ind (p:=λu=>∀{p:U} {d k:Nat},U.par j u=some (p,d,k)->d<u.flat.length/\k<1000000+p.kids.length) (λu ih p d k h=>?_) u;have J:=u.flat_pos;rw[sW]at h;split at h
 ·rename_i F e
  injection h with h
  injection h with h1 h2
  injection h2 with h2 h3
  subst h1 h2 h3;have:=gA e;exact⟨by omega,by omega⟩
 ·have:∀us:List U,(∀k∈us,k∈u.kids)->∀{p:U} {d k:Nat},U.pars j us=some (p,d,k)->d<1+(U.flats us).length/\k<1000000+p.kids.length:=by
   intro us
   induction us with
   |nil=>intro _ p d k h;rw[sQ]at h;cases h
   |cons x us ihu=>
    intro D p d k h;rw[si]at h;rw[aI,length_append];split at h
    ·rename_i M I F e
     injection h with h
     injection h with h1 h2
     injection h2 with h2 h3
     subst h1 h2 h3;have:=ih x (D x (by simp)) e;exact⟨by omega,this.2⟩
    ·have:=ihu (λk E=>D k (by simp[E])) h;exact⟨by omega,this.2⟩
  have:=this u.kids (λ_ h=>h) h;rw[U.flat_eq,length_cons];exact⟨by omega,this.2⟩
section
variable (G:Glob)
def f328 (l:List Wd) (X:l.length<1000000):Pure G Tryz.prog 328 [.lst 4 (l.map Wd.cs)] (.lst 1 ((l.map Wd.text).map srow)):=by
 refine Pure.w c328 λR N=>?_;unfold s328 r328;(repeat' (first|simp only[EV,seval,D.yes,D.le0,D.lt',D.get,D.row,V]|simp only[EV,seval,O]|simp only[EV,seval]|(with_reducible intro I E;(try(have F:=E;simp only[EVK]at F;(have T:=F))))|(refine⟨[],rfl,(by simp),rfl,?_⟩)|(refine ap (ι:=Option Nat) (l) (λi r c=>True) (λi c=>[(0,.lst 4 (l.map Wd.cs)),(3,.own c 9 1 ((l.take i).map (λw=>[AV.str w.text]))),(4,.i i)]) (λi c=>tokS c 9 (i)) (some I) (by trivial) (a0 _ _) (by omega) (λi x r c J D V=>?_) (λc J O=>?_))|(refine dC (n:=i) (m':=(i+1)) (by exact bL) (by simp;have:=D.lt;omega) (by omega) (by omega) rfl (by assumption) (by have:=D.lt;omega) (λM=>?_))|(refine ak D M ?_ (by simp only[D.take,map_append,map_cons,map_nil];exact a0 _ _))|fail));(all_goals(((refine N _ _ (Or.inl (Or.inr ⟨rfl,?_⟩));simp[kQ,Function.comp_def];done))))
def f87 (l:List (List UInt8)) (a b m:Int) (Y:l.length<1000000) (O:0<=m) (Z:m<1000000000000):Pure G Tryz.prog 87 [.lst 1 (l.map srow),.i a,.i b,.i m] (.lst 4 ((aR a b l m).map Wd.cs)):=by
 refine Pure.w c87 λR N=>?_;unfold s87 r87;(repeat' (first|simp only[EV,seval,D.yes,D.le0,D.lt',D.get,D.row,X,av (x:=m+(i:Int)) (by omega) (by have:=D.lt;omega)]|simp only[EV,seval,T]|simp only[EV,seval]|(with_reducible intro I E;(try(have F:=E;simp only[EVK]at F;(have V:=F))))|(refine⟨[],rfl,(by simp),rfl,?_⟩)|(refine ap (ι:=Option Nat) l (λi r c=>True) (λi c=>[(0,.lst 1 (l.map srow)),(1,.i a),(2,.i b),(3,.i m),(9,.own c 118 4 ((aR a b (l.take i) m).map Wd.cs)),(10,.i i)]) (λi c=>tokS c 118 (i*4)) (some I) trivial (a0 _ _) (by omega) (λi x r c J D X=>?_) (λc J T=>?_))|fail))
 ·have hi:=D.lt;refine dC (n:=i) (m':=(i+1)*4) bL (by rw[length_map,bz,length_take];omega) rfl rfl rfl (by assumption) (by omega) (λM=>?_);refine ak D M trivial ?_;rw[jf a b l m D,map_append];exact a0 _ _
 ·exact N _ _ (Or.inl (Or.inr ⟨rfl,by rw[take_length]⟩))
def f88 (l:List U) (k:Int) (t:List UInt8) (M:l.length<1000000):Pure G Tryz.prog 88 [.lst 8 (l.map U.cs),.i k,.str t] (.bool (bW l k t)):=by
 refine Pure.w c88 λR F=>?_;unfold s88 r88;unfold bW at F;(repeat' (first|(with_reducible (first|refine ae (λh=>?_) λh=>?_|refine ai (λh=>?_) λh=>?_)<;>(try simp only[DZ]at h))|simp only[EV,seval,E.yes,E.le0,E.lt',E.get,E.row,J]|simp only[EV,seval,I]|simp only[EV,seval]|(refine ak E () ?_ (a0 _ _))|(refine ap (l) (λi r (c:Unit)=>(l.any λx=>decide (x.kind=k)&&decide (x.label=t))=r.any λx=>decide (x.kind=k)&&decide (x.label=t)) (λi c=>[(0,.lst 8 (l.map U.cs)),(1,.i k),(2,.str t),(7,.i i)]) (λ_ _=>[]) () (by rfl) (a0 _ _) (by omega) (λi x r c D E J=>?_) (λc D I=>?_))|fail));(all_goals(first|(refine RET.eq F ?_;first|(simp only[D,EVC,decide_true,decide_false];done)|(simp_all[];done))|(rw[D];simp only[h,EVC,decide_true,decide_false];done)))
def f148 (l:List U) (j:Idd) (M:l.length<1000000):Pure G Tryz.prog 148 [.lst 8 (l.map U.cs),.agg j.cs] (.i (idxF (λk=>decide (k.id=j)) 0 l)):=by
 refine Pure.w c148 λR F=>?_;unfold s148 r148;(repeat' (first|(with_reducible (refine ae (λh=>?_) λh=>?_)<;>(try simp only[DZ]at h))|simp only[EV,seval,am,E.yes,E.le0,E.lt',E.get,E.row,J]|simp only[EV,seval,am,I]|simp only[EV,seval,am]|(refine ak E () ?_ (a0 _ _))|(refine ap (l) (λi r (c:Unit)=>idxF (λk=>decide (k.id=j)) 0 l=idxF (λk=>decide (k.id=j)) i r) (λi c=>[(0,.lst 8 (l.map U.cs)),(3,.ref j.cs),(5,.i i)]) (λ_ _=>[]) () (by rfl) (a0 _ _) (by omega) (λi x r c D E J=>?_) (λc D I=>?_))|fail))
 ·exact RET.eq F (by rw[D,idxF];simp[h])
 ·rw[D,idxF];simp[h]
 ·exact RET.eq F (by rw[D];rfl)
def f144:∀(u:U),u.Tame->Pure G Tryz.prog 144 [.agg u.cs] (.i u.dep):=by
 refine U.ind λu ih F=>?_;have N:=F.kids
 have M:0<=U.deps u.kids:=by rw[←sa];exact u.dep_ge
 refine Pure.w c144 λR J=>?_;unfold s144 r144;rw[sa]at J;(repeat' (first|(with_reducible (refine ae (λh=>?_) λh=>?_)<;>(try simp only[DZ]at h))|(with_reducible refine ab (ih x E.mem (F.kid E.mem)) ?_)|simp only[EV,seval,E.yes,E.le0,E.lt',E.get,E.row,T,I]|simp only[EV,seval,O]|simp only[EV,seval]|(refine ap (ι:=Int) (u.kids) (λi r c=>U.deps u.kids=max c (U.deps r)/\0<=c) (λi c=>[(1,.ref u.cs),(3,.i c),(4,.i i)]) (λ_ _=>[]) (0) (by((simp;omega))) (a0 _ _) (by omega) (λi x r c D E T=>?_) (λc D O=>?_)<;>(try(have I:IntKind.i64.wrap (1+x.dep)=1+x.dep:=av (by have:=x.dep_ge;omega) (by have V:=x.dep_cnt;have X:=(F.kid E.mem).2;have Y:(x.flat.length:Int)=x.cnt:=rfl;omega))))|(refine ak E _ ?_ (a0 _ _))|fail))
 ·have:=x.dep_ge;rw[rT]at D;omega
 ·rw[rT]at D;omega
 ·exact RET.eq J (by rw[D.1,sr,Int.max_eq_left D.2])
def f82 (j:Idd):∀(u:U),u.Tame->Pure G Tryz.prog 82 [.agg u.cs,.agg j.cs] (eN j u):=by
 refine U.ind λu ih Y=>?_;have ac:=Y.kids;have hc:=Y.2;have V:=ee j u;refine Pure.w c82 λR T=>?_;unfold s82 r82;unfold eN at T;rw[rJ]at T V;by_cases X:u.id=j
 ·have Z:decide (u.id=j)=true:=decide_eq_true X;have hf:fnd j u=u:=aB (by rw[aN X];rfl);rw[if_pos X,hf]at T;(repeat' (first|simp only[EV,seval,am,Z]|(with_reducible intro M D;(try(have E:=D;simp only[EVK]at E;(have F:=E))))|fail));exact T _ _ (Or.inl (Or.inl rfl))
 ·have Z:decide (u.id=j)=false:=decide_eq_false X;rw[if_neg X]at T V;simp only[Idd.cs,eN]at ih;(repeat' (first|simp only[EV,seval,am,Z]|(with_reducible intro M D;(try(have E:=D;simp only[EVK]at E;(have F:=E))))|fail));refine ap u.kids (λi r (c:Unit)=>U.ways j u.kids=U.ways j r) (λi c=>[(2,.ref u.cs),(3,.ref j.cs),(4,.p M),(6,.i i)]) (λi c=>[(M,.cells 27 zU)]) () rfl (a0 _ _) (by omega) (λi x r c I J hw=>?_) (λc I hn=>?_)
  ·rw[rC]at I
   rcases O:U.way j x with _|⟨y,l⟩
   ·have N:=ih x J.mem (Y.kid J.mem);simp only[O]at N;rw[O]at I;(repeat' (first|(with_reducible refine ab N ?_)|simp only[EV,seval,J.yes,J.le0,J.lt',J.row,hw,J.get,F]|(with_reducible intro M D;(try(have E:=D;simp only[EVK]at E;(have F:=AI E F))))|(with_reducible first|refine af ?_ ?_|refine ag ?_)|fail))
    all_goals exact ak J () I (Weak.sub ((SubN.refl _).tail _))
   ·have N:=ih x J.mem (Y.kid J.mem);simp only[O]at N;rw[O]at I
    have e:fg u (U.ways j u.kids)=u::y::l:=by rw[I];rfl
    rw[e]at T V;simp only[length_cons]at V
    have aa:IntKind.i64.wrap ((l.length:Int)+1)=((l.length+1:Nat):Int):=by rw[av (by omega) (by omega)];omega
    have hf:fnd j u=fnd j x:=by
     unfold fnd;rw[rJ,if_neg X,e,O];simp[getLastD_cons]
    (repeat' (first|(with_reducible (refine ae (λh=>?_) λh=>?_)<;>(try simp only[DZ]at h))|(with_reducible refine ab N ?_)|simp only[EV,seval,J.yes,J.le0,J.lt',J.row,hw,J.get,aa,F]|(with_reducible intro M D;(try(have E:=D;simp only[EVK]at E;(have F:=AI E F))))|(with_reducible first|refine af ?_ ?_|refine ag ?_)|(exfalso;omega)|fail))
    all_goals(exact T _ _ (Or.inl (Or.inl (by rw[hf];rfl))))
  ·rw[I,rU]at T;(repeat' (simp only[EV,seval,hn,F]));exact T _ _ (Or.inl (Or.inl rfl))
end
def nE {α:Type} (p:α->Bool) (x:α) (r:List α) (i:Nat) (h:p x=false):(firstAt p (x::r)).map (· +i)=(firstAt p r).map (· +(i+1)):=by
 rw[firstAt,h];simp only[Bool.false_eq_true,if_false,Option.map_map];congr 1;funext y;simp only[Function.comp];omega
section
variable (G:Glob)
def f83 (j:Idd):∀(u:U),u.Tame->Pure G Tryz.prog 83 [.agg u.cs,.agg j.cs] (iP j u):=by
 refine U.ind λu ih Y=>?_;have ac:=Y.kids;have hc:=Y.2;refine Pure.w c83 λR N=>?_;unfold s83 r83;unfold iP at N;rw[sW]at N;simp only[Idd.cs,iP]at ih;(repeat' (first|simp only[EV,seval,am]|(with_reducible intro M I;(try(have J:=I;simp only[EVK]at J;(have F:=J))))|fail));refine ap u.kids (λi r (c:Unit)=>firstAt (λk=>decide (k.id=j)) u.kids=(firstAt (λk=>decide (k.id=j)) r).map (· +i)) (λi c=>[(2,.ref u.cs),(3,.ref j.cs),(4,.p M),(7,.i i)]) (λi c=>[(M,.cells 27 zU)]) () (by cases firstAt (λk=>decide (k.id=j)) u.kids<;>simp) (a0 _ _) (by omega) (λi x r c D E X=>?_) (λc D Z=>?_)
 ·by_cases h1:x.id=j
  ·have V:decide (x.id=j)=true:=decide_eq_true h1;rw[firstAt,if_pos V]at D;rw[D]at N;simp only[Option.map_some,Nat.zero_add]at N;(repeat' (simp only[EV,seval,E.yes,E.le0,E.lt',E.row,X,E.get,am,V,F]));exact N _ _ (Or.inl (Or.inl rfl))
  ·have V:decide (x.id=j)=false:=decide_eq_false h1;rw[nE _ x r i V]at D;(repeat' (simp only[EV,seval,E.yes,E.le0,E.lt',E.row,X,E.get,am,V,F]));exact ak E () D (a0 _ _)
 ·rw[D]at N;simp only[firstAt,Option.map_none]at N;(repeat' (simp only[EV,seval,Z,F]));refine ap u.kids (λi r (c:Unit)=>U.pars j u.kids=U.pars j r) (λi c=>[(2,.ref u.cs),(3,.ref j.cs),(4,.p M),(8,.i i)]) (λi c=>[(M,.cells 27 zU)]) () rfl (a0 _ _) (by omega) (λi x r c D E X=>?_) (λc D Z=>?_)
  ·rw[si]at D;have O:=ih x E.mem (Y.kid E.mem)
   rcases T:U.par j x with _|⟨p,d,k⟩
   ·simp only[T]at O D;(repeat' (first|(with_reducible refine ab O ?_)|simp only[EV,seval,E.yes,E.le0,E.lt',E.row,X,E.get,F]|(with_reducible intro M I;(try(have J:=I;simp only[EVK]at J;(have F:=AI J F))))|(with_reducible first|refine af ?_ ?_|refine ag ?_)|fail))
    all_goals exact ak E () D (Weak.sub ((SubN.refl _).tail _))
   ·simp only[T]at O D;rw[D]at N;simp only at N;have hd:=(lh T).1;have ad:=(Y.kid E.mem).2
    have aa:IntKind.i64.wrap ((d:Int)+1)=((d+1:Nat):Int):=by rw[av (by omega) (by omega)];omega
    (repeat' (first|(with_reducible (refine ae (λh=>?_) λh=>?_)<;>(try simp only[DZ]at h))|(with_reducible refine ab O ?_)|simp only[EV,seval,E.yes,E.le0,E.lt',E.row,X,E.get,aa,F]|(with_reducible intro M I;(try(have J:=I;simp only[EVK]at J;(have F:=AI J F))))|(with_reducible first|refine af ?_ ?_|refine ag ?_)|(exfalso;omega)|fail))
    all_goals exact N _ _ (Or.inl (Or.inl rfl))
  ·rw[D,sQ]at N;(repeat' (simp only[EV,seval,Z,F]));exact N _ _ (Or.inl (Or.inl rfl))
def anc (j:Idd) (u:U):List Idd:=((U.way j u).dropLast.map U.id).reverse
def f288 (j:Idd) (u:U) (ht:u.Tame):Pure G Tryz.prog 288 [.agg u.cs,.agg j.cs] (.lst 3 ((anc j u).map Idd.cs)):=by
 have E:=f62 G j u ht;have aa:=ee j u;have hc:=ht.2;refine Pure.w c288 λR N=>?_;unfold s288 r288;unfold anc at N;simp only[Idd.cs]at E ⊢
 cases J:U.way j u with
 |nil=>
  rw[J]at E N;simp only[gD]at E;(repeat' (first|(with_reducible refine ab E ?_)|simp only[EV,seval]|fail));refine ap ([]:List U) (λi r (c:Unit)=>True) (λi c=>[(5,.nil),(6,.nil),(7,.i (-2))]) (λi c=>[]) () trivial (a0 _ _) (by simp) (λi x r c I M hw=>?_) (λc I hn=>?_)
  ·exact absurd M.lt (by simp)
  ·(repeat' (simp only[EV,seval,hn]));exact N _ _ (Or.inl (Or.inr (by simp)))
 |cons y l=>
  have D:U.way j u≠[]:=by rw[J];simp
  rw[oS D]at E;obtain⟨L,hL⟩:∃L,U.way j u=L:=⟨_,rfl⟩;rw[hL]at E aa D N
  have ad:1<=L.length:=by cases L<;>simp_all
  have ac:IntKind.i64.wrap ((L.length:Int)-2)=(L.length:Int)-2:=av (by omega) (by omega);clear J hL
  have F:L.dropLast.reverse.length=L.length-1:=by simp
  (repeat' (first|(with_reducible refine ab E ?_)|simp only[EV,seval,ac]|fail));refine ap (ι:=Option Nat) L.dropLast.reverse (λi r c=>True) (λi c=>[(5,.own c 23 3 ((L.dropLast.reverse.take i).map λx=>x.id.cs)),(6,.lst 8 (L.map U.cs)),(7,.i ((L.length:Int)-2-i))]) (λi c=>tokS c 23 (i*3)) none trivial (Weak.of (by simp[cZ,Env.get,AVle,aT]) (SubN.refl _)) (by omega) (λi x r c I M hw=>?_) (λc I hn=>?_)
  ·have hi:=M.lt;rw[F]at hi;have Y:decide ((0:Int)<=(L.length:Int)-2-i)=true:=decide_eq_true (by omega)
   have w1:IntKind.i64.wrap ((L.length:Int)-2-i-1)=(L.length:Int)-2-((i+1:Nat):Int):=by rw[av (by omega) (by omega)];omega
   have Z:((L.length:Int)-2-i).toNat=L.length-2-i:=by omega
   have hg:(L.map U.cs).getD (L.length-2-i) []=x.cs:=by
    have V:=M.get noU
    have X:L.dropLast.reverse[i]? =some x:=by
     rw[getD_eq_getElem?_getD]at V;rw[getElem?_eq_getElem (by rw[F];exact hi)]at V ⊢;simp at V ⊢;exact V
    rw[getElem?_reverse (by simp;omega),getElem?_dropLast]at X;simp only[length_dropLast]at X;rw[show L.length-1-1-i=L.length-2-i by omega,if_pos (by omega)]at X;simp only[List.getD,getElem?_map,X,Option.map_some,Option.getD_some]
   (repeat' (first|(with_reducible refine AI (by omega) ?_)|simp only[EV,seval,Y,w1,Z,hg]|(with_reducible intro ah O;(try(have T:=O;simp only[EVK]at T;(have al:=T))))|fail));refine dC (n:=i) (m':=(i+1)*3) bL (by rw[length_map,length_take];omega) rfl rfl rfl (by assumption) (by omega) (λgn=>?_);refine ak M gn trivial ?_;simp only[M.take,map_append,map_cons,map_nil,Idd.cs];exact a0 _ _
  ·have Y:decide ((0:Int)<=(L.length:Int)-2-(L.dropLast.reverse.length:Int))=false:=decide_eq_false (by rw[F];omega);(repeat' (simp only[EV,seval,Y]));exact N _ _ (Or.inl (Or.inr ⟨rfl,by rw[take_length,←map_reverse,map_map];rfl⟩))
end
def LeRep (x y:AV):Prop:=∀σ w u,Rep σ w x u->Rep σ w y u
inductive LeReps:List AV->List AV->Prop
 |nil:LeReps [] []
 |cons {x y xs ys}:LeRep x y->LeReps xs ys->LeReps (x::xs) (y::ys)
def LeRep.of {x y:AV} (h:AVle x y):LeRep x y:=λ_ _ _ D=>h.rep D
def LeRep.refl (x:AV):LeRep x x:=λ_ _ _ h=>h
def LeReps.rep {xs ys:List AV} (h:LeReps xs ys):∀{σ w us},RepL σ w xs us->RepL σ w ys us:=by
 induction h with
 |nil=>intro σ w us h;exact h
 |cons h1 h2 ih=>
  intro σ w us h;simp only[RepL]at h ⊢;obtain⟨u,D,rfl,E,F⟩:=h;exact⟨u,D,rfl,h1 _ _ _ E,ih F⟩
def LeRep.tup {xs ys:List AV} (h:LeReps xs ys):LeRep (.tup xs) (.tup ys):=λσ w u D=>by
 simp only[Rep]at D ⊢;obtain⟨vs,e,D⟩:=D;exact⟨vs,e,h.rep D⟩
def sw {G:Glob} {P:Program} {k:FuncId} {args:List AV} {R:AV->Store->Prop} {r0:AV} (h:aj G P k args [] R) (J:∀r σ',R r σ'->LeRep r r0):Pure G P k args r0:=
 ⟨h.1,λρ w vs M F=>(h.2 ρ w vs M F).mono (by
  rintro e w' ⟨v,r,σ',rfl,N,E,I,D⟩
  exact⟨v,r0,[],rfl,⟨rfl,rfl⟩,E.subN (SubN.nil σ'),I.trans (ra (SubN.nil σ').1 w'),Rep.ev (ra (SubN.nil σ').1 w') _ _ (J r σ' N _ _ _ D)⟩)⟩
def RET.any {x:AV} {R:AV->Store->Prop} {σ:Store} (h:R x []):RET x σ R:=⟨x,[],rH _,SubN.nil _,h⟩
def tokF {g:Option Nat} {e:TypeId} {m:Nat} {κ:Store} (D:∀b,g=some b->b∉κ.keys):∀b,g=some b->Store.get (κ++tokS g e m) b=some (.tok e m):=by
 rintro b rfl;rw[ao (D b rfl)];simp[tokS,Store.get]
def app_kept {e:TypeId} {sz bytes m:Nat} {g:Option Nat} {rows ys:List (List AV)} {K:AV->Store->Prop} {D:Nat} {y:AObj} (κ:Store) (F:D∉Store.keys (κ++tokS g e m)) (N:∀b,g=some b->b∉κ.keys) (X:m=rows.length*sz) (I:κ.keys.Nodup) (T:(rows.length+ys.length)*bytes<=140737488355328)
  (V:∀E,(∀b,E=some b->b∉κ.keys)->K (.own E e sz (rows++ys)) (κ++tokS E e ((rows++ys).length*sz))):appX e sz bytes ((D,y)::(κ++tokS g e m)) g rows ys K:=by
 subst X
 refine fb κ (λb h=>?_) T ⟨λq J=>?_,λ_=>I⟩ V
 ·have M:=tokF (e:=e) (m:=rows.length*sz) N b h
  have O:D≠b:=by
   rintro rfl;exact F (mem_map.2 ⟨_,rb M,rfl⟩)
  simp only[Store.get,if_neg O];exact M
 ·cases g with
  |none=>exact mem_cons_of_mem _ (mem_append.2 (.inl J))
  |some b=>
   refine mem_filter.2 ⟨mem_cons_of_mem _ (mem_append.2 (.inl J)),?_⟩;have:q.1≠b:=λh=>N b rfl (by rw[←h];exact mem_map.2 ⟨q,J,rfl⟩);simpa using this
section
variable (G:Glob)
def f84 (l:List U) (k:Nat) (T:k<l.length) (V:l.length<1000000):Pure G Tryz.prog 84 [.lst 8 (l.map U.cs),.i k] (.lst 8 ((aG l k).map U.cs)):=by
 have F:IntKind.i64.wrap ((k:Int)+1)=((k+1:Nat):Int):=by rw[av (by omega) (by omega)];omega
 have I:List.take l.length (l.map U.cs)=l.map U.cs:=take_of_length_le (by simp);refine Pure.w c84 λR N=>?_;unfold s84 r84;(repeat' (first|(with_reducible refine AI (by omega) ?_)|simp only[EV,seval,F,J]|simp only[EV,seval,F]|(with_reducible intro M D;(try(have E:=D;simp only[EVK]at E;(have J:=E))))|(refine⟨[],rfl,(by simp),rfl,?_⟩)|(refine cH (by exact bL) rfl rfl (by simp<;>omega) (λO=>?_))|fail));exact N _ _ (Or.inl (Or.inr ⟨rfl,by rw[I,aG,map_append,map_take,map_drop]⟩))
def f147 (l:List U) (k:Nat) (x:U) (O:k<=l.length) (T:l.length<1000000):Pure G Tryz.prog 147 [.lst 8 (l.map U.cs),.i k,.agg x.cs] (.lst 8 ((aH l k x).map U.cs)):=by
 have I:List.take l.length (l.map U.cs)=l.map U.cs:=take_of_length_le (by simp);refine Pure.w c147 λR M=>?_;unfold s147 r147;(repeat' (first|(with_reducible refine AI (by omega) ?_)|simp only[EV,seval,D]|simp only[EV,seval]|(with_reducible intro J F;(try(have E:=F;simp only[EVK]at E;first|(have D:=AI E D)|(have D:=E))))|(with_reducible first|refine af ?_ ?_|refine ag ?_)|(refine⟨[],rfl,(by simp),rfl,?_⟩)|(refine⟨[x.cs],rfl,(by simp[hJ]),(by simp),?_⟩)|(refine cH (by first|exact bL|exact bP (by assumption)|(rintro d h<;>injection h with h<;>subst h<;>simp[Store.get,D]<;>done)) rfl rfl (by simp<;>omega) (λN=>?_))|fail))
 all_goals exact M _ _ (Or.inl (Or.inr ⟨rfl,by rw[I,aH,map_append,map_take,map_cons,map_drop];simp⟩))
def f85 (x:U):∀(u:U),u.Tame->Pure G Tryz.prog 85 [.agg u.cs,.agg x.cs] (.agg (U.put x u).cs):=by
 refine U.ind λu ih ht=>?_;have ac:=ht.kids;refine Pure.w c85 λR T=>?_;unfold s85 r85;rw[sV]at T;rw[b0 u];by_cases X:u.id=x.id
 ·have O:decide (u.id=x.id)=true:=decide_eq_true X;rw[if_pos X]at T;(repeat' (first|simp only[EV,seval,am,O,sP,tf,D]|simp only[EV,seval,am,O,sP,tf]|(with_reducible intro J F;(try(have E:=F;simp only[EVK]at E;first|(have D:=AI E D)|(have D:=E))))|fail));exact RET.eq T rfl
 ·have O:decide (u.id=x.id)=false:=decide_eq_false X;rw[if_neg X]at T;(repeat' (first|simp only[EV,seval,am,O,D]|simp only[EV,seval,am,O]|(with_reducible intro J F;(try(have E:=F;simp only[EVK]at E;first|(have D:=AI E D)|(have D:=E))))|(refine⟨[],rfl,(by simp),rfl,?_⟩)|fail));rename_i M _ _ _ N _ _ _
  have aa:Store.keys [(N,AObj.cells 27 zU),(M,.cells 27 u.cs)]|>.Nodup:=by simp[Store.keys,D]
  refine ap (ι:=Option Nat) u.kids (λi r c=>∀b,c=some b->b∉Store.keys [(N,AObj.cells 27 zU),(M,.cells 27 u.cs)]) (λi c=>[(2,.p M),(3,.ref x.cs),(4,.p N),(5,.own c 27 8 ((u.kids.take i).map λk=>(U.put x k).cs)),(6,.i i)])
   (λi c=>[(N,AObj.cells 27 zU),(M,.cells 27 u.cs)]++tokS c 27 (i*8)) (some J) (by rintro b h;injection h with h;subst h;simp[Store.keys,D]) (Weak.of (by simp[cZ,Env.get,AVle,aT]) (by rw[b0 u];exact nm (perm_append_comm (l₁:=[_,_]) (l₂:=[_])))) (by omega) (λi k r c V I hw=>?_) (λc V hn=>?_)
  ·have Z:=ih k I.mem (ht.kid I.mem);(repeat' (first|(with_reducible refine ab Z ?_)|simp only[EV,seval,I.yes,I.le0,I.lt',I.row,hw,I.get,D]|(with_reducible intro J F;(try(have E:=F;simp only[EVK]at E;(have D:=AI E D))))|fail));have hi:=I.lt;refine⟨[(U.put x k).cs],rfl,by simp[hJ],by simp,?_⟩;refine app_kept (m:=i*8) [(N,AObj.cells 27 zU),(M,.cells 27 u.cs)] F V (by rw[length_map,length_take];omega) aa (by simp;omega) (λgn Y=>?_);refine ak I gn Y ?_
   have e:((u.kids.take i).map (λk=>(U.put x k).cs)++[(U.put x k).cs]).length*8=(i+1)*8:=by simp;omega
   rw[e,I.take,map_append];exact a0 _ _
  ·rw[b0 u];(repeat' (simp only[EV,seval,hn,D]));exact T _ _ (Or.inr (by rw[b0 {u with kids:=u.kids.map (U.put x)}];simp[aY,aT,map_map,Function.comp_def]))
end
end Go.Av
