/-
  ENACT, M1: looks into trees: ways, units, parents, addresses' steps.
-/
import Derived.Test.YtppjieiiibgagaaGreatDoorWXC4
import Derived.Test.YtppjieiiibgagaaGreatDoorWXC5
import Derived.Test.YtppjieiiibgagaaGreatDoorWXC6
import Derived.Test.YtppjieiiibgagaaGreatDoorWXE11toXL27
import Derived.Test.YtppjieiiibgagaaGreatDoorWXL29toXL28
import Derived.Test.YtppjieiiibgagaaGreatDoorWXL16toXGo
import Derived.Test.YtppjieiiibgagaaGreatDoorWXL13toXL15
import Derived.Test.YtppjieiiibgagaaGreatDoorWXL18toXL21
import Derived.Test.YtppjieiiibgagaaGreatDoorWXE6toXL25
set_option linter.all false
namespace Go.Av
open Go Go.RowKit Go.Proofs List
def gD:List U->AV
 |[]=>.nil
 |x::l=>.lst 8 ((x::l).map U.cs)
def oS {l:List U} (h:l≠[]):gD l= .lst 8 (l.map U.cs):=by cases l<;>simp_all[gD]
def ee:∀(i:Idd) (u:U),(U.way i u).length<=u.flat.length:=by
 intro i;refine U.ind λu ih=>?_
 have h:∀us:List U,(∀k∈us,(U.way i k).length<=k.flat.length)->(U.ways i us).length<=(U.flats us).length:=by
  intro us
  induction us with
  |nil=>intro _;rw[rU];simp
  |cons k us ihu=>
   intro h;have D:=h k (by simp);have I:=ihu λk F=>h k (by simp[F]);rw[rC,aI,length_append]
   cases E:U.way i k with
   |nil=>simp only[orW];omega
   |cons x l=>rw[E]at D;simp only[orW];omega
 have D:=h u.kids ih;rw[rJ,U.flat_eq,length_cons];split
 ·simp
 ·cases E:U.ways i u.kids with
  |nil=>simp[fg]
  |cons x l=>rw[E]at D;simp only[fg,length_cons]at*;omega
def app_new {e:TypeId} {sz bytes m D:Nat} {σ:Store} {rows ys:List (List AV)} {K:AV->Store->Prop} (I:m=rows.length*sz)
  (J:(rows.length+ys.length)*bytes<=140737488355328) (F:∀E,K (.own E e sz (rows++ys)) (tokS E e ((rows++ys).length*sz))):appX e sz bytes ((D,.tok e m)::σ) (some D) rows ys K:=
 cH (m:=m) (λd h=>by injection h with h;subst h;simp[Store.get]) I rfl J F
def oz {t:Idd}:∀u:U,∀v∈U.way t u,v∈u.flat:=by
 refine U.ind λu ih v D=>?_
 have h:∀us:List U,(∀k∈us,∀v∈U.way t k,v∈k.flat)->∀v∈U.ways t us,v∈U.flats us:=by
  intro us
  induction us with
  |nil=>intro _ v D;rw[rU]at D;cases D
  |cons k us ihu=>
   intro h v D;rw[rC]at D;rw[aI,mem_append]
   cases E:U.way t k with
   |nil=>rw[E]at D;exact .inr (ihu (λk F=>h k (by simp[F])) v D)
   |cons x l=>rw[E]at D;exact .inl (h k (by simp) v (by rw[E];exact D))
 rw[rJ]at D;rw[U.flat_eq];split at D
 ·simp only[mem_singleton]at D;subst D;exact mem_cons_self ..
 ·cases E:U.ways t u.kids with
  |nil=>rw[E]at D;cases D
  |cons x l=>
   rw[E]at D
   rcases mem_cons.1 D with rfl|D
   ·exact mem_cons_self ..
   ·exact mem_cons_of_mem _ (h u.kids ih v (by rw[E];exact D))
section
variable (G:Glob)
def f29 (k:Int):Pure G Tryz.prog 29 [.i k] (.bool (chg k)):=by
 refine Pure.w c29 λR E=>?_;unfold s29 r29;(repeat' (first|(with_reducible (first|refine ae (λh=>?_) λh=>?_|refine ai (λh=>?_) λh=>?_|refine ax (λh=>?_) λh=>?_)<;>(try simp only[DZ]at h))|(with_reducible refine AI (by omega) ?_)|simp only[EV,seval]|(with_reducible intro J F;(try(have D:=F;simp only[EVK]at D;first|(have I:=AI D I)|(have I:=D))))|(with_reducible first|refine af ?_ ?_|refine ag ?_)|(exfalso;omega)));(all_goals(first|(exact RET.eq E rfl)|rfl|(refine RET.eq E ?_;(refine congrArg AV.bool (Bool.eq_iff_iff.2 ?_);simp only[chg,EVB]at*;omega))|(refine RET.eq E ?_;first|(simp only[chg,hok,h,EVC,decide_true,decide_false];done)|(simp only[chg,hok,EVC,decide_true,decide_false];done)|(simp only[chg,hok,EVC,decide_true,decide_false];refine congrArg AV.bool (decide_eq_decide.2 ?_);omega)|(simp_all[chg];done)|(simp_all[chg];omega)|grind|(norm_cast at*;simp_all[chg];done)|(norm_cast at*;simp_all[chg];omega))|(refine E _ _ (Or.inl (Or.inr ⟨rfl,?_⟩));simp[chg];done)|(refine E _ _ (Or.inr ?_);simp[*,aY,aT,dT,b0,chg];done)|(rw[hok];simp only[chg,h,EVC,decide_true,decide_false];done)|(rw[hok];simp only[chg,EVC,decide_true,decide_false];done)|(simp_all[chg];done)|(simp_all[chg];omega)|grind|(norm_cast at*;simp_all[chg];done)|(norm_cast at*;simp_all[chg];omega)))
def f302 (n:Int):Pure G Tryz.prog 302 [.i n] (.bool (inR n 0 3)):=by
 refine Pure.w c302 λR E=>?_;unfold s302 r302;(repeat' (first|(with_reducible (first|refine ae (λh=>?_) λh=>?_|refine ai (λh=>?_) λh=>?_|refine ax (λh=>?_) λh=>?_)<;>(try simp only[DZ]at h))|(with_reducible refine AI (by omega) ?_)|simp only[EV,seval]|(with_reducible intro J F;(try(have D:=F;simp only[EVK]at D;first|(have I:=AI D I)|(have I:=D))))|(with_reducible first|refine af ?_ ?_|refine ag ?_)|(exfalso;omega)));(all_goals(first|(exact RET.eq E rfl)|rfl|(refine RET.eq E ?_;(refine congrArg AV.bool (Bool.eq_iff_iff.2 ?_);simp only[inR,EVB]at*;omega))|(refine RET.eq E ?_;first|(simp only[inR,hok,h,EVC,decide_true,decide_false];done)|(simp only[inR,hok,EVC,decide_true,decide_false];done)|(simp only[inR,hok,EVC,decide_true,decide_false];refine congrArg AV.bool (decide_eq_decide.2 ?_);omega)|(simp_all[inR];done)|(simp_all[inR];omega)|grind|(norm_cast at*;simp_all[inR];done)|(norm_cast at*;simp_all[inR];omega))|(refine E _ _ (Or.inl (Or.inr ⟨rfl,?_⟩));simp[inR];done)|(refine E _ _ (Or.inr ?_);simp[*,aY,aT,dT,b0,inR];done)|(rw[hok];simp only[inR,h,EVC,decide_true,decide_false];done)|(rw[hok];simp only[inR,EVC,decide_true,decide_false];done)|(simp_all[inR];done)|(simp_all[inR];omega)|grind|(norm_cast at*;simp_all[inR];done)|(norm_cast at*;simp_all[inR];omega)))
def f255 (u:U) (s:Stp):Pure G Tryz.prog 255 [.agg u.cs,.agg [.i s.kind,.str s.label]] (.bool (ay u s)):=by
 refine Pure.w c255 λR E=>?_;unfold s255 r255;(repeat' (first|(with_reducible (first|refine ae (λh=>?_) λh=>?_|refine ai (λh=>?_) λh=>?_|refine ax (λh=>?_) λh=>?_)<;>(try simp only[DZ]at h))|(with_reducible refine AI (by omega) ?_)|simp only[EV,seval]|(with_reducible intro J F;(try(have D:=F;simp only[EVK]at D;first|(have I:=AI D I)|(have I:=D))))|(with_reducible first|refine af ?_ ?_|refine ag ?_)|(exfalso;omega)));(all_goals(first|(exact RET.eq E rfl)|rfl|(refine RET.eq E ?_;(refine congrArg AV.bool (Bool.eq_iff_iff.2 ?_);simp only[ay,EVB]at*;omega))|(refine RET.eq E ?_;first|(simp only[ay,hok,h,EVC,decide_true,decide_false];done)|(simp only[ay,hok,EVC,decide_true,decide_false];done)|(simp only[ay,hok,EVC,decide_true,decide_false];refine congrArg AV.bool (decide_eq_decide.2 ?_);omega)|(simp_all[ay];done)|(simp_all[ay];omega)|grind|(norm_cast at*;simp_all[ay];done)|(norm_cast at*;simp_all[ay];omega))|(refine E _ _ (Or.inl (Or.inr ⟨rfl,?_⟩));simp[ay];done)|(refine E _ _ (Or.inr ?_);simp[*,aY,aT,dT,b0,ay];done)|(rw[hok];simp only[ay,h,EVC,decide_true,decide_false];done)|(rw[hok];simp only[ay,EVC,decide_true,decide_false];done)|(simp_all[ay];done)|(simp_all[ay];omega)|grind|(norm_cast at*;simp_all[ay];done)|(norm_cast at*;simp_all[ay];omega)))
def f264 (u:U) (s:Stp):Pure G Tryz.prog 264 [.agg u.cs,.agg [.i s.kind,.str s.label]] (.bool (ay u s)):=by
 refine Pure.w c264 λR E=>?_;unfold s264 r264;(repeat' (first|(with_reducible (first|refine ae (λh=>?_) λh=>?_|refine ai (λh=>?_) λh=>?_|refine ax (λh=>?_) λh=>?_)<;>(try simp only[DZ]at h))|(with_reducible refine AI (by omega) ?_)|simp only[EV,seval]|(with_reducible intro J F;(try(have D:=F;simp only[EVK]at D;first|(have I:=AI D I)|(have I:=D))))|(with_reducible first|refine af ?_ ?_|refine ag ?_)|(exfalso;omega)));(all_goals(first|(exact RET.eq E rfl)|rfl|(refine RET.eq E ?_;(refine congrArg AV.bool (Bool.eq_iff_iff.2 ?_);simp only[ay,EVB]at*;omega))|(refine RET.eq E ?_;first|(simp only[ay,hok,h,EVC,decide_true,decide_false];done)|(simp only[ay,hok,EVC,decide_true,decide_false];done)|(simp only[ay,hok,EVC,decide_true,decide_false];refine congrArg AV.bool (decide_eq_decide.2 ?_);omega)|(simp_all[ay];done)|(simp_all[ay];omega)|grind|(norm_cast at*;simp_all[ay];done)|(norm_cast at*;simp_all[ay];omega))|(refine E _ _ (Or.inl (Or.inr ⟨rfl,?_⟩));simp[ay];done)|(refine E _ _ (Or.inr ?_);simp[*,aY,aT,dT,b0,ay];done)|(rw[hok];simp only[ay,h,EVC,decide_true,decide_false];done)|(rw[hok];simp only[ay,EVC,decide_true,decide_false];done)|(simp_all[ay];done)|(simp_all[ay];omega)|grind|(norm_cast at*;simp_all[ay];done)|(norm_cast at*;simp_all[ay];omega)))
def f146:∀(u:U),u.Tame->Pure G Tryz.prog 146 [.agg u.cs] (.lst 8 (u.flat.map U.cs)):=by
 refine U.ind λu ih N=>?_;have Y:=N.kids;have T:=N.2;refine Pure.w c146 λR O=>?_;unfold s146 r146;rw[U.flat_eq]at O T;simp only[length_cons]at T;(repeat' (first|(with_reducible (first|refine ae (λh=>?_) λh=>?_|refine ai (λh=>?_) λh=>?_|refine ax (λh=>?_) λh=>?_)<;>(try simp only[DZ]at h))|(with_reducible first|refine AI (by omega) ?_|refine ab (ih x E.mem (N.kid E.mem)) ?_)|simp only[EV,seval,E.yes,E.le0,E.lt',E.get,E.row,hw]|simp only[EV,seval,Z]|simp only[EV,seval]|(with_reducible intro M I;(try(have F:=I;simp only[EVK]at F;first|(have J:=AI F J)|(have J:=F))))|(with_reducible first|refine af ?_ ?_|refine ag ?_)|(refine⟨[u.cs],rfl,(by simp[hJ]),(by simp),?_⟩)|(refine ap (ι:=Option Nat×List U) u.kids (λi r c=>u::U.flats u.kids=c.2++U.flats r) (λi c=>[(1,.ref u.cs),(3,.own c.1 27 8 (c.2.map U.cs)),(4,.i i)]) (λi c=>tokS c.1 27 (c.2.length*8)) (some M,[u]) (by simp) (a0 _ _) (by omega) (λi x r c D E hw=>?_) (λc D Z=>?_))|(exfalso;omega)))
 ·have X:=congrArg List.length D;simp only[length_cons,length_append,aI]at X;refine cH (m':=(c.2++x.flat).length*8) bL (by simp) (by simp) (by simp;omega) (λV=>?_);exact ak E (V,c.2++x.flat) (by rw[D,aI,append_assoc]) (by simp only[map_append];exact a0 _ _)
 ·exact O _ _ (Or.inl (Or.inr ⟨rfl,by rw[D];simp[U.flats]⟩))
def f62 (j:Idd):∀(u:U),u.Tame->Pure G Tryz.prog 62 [.agg u.cs,.agg j.cs] (gD (U.way j u)):=by
 refine U.ind λu ih Y=>?_;have aa:=Y.kids;have hc:=Y.2;have M:=ee j u;refine Pure.w c62 λR N=>?_;unfold s62 r62;rw[rJ]at N M;by_cases X:u.id=j
 ·have T:decide (u.id=j)=true:=decide_eq_true X;rw[if_pos X]at N;(repeat' (first|(with_reducible (first|refine ae (λh=>?_) λh=>?_|refine ai (λh=>?_) λh=>?_|refine ax (λh=>?_) λh=>?_)<;>(try simp only[DZ]at h))|(with_reducible refine AI (by omega) ?_)|simp only[EV,seval,am,T]|(with_reducible intro O E;(try(have D:=E;simp only[EVK]at D;first|(have F:=AI D F)|(have F:=D))))|(with_reducible first|refine af ?_ ?_|refine ag ?_)|(refine⟨[u.cs],rfl,(by simp[hJ]),(by simp),?_⟩)|(exfalso;omega)));exact N _ _ (Or.inl (Or.inr ⟨rfl,rfl⟩))
 ·have T:decide (u.id=j)=false:=decide_eq_false X;rw[if_neg X]at N M;simp only[Idd.cs]at ih;(repeat' (first|(with_reducible (first|refine ae (λh=>?_) λh=>?_|refine ai (λh=>?_) λh=>?_|refine ax (λh=>?_) λh=>?_)<;>(try simp only[DZ]at h))|(with_reducible refine AI (by omega) ?_)|simp only[EV,seval,am,T,J.yes,J.le0,J.lt',J.get,J.row,Z]|simp only[EV,seval,am,T,hn]|simp only[EV,seval,am,T]|(with_reducible intro O E;(try(have D:=E;simp only[EVK]at D;first|(have F:=AI D F)|(have F:=D))))|(with_reducible first|refine af ?_ ?_|refine ag ?_)|(refine ak J () ?_ (a0 _ _))|(refine ak J () ?_ (Weak.sub (SubN.nil _)))|(refine ap (u.kids) (λi r (c:Unit)=>U.ways j u.kids=U.ways j r) (λi c=>[(2,.ref u.cs),(3,.ref j.cs),(15,.lst 8 (u.kids.map U.cs)),(16,.i u.kids.length),(17,.i i)]) (λ_ _=>[]) () (by first|rfl|(simp;done)|(simp[*];done)|(simp;omega)) (a0 _ _) (by omega) (λi x r c I J Z=>?_) (λc I hn=>?_))|(exfalso;omega)))
  ·have h:=ih x J.mem (Y.kid J.mem);rw[rC]at I
   cases V:U.way j x with
   |nil=>
    rw[V]at h I;simp only[gD]at h;(repeat' (first|(with_reducible (first|refine ae (λh=>?_) λh=>?_|refine ai (λh=>?_) λh=>?_|refine ax (λh=>?_) λh=>?_)<;>(try simp only[DZ]at h))|(with_reducible first|refine AI (by omega) ?_|refine ab h ?_)|simp only[EV,seval,Z]|(with_reducible intro O E;(try(have D:=E;simp only[EVK]at D;first|(have F:=AI D F)|(have F:=D))))|(with_reducible first|refine af ?_ ?_|refine ag ?_)|(exfalso;omega)));exact ak J () I (Weak.sub (SubN.nil _))
   |cons y l=>
    rw[V]at h I;simp only[gD,map_cons]at h;(repeat' (first|(with_reducible (first|refine ae (λh=>?_) λh=>?_|refine ai (λh=>?_) λh=>?_|refine ax (λh=>?_) λh=>?_)<;>(try simp only[DZ]at h))|(with_reducible first|refine AI (by omega) ?_|refine ab h ?_)|simp only[EV,seval,Z]|(with_reducible intro O E;(try(have D:=E;simp only[EVK]at D;first|(have F:=AI D F)|(have F:=D))))|(with_reducible first|refine af ?_ ?_|refine ag ?_)|(refine⟨[u.cs],rfl,(by simp[hJ]),(by simp),?_⟩)|(exfalso;omega)))
    ·have e:fg u (U.ways j u.kids)=u::y::l:=by rw[I];rfl
     rw[e]at N M;simp only[length_cons]at M;refine app_new (by simp) (by simp;omega) (λgn=>?_);exact N _ _ (Or.inl (Or.inr ⟨rfl,by simp⟩))
    ·have:=E (by simp);rw[this]at h
     cases h
  ·rw[I,rU]at N;exact RET.eq N rfl
def get_last {l:List U} {x y:U} (h:(x::l).getLast?=some y):((x::l).map U.cs).getD l.length []=y.cs:=by
 have:(x::l)[l.length]? =some y:=by
  rw[getLast?_eq_getElem?]at h;simpa using h
 simp only[List.getD,getElem?_map,this,Option.map_some,Option.getD_some]
def iL (j:Idd) (u:U):AV:=if (U.way j u).isEmpty then .tup [.agg zU,.bool false]else .tup [.agg (fnd j u).cs,.bool true]
def f27 (j:Idd) (u:U) (T:u.Short):Pure G Tryz.prog 27 [.agg u.cs,.agg j.cs] (iL j u):=by
 have I:=f62 G j u T.1;have M:=ee j u;have hc:=T.1.2;refine Pure.w c27 λR J=>?_;unfold s27 r27;unfold iL at J;simp only[Idd.cs]at I ⊢
 cases N:U.way j u with
 |nil=>
  rw[N]at I J;simp only[gD]at I;(repeat' (first|(with_reducible (first|refine ae (λh=>?_) λh=>?_|refine ai (λh=>?_) λh=>?_|refine ax (λh=>?_) λh=>?_)<;>(try simp only[DZ]at h))|(with_reducible first|refine AI (by omega) ?_|refine ab I ?_)|simp only[EV,seval]|(with_reducible intro O E;(try(have D:=E;simp only[EVK]at D;first|(have F:=AI D F)|(have F:=D))))|(with_reducible first|refine af ?_ ?_|refine ag ?_)|(exfalso;omega)));exact J _ _ (Or.inl (Or.inl rfl))
 |cons x l=>
  obtain⟨y,X⟩:∃y,(x::l).getLast?=some y:=⟨_,getLast?_eq_some_getLast (by simp)⟩;have hf:fnd j u=y:=aB (by rw[N];exact X);have Y:y.Short:=T.node (oz u y (by rw[N];exact mem_of_getLast? X));have Z:=get_last X;have hC:=lc.freeze (f63 G y Y);rw[N]at I J M;rw[hf]at J;simp only[gD,map_cons]at I Z;simp only[length_cons]at M
  have V:IntKind.i64.wrap (((l.length+1:Nat):Int)-1)=(l.length:Int):=by rw[av (by omega) (by omega)];omega
  (repeat' (first|(with_reducible (first|refine ae (λh=>?_) λh=>?_|refine ai (λh=>?_) λh=>?_|refine ax (λh=>?_) λh=>?_)<;>(try simp only[DZ]at h))|(with_reducible first|refine AI (by omega) ?_|refine ab I ?_|refine ab hC ?_)|simp only[EV,seval,V,Z]|(with_reducible intro O E;(try(have D:=E;simp only[EVK]at D;first|(have F:=AI D F)|(have F:=D))))|(with_reducible first|refine af ?_ ?_|refine ag ?_)|(exfalso;omega)));exact J _ _ (Or.inl (Or.inl rfl))
end
section
variable (G:Glob)
end
section
variable (G:Glob)
end
section
variable (G:Glob)
end
section
variable (G:Glob)
end
end Go.Av
namespace Go.Av
open Go Go.RowKit List
section
variable {G:Glob} {P:Program} {k:FuncId} {args:List AV} {e:TypeId} {sz:Nat} {rows:List (List AV)}
end
/-! ### rows that point nowhere -/
def AV.flat:AV->Bool
 | .bool _=>true
 | .int _ _=>true
 | .str _=>true
 |_=>false
def tt {σ σ':Store} {w w':World}:∀{x:AV} {u:Value},x.flat=true->Rep σ w x u->Rep σ' w' x u
 | .bool _,_,_,h=>by simp only[Rep]at h ⊢;exact h
 | .int _ _,_,_,h=>by simp only[Rep]at h ⊢;exact h
 | .str _,_,_,h=>by simp only[Rep]at h ⊢;exact h
section
variable {G:Glob} {P:Program} {k:FuncId} {args:List AV} {e:TypeId} {sz:Nat} {rows:List (List AV)}
end
end Go.Av
namespace Go.Av
open Go Go.RowKit Go.Proofs List
section
variable (G:Glob)
end
def eI {G:Glob} {P:Program} {f:Value} {args:List AV} {σ:Store} {K:AV->Store->Prop} {t:Tag K} {v:AV}
  (h:cu G P f args σ λr σ'=>r=v/\σ'=σ) (D:K v σ):CALL G P f args σ K t:=
 bl σ [] h (hH _) (by rw[append_nil];exact SubN.refl _) (by rintro _ _ ⟨rfl,rfl⟩;rw[append_nil];exact D)
def tu {G:Glob} {P:Program} {k:FuncId} {args:List AV} {σ:Store} {r:AV} {g:List Nat} {D:List (Nat×Option (Bool×Nat))} {s:SCode} (E:fnAt P k g=some (D,s))
  (h:∀R,(∀x σ',AVle x r->SubN σ σ'->RET x σ' R)->W G P s (retQ D R) (da 0 args) σ ⟨⟩):aj G P k args σ λx σ'=>x=r/\σ'=σ:=
 aj.at E (h _ λx σ' I F=>⟨r,σ,I,F,rfl,rfl⟩)
section
variable (G:Glob)
end
def o0 {e:TypeId} {sz bytes n m m':Nat} {τ:Store} (κ:Store) {g:Option Nat} {rows:List (List AV)} {cs:List AV} {K:AV->Store->Prop} {b k1:Nat} (F:τ=κ++tokS g e m) (O:∀d,g=some d->d∉κ.keys) (Z:rows.length=n) (X:m=n*sz)
  (E:m'=(n+1)*sz) (V:cs.length=sz) (N:b∉τ.keys) (Y:(n+1)*bytes<=140737488355328) (T:∀D,(∀d,D=some d->d∉κ.keys)->K (.own D e sz (rows++[cs])) (κ++tokS D e m')):
  appX e sz bytes ((b,.tok e k1)::τ) g rows [cs] K:=by
 obtain⟨rs,J,h2,I,M⟩:=jR (K:=λ_=>K) (k1:=k1) κ F O Z X E V N Y T
 obtain⟨r,rfl⟩:=length_eq_one_iff.1 J
 simp only[flatten_cons,flatten_nil,append_nil]at I
 subst I
 exact M
section
variable (G:Glob)
def v_clo2 {k:Nat} {b c:Nat} {args:List AV} {σ:Store} {R:AV->Store->Prop} (h:aj G Tryz.prog k (args++[.p b,.p c]) σ R):cu G Tryz.prog (.func (.func k) #[] #[.p b,.p c]) args σ R:=
 ⟨k,#[],#[.p b,.p c],rfl,by simpa[AV.ofValue,AV.ofOne]using h⟩
end
def mb:∀l:List (List UInt8),l≠[]->Lib.join l [10]++[10]=l.flatMap λs=>s++[10]
 |[],h=>absurd rfl h
 |[s],_=>by simp[Lib.join,List.intercalate]
 |s::t::l,_=>by
  have ih:=mb (t::l) (by simp)
  have e:Lib.join (s::t::l) [10]=s++([10]++Lib.join (t::l) [10]):=by simp[Lib.join,List.intercalate]
  rw[e,flatMap_cons,←ih];simp
def textT_len (u:U) (M:u.flat.length<1000000):(gH u).length<=20001000000:=by
 have F:=rZ u 0;have D:=km u 0;unfold gH
 have key:∀l:List (List UInt8),(∀s∈l,s.length<=20000)->(l.flatMap λs=>s++[10]).length<=l.length*20001:=by
  intro l
  induction l with
  |nil=>intro _;simp
  |cons s l ih=>
   intro h;have I:=h s (by simp);have J:=ih λt E=>h t (by simp[E]);simp only[flatMap_cons,length_append,length_cons,length_nil]at*;omega
 have:=key _ D;omega
def LnSt (E D:Nat) (g:Option Nat) (v:AV) (n:Nat):Store:=(D,.cells 313 [.sc (.func (.func 386) #[] #[.p E,.p D])])::(E,.cells 29 [v])::tokS g 9 n
def LnOk (E D:Nat) (g:Option Nat) (v:AV) (rows:List (List UInt8)):Prop:=(v= .own g 9 1 (rows.map srow)\/v= .nil/\g=none/\rows=[])/\(∀d,g=some d->d≠E/\d≠D)/\D≠E
section
variable (G:Glob) (hG:GOk G)
include hG
set_option maxHeartbeats 2000000 in
def f386:∀(u:U) (n:Nat),u.Short->n+u.flat.length<=1000000->∀(M F:Nat) (g:Option Nat) (v:AV) (rows:List (List UInt8)),LnOk M F g v rows->rows.length+u.flat.length<=1000000->
  aj G Tryz.prog 386 [.agg u.cs,.i n,.p M,.p F] (LnSt M F g v rows.length)
   (λr σ'=>r= .tup []/\∃Z,LnOk M F Z (.own Z 9 1 ((rows++u.lines n).map srow)) (rows++u.lines n)/\σ'=LnSt M F Z (.own Z 9 1 ((rows++u.lines n).map srow)) (rows++u.lines n).length):=by
 refine U.ind λu ih n hs hn M F g v rows I bh=>?_
 have bd:=hs.1.kids
 have bb:u.flat.length=1+(U.flats u.kids).length:=by rw[U.flat_eq,length_cons];omega
 have Y:IntKind.i64.wrap ((n:Int)+1)=((n+1:Nat):Int):=by rw[av (by omega) (by omega)];omega
 obtain⟨hv,hg,E⟩:=I
 have J:¬M=F:=λe=>E e.symm
 have hL:=f387 G hG u n hs (by omega)
 have ad:=rZ u n
 refine aj.w c386 ?_
 unfold s386 r386 LnSt
 rcases hv with rfl|⟨rfl,rfl,rfl⟩
 ·(repeat' (first|(with_reducible refine ab hL ?_)|simp only[EV,seval,E,J,ac]|simp only[EV,seval,E,J]|(with_reducible intro ah V;(try(have X:=V;simp only[EVK]at X;(have ac:=X))))|(with_reducible first|refine af ?_ ?_|refine ag ?_)|(refine⟨[[.str (cq u n)]],rfl,(by simp),rfl,?_⟩)|(refine o0 (n:=rows.length) (m':=rows.length+1) [_,_] (by rfl) (λd hd=>by simp[Store.keys];exact⟨(hg d hd).2,(hg d hd).1⟩) (by simp) (by omega) (by omega) rfl (by assumption) (by omega) (λgn aa=>?_))))
  all_goals(
   refine ap (ι:=Option Nat×List (List UInt8)) u.kids (λi r c=>LnOk M F c.1 (.own c.1 9 1 (c.2.map srow)) c.2/\rows++u.lines n=c.2++U.liness (n+1) r/\c.2.length+(U.liness (n+1) r).length<=1000000)
    (λi c=>[(1,.i n),(3,.p F),(15,.lst 8 (u.kids.map U.cs)),(16,.i u.kids.length),(17,.i i)])
    (λi c=>LnSt M F c.1 (.own c.1 9 1 (c.2.map srow)) c.2.length) (gn,rows++[cq u n]) ⟨⟨.inl rfl,λd hd=>by have:=aa d hd;simp[Store.keys]at this;exact⟨this.2,this.1⟩,E⟩,by rw[rY];simp,by have:=ad;simp only[rY,length_cons,length_append,length_nil]at*;omega⟩
    (by simp only[LnSt,map_append,map_cons,map_nil,length_append,length_cons,length_nil,srow];exact a0 _ _) (by omega) (λi x r c I D hw=>?_) (λc I hn=>?_)
   ·obtain⟨o1,N,o3⟩:=I
    rw[rW]at N o3
    rw[length_append]at o3
    have an:=rZ x (n+1)
    have al:=sj D.mem
    unfold LnSt
    (try simp only[EV,seval,D.yes,D.le0,D.lt',D.row,hw,Y,E,J])
    intro b7 O
    have T:¬b7=F:=by simp only[EVK]at O;exact O.1
    (try simp only[EV,seval,D.yes,D.le0,D.lt',D.row,hw,Y,E,J,T])
    refine bl (LnSt M F c.1 (.own c.1 9 1 (c.2.map srow)) c.2.length) [(b7,.cells 27 x.cs)] (v_clo2 G (ih x D.mem (n+1) (hs.kid D.mem) (by omega) M F c.1 _ c.2 o1 (by omega))) (hH _) sE ?_
    rintro r' aw ⟨rfl,Z,hk,rfl⟩
    (try simp only[EV,seval,hw])
    refine ak D (Z,c.2++x.lines (n+1)) ⟨hk,by have:=N;simp only[append_assoc,nil_append]at this ⊢;exact this,by simp only[length_append];omega⟩ (Weak.sub SubN.left)
   ·obtain⟨o1,N,o3⟩:=I
    rw[U.liness,append_nil]at N
    (try simp only[EV,seval,hn])
    (try rw[nil_append]at N)
    exact RET.mk (SubN.refl _) ⟨rfl,c.1,by rw[N];exact o1,by rw[N];rfl⟩)
 ·(repeat' (first|(with_reducible refine ab hL ?_)|simp only[EV,seval,E,J,ac]|simp only[EV,seval,E,J]|(with_reducible intro ah V;(try(have X:=V;simp only[EVK]at X;(have ac:=X))))|(with_reducible first|refine af ?_ ?_|refine ag ?_)|(refine⟨[[.str (cq u n)]],rfl,(by simp),rfl,?_⟩)|(refine o0 (n:=0) (m':=1) [_,_] (by rfl) (by simp) (by simp) (by omega) (by omega) rfl (by assumption) (by omega) (λgn aa=>?_))))
  all_goals(
   refine ap (ι:=Option Nat×List (List UInt8)) u.kids (λi r c=>LnOk M F c.1 (.own c.1 9 1 (c.2.map srow)) c.2/\[]++u.lines n=c.2++U.liness (n+1) r/\c.2.length+(U.liness (n+1) r).length<=1000000)
    (λi c=>[(1,.i n),(3,.p F),(15,.lst 8 (u.kids.map U.cs)),(16,.i u.kids.length),(17,.i i)])
    (λi c=>LnSt M F c.1 (.own c.1 9 1 (c.2.map srow)) c.2.length) (gn,[cq u n]) ⟨⟨.inl rfl,λd hd=>by have:=aa d hd;simp[Store.keys]at this;exact⟨this.2,this.1⟩,E⟩,by rw[rY];simp,by have:=ad;simp only[rY,length_cons,length_append,length_nil]at*;omega⟩
    (by simp only[LnSt,map_append,map_cons,map_nil,length_append,length_cons,length_nil,srow];exact a0 _ _) (by omega) (λi x r c I D hw=>?_) (λc I hn=>?_)
   ·obtain⟨o1,N,o3⟩:=I
    rw[rW]at N o3
    rw[length_append]at o3
    have an:=rZ x (n+1)
    have al:=sj D.mem
    unfold LnSt
    (try simp only[EV,seval,D.yes,D.le0,D.lt',D.row,hw,Y,E,J])
    intro b7 O
    have T:¬b7=F:=by simp only[EVK]at O;exact O.1
    (try simp only[EV,seval,D.yes,D.le0,D.lt',D.row,hw,Y,E,J,T])
    refine bl (LnSt M F c.1 (.own c.1 9 1 (c.2.map srow)) c.2.length) [(b7,.cells 27 x.cs)] (v_clo2 G (ih x D.mem (n+1) (hs.kid D.mem) (by omega) M F c.1 _ c.2 o1 (by omega))) (hH _) sE ?_
    rintro r' aw ⟨rfl,Z,hk,rfl⟩
    (try simp only[EV,seval,hw])
    refine ak D (Z,c.2++x.lines (n+1)) ⟨hk,by have:=N;simp only[append_assoc,nil_append]at this ⊢;exact this,by simp only[length_append];omega⟩ (Weak.sub SubN.left)
   ·obtain⟨o1,N,o3⟩:=I
    rw[U.liness,append_nil]at N
    (try simp only[EV,seval,hn])
    (try rw[nil_append]at N)
    exact RET.mk (SubN.refl _) ⟨rfl,c.1,by rw[N];exact o1,by rw[N];rfl⟩)
def f352 (u:U) (N:u.Short):aj G Tryz.prog 352 [.agg u.cs] [] (λr σ'=>(df u=false/\r= .nil)\/(df u=true/\∃g,r= .own g 9 1 ((u.lines 0).map srow))):=by
 have O:=f385 G u N;have D:=f275 G hG u.strip (kt N);rw[lW]at D;have Z:=N.1.2;refine aj.w c352 ?_;unfold s352 r352
 cases F:df u with
 |false=>
  rw[F]at D;(repeat' (first|(with_reducible first|refine ab O ?_|refine ab D ?_)|simp only[EV,seval]));exact RET.mk (SubN.nil _) (by simp)
 |true=>
  rw[F]at D;(try simp only[EV,seval,O]);refine ab O ?_;(try simp only[EV,seval]);refine ab D ?_;(try simp only[EV,seval]);intro J X I E
  have M:¬I=J:=by simp only[EVK]at E;exact E
  have T:¬J=I:=λe=>M e.symm;(try simp only[EV,seval,M,T]);have V:=f386 G hG u 0 N (by omega) J I none .nil [] ⟨.inr ⟨rfl,rfl,rfl⟩,by simp,M⟩ (by simp;omega);refine bl (LnSt J I none .nil 0) [] (v_clo2 G V) (hH _) (by rw[append_nil];exact SubN.refl _) ?_;rintro r σ' ⟨rfl,Y,_,rfl⟩;unfold LnSt;(try simp only[EV,seval,M,T]);exact RET.mk (SubN.nil _) (by simp)
def f317 (u:U) (M:u.Short):Pure G Tryz.prog 317 [.agg u.cs] (.tup [.str (dk u).1,.i (dk u).2]):=by
 have O:=f352 G hG u M;have T:=M.1.2;have J:=rZ u 0
 have D:1<=(u.lines 0).length:=by rw[J];exact u.flat_pos
 have V:=mb (u.lines 0) (by intro e;rw[e]at D;simp at D);have Y:=textT_len u T;have F:Lib.join (u.lines 0) [10]++[10]=gH u:=V
 have X:(Lib.join (u.lines 0) [10]).length+1=(gH u).length:=by rw[←F];simp
 refine Pure.w c317 λR E=>?_;unfold s317 r317;(try simp only[EV,seval]);refine bl [] [] O.v (hH _) (SubN.refl _) ?_;rintro r σ' (⟨hsh,rfl⟩|⟨hsh,g,rfl⟩)
 ·have I:dk u=([],1):=by unfold dk;rw[hsh];rfl
  rw[I]at E;(try simp only[EV,seval]);exact RET.eq E rfl
 ·have I:dk u=if (16384:Int)<(gH u).length then ([],6)else (gH u,0):=by unfold dk;rw[hsh];rfl
  rw[I]at E;have Z:decide (((u.lines 0).length:Int)=0)=false:=decide_eq_false (by omega);have N:=f353 G g (u.lines 0) [10] (by omega) (by omega);(repeat' (first|(with_reducible (refine ae (λh=>?_) λh=>?_)<;>(try simp only[DZ]at h))|(with_reducible first|refine AI (by omega) ?_|refine ab N ?_)|simp only[EV,seval,Z,F,length_cons,length_nil]))
  ·rw[if_pos (by omega)]at E;exact RET.eq E rfl
  ·rw[if_neg (by omega)]at E;exact RET.eq E rfl
end
end Go.Av
namespace Go.Av
open Go Go.RowKit Go.MapKept List
section
variable {G:Glob} {P:Program} {env:Env} {σ:Store} {K:AV->Store->Prop} {κ:Type} [DecidableEq κ] {kT:TypeId} {val:κ->Value}
def pb (k:Int):∀(l:List Int) (ents:List MapEntry) (i:Nat),ents.map (·.key)=l.map (λn=>Value.int .i64 n)->
  Instr.findNow (.int .i64) (.i k) ents i=some ((((l.zip ents).zipIdx i).find? λq=>decide (q.1.1=k)).map λq=>(q.2,q.1.2.val))
 |[],[],i,_=>by simp[Instr.findNow]
 |[],e::es,i,h=>by simp at h
 |b::l,[],i,h=>by simp at h
 |b::l,e::es,i,h=>by
  simp only[map_cons,List.cons.injEq]at h;simp only[Instr.findNow,h.1,Instr.sameNow,if_true,zip_cons_cons,zipIdx_cons,find?_cons];by_cases D:k=b
  ·subst D;simp
  ·have E:(k==b)=false:=by simpa using D
   have F:decide (b=k)=false:=by simp;exact λe=>D e.symm
   simp only[E,F];exact pb k l es (i+1) h.2
def mapK_int (D:P.underlying kT=some (.int .i64)):MapK P kT (λn:Int=>Value.int .i64 n) where
 ck em k w:=run_checkKey D (by simp[IsKey]) em 9999
 find k l ents w he:=run_findKey D (pb k l ents 0 he)
 stays k w:=run_keyThatStays (d:=.int .i64) (by simp[IsKey])
def cV (M:MapK P kT val) {E eT:TypeId} {x D y:Operand} {b:Nat} {l:List (κ×AV)} {k:κ} {yv:AV} (X:(SOpd.of x).eval G env= .sc (.map (some b)))
  (F:∀τ w v,Rep τ w ((SOpd.of D).eval G env) v->v=val k) (Y:(SOpd.of y).eval G env=yv) (V:P.underlying E=some (.map kT eT)) (N:σ.get b=some (.map (cD val l)))
  (O:K aK (σ.set b (.map (cD val (dL k yv l))))):RAW G P (.insert E x D y) env σ K ⟨⟩:=by
 intro ρ w a o T J I
 have h:=fA (K:=K) M X F Y V N O ρ w a {o with op:=.mapUpdate E x D y} rfl J I
 have e:execOp a.eval {o with op:=.mapUpdate E x D y}=execOp a.eval o:=by simp[execOp,T]
 rwa [e]at h
end
end Go.Av
namespace Go.Av
open Go Go.RowKit Go.Proofs List
section
variable (G:Glob) (hG:GOk G)
include hG
def f230 (u:U) (F:u.Short):Pure G Tryz.prog 230 [.agg u.cs] (.bool (gj u&&(decide (u.kind≠0)&&decide ((dk u).2=0)))):=by
 have I:=f317 G hG u F;have D:=f318 G hG u F;rw[←i7]at D;refine Pure.w c230 λR E=>?_;unfold s230 r230;(repeat' (first|(with_reducible (refine ai (λh=>?_) λh=>?_)<;>(try simp only[DZ]at h))|(with_reducible first|refine ab I ?_|refine ab D ?_)|simp only[EV,seval]));(all_goals(first|(refine RET.eq E ?_;(refine congrArg AV.bool (Bool.eq_iff_iff.2 ?_);simp only[EVB]at*;omega))|(refine RET.eq E ?_;((simp_all[];done)))))
def f228 (x:Itm) (F:x.unit.Short):Pure G Tryz.prog 228 [.agg x.cs] (.bool (inR x.wh 0 3&&(gj x.unit&&(decide (x.unit.kind≠0)&&decide ((dk x.unit).2=0))))):=by
 have E:=f230 G hG x.unit F;refine Pure.w c228 λR D=>?_;unfold s228 r228;generalize (gj x.unit&&(decide (x.unit.kind≠0)&&decide ((dk x.unit).2=0)))=q at*;(repeat' (first|(with_reducible (refine ai (λh=>?_) λh=>?_)<;>(try simp only[DZ]at h))|(with_reducible first|refine ab (f229 G _) ?_|refine ab E ?_)|simp only[EV,seval,o6]));(all_goals(((refine RET.eq D ?_;((simp_all[];done))))))
end
section
variable (G:Glob)
def f234 (x:Itm) (q:x.Short1):Pure G Tryz.prog 234 [.agg x.cs] (.bool (de x.old 1&&(de x.new 0&&inR x.nth 0 256))):=by
 have F:=λn=>f235 G x.old n (by have:=q.old;omega);have E:=λn=>f235 G x.new n (by have:=q.new;omega);refine Pure.w c234 λR D=>?_;unfold s234 r234;unfold de at*;(repeat' (first|(with_reducible (refine ai (λh=>?_) λh=>?_)<;>(try simp only[DZ]at h))|(with_reducible first|refine ab (F _) ?_|refine ab (E _) ?_|refine ab (f236 G x) ?_)|simp only[EV,seval]));(all_goals(((refine RET.eq D ?_;first|(simp_all[];done)|grind))))
def f238 (x:Itm) (q:x.Short1):Pure G Tryz.prog 238 [.agg x.cs] (.bool (de x.old 0&&(de x.new 1&&(inR x.nth 0 256&&(decide (0<(x.old.length:Int))||decide (x.nth=0)))))):=by
 have I:=f235 G x.old 0 (by have:=q.old;omega);have F:=f235 G x.new 1 (by have:=q.new;omega);refine Pure.w c238 λR E=>?_;unfold s238 r238;unfold de at*;generalize (dN x.old&&decide ((0:Int)<=(x.old.length:Int)))=q1 at*;generalize (dN x.new&&decide ((1:Int)<=(x.new.length:Int)))=q2 at*;have D:=f236 G x;generalize inR x.nth 0 256=q3 at*;(repeat' (first|(with_reducible (refine ai (λh=>?_) λh=>?_)<;>(try simp only[DZ]at h))|(with_reducible first|refine ab I ?_|refine ab F ?_|refine ab D ?_)|simp only[EV,seval]));(all_goals(((refine RET.eq E ?_;((simp_all[];done))))))
def f240 (x:Itm) (q:x.Short1):Pure G Tryz.prog 240 [.agg x.cs] (.bool (de x.new 0)):=by
 have E:=λn=>f235 G x.new n (by have:=q.new;omega);refine Pure.w c240 λR D=>?_;unfold s240 r240;unfold de at*;(repeat' (first|(with_reducible refine ab (E _) ?_)|simp only[EV,seval]));(all_goals((exact RET.eq D rfl)))
def f242 (x:Itm):Pure G Tryz.prog 242 [.agg x.cs] (.bool (bA x.label)):=by
 refine Pure.w c242 λR D=>?_;unfold s242 r242;(repeat' (first|(with_reducible refine ab (f198 G _) ?_)|simp only[EV,seval]));(all_goals((exact RET.eq D rfl)))
def f244 (x:Itm) (q:x.Short1):Pure G Tryz.prog 244 [.agg x.cs] (.bool (inR x.wh 0 3&&cI x.to_)):=by
 have E:=f131 G x.to_ q.to_;refine Pure.w c244 λR D=>?_;unfold s244 r244;(repeat' (first|(with_reducible (refine ai (λh=>?_) λh=>?_)<;>(try simp only[DZ]at h))|(with_reducible first|refine ab (f229 G _) ?_|refine ab E ?_)|simp only[EV,seval]));(all_goals(((refine RET.eq D ?_;((simp_all[];done))))))
def f246 (x:Itm) (q:x.Short1):Pure G Tryz.prog 246 [.agg x.cs] (.bool (d8 x.event&&inR x.day 0 1048576)):=by
 have E:=f132 G x.event q.event;refine Pure.w c246 λR D=>?_;unfold s246 r246;(repeat' (first|(with_reducible (refine ai (λh=>?_) λh=>?_)<;>(try simp only[DZ]at h))|(with_reducible first|refine ab (f247 G _ _ _) ?_|refine ab E ?_)|simp only[EV,seval]));(all_goals(((refine RET.eq D ?_;((simp_all[];done))))))
def f249 (x:Itm) (q:x.Short1) (M:∀y∈x.by_,Pure G Tryz.prog 60 [.agg y.cs] (.bool y.may)):
  Pure G Tryz.prog 249 [.agg x.cs] (.bool (inR x.act 1 1048576&&(inR x.item 0 31&&Itm.mayOne x.by_))):=by
 refine Pure.w c249 λR E=>?_
 unfold s249 r249
 have F:=f250 G x 0
 generalize inR x.act 1 1048576=q1 at*
 generalize inR x.item 0 31=q2 at*
 rcases D:x.by_ with _|⟨y,_|⟨z,l⟩⟩
 ·rw[D,Itm.mayOne]at E
  (repeat' (first|(with_reducible (refine ai (λh=>?_) λh=>?_)<;>(try simp only[DZ]at h))|(with_reducible refine ab F ?_)|simp only[EV,seval,D,map_nil,length_nil]));(all_goals(((refine RET.eq E ?_;((simp_all[];done))))))
 ·rw[D,sd]at E
  have I:=M y (by rw[D];simp);(repeat' (first|(with_reducible (refine ai (λh=>?_) λh=>?_)<;>(try simp only[DZ]at h))|(with_reducible first|refine ab F ?_|refine ab (f54 G _) ?_|refine ab I ?_)|simp only[EV,seval,D,map_cons,map_nil,length_nil,length_cons,getD_cons_zero]));(all_goals(((refine RET.eq E ?_;((simp_all[];done))))))
 ·rw[D,sd]at E
  have J:decide (((x.by_.length:Nat):Int)=1)=false:=by rw[D];simp;omega
  (repeat' (first|(with_reducible (refine ai (λh=>?_) λh=>?_)<;>(try simp only[DZ]at h))|(with_reducible refine ab F ?_)|simp only[EV,seval,J]));(all_goals(((refine RET.eq E ?_;((simp_all[];done))))))
end
end Go.Av
