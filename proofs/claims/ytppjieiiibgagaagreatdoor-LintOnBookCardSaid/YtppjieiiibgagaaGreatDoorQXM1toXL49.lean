/-
  ENACT, M1: looks into trees: ways, units, parents, addresses' steps.
-/
import Derived.Test.YtppjieiiibgagaaGreatDoorQXC4
import Derived.Test.YtppjieiiibgagaaGreatDoorQXC5
import Derived.Test.YtppjieiiibgagaaGreatDoorQXC6
import Derived.Test.YtppjieiiibgagaaGreatDoorQXE11toXE14
import Derived.Test.YtppjieiiibgagaaGreatDoorQXAv27toXL28
import Derived.Test.YtppjieiiibgagaaGreatDoorQShelf
import Derived.Test.YtppjieiiibgagaaGreatDoorQXL3toXL7
import Derived.Test.YtppjieiiibgagaaGreatDoorQXL9toXL12
import Derived.Lib.Split
import Derived.Lib.SplitLaws
import Derived.Lib.AppendIntMem
import Derived.Test.YtppjieiiibgagaaGreatDoorQXL13toXL15
import Derived.Test.YtppjieiiibgagaaGreatDoorQXL19toXL25
set_option linter.all false
namespace Go.Av
open Go Go.RowKit Go.Proofs List
def gL:List U->AV
 |[]=>.nil
 |x::l=>.lst 8 ((x::l).map U.cs)
def qj {l:List U} (h:l≠[]):gL l= .lst 8 (l.map U.cs):=by cases l<;>simp_all[gL]
def eE:∀(i:Idd) (u:U),(U.way i u).length<=u.flat.length:=by
 intro i;refine U.ind λu ih=>?_
 have h:∀us:List U,(∀k∈us,(U.way i k).length<=k.flat.length)->(U.ways i us).length<=(U.flats us).length:=by
  intro us
  induction us with
  |nil=>intro _;rw[sq];simp
  |cons k us ihu=>
   intro h;have D:=h k (by simp);have I:=ihu λk F=>h k (by simp[F]);rw[rT,aF,length_append]
   cases E:U.way i k with
   |nil=>simp only[orW];omega
   |cons x l=>rw[E]at D;simp only[orW];omega
 have D:=h u.kids ih;rw[sd,U.flat_eq,length_cons];split
 ·simp
 ·cases E:U.ways i u.kids with
  |nil=>simp[gm]
  |cons x l=>rw[E]at D;simp only[gm,length_cons]at*;omega
def app_new {e:TypeId} {sz bytes m D:Nat} {σ:Store} {rows ys:List (List AV)} {K:AV->Store->Prop} (I:m=rows.length*sz)
  (J:(rows.length+ys.length)*bytes<=140737488355328) (F:∀E,K (.own E e sz (rows++ys)) (tokS E e ((rows++ys).length*sz))):appX e sz bytes ((D,.tok e m)::σ) (some D) rows ys K:=
 cx (m:=m) (λd h=>by injection h with h;subst h;simp[Store.get]) I rfl J F
def way_flat {t:Idd}:∀u:U,∀v∈U.way t u,v∈u.flat:=by
 refine U.ind λu ih v D=>?_
 have h:∀us:List U,(∀k∈us,∀v∈U.way t k,v∈k.flat)->∀v∈U.ways t us,v∈U.flats us:=by
  intro us
  induction us with
  |nil=>intro _ v D;rw[sq]at D;cases D
  |cons k us ihu=>
   intro h v D;rw[rT]at D;rw[aF,mem_append]
   cases E:U.way t k with
   |nil=>rw[E]at D;exact .inr (ihu (λk F=>h k (by simp[F])) v D)
   |cons x l=>rw[E]at D;exact .inl (h k (by simp) v (by rw[E];exact D))
 rw[sd]at D;rw[U.flat_eq];split at D
 ·simp only[mem_singleton]at D;subst D;exact mem_cons_self ..
 ·cases E:U.ways t u.kids with
  |nil=>rw[E]at D;cases D
  |cons x l=>
   rw[E]at D
   rcases mem_cons.1 D with rfl|D
   ·exact mem_cons_self ..
   ·exact mem_cons_of_mem _ (h u.kids ih v (by rw[E];exact D))
section
variable (G:Glob)
def f29 (k:Int):Pure G Tryz.prog 29 [.i k] (.bool (chg k)):=by
 refine Pure.w c29 λR E=>?_;unfold s29 r29;(repeat' (first|(with_reducible (first|refine ae (λh=>?_) λh=>?_|refine af (λh=>?_) λh=>?_|refine ax (λh=>?_) λh=>?_)<;>(try simp only[DZ]at h))|(with_reducible refine AI (by omega) ?_)|simp only[EV,seval]|(with_reducible intro J F;(try(have D:=F;simp only[EVK]at D;first|(have I:=AI D I)|(have I:=D))))|(with_reducible first|refine ag ?_ ?_|refine ai ?_)|(exfalso;omega)));(all_goals(first|(exact RET.eq E rfl)|rfl|(refine RET.eq E ?_;(refine congrArg AV.bool (Bool.eq_iff_iff.2 ?_);simp only[chg,EVB]at*;omega))|(refine RET.eq E ?_;first|(simp only[chg,hok,h,EVC,decide_true,decide_false];done)|(simp only[chg,hok,EVC,decide_true,decide_false];done)|(simp only[chg,hok,EVC,decide_true,decide_false];refine congrArg AV.bool (decide_eq_decide.2 ?_);omega)|(simp_all[chg];done)|(simp_all[chg];omega)|grind|(norm_cast at*;simp_all[chg];done)|(norm_cast at*;simp_all[chg];omega))|(refine E _ _ (Or.inl (Or.inr ⟨rfl,?_⟩));simp[chg];done)|(refine E _ _ (Or.inr ?_);simp[*,aW,aH,eH,hH,chg];done)|(rw[hok];simp only[chg,h,EVC,decide_true,decide_false];done)|(rw[hok];simp only[chg,EVC,decide_true,decide_false];done)|(simp_all[chg];done)|(simp_all[chg];omega)|grind|(norm_cast at*;simp_all[chg];done)|(norm_cast at*;simp_all[chg];omega)))
def f302 (n:Int):Pure G Tryz.prog 302 [.i n] (.bool (inR n 0 3)):=by
 refine Pure.w c302 λR E=>?_;unfold s302 r302;(repeat' (first|(with_reducible (first|refine ae (λh=>?_) λh=>?_|refine af (λh=>?_) λh=>?_|refine ax (λh=>?_) λh=>?_)<;>(try simp only[DZ]at h))|(with_reducible refine AI (by omega) ?_)|simp only[EV,seval]|(with_reducible intro J F;(try(have D:=F;simp only[EVK]at D;first|(have I:=AI D I)|(have I:=D))))|(with_reducible first|refine ag ?_ ?_|refine ai ?_)|(exfalso;omega)));(all_goals(first|(exact RET.eq E rfl)|rfl|(refine RET.eq E ?_;(refine congrArg AV.bool (Bool.eq_iff_iff.2 ?_);simp only[inR,EVB]at*;omega))|(refine RET.eq E ?_;first|(simp only[inR,hok,h,EVC,decide_true,decide_false];done)|(simp only[inR,hok,EVC,decide_true,decide_false];done)|(simp only[inR,hok,EVC,decide_true,decide_false];refine congrArg AV.bool (decide_eq_decide.2 ?_);omega)|(simp_all[inR];done)|(simp_all[inR];omega)|grind|(norm_cast at*;simp_all[inR];done)|(norm_cast at*;simp_all[inR];omega))|(refine E _ _ (Or.inl (Or.inr ⟨rfl,?_⟩));simp[inR];done)|(refine E _ _ (Or.inr ?_);simp[*,aW,aH,eH,hH,inR];done)|(rw[hok];simp only[inR,h,EVC,decide_true,decide_false];done)|(rw[hok];simp only[inR,EVC,decide_true,decide_false];done)|(simp_all[inR];done)|(simp_all[inR];omega)|grind|(norm_cast at*;simp_all[inR];done)|(norm_cast at*;simp_all[inR];omega)))
def f255 (u:U) (s:Stp):Pure G Tryz.prog 255 [.agg u.cs,.agg [.i s.kind,.str s.label]] (.bool (ay u s)):=by
 refine Pure.w c255 λR E=>?_;unfold s255 r255;(repeat' (first|(with_reducible (first|refine ae (λh=>?_) λh=>?_|refine af (λh=>?_) λh=>?_|refine ax (λh=>?_) λh=>?_)<;>(try simp only[DZ]at h))|(with_reducible refine AI (by omega) ?_)|simp only[EV,seval]|(with_reducible intro J F;(try(have D:=F;simp only[EVK]at D;first|(have I:=AI D I)|(have I:=D))))|(with_reducible first|refine ag ?_ ?_|refine ai ?_)|(exfalso;omega)));(all_goals(first|(exact RET.eq E rfl)|rfl|(refine RET.eq E ?_;(refine congrArg AV.bool (Bool.eq_iff_iff.2 ?_);simp only[ay,EVB]at*;omega))|(refine RET.eq E ?_;first|(simp only[ay,hok,h,EVC,decide_true,decide_false];done)|(simp only[ay,hok,EVC,decide_true,decide_false];done)|(simp only[ay,hok,EVC,decide_true,decide_false];refine congrArg AV.bool (decide_eq_decide.2 ?_);omega)|(simp_all[ay];done)|(simp_all[ay];omega)|grind|(norm_cast at*;simp_all[ay];done)|(norm_cast at*;simp_all[ay];omega))|(refine E _ _ (Or.inl (Or.inr ⟨rfl,?_⟩));simp[ay];done)|(refine E _ _ (Or.inr ?_);simp[*,aW,aH,eH,hH,ay];done)|(rw[hok];simp only[ay,h,EVC,decide_true,decide_false];done)|(rw[hok];simp only[ay,EVC,decide_true,decide_false];done)|(simp_all[ay];done)|(simp_all[ay];omega)|grind|(norm_cast at*;simp_all[ay];done)|(norm_cast at*;simp_all[ay];omega)))
def f264 (u:U) (s:Stp):Pure G Tryz.prog 264 [.agg u.cs,.agg [.i s.kind,.str s.label]] (.bool (ay u s)):=by
 refine Pure.w c264 λR E=>?_;unfold s264 r264;(repeat' (first|(with_reducible (first|refine ae (λh=>?_) λh=>?_|refine af (λh=>?_) λh=>?_|refine ax (λh=>?_) λh=>?_)<;>(try simp only[DZ]at h))|(with_reducible refine AI (by omega) ?_)|simp only[EV,seval]|(with_reducible intro J F;(try(have D:=F;simp only[EVK]at D;first|(have I:=AI D I)|(have I:=D))))|(with_reducible first|refine ag ?_ ?_|refine ai ?_)|(exfalso;omega)));(all_goals(first|(exact RET.eq E rfl)|rfl|(refine RET.eq E ?_;(refine congrArg AV.bool (Bool.eq_iff_iff.2 ?_);simp only[ay,EVB]at*;omega))|(refine RET.eq E ?_;first|(simp only[ay,hok,h,EVC,decide_true,decide_false];done)|(simp only[ay,hok,EVC,decide_true,decide_false];done)|(simp only[ay,hok,EVC,decide_true,decide_false];refine congrArg AV.bool (decide_eq_decide.2 ?_);omega)|(simp_all[ay];done)|(simp_all[ay];omega)|grind|(norm_cast at*;simp_all[ay];done)|(norm_cast at*;simp_all[ay];omega))|(refine E _ _ (Or.inl (Or.inr ⟨rfl,?_⟩));simp[ay];done)|(refine E _ _ (Or.inr ?_);simp[*,aW,aH,eH,hH,ay];done)|(rw[hok];simp only[ay,h,EVC,decide_true,decide_false];done)|(rw[hok];simp only[ay,EVC,decide_true,decide_false];done)|(simp_all[ay];done)|(simp_all[ay];omega)|grind|(norm_cast at*;simp_all[ay];done)|(norm_cast at*;simp_all[ay];omega)))
def f146:∀(u:U),u.Tame->Pure G Tryz.prog 146 [.agg u.cs] (.lst 8 (u.flat.map U.cs)):=by
 refine U.ind λu ih N=>?_;have Y:=N.kids;have T:=N.2;refine Pure.w c146 λR O=>?_;unfold s146 r146;rw[U.flat_eq]at O T;simp only[length_cons]at T;(repeat' (first|(with_reducible (first|refine ae (λh=>?_) λh=>?_|refine af (λh=>?_) λh=>?_|refine ax (λh=>?_) λh=>?_)<;>(try simp only[DZ]at h))|(with_reducible first|refine AI (by omega) ?_|refine ab (ih x E.mem (N.kid E.mem)) ?_)|simp only[EV,seval,E.yes,E.le0,E.lt',E.get,E.row,hw]|simp only[EV,seval,Z]|simp only[EV,seval]|(with_reducible intro M I;(try(have F:=I;simp only[EVK]at F;first|(have J:=AI F J)|(have J:=F))))|(with_reducible first|refine ag ?_ ?_|refine ai ?_)|(refine⟨[u.cs],rfl,(by simp[ra]),(by simp),?_⟩)|(refine ap (ι:=Option Nat×List U) u.kids (λi r c=>u::U.flats u.kids=c.2++U.flats r) (λi c=>[(1,.ref u.cs),(3,.own c.1 27 8 (c.2.map U.cs)),(4,.i i)]) (λi c=>tokS c.1 27 (c.2.length*8)) (some M,[u]) (by simp) (dT _ _) (by omega) (λi x r c D E hw=>?_) (λc D Z=>?_))|(exfalso;omega)))
 ·have X:=congrArg List.length D;simp only[length_cons,length_append,aF]at X;refine cx (m':=(c.2++x.flat).length*8) aS (by simp) (by simp) (by simp;omega) (λV=>?_);exact ak E (V,c.2++x.flat) (by rw[D,aF,append_assoc]) (by simp only[map_append];exact dT _ _)
 ·exact O _ _ (Or.inl (Or.inr ⟨rfl,by rw[D];simp[U.flats]⟩))
def f62 (j:Idd):∀(u:U),u.Tame->Pure G Tryz.prog 62 [.agg u.cs,.agg j.cs] (gL (U.way j u)):=by
 refine U.ind λu ih Y=>?_;have aa:=Y.kids;have hc:=Y.2;have M:=eE j u;refine Pure.w c62 λR N=>?_;unfold s62 r62;rw[sd]at N M;by_cases X:u.id=j
 ·have T:decide (u.id=j)=true:=decide_eq_true X;rw[if_pos X]at N;(repeat' (first|(with_reducible (first|refine ae (λh=>?_) λh=>?_|refine af (λh=>?_) λh=>?_|refine ax (λh=>?_) λh=>?_)<;>(try simp only[DZ]at h))|(with_reducible refine AI (by omega) ?_)|simp only[EV,seval,am,T]|(with_reducible intro O E;(try(have D:=E;simp only[EVK]at D;first|(have F:=AI D F)|(have F:=D))))|(with_reducible first|refine ag ?_ ?_|refine ai ?_)|(refine⟨[u.cs],rfl,(by simp[ra]),(by simp),?_⟩)|(exfalso;omega)));exact N _ _ (Or.inl (Or.inr ⟨rfl,rfl⟩))
 ·have T:decide (u.id=j)=false:=decide_eq_false X;rw[if_neg X]at N M;simp only[Idd.cs]at ih;(repeat' (first|(with_reducible (first|refine ae (λh=>?_) λh=>?_|refine af (λh=>?_) λh=>?_|refine ax (λh=>?_) λh=>?_)<;>(try simp only[DZ]at h))|(with_reducible refine AI (by omega) ?_)|simp only[EV,seval,am,T,J.yes,J.le0,J.lt',J.get,J.row,Z]|simp only[EV,seval,am,T,hn]|simp only[EV,seval,am,T]|(with_reducible intro O E;(try(have D:=E;simp only[EVK]at D;first|(have F:=AI D F)|(have F:=D))))|(with_reducible first|refine ag ?_ ?_|refine ai ?_)|(refine ak J () ?_ (dT _ _))|(refine ak J () ?_ (Weak.sub (SubN.nil _)))|(refine ap (u.kids) (λi r (c:Unit)=>U.ways j u.kids=U.ways j r) (λi c=>[(2,.ref u.cs),(3,.ref j.cs),(15,.lst 8 (u.kids.map U.cs)),(16,.i u.kids.length),(17,.i i)]) (λ_ _=>[]) () (by first|rfl|(simp;done)|(simp[*];done)|(simp;omega)) (dT _ _) (by omega) (λi x r c I J Z=>?_) (λc I hn=>?_))|(exfalso;omega)))
  ·have h:=ih x J.mem (Y.kid J.mem);rw[rT]at I
   cases V:U.way j x with
   |nil=>
    rw[V]at h I;simp only[gL]at h;(repeat' (first|(with_reducible (first|refine ae (λh=>?_) λh=>?_|refine af (λh=>?_) λh=>?_|refine ax (λh=>?_) λh=>?_)<;>(try simp only[DZ]at h))|(with_reducible first|refine AI (by omega) ?_|refine ab h ?_)|simp only[EV,seval,Z]|(with_reducible intro O E;(try(have D:=E;simp only[EVK]at D;first|(have F:=AI D F)|(have F:=D))))|(with_reducible first|refine ag ?_ ?_|refine ai ?_)|(exfalso;omega)));exact ak J () I (Weak.sub (SubN.nil _))
   |cons y l=>
    rw[V]at h I;simp only[gL,map_cons]at h;(repeat' (first|(with_reducible (first|refine ae (λh=>?_) λh=>?_|refine af (λh=>?_) λh=>?_|refine ax (λh=>?_) λh=>?_)<;>(try simp only[DZ]at h))|(with_reducible first|refine AI (by omega) ?_|refine ab h ?_)|simp only[EV,seval,Z]|(with_reducible intro O E;(try(have D:=E;simp only[EVK]at D;first|(have F:=AI D F)|(have F:=D))))|(with_reducible first|refine ag ?_ ?_|refine ai ?_)|(refine⟨[u.cs],rfl,(by simp[ra]),(by simp),?_⟩)|(exfalso;omega)))
    ·have e:gm u (U.ways j u.kids)=u::y::l:=by rw[I];rfl
     rw[e]at N M;simp only[length_cons]at M;refine app_new (by simp) (by simp;omega) (λgn=>?_);exact N _ _ (Or.inl (Or.inr ⟨rfl,by simp⟩))
    ·have:=E (by simp);rw[this]at h
     cases h
  ·rw[I,sq]at N;exact RET.eq N rfl
def get_last {l:List U} {x y:U} (h:(x::l).getLast?=some y):((x::l).map U.cs).getD l.length []=y.cs:=by
 have:(x::l)[l.length]? =some y:=by
  rw[getLast?_eq_getElem?]at h;simpa using h
 simp only[List.getD,getElem?_map,this,Option.map_some,Option.getD_some]
def kG (j:Idd) (u:U):AV:=if (U.way j u).isEmpty then .tup [.agg zU,.bool false]else .tup [.agg (fnd j u).cs,.bool true]
def f27 (j:Idd) (u:U) (T:u.Short):Pure G Tryz.prog 27 [.agg u.cs,.agg j.cs] (kG j u):=by
 have I:=f62 G j u T.1;have M:=eE j u;have hc:=T.1.2;refine Pure.w c27 λR J=>?_;unfold s27 r27;unfold kG at J;simp only[Idd.cs]at I ⊢
 cases N:U.way j u with
 |nil=>
  rw[N]at I J;simp only[gL]at I;(repeat' (first|(with_reducible (first|refine ae (λh=>?_) λh=>?_|refine af (λh=>?_) λh=>?_|refine ax (λh=>?_) λh=>?_)<;>(try simp only[DZ]at h))|(with_reducible first|refine AI (by omega) ?_|refine ab I ?_)|simp only[EV,seval]|(with_reducible intro O E;(try(have D:=E;simp only[EVK]at D;first|(have F:=AI D F)|(have F:=D))))|(with_reducible first|refine ag ?_ ?_|refine ai ?_)|(exfalso;omega)));exact J _ _ (Or.inl (Or.inl rfl))
 |cons x l=>
  obtain⟨y,X⟩:∃y,(x::l).getLast?=some y:=⟨_,getLast?_eq_some_getLast (by simp)⟩;have hf:fnd j u=y:=aI (by rw[N];exact X);have Y:y.Short:=T.node (way_flat u y (by rw[N];exact mem_of_getLast? X));have Z:=get_last X;have hC:=mm.freeze (f63 G y Y);rw[N]at I J M;rw[hf]at J;simp only[gL,map_cons]at I Z;simp only[length_cons]at M
  have V:IntKind.i64.wrap (((l.length+1:Nat):Int)-1)=(l.length:Int):=by rw[av (by omega) (by omega)];omega
  (repeat' (first|(with_reducible (first|refine ae (λh=>?_) λh=>?_|refine af (λh=>?_) λh=>?_|refine ax (λh=>?_) λh=>?_)<;>(try simp only[DZ]at h))|(with_reducible first|refine AI (by omega) ?_|refine ab I ?_|refine ab hC ?_)|simp only[EV,seval,V,Z]|(with_reducible intro O E;(try(have D:=E;simp only[EVK]at D;first|(have F:=AI D F)|(have F:=D))))|(with_reducible first|refine ag ?_ ?_|refine ai ?_)|(exfalso;omega)));exact J _ _ (Or.inl (Or.inl rfl))
end
def cZ:List UInt8->List UInt8->List (List UInt8)
 |acc,[]=>[acc]
 |acc,c::s=>if c=32 then acc::cZ [] s else cZ (acc++[c]) s
def cF (s:List UInt8):List (List UInt8):=cZ [] s
def hdc (c:UInt8):List (List UInt8)->List (List UInt8)
 |[]=>[]
 |a::l=>(c::a)::l
def kN (c:UInt8):∀(s D:List UInt8),cZ (c::D) s=hdc c (cZ D s)
 |[],D=>rfl
 |d::s,D=>by
  simp only[cZ];split
  ·rfl
  ·exact kN c s (D++[d])
def jk (c:UInt8) (s:List UInt8):cF (c::s)=if c=32 then []::cF s else hdc c (cF s):=by
 simp only[cF,cZ];split
 ·rfl
 ·exact kN c s []
def hdc_len (c:UInt8):∀l:List (List UInt8),(hdc c l).length=l.length
 |[]=>rfl
 |a::l=>rfl
def iQ:∀s:List UInt8,(cF s).length<=s.length+1
 |[]=>by simp[cF,cZ]
 |c::s=>by
  have:=iQ s;rw[jk];split
  ·simp;omega
  ·rw[hdc_len];simp;omega
def kg:∀s:List UInt8,0<(cF s).length
 |[]=>by simp[cF,cZ]
 |c::s=>by
  have:=kg s;rw[jk];split
  ·simp
  ·rw[hdc_len];exact this
def nu:∀s:List UInt8,Lib.splitK [32] 0 (Lib.count s [32]) s=cF s
 |[]=>rfl
 |c::s=>by
  have ih:=nu s;rw[jk];by_cases E:c=32
  ·subst E
   have D:Lib.index (32::s) [32]=0:=by rw[Lib.index];simp[List.isPrefixOf]
   rw[if_pos rfl,Lib.count_cons_eq,Nat.add_comm,Lib.splitK,D,←ih];rfl
  ·have O:([32]:List UInt8).isPrefixOf (c::s)=false:=by simp[List.isPrefixOf,Ne.symm E]
   have D:Lib.index (c::s) [32]=if Lib.index s [32]== -1 then -1 else Lib.index s [32]+1:=by rw[Lib.index,O];simp
   rw[if_neg E,Lib.count_cons_ne c 32 s E,←ih];by_cases M:Lib.index s [32]= -1
   ·rw[Lib.count_miss M];rfl
   ·have J:=Lib.index_ge s [32];obtain⟨j,I⟩:∃j:Nat,Lib.index s [32]=j:=⟨(Lib.index s [32]).toNat,by omega⟩;have N:((j:Int)== -1)=false:=beq_eq_false_iff_ne.2 (by omega);have F:((j:Int)+1== -1)=false:=beq_eq_false_iff_ne.2 (by omega);rw[Lib.count_hit (by simp) I,Nat.add_comm];simp only[Lib.splitK,D,I,N,F,Bool.false_eq_true,if_false,hdc,length_cons,length_nil,Nat.add_zero,Int.toNat_natCast]
    have e:((j:Int)+1).toNat=j+1:=by omega
    rw[e];simp[take_succ_cons]
def uk {G:Glob} {P:Program} {k:FuncId} {fn:Func} {args:List AV} {r:AV} (M:P.funcs[k]? =some fn) (N:(fn.name== "runtime.NumGoroutine")=false) (F:fn.body.isNone=false)
  (h:∀(τ:Store) (w:World) (vs:Array Value),Sat G τ w->RepL τ w args vs.toList->Calls P k vs w λe w'=>∃v,e= .returned v/\Below w.heap.size w w'/\∀D:Store,(∀b∈D.keys,b<w.heap.size)->Rep D w' r v):Pure G P k args r:=
 ⟨⟨fn,M,N,F⟩,λρ w vs E J=>by
  refine(h _ w vs E J).mono ?_
  rintro e w' ⟨v,rfl,I,O⟩
  exact⟨v,r,[],rfl,⟨rfl,rfl⟩,by simpa using Sat.below (by simpa using E) I,Ev.below I,O _ (λb F=>by
   obtain⟨⟨V,x⟩,T,rfl⟩:=mem_map.1 F
   exact(E.obj _ _ (by simpa using T)).lt)⟩⟩
structure GOk2 (G:Glob):Prop where
 max:∀τ w,Sat G τ w->∃m,w.cell? ⟨9,0,none⟩=some (.i m)
 pow:∀τ w,Sat G τ w->Lib.TabIs Tryz.prog w "internal/strconv.uint64pow10" .u64 Lib.pow10Tab
section
variable (G:Glob)
def f108 (J:GOk2 G) (n:Int) (E: -9223372036854775808<=n) (F:n<=9223372036854775807):Pure G Tryz.prog 108 [.i n] (.str (Lib.itoa n)):=by
 refine sn Tryz.func108 (by kernel_rfl) (by kernel_rfl) λτ w vs M I=>?_;obtain⟨u,rfl,D⟩:=vs_one I;simp only[Rep]at D;subst D;refine⟨.string ⟨(Lib.itoa n).toArray⟩,λ_ _=>by simp only[Rep],?_⟩;refine(Tryz.strconv_Itoa n E F w (J.pow τ w M)).mono ?_;rintro e w' ⟨rfl,k,os,rfl⟩;exact⟨rfl,Lib.below_grow _ _ (Nat.le_refl _) _ _⟩
def f330 (X:GOk2 G) (s:List UInt8) (hs:s.length<4294967281):Pure G Tryz.prog 330 [.str s,.str [32]] (.lst 1 ((cF s).map srow)):=by
 refine uk Tryz.func330 (by kernel_rfl) (by kernel_rfl) λτ w vs Y V=>?_;obtain⟨u,v,rfl,O,T⟩:=gT V;simp only[Rep]at O T;subst O T;obtain⟨m,F⟩:=X.max τ w Y;refine(Tryz.strings_Split ⟨⟨s⟩⟩ ⟨⟨[32]⟩⟩ m w hs F (by decide)).mono ?_;rintro e w' ⟨rfl,rfl⟩;have E:(Lib.splitB ⟨⟨[32]⟩⟩ 0 (Lib.countB ⟨⟨s⟩⟩ ⟨⟨[32]⟩⟩) ⟨⟨s⟩⟩).map (·.data.toList)=cF s:=(Lib.splitB_data _ _ _ _).trans (nu s);have M:=Lib.splitB_all ⟨⟨[32]⟩⟩ (by decide) 0 _ ⟨⟨s⟩⟩ rfl;have aa:=Lib.countB_le ⟨⟨[32]⟩⟩ (by decide) _ ⟨⟨s⟩⟩ (Nat.le_refl _);generalize Lib.splitB ⟨⟨[32]⟩⟩ 0 (Lib.countB ⟨⟨s⟩⟩ ⟨⟨[32]⟩⟩) ⟨⟨s⟩⟩=l at*;generalize Lib.countB ⟨⟨s⟩⟩ ⟨⟨[32]⟩⟩=n at*;refine⟨_,rfl,(Below.refl _ _).alloc (Nat.le_refl _) _,λac N=>?_⟩
 have D:(cF s).length=n+1:=by rw[←E,length_map,M]
 simp only[Rep];right;refine⟨_,n+1,by rw[length_map,D],by rw[length_map,D];exact Nat.le_refl _,?_,sD λj hj=>?_⟩
 ·have:(ByteArray.size ⟨⟨s⟩⟩)=s.length:=rfl;unfold maxLen;omega
 ·have J:j<l.length:=by rw[length_map]at hj;omega
  rw[getElem_map,Nat.zero_add,Nat.mul_one];refine⟨rfl,rP λi hi=>?_⟩
  have I:i=0:=by simp[srow]at hi;omega
  subst I
  have Z:(w.alloc (.cells (l.map Value.string).toArray 9)).cell? ⟨w.heap.size,j,none⟩=some (.string l[j]):=by
   rw[World.cell?_alloc_at _ _ _ _ rfl,getElem?_toArray,getElem?_map,getElem?_eq_getElem J];rfl
  refine⟨.string l[j],⟨?_,λF=>?_⟩,rfl,?_⟩
  ·rw[add_lit,Nat.add_zero,Nat.zero_add];exact Z
  ·rw[add_lit]at F;exact absurd (N _ F.of_key) (Nat.lt_irrefl _)
  ·have e:(cF s)[j]'(by omega)=l[j].data.toList:=by simp[←E]
   simp[srow,Rep,e]
def f332 (s:List UInt8):Pure G Tryz.prog 332 [.str s] (.bool (!bj s)):=by
 refine Pure.w c332 λR D=>?_;unfold s332 r332;(repeat' (first|(with_reducible refine ab (f333 G _) ?_)|simp only[EV,seval]));(all_goals((exact RET.eq D rfl)))
def cutW (s:List UInt8):List (List UInt8):=if s=[]then []else cF s
def f266 (E:GOk2 G) (s:List UInt8) (M:s.length<4294967281):Pure G Tryz.prog 266 [.str s]
  (.tup (if (cutW s).all bj then (if 256<(cutW s).length then [.nil,.i 6]else [if s=[]then .nil else .lst 1 ((cutW s).map srow),.i 0])else [.nil,.i 2])):=by
 refine Pure.w c266 λR F=>?_
 unfold s266 r266
 have J:(cF s).length<9000000000000000000:=by have:=iQ s;omega
 (repeat' (first|(with_reducible (refine ae (λh=>?_) λh=>?_)<;>(try simp only[DZ]at h))|(with_reducible first|refine ab (f330 G E s M) ?_|refine ab (f331 G _ (λc=>!bj c) (cF s) J (λx _=>(f332 G x).v)) ?_)|simp only[EV,seval,fI]))
 all_goals(refine RET.eq F ?_)
 all_goals first|(simp_all[cutW];done)|(simp_all[cutW];omega)|(simp_all[cutW];intro D;obtain⟨x,N,I⟩:=h;simp[D x N]at I)
def dy (s:List UInt8):Bool:=(cutW s).all bj&&decide ((cutW s).length<=256)&&decide (s≠[])
def f164 (O:GOk2 G) (s:List UInt8) (T:s.length<4294967281):Pure G Tryz.prog 164 [.str s] (.bool (dy s)):=by
 refine Pure.w c164 λR I=>?_;unfold s164 r164;have D:=f266 G O s T
 have V:(cF s).length<9000000000000000000:=by have:=iQ s;omega
 by_cases E:(cutW s).all bj=true
 ·by_cases J:256<(cutW s).length
  ·rw[if_pos E,if_pos J]at D;(repeat' (first|(with_reducible refine ab D ?_)|simp only[EV,seval]))
   all_goals(refine RET.eq I (congrArg AV.bool ?_);simp[dy,E];omega)
  ·by_cases F:s=[]
   ·rw[if_pos E,if_neg J,if_pos F]at D;(repeat' (first|(with_reducible refine ab D ?_)|simp only[EV,seval]))
    all_goals(refine RET.eq I (congrArg AV.bool ?_);simp[dy,F];done)
   ·rw[if_pos E,if_neg J,if_neg F]at D
    have M:cutW s=cF s:=by simp[cutW,F]
    have N:decide ((0:Int)<((cF s).length:Nat))=true:=by have:=kg s;simp;omega
    rw[M]at D;(repeat' (first|(with_reducible refine ab D ?_)|simp only[EV,seval,N]))
    all_goals(refine RET.eq I (congrArg AV.bool ?_);simp_all[dy];done)
 ·rw[if_neg E]at D;(repeat' (first|(with_reducible refine ab D ?_)|simp only[EV,seval]))
  all_goals(refine RET.eq I (congrArg AV.bool ?_);simp[dy,E];done)
end
def cut_end {rows:List (List UInt8)} {s:List UInt8} {f:Nat} (h:rows++cZ ((s.drop f).take (s.length-f)) (s.drop s.length)=cF s):rows++[(s.take s.length).drop f]=cF s:=by
 rw[←h,drop_length,cZ,take_length,take_of_length_le (by simp)]
def nJ {s:List UInt8} {i:Nat} (hi:i<s.length):s.drop i=s.getD i 0::s.drop (i+1):=by
 rw[getD_eq_getElem?_getD,getElem?_eq_getElem hi];exact drop_eq_getElem_cons hi
def u8_of {c:UInt8} (h:(c.toNat:Int)=32):c=32:=UInt8.toNat_inj.1 (by simpa using Int.ofNat.inj h)
def cut_hit {rows:List (List UInt8)} {s:List UInt8} {f i:Nat} (hi:i<s.length) (E:f<=i) (D:((s.getD i 0).toNat:Int)=32) (h:rows++cZ ((s.drop f).take (i-f)) (s.drop i)=cF s):
  (rows++[(s.take i).drop f])++cZ ((s.drop (i+1)).take (i+1-(i+1))) (s.drop (i+1))=cF s:=by
 rw[←h,nJ hi,cZ,if_pos (u8_of D),Nat.sub_self,take_zero,drop_take]
 simp
def cut_miss {rows:List (List UInt8)} {s:List UInt8} {f i:Nat} (hi:i<s.length) (I:f<=i) (E:¬((s.getD i 0).toNat:Int)=32) (h:rows++cZ ((s.drop f).take (i-f)) (s.drop i)=cF s):
  rows++cZ ((s.drop f).take (i+1-f)) (s.drop (i+1))=cF s:=by
 rw[←h,nJ hi,cZ,if_neg (λe=>E (by rw[e];rfl))]
 congr 2
 have e:i+1-f=(i-f)+1:=by omega
 have F:i-f<(s.drop f).length:=by simp;omega
 rw[e,take_add_one,getElem?_eq_getElem F,getElem_drop]
 have D:f+(i-f)=i:=by omega
 simp[D,getD_eq_getElem?_getD,getElem?_eq_getElem hi]
section
variable (G:Glob)
set_option maxHeartbeats 2000000 in
def f270 (s:List UInt8) (hs:s.length<4294967281):Pure G Tryz.prog 270 [.str s] (.lst 1 ((cutW s).map srow)):=by
 refine Pure.w c270 λR Y=>?_;unfold s270 r270;(repeat' (first|(with_reducible (first|refine ae (λh=>?_) λh=>?_|refine af (λh=>?_) λh=>?_)<;>(try simp only[DZ]at h))|(with_reducible refine AI (by omega) ?_)|simp only[EV,seval]|(with_reducible intro D E;(try(have F:=E;simp only[EVK]at F;(have aa:=F))))|(refine⟨[],rfl,(by simp),rfl,?_⟩)|(refine gS (ι:=Nat×Nat×List (List UInt8)×Option Nat) (λp=>p.1<=s.length+1/\p.2.1<=p.1/\p.2.2.1.length<=p.1/\(p.1<=s.length->p.2.2.1++cZ ((s.drop p.2.1).take (p.1-p.2.1)) (s.drop p.1)=cF s)/\(s.length<p.1->p.2.2.1=cF s)) (λp=>s.length+1-p.1) (λp=>[(0,.str s),(3,.own p.2.2.2 9 1 (p.2.2.1.map srow)),(4,.i p.2.1),(5,.i p.1)]) (λp=>tokS p.2.2.2 9 p.2.2.1.length) (0,0,[],some D) ⟨Nat.zero_le _,Nat.le_refl _,Nat.le_refl _,λ_=>rfl,λh=>by simp at h⟩ (dT _ _) (λp M=>?_))|fail))
 ·exact Y _ _ (Or.inl (Or.inr ⟨rfl,by simp[cutW,h]⟩))
 ·rename_i V X h3 D hb
  rcases p with⟨i,f,rows,c⟩
  obtain⟨Z,N,p3,J,p5⟩:=M;simp only at*
  have hi:i<s.length:=by omega
  have I:IntKind.i64.wrap ((i:Int)+1)=((i+1:Nat):Int):=fF (by omega);refine aZ (n:=rows.length) (m':=rows.length+1) aS (by simp) (by omega) (by omega) rfl (by assumption) (by omega) (λT=>?_);rw[I];refine⟨(i+1,i+1,rows++[(s.take i).drop f],T),⟨by omega,Nat.le_refl _,by simp;omega,λ_=>cut_hit hi N (by assumption) (J (by omega)),λh=>by omega⟩,by simp only;omega,?_⟩
  have O:(rows++[(s.take i).drop f]).map srow=rows.map srow++[[AV.str ((s.take i).drop f)]]:=by simp[srow]
  simp only[O,length_append,length_cons,length_nil];exact Weak.of (by simp[cj,Env.get,AVle,aH]) (SubN.refl _)
 ·rename_i V X h3
  rcases p with⟨i,f,rows,c⟩
  obtain⟨Z,N,p3,J,p5⟩:=M;simp only at*
  have hi:i<s.length:=by omega
  have I:IntKind.i64.wrap ((i:Int)+1)=((i+1:Nat):Int):=fF (by omega);rw[I];refine⟨(i+1,f,rows,c),⟨by simp only;omega,by simp only;omega,by simp only;omega,λ_=>cut_miss hi N (by assumption) (J (by omega)),λh=>by omega⟩,by simp only;omega,?_⟩;exact dT _ _
 ·rename_i V X D hb
  rcases p with⟨i,f,rows,c⟩
  obtain⟨Z,N,p3,J,p5⟩:=M;simp only at*
  have hi:i=s.length:=by omega
  subst hi;have I:IntKind.i64.wrap ((s.length:Int)+1)=((s.length+1:Nat):Int):=fF (by omega);refine aZ (n:=rows.length) (m':=rows.length+1) aS (by simp) (by omega) (by omega) rfl (by assumption) (by omega) (λT=>?_);rw[I];refine⟨(s.length+1,s.length+1,rows++[(s.take s.length).drop f],T),⟨by omega,Nat.le_refl _,by simp;omega,λh=>by omega,λ_=>cut_end (J (by omega))⟩,by simp only;omega,?_⟩
  have O:(rows++[(s.take s.length).drop f]).map srow=rows.map srow++[[AV.str ((s.take s.length).drop f)]]:=by simp[srow]
  simp only[O,length_append,length_cons,length_nil];exact Weak.of (by simp[cj,Env.get,AVle,aH]) (SubN.refl _)
 ·rename_i h0;have e:=M.2.2.2.2 (by omega);exact Y _ _ (Or.inl (Or.inr ⟨rfl,by simp[cutW,h0,e]⟩))
def pR (s:List UInt8):(cutW s).length<=s.length+1:=by
 unfold cutW;split
 ·simp
 ·exact iQ s
def f172 (s:List UInt8) (J:s.length<4294967281):Pure G Tryz.prog 172 [.str s]
  (.tup (if (cutW s).all bj then (if 256<(cutW s).length then [.nil,.i 6]else [.lst 1 ((cutW s).map srow),.i 0])else [.nil,.i 2])):=by
 refine Pure.w c172 λR F=>?_
 unfold s172 r172
 have N:(cutW s).length<9000000000000000000:=by have:=pR s;omega
 (repeat' (first|(with_reducible (refine ae (λh=>?_) λh=>?_)<;>(try simp only[DZ]at h))|(with_reducible first|refine ab (f270 G s J) ?_|refine ab (f261 G _) ?_)|simp only[EV,seval,E.yes,E.le0,E.lt',E.get,E.row,M]|simp only[EV,seval,I]|simp only[EV,seval]|(refine ak E () ?_ (dT _ _))|(refine ap (cutW s) (λi r (c:Unit)=>(cutW s).all bj=r.all bj) (λi c=>[(4,.lst 1 ((cutW s).map srow)),(5,.i i)]) (λ_ _=>[]) () (by rfl) (dT _ _) (by omega) (λi x r c D E M=>?_) (λc D I=>?_))|fail))
 all_goals first|(rw[D];simp_all;done)|(refine RET.eq F ?_;first|(rw[if_pos (by rw[D];rfl),if_neg (by omega)];done)|(rw[if_pos (by rw[D];rfl),if_pos (by omega)];done)|(rw[if_neg (by rw[D];simp_all)];done))
def f97 (s:List UInt8) (N:s.length<4294967281):Pure G Tryz.prog 97 [.str s] (.bool (dy s)):=by
 refine Pure.w c97 λR F=>?_;unfold s97 r97;have D:=f172 G s N
 have O:(cutW s).length<9000000000000000000:=by have:=pR s;omega
 by_cases E:(cutW s).all bj=true
 ·by_cases M:256<(cutW s).length
  ·rw[if_pos E,if_pos M]at D;(repeat' (first|(with_reducible refine ab D ?_)|simp only[EV,seval]|fail))
   all_goals(refine RET.eq F (congrArg AV.bool ?_);simp[dy,E];omega)
  ·rw[if_pos E,if_neg M]at D;by_cases I:s=[]
   ·have J:decide ((0:Int)<((cutW s).length:Nat))=false:=by simp[cutW,I]
    (repeat' (first|(with_reducible refine ab D ?_)|simp only[EV,seval,J]|fail))
    all_goals(refine RET.eq F (congrArg AV.bool ?_);simp[dy,I];done)
   ·have J:decide ((0:Int)<((cutW s).length:Nat))=true:=by have:=kg s;simp[cutW,I];omega
    (repeat' (first|(with_reducible refine ab D ?_)|simp only[EV,seval,J]|fail))
    all_goals(refine RET.eq F (congrArg AV.bool ?_);simp_all[dy];done)
 ·rw[if_neg E]at D;(repeat' (first|(with_reducible refine ab D ?_)|simp only[EV,seval]|fail))
  all_goals(refine RET.eq F (congrArg AV.bool ?_);simp[dy,E];done)
end
def bq (s:Sta):Bool:=
 if s.kind=1 then inR s.day 0 1048576&&decide (s.event=[])else if s.kind=2 then decide (s.day=0)&&decide (s.event=[])else if s.kind=3 then decide (s.day=0)&&cQ s.event else false
section
variable (G:Glob)
def f98 (s:Sta):Pure G Tryz.prog 98 [.agg [.i s.kind,.i s.day,.str s.event]] (.bool (bq s)):=by
 refine Pure.w c98 λR E=>?_;unfold s98 r98;(repeat' (first|(with_reducible (first|refine ae (λh=>?_) λh=>?_|refine af (λh=>?_) λh=>?_|refine ax (λh=>?_) λh=>?_)<;>(try simp only[DZ]at h))|(with_reducible first|refine AI (by omega) ?_|refine ab (f71 G _ _ _) ?_|refine ab (f74 G _) ?_)|simp only[EV,seval]|(with_reducible intro J F;(try(have D:=F;simp only[EVK]at D;first|(have I:=AI D I)|(have I:=D))))|(with_reducible first|refine ag ?_ ?_|refine ai ?_)|(exfalso;omega)));(all_goals(first|(exact RET.eq E rfl)|rfl|(refine RET.eq E ?_;(refine congrArg AV.bool (Bool.eq_iff_iff.2 ?_);simp only[bq,EVB]at*;omega))|(refine RET.eq E ?_;first|(simp only[bq,hok,h,EVC,decide_true,decide_false];done)|(simp only[bq,hok,EVC,decide_true,decide_false];done)|(simp only[bq,hok,EVC,decide_true,decide_false];refine congrArg AV.bool (decide_eq_decide.2 ?_);omega)|(simp_all[bq];done)|(simp_all[bq];omega)|grind|(norm_cast at*;simp_all[bq];done)|(norm_cast at*;simp_all[bq];omega))|(refine E _ _ (Or.inl (Or.inr ⟨rfl,?_⟩));simp[bq];done)|(refine E _ _ (Or.inr ?_);simp[*,aW,aH,eH,hH,bq];done)|(rw[hok];simp only[bq,h,EVC,decide_true,decide_false];done)|(rw[hok];simp only[bq,EVC,decide_true,decide_false];done)|(simp_all[bq];done)|(simp_all[bq];omega)|grind|(norm_cast at*;simp_all[bq];done)|(norm_cast at*;simp_all[bq];omega)))
end
structure Ac where
 number:Int
 title:List UInt8
 day:Int
 start:Sta
 items:List Itm
def Ac.cs (a:Ac):List AV:=[.i a.number,.str a.title,.i a.day,.i a.start.kind,.i a.start.day,.str a.start.event,.lst 25 (a.items.map Itm.cs)]
def Ac.few (a:Ac):Bool:=decide (a.items.length<=40)&&decide (a.title.length<=300)&&decide (a.start.event.length<=100)&&a.items.all Itm.few
section
variable (G:Glob)
def f37 (a:Ac) (N:a.items.length<9000000000000000000) (I:∀x∈a.items,x.fit):Pure G Tryz.prog 37 [.agg a.cs] (.bool a.few):=by
 refine Pure.w c37 λR F=>?_;unfold s37 r37 Ac.cs;(repeat' (first|(with_reducible (first|refine ae (λh=>?_) λh=>?_|refine af (λh=>?_) λh=>?_)<;>(try simp only[DZ]at h))|(with_reducible refine ab (f52 G _ (I _ E.mem)) ?_)|simp only[EV,seval,E.yes,E.le0,E.lt',E.get,E.row,M]|simp only[EV,seval,J]|simp only[EV,seval]|(refine ak E () ?_ (dT _ _))|(refine ap (a.items) (λi r (c:Unit)=>a.items.all Itm.few=r.all Itm.few) (λi c=>[(1,.ref [.i a.number,.str a.title,.i a.day,.i a.start.kind,.i a.start.day,.str a.start.event,.lst 25 (a.items.map Itm.cs)]),(3,.i i)]) (λ_ _=>[]) () (by rfl) (dT _ _) (by omega) (λi x r c D E M=>?_) (λc D J=>?_))));(all_goals(first|(refine RET.eq F ?_;(refine congrArg AV.bool (Bool.eq_iff_iff.2 ?_);simp only[Ac.few,EVB]at*;omega))|(refine RET.eq F ?_;first|(simp only[Ac.few,D,h,EVC,decide_true,decide_false];done)|(simp_all[Ac.few];omega))|(rw[D];simp only[Ac.few,h,EVC,decide_true,decide_false];done)))
end
def Ac.may (a:Ac):Bool:=inR a.number 1 1048576&&dy a.title&&inR a.day 0 1048576&&bq a.start&&decide (a.items.length<=32)&&a.items.all Itm.may
section
variable (G:Glob)
def f45 (a:Ac) (O:a.title.length<4294967281) (V:a.items.length<9000000000000000000) (N:∀x∈a.items,x.Shorts):Pure G Tryz.prog 45 [.agg a.cs] (.bool a.may):=by
 refine Pure.w c45 λR F=>?_;unfold s45 r45 Ac.cs;have J:=f97 G a.title O;have I:=f98 G a.start;unfold Ac.may at F;generalize dy a.title=q1 at*;generalize bq a.start=q2 at*;(repeat' (first|(with_reducible (first|refine ae (λh=>?_) λh=>?_|refine af (λh=>?_) λh=>?_)<;>(try simp only[DZ]at h))|(with_reducible first|refine ab (f71 G _ _ _) ?_|refine ab J ?_|refine ab I ?_|refine ab (f30 G _ (N _ E.mem)) ?_)|simp only[EV,seval,E.yes,E.le0,E.lt',E.get,E.row,T]|simp only[EV,seval,M]|simp only[EV,seval]|(refine ak E () ?_ (dT _ _))|(refine ap (a.items) (λi r (c:Unit)=>a.items.all Itm.may=r.all Itm.may) (λi c=>[(1,.ref [.i a.number,.str a.title,.i a.day,.i a.start.kind,.i a.start.day,.str a.start.event,.lst 25 (a.items.map Itm.cs)]),(3,.i i)]) (λ_ _=>[]) () (by rfl) (dT _ _) (by omega) (λi x r c D E T=>?_) (λc D M=>?_))|fail));(all_goals(first|(refine RET.eq F ?_;(refine congrArg AV.bool (Bool.eq_iff_iff.2 ?_);simp only[EVB]at*;omega))|(refine RET.eq F ?_;first|(simp only[D,h,EVC,decide_true,decide_false];done)|(simp_all[];done)|(simp_all[];omega))|(rw[D];simp only[h,EVC,decide_true,decide_false];done)))
end
end Go.Av
