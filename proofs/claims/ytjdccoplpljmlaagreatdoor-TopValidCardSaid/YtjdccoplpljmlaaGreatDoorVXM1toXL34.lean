/-
  ENACT, M1: looks into trees: ways, units, parents, addresses' steps.
-/
import Derived.Test.YtjdccoplpljmlaaGreatDoorVXC4
import Derived.Test.YtjdccoplpljmlaaGreatDoorVXC5
import Derived.Test.YtjdccoplpljmlaaGreatDoorVXC6toXE3
import Derived.Test.YtjdccoplpljmlaaGreatDoorVXE10toXE13
import Derived.Test.YtjdccoplpljmlaaGreatDoorVXY10toXL27
import Derived.Test.YtjdccoplpljmlaaGreatDoorVXL29toXL28
import Derived.Test.YtjdccoplpljmlaaGreatDoorVXL30toXL32
import Derived.Test.YtjdccoplpljmlaaGreatDoorVXAv29toXAv33
namespace Go.Av
open Go Go.RowKit Go.Proofs List
set_option linter.unusedSimpArgs false
set_option linter.unusedVariables false
def fy:List U->AV
 |[]=>.nil
 |x::l=>.lst 8 ((x::l).map U.cs)
theorem nO {l:List U} (h:l≠[]):fy l= .lst 8 (l.map U.cs):=by cases l<;>simp_all[fy]
theorem fS:∀(i:Idd) (u:U),(U.way i u).length<=u.flat.length:=by
 intro i
 refine U.ind λu ih=>?_
 have h:∀us:List U,(∀k∈us,(U.way i k).length<=k.flat.length)->(U.ways i us).length<=(U.flats us).length:=by
  intro us
  induction us with
  |nil=>intro _;rw[U.ways_nil];simp
  |cons k us ihu=>
   intro h
   have E:=h k (by simp)
   have J:=ihu λk I=>h k (by simp[I])
   rw[U.ways_cons,aG,length_append]
   cases F:U.way i k with
   |nil=>simp only[orW];omega
   |cons x l=>rw[F]at E;simp only[orW];omega
 have E:=h u.kids ih
 rw[U.way_eq,U.flat_eq,length_cons]
 split
 ·simp
 ·cases F:U.ways i u.kids with
  |nil=>simp[fu]
  |cons x l=>rw[F]at E;simp only[fu,length_cons]at*;omega
theorem app_new {e:TypeId} {sz bytes m E:Nat} {σ:Store} {rows ys:List (List AV)} {K:AV->Store->Prop} (J:m=rows.length*sz)
  (M:(rows.length+ys.length)*bytes<=140737488355328) (I:∀F,K (.own F e sz (rows++ys)) (tokS F e ((rows++ys).length*sz))):appX e sz bytes ((E,.tok e m)::σ) (some E) rows ys K:=
 app_lst (m:=m) (λd h=>by injection h with h;subst h;simp[Store.get]) J rfl M I
theorem way_flat {t:Idd}:∀u:U,∀v∈U.way t u,v∈u.flat:=by
 refine U.ind λu ih v E=>?_
 have h:∀us:List U,(∀k∈us,∀v∈U.way t k,v∈k.flat)->∀v∈U.ways t us,v∈U.flats us:=by
  intro us
  induction us with
  |nil=>intro _ v E;rw[U.ways_nil]at E;cases E
  |cons k us ihu=>
   intro h v E
   rw[U.ways_cons]at E
   rw[aG,mem_append]
   cases F:U.way t k with
   |nil=>rw[F]at E;exact .inr (ihu (λk I=>h k (by simp[I])) v E)
   |cons x l=>rw[F]at E;exact .inl (h k (by simp) v (by rw[F];exact E))
 rw[U.way_eq]at E
 rw[U.flat_eq]
 split at E
 ·simp only[mem_singleton]at E;subst E;exact mem_cons_self ..
 ·cases F:U.ways t u.kids with
  |nil=>rw[F]at E;cases E
  |cons x l=>
   rw[F]at E
   rcases mem_cons.1 E with rfl|E
   ·exact mem_cons_self ..
   ·exact mem_cons_of_mem _ (h u.kids ih v (by rw[F];exact E))
section
variable (G:Glob)
theorem f323 (n:Int):Pure G Tryz.prog 323 [.int .i64 n] (.bool (inR n 0 3)):=by
 refine Pure.w c323 λR F=>?_
 unfold s323 r323
 (repeat' (first|(with_reducible (first|refine ab (λh=>?_) (λh=>?_)|refine ai (λh=>?_) (λh=>?_)|refine ak (λh=>?_) (λh=>?_))<;>(try simp only[DZ]at h))|(with_reducible refine AI (by omega) ?_)|simp only[EVz,seval,↓reduceIte,EV6,EV7]|(with_reducible intro M I;(try(have E:=I;simp only[EVK]at E;first|(have J:=AI E J)|(have J:=E))))|(with_reducible first|refine ae ?_ ?_|refine af ?_)|(exfalso;omega)))
 (all_goals(first|(exact RET.eq F rfl)|rfl|(refine RET.eq F ?_;(refine congrArg AV.bool (Bool.eq_iff_iff.2 ?_);simp only[inR,EVB]at*;omega))|(refine RET.eq F ?_;first|(simp only[inR,hok,h,EVC,decide_true,decide_false];done)|(simp only[inR,hok,EVC,decide_true,decide_false];done)|(simp only[inR,hok,EVC,decide_true,decide_false];refine congrArg AV.bool (decide_eq_decide.2 ?_);omega)|(simp_all[inR];done)|(simp_all[inR];omega)|grind|(norm_cast at*;simp_all[inR];done)|(norm_cast at*;simp_all[inR];omega))|(refine F _ _ (Or.inl (Or.inr ⟨rfl,?_⟩));simp[inR];done)|(refine F _ _ (Or.inr ?_);simp[*,br,aU,Itm.cs_eq,U.cs_eq,inR];done)|(rw[hok];simp only[inR,h,EVC,decide_true,decide_false];done)|(rw[hok];simp only[inR,EVC,decide_true,decide_false];done)|(simp_all[inR];done)|(simp_all[inR];omega)|grind|(norm_cast at*;simp_all[inR];done)|(norm_cast at*;simp_all[inR];omega)))
theorem f342 (u:U) (s:Stp):Pure G Tryz.prog 342 [.agg u.cs,.agg [.int .i64 s.kind,.str s.label]] (.bool (aK u s)):=by
 refine Pure.w c342 λR F=>?_
 unfold s342 r342
 (repeat' (first|(with_reducible (first|refine ab (λh=>?_) (λh=>?_)|refine ai (λh=>?_) (λh=>?_)|refine ak (λh=>?_) (λh=>?_))<;>(try simp only[DZ]at h))|(with_reducible refine AI (by omega) ?_)|simp only[EVz,seval,↓reduceIte,EV6,EV7]|(with_reducible intro M I;(try(have E:=I;simp only[EVK]at E;first|(have J:=AI E J)|(have J:=E))))|(with_reducible first|refine ae ?_ ?_|refine af ?_)|(exfalso;omega)))
 (all_goals(first|(exact RET.eq F rfl)|rfl|(refine RET.eq F ?_;(refine congrArg AV.bool (Bool.eq_iff_iff.2 ?_);simp only[aK,EVB]at*;omega))|(refine RET.eq F ?_;first|(simp only[aK,hok,h,EVC,decide_true,decide_false];done)|(simp only[aK,hok,EVC,decide_true,decide_false];done)|(simp only[aK,hok,EVC,decide_true,decide_false];refine congrArg AV.bool (decide_eq_decide.2 ?_);omega)|(simp_all[aK];done)|(simp_all[aK];omega)|grind|(norm_cast at*;simp_all[aK];done)|(norm_cast at*;simp_all[aK];omega))|(refine F _ _ (Or.inl (Or.inr ⟨rfl,?_⟩));simp[aK];done)|(refine F _ _ (Or.inr ?_);simp[*,br,aU,Itm.cs_eq,U.cs_eq,aK];done)|(rw[hok];simp only[aK,h,EVC,decide_true,decide_false];done)|(rw[hok];simp only[aK,EVC,decide_true,decide_false];done)|(simp_all[aK];done)|(simp_all[aK];omega)|grind|(norm_cast at*;simp_all[aK];done)|(norm_cast at*;simp_all[aK];omega)))
theorem f144 (j:Idd):∀(u:U),u.Tame->Pure G Tryz.prog 144 [.agg u.cs,.agg j.cs] (fy (U.way j u)):=by
 refine U.ind λu ih Z=>?_
 have ac:=Z.kids
 have hc:=Z.2
 have N:=fS j u
 refine Pure.w c144 λR O=>?_
 unfold s144 r144
 rw[U.way_eq]at O N
 by_cases Y:u.id=j
 ·have V:decide (u.id=j)=true:=decide_eq_true Y
  rw[if_pos Y]at O
  (repeat' (first|(with_reducible (first|refine ab (λh=>?_) (λh=>?_)|refine ai (λh=>?_) (λh=>?_)|refine ak (λh=>?_) (λh=>?_))<;>(try simp only[DZ]at h))|(with_reducible refine AI (by omega) ?_)|simp only[EVz,seval,↓reduceIte,EV6,EV7,idd_eq,V]|(with_reducible intro T F;(try(have E:=F;simp only[EVK]at E;first|(have I:=AI E I)|(have I:=E))))|(with_reducible first|refine ae ?_ ?_|refine af ?_)|(refine⟨[u.cs],rfl,(by simp[U.cs_len]),(by simp),?_⟩)|(exfalso;omega)))
  exact O _ _ (Or.inl (Or.inr ⟨rfl,rfl⟩))
 ·have V:decide (u.id=j)=false:=decide_eq_false Y
  rw[if_neg Y]at O N
  simp only[Idd.cs]at ih
  (repeat' (first|(with_reducible (first|refine ab (λh=>?_) (λh=>?_)|refine ai (λh=>?_) (λh=>?_)|refine ak (λh=>?_) (λh=>?_))<;>(try simp only[DZ]at h))|(with_reducible refine AI (by omega) ?_)|simp only[EVz,seval,↓reduceIte,EV6,EV7,idd_eq,V,M.yes,M.le0,M.lt',M.get,M.row,hw]|simp only[EVz,seval,↓reduceIte,EV6,EV7,idd_eq,V,hn]|simp only[EVz,seval,↓reduceIte,EV6,EV7,idd_eq,V]|(with_reducible intro T F;(try(have E:=F;simp only[EVK]at E;first|(have I:=AI E I)|(have I:=E))))|(with_reducible first|refine ae ?_ ?_|refine af ?_)|(refine am M () ?_ (Weak.rfl' _ _))|(refine am M () ?_ (Weak.sub (SubN.nil _)))|(refine ax (u.kids) (λi r (c:Unit)=>U.ways j u.kids=U.ways j r) (λi c=>[(2,.ref u.cs),(3,.ref j.cs),(15,.lst 8 (u.kids.map U.cs)),(16,.int .i64 u.kids.length),(17,.int .i64 i)]) (λ_ _=>[]) () (by first|rfl|(simp;done)|(simp[*];done)|(simp;omega)) (Weak.rfl' _ _) (by omega) (λi x r c J M hw=>?_) (λc J hn=>?_))|(exfalso;omega)))
  ·have h:=ih x M.mem (Z.kid M.mem)
   rw[U.ways_cons]at J
   cases X:U.way j x with
   |nil=>
    rw[X]at h J
    simp only[fy]at h
    (repeat' (first|(with_reducible (first|refine ab (λh=>?_) (λh=>?_)|refine ai (λh=>?_) (λh=>?_)|refine ak (λh=>?_) (λh=>?_))<;>(try simp only[DZ]at h))|(with_reducible first|refine AI (by omega) ?_|refine aa h ?_)|simp only[EVz,seval,↓reduceIte,EV6,EV7,hw]|(with_reducible intro T F;(try(have E:=F;simp only[EVK]at E;first|(have I:=AI E I)|(have I:=E))))|(with_reducible first|refine ae ?_ ?_|refine af ?_)|(exfalso;omega)))
    exact am M () J (Weak.sub (SubN.nil _))
   |cons y l=>
    rw[X]at h J
    simp only[fy,map_cons]at h
    (repeat' (first|(with_reducible (first|refine ab (λh=>?_) (λh=>?_)|refine ai (λh=>?_) (λh=>?_)|refine ak (λh=>?_) (λh=>?_))<;>(try simp only[DZ]at h))|(with_reducible first|refine AI (by omega) ?_|refine aa h ?_)|simp only[EVz,seval,↓reduceIte,EV6,EV7,hw]|(with_reducible intro T F;(try(have E:=F;simp only[EVK]at E;first|(have I:=AI E I)|(have I:=E))))|(with_reducible first|refine ae ?_ ?_|refine af ?_)|(refine⟨[u.cs],rfl,(by simp[U.cs_len]),(by simp),?_⟩)|(exfalso;omega)))
    ·have e:fu u (U.ways j u.kids)=u::y::l:=by rw[J];rfl
     rw[e]at O N
     simp only[length_cons]at N
     refine app_new (by simp) (by simp;omega) (λgn=>?_)
     exact O _ _ (Or.inl (Or.inr ⟨rfl,by simp⟩))
    ·have:=F (by simp)
     rw[this]at h
     cases h
  ·rw[J,U.ways_nil]at O
   exact RET.eq O rfl
theorem get_last {l:List U} {x y:U} (h:(x::l).getLast?=some y):((x::l).map U.cs).getD l.length []=y.cs:=by
 have:(x::l)[l.length]? =some y:=by
  rw[getLast?_eq_getElem?]at h
  simpa using h
 simp only[List.getD,getElem?_map,this,Option.map_some,Option.getD_some]
def ja (j:Idd) (u:U):AV:=if (U.way j u).isEmpty then .tup [.agg zU,.bool false]else .tup [.agg (fnd j u).cs,.bool true]
theorem f111 (j:Idd) (u:U) (V:u.Short):Pure G Tryz.prog 111 [.agg u.cs,.agg j.cs] (ja j u):=by
 have J:=f144 G j u V.1
 have N:=fS j u
 have hc:=V.1.2
 refine Pure.w c111 λR M=>?_
 unfold s111 r111
 unfold ja at M
 simp only[Idd.cs]at J ⊢
 cases O:U.way j u with
 |nil=>
  rw[O]at J M
  simp only[fy]at J
  (repeat' (first|(with_reducible (first|refine ab (λh=>?_) (λh=>?_)|refine ai (λh=>?_) (λh=>?_)|refine ak (λh=>?_) (λh=>?_))<;>(try simp only[DZ]at h))|(with_reducible first|refine AI (by omega) ?_|refine aa J ?_)|simp only[EVz,seval,↓reduceIte,EV6,EV7]|(with_reducible intro T F;(try(have E:=F;simp only[EVK]at E;first|(have I:=AI E I)|(have I:=E))))|(with_reducible first|refine ae ?_ ?_|refine af ?_)|(exfalso;omega)))
  exact M _ _ (Or.inl (Or.inl rfl))
 |cons x l=>
  obtain⟨y,Y⟩:∃y,(x::l).getLast?=some y:=⟨_,getLast?_eq_some_getLast (by simp)⟩
  have hf:fnd j u=y:=aQ (by rw[O];exact Y)
  have Z:y.Short:=V.node (way_flat u y (by rw[O];exact mem_of_getLast? Y))
  have hg:=get_last Y
  have hC:=kD.freeze (f145 G y Z)
  rw[O]at J M N
  rw[hf]at M
  simp only[fy,map_cons]at J hg
  simp only[length_cons]at N
  have X:IntKind.i64.wrap (((l.length+1:Nat):Int)-1)=(l.length:Int):=by rw[av (by omega) (by omega)];omega
  (repeat' (first|(with_reducible (first|refine ab (λh=>?_) (λh=>?_)|refine ai (λh=>?_) (λh=>?_)|refine ak (λh=>?_) (λh=>?_))<;>(try simp only[DZ]at h))|(with_reducible first|refine AI (by omega) ?_|refine aa J ?_|refine aa hC ?_)|simp only[EVz,seval,↓reduceIte,EV6,EV7,X,hg]|(with_reducible intro T F;(try(have E:=F;simp only[EVK]at E;first|(have I:=AI E I)|(have I:=E))))|(with_reducible first|refine ae ?_ ?_|refine af ?_)|(exfalso;omega)))
  exact M _ _ (Or.inl (Or.inl rfl))
end
section
variable (G:Glob)
end
section
variable (G:Glob)
end
theorem cU {G:Glob} {P:Program} {f:Value} {args:List AV} {σ:Store} {K:AV->Store->Prop} {t:Tag K} {v:AV}
  (h:cn G P f args σ λr σ'=>r=v/\σ'=σ) (E:K v σ):CALL G P f args σ K t:=
 aP σ [] h (aA.rfl' _) (by rw[append_nil];exact SubN.refl _) (by rintro _ _ ⟨rfl,rfl⟩;rw[append_nil];exact E)
theorem aj.wk {G:Glob} {P:Program} {k:FuncId} {args:List AV} {σ:Store} {r:AV} {g:List Nat} {E:List (Nat×Option (Bool×Nat))} {s:SCode} (F:fnAt P k g=some (E,s))
  (h:∀R,(∀x σ',AVle x r->SubN σ σ'->RET x σ' R)->W G P s (retQ E R) (cO 0 args) σ ⟨⟩):aj G P k args σ λx σ'=>x=r/\σ'=σ:=
 aj.at F (h _ λx σ' J I=>⟨r,σ,J,I,rfl,rfl⟩)
section
variable (G:Glob)
end
section
variable (G:Glob)
theorem f178 (f:Value) (a b:List Itm) (ha:a.length<9000000000000000000) (Z:∀x∈a,∀y,dV G Tryz.prog f [.agg x.cs,.agg y.cs] (.bool (decide (x=y)))):
  Pure G Tryz.prog 178 [.lst 25 (a.map Itm.cs),.lst 25 (b.map Itm.cs),.sc f] (.bool (decide (a=b))):=by
 refine Pure.w c178 λR V=>?_
 unfold s178 r178
 by_cases O:a.length=b.length
 ·have M:decide ((a.length:Int)≠(b.length:Int))=false:=by simp[O]
  (repeat' (first|(with_reducible (refine ab (λh=>?_) (λh=>?_))<;>(try simp only[DZ]at h))|(with_reducible refine AI (by omega) ?_)|simp only[EVz,seval,↓reduceIte,EV6,EV7,M,E.yes,E.le0,E.lt',E.get,E.row,X,T.row,T.lt',F]|simp only[EVz,seval,↓reduceIte,EV6,EV7,M,E.yes,E.le0,E.lt',E.get,E.row,X,T.row,T.lt']|simp only[EVz,seval,↓reduceIte,EV6,EV7,M,hn]|simp only[EVz,seval,↓reduceIte,EV6,EV7,M]|(with_reducible intro Y N;(try(have I:=N;simp only[EVK]at I;first|(have F:=AI I F)|(have F:=I))))|(refine am E () ?_ (Weak.sub (SubN.nil _)))|(refine aD (Z _ E.mem y) ?_)|(refine ax (a) (λi r (c:Unit)=>a.length=b.length/\decide (a=b)=decide (r=b.drop i)) (λi c=>[(1,.lst 25 (b.map Itm.cs)),(2,.sc f),(15,.lst 25 (a.map Itm.cs)),(16,.int .i64 a.length),(17,.int .i64 i)]) (λ_ _=>[]) () (by((simp[*];done))) (Weak.rfl' _ _) (by omega) (λi x r c J E X=>?_) (λc J hn=>?_)<;>(try(obtain⟨y,r2,T,ac,J⟩:=eV J E)))))
  (all_goals(first|(refine RET.eq V ?_;((simp_all[O];done)))|(simp_all[O];done)))
 ·have M:decide ((a.length:Int)≠(b.length:Int))=true:=by simp;omega
  rw[dec_len O]at V
  (repeat' (simp only[EVz,seval,↓reduceIte,EV6,EV7,M]))
  (all_goals((exact RET.eq V rfl)))
set_option maxHeartbeats 4000000 in
theorem f120:∀(a:Itm),a.fit->∀b:Itm,Pure G Tryz.prog 120 [.agg a.cs,.agg b.cs] (.bool (decide (a=b))):=by
 refine Itm.ind λa ih E b=>?_
 obtain⟨N,O,J,T,V,X,M⟩:=(Itm.fit_eq a).1 E
 refine Pure.w c120 λR F=>?_
 unfold s120 r120
 (repeat' (first|(with_reducible (refine ai (λh=>?_) (λh=>?_))<;>(try simp only[DZ]at h))|(with_reducible first|refine aa (f176 G _ _ (by omega)) ?_|refine aa (f88 G _ _ (by omega)) ?_|refine aa (f177 G a.unit J b.unit) ?_|refine aa (f178 G _ _ _ (by omega) (λx I y=>(ih x I (M x I) y).v)) ?_)|simp only[EVz,seval,↓reduceIte,EV6,EV7,U.cs_fold]))
 all_goals first
  |(refine RET.eq F (congrArg AV.bool (Eq.symm (decide_eq_false ?_)));rintro rfl;first|exact absurd rfl h|exact absurd rfl ‹¬_=_› |exact sta_ne (by assumption) rfl)
  |(refine RET.eq F (congrArg AV.bool (decide_eq_decide.2 ⟨λe=>?_,λe=>by rw[e]⟩))
    exact Itm.ext' (by assumption) (by assumption) (by assumption) (by assumption) (by assumption) (by assumption) (by assumption) (by assumption) (by assumption) (by assumption) (sta_eq (by assumption)) (by assumption) (by assumption) (by assumption) (by assumption) e)
  |trace_state
end
theorem bZ (n:Int):∀τ w v,Rep τ w (.int .i64 n) v->v=intK n:=by
 intro τ w v h
 simp only[Rep]at h
 exact h
theorem eQ:∀τ w,Rep τ w (.agg [.sc .nilFunc,.sc .nilFunc]) (.agg #[.nilFunc,.nilFunc]):=by
 intro τ w
 simp only[Rep,RepL]
 refine⟨_,rfl,by simp[Value.oneCell'],_,_,rfl,rfl,_,_,rfl,rfl,rfl⟩
theorem fd {x:Itm} {cs:List AV} (h:br cs x.told.cs):aA [.agg x.cs,.agg cs] [.agg x.cs,.agg x.told.cs]:=⟨AVle.rfl' _,.inr h,trivial⟩
section
variable (G:Glob) (hG:GOk G)
include hG
set_option maxHeartbeats 4000000 in
theorem valid_0 (x:Itm) (q:x.Short1) (O:x.kind=0):Pure G Tryz.prog 67 [.agg x.cs] (.bool x.may):=by
 have M:=f115 G hG
 have X:=f150 G x
 have Y:=Itm.cs_eq {iz with wh:=x.wh,unit:=x.unit}
 simp only[iz,map_nil]at Y
 simp only[iz]at X
 rw[Y]at X
 have hM:=f151 G hG x q.unit
 have hE:=f120 G x q.fit x.told
 have F:aN (0:Int) aF=some (.agg [fnv 150,fnv 151]):=by simp[aN,aF]
 have hi:=f116 G (0:Int)
 rw[show inR (0:Int) 0 6=true from by decide]at hi
 refine Pure.w c67 λR J=>?_
 unfold s67 r67
 rw[Itm.may_eq]at J
 unfold Itm.pre at J
 generalize decide (x=x.told)=e at*
 have T:inR x.kind 0 11=true:=by rw[O];decide
 have V:x.own (Itm.mayOne x.by_)=(inR x.wh 0 3&&(bareOk x.unit&&(decide (x.unit.kind≠0)&&decide ((textOf x.unit).2=0)))):=by unfold Itm.own;simp[O]
 rw[V,T]at J
 (repeat' (first|(with_reducible (first|refine ab (λh=>?_) (λh=>?_)|refine ai (λh=>?_) (λh=>?_))<;>(try simp only[DZ]at h))|(with_reducible first|refine aa (f117 G _ q.at_) ?_|refine aa (f118 G _ q.for_) ?_|refine aa (f119 G _ q.start) ?_|refine aa X ?_|refine aa hM ?_|refine aa hi ?_)|simp only[EVz,seval,↓reduceIte,EV6,EV7,O,F,Option.getD_some,Option.isSome_some,fnv,U.cs_fold,E]|simp only[EVz,seval,↓reduceIte,EV6,EV7,O,F,Option.getD_some,Option.isSome_some,fnv,U.cs_fold]|(with_reducible intro ac N;(try(have I:=N;simp only[EVK]at I;first|(have E:=AI I E)|(have E:=I))))|(with_reducible first|refine ae ?_ ?_|refine af ?_)|(refine ay [] _ M.v (aA.rfl' _) (SubN.refl _) (λr σ' hh Z=>?_);obtain⟨bm,rfl,rfl⟩:=hh;(have E:=Z);(try simp[Store.keys]at E))|(refine aC bE (l:=aF) (k:=0) (z:=.agg #[.nilFunc,.nilFunc]) (zv:=.agg [.sc .nilFunc,.sc .nilFunc]) (eT:=149) rfl (bZ _) (by kernel_rfl) (by first|exact aH|(simp[Store.get, *];done)) (by kernel_rfl) eQ ?_)|(refine aI hE (fd (by rw[Itm.cs_eq];simp[br,aU,Itm.told,Itm.just,iz,O])) ?_)))
 all_goals(refine RET.eq J (congrArg AV.bool ?_);clear J X Y hM hE M hi F V T q)
 all_goals(try(first
  |exact absurd h (by decide)
  |(simp[*];done)
  |(simp[*,Bool.and_assoc];done)
  |(simp_all;done)))
set_option maxHeartbeats 4000000 in
theorem valid_1 (x:Itm) (q:x.Short1) (O:x.kind=1):Pure G Tryz.prog 67 [.agg x.cs] (.bool x.may):=by
 have M:=f115 G hG
 have X:=f154 G x
 have Y:=Itm.cs_eq iz
 simp only[iz,map_nil]at Y
 simp only[iz]at X
 rw[Y]at X
 have hM:=f155 G x
 have hE:=f120 G x q.fit x.told
 have F:aN (1:Int) aF=some (.agg [fnv 154,fnv 155]):=by simp[aN,aF]
 have hi:=f116 G (1:Int)
 rw[show inR (1:Int) 0 6=true from by decide]at hi
 refine Pure.w c67 λR J=>?_
 unfold s67 r67
 rw[Itm.may_eq]at J
 unfold Itm.pre at J
 generalize decide (x=x.told)=e at*
 have T:inR x.kind 0 11=true:=by rw[O];decide
 have V:x.own (Itm.mayOne x.by_)=true:=by unfold Itm.own;simp[O]
 rw[V,T]at J
 (repeat' (first|(with_reducible (first|refine ab (λh=>?_) (λh=>?_)|refine ai (λh=>?_) (λh=>?_))<;>(try simp only[DZ]at h))|(with_reducible first|refine aa (f117 G _ q.at_) ?_|refine aa (f118 G _ q.for_) ?_|refine aa (f119 G _ q.start) ?_|refine aa X ?_|refine aa hM ?_|refine aa hi ?_)|simp only[EVz,seval,↓reduceIte,EV6,EV7,O,F,Option.getD_some,Option.isSome_some,fnv,U.cs_fold,E]|simp only[EVz,seval,↓reduceIte,EV6,EV7,O,F,Option.getD_some,Option.isSome_some,fnv,U.cs_fold]|(with_reducible intro ac N;(try(have I:=N;simp only[EVK]at I;first|(have E:=AI I E)|(have E:=I))))|(with_reducible first|refine ae ?_ ?_|refine af ?_)|(refine ay [] _ M.v (aA.rfl' _) (SubN.refl _) (λr σ' hh Z=>?_);obtain⟨bm,rfl,rfl⟩:=hh;(have E:=Z);(try simp[Store.keys]at E))|(refine aC bE (l:=aF) (k:=1) (z:=.agg #[.nilFunc,.nilFunc]) (zv:=.agg [.sc .nilFunc,.sc .nilFunc]) (eT:=149) rfl (bZ _) (by kernel_rfl) (by first|exact aH|(simp[Store.get, *];done)) (by kernel_rfl) eQ ?_)|(refine aI hE (fd (by rw[Itm.cs_eq];simp[br,aU,Itm.told,Itm.just,iz,O])) ?_)))
 all_goals(refine RET.eq J (congrArg AV.bool ?_);clear J X Y hM hE M hi F V T q)
 all_goals(try(first
  |exact absurd h (by decide)
  |(simp[*];done)
  |(simp[*,Bool.and_assoc];done)
  |(simp_all;done)))
set_option maxHeartbeats 4000000 in
theorem valid_2 (x:Itm) (q:x.Short1) (O:x.kind=2):Pure G Tryz.prog 67 [.agg x.cs] (.bool x.may):=by
 have M:=f115 G hG
 have X:=f156 G x
 have Y:=Itm.cs_eq {iz with old:=x.old,new:=x.new,nth:=x.nth}
 simp only[iz,map_nil]at Y
 simp only[iz]at X
 rw[Y]at X
 have hM:=f157 G x q
 have hE:=f120 G x q.fit x.told
 have F:aN (2:Int) aF=some (.agg [fnv 156,fnv 157]):=by simp[aN,aF]
 have hi:=f116 G (2:Int)
 rw[show inR (2:Int) 0 6=true from by decide]at hi
 refine Pure.w c67 λR J=>?_
 unfold s67 r67
 rw[Itm.may_eq]at J
 unfold Itm.pre at J
 generalize decide (x=x.told)=e at*
 have T:inR x.kind 0 11=true:=by rw[O];decide
 have V:x.own (Itm.mayOne x.by_)=(cV x.old 1&&(cV x.new 0&&inR x.nth 0 256)):=by unfold Itm.own;simp[O]
 rw[V,T]at J
 (repeat' (first|(with_reducible (first|refine ab (λh=>?_) (λh=>?_)|refine ai (λh=>?_) (λh=>?_))<;>(try simp only[DZ]at h))|(with_reducible first|refine aa (f117 G _ q.at_) ?_|refine aa (f118 G _ q.for_) ?_|refine aa (f119 G _ q.start) ?_|refine aa X ?_|refine aa hM ?_|refine aa hi ?_)|simp only[EVz,seval,↓reduceIte,EV6,EV7,O,F,Option.getD_some,Option.isSome_some,fnv,U.cs_fold,E]|simp only[EVz,seval,↓reduceIte,EV6,EV7,O,F,Option.getD_some,Option.isSome_some,fnv,U.cs_fold]|(with_reducible intro ac N;(try(have I:=N;simp only[EVK]at I;first|(have E:=AI I E)|(have E:=I))))|(with_reducible first|refine ae ?_ ?_|refine af ?_)|(refine ay [] _ M.v (aA.rfl' _) (SubN.refl _) (λr σ' hh Z=>?_);obtain⟨bm,rfl,rfl⟩:=hh;(have E:=Z);(try simp[Store.keys]at E))|(refine aC bE (l:=aF) (k:=2) (z:=.agg #[.nilFunc,.nilFunc]) (zv:=.agg [.sc .nilFunc,.sc .nilFunc]) (eT:=149) rfl (bZ _) (by kernel_rfl) (by first|exact aH|(simp[Store.get, *];done)) (by kernel_rfl) eQ ?_)|(refine aI hE (fd (by rw[Itm.cs_eq];simp[br,aU,Itm.told,Itm.just,iz,O])) ?_)))
 all_goals(refine RET.eq J (congrArg AV.bool ?_);clear J X Y hM hE M hi F V T q)
 all_goals(try(first
  |exact absurd h (by decide)
  |(simp[*];done)
  |(simp[*,Bool.and_assoc];done)
  |(simp_all;done)))
set_option maxHeartbeats 4000000 in
theorem valid_3 (x:Itm) (q:x.Short1) (O:x.kind=3):Pure G Tryz.prog 67 [.agg x.cs] (.bool x.may):=by
 have M:=f115 G hG
 have X:=f160 G x
 have Y:=Itm.cs_eq {iz with old:=x.old,new:=x.new,nth:=x.nth}
 simp only[iz,map_nil]at Y
 simp only[iz]at X
 rw[Y]at X
 have hM:=f161 G x q
 have hE:=f120 G x q.fit x.told
 have F:aN (3:Int) aF=some (.agg [fnv 160,fnv 161]):=by simp[aN,aF]
 have hi:=f116 G (3:Int)
 rw[show inR (3:Int) 0 6=true from by decide]at hi
 refine Pure.w c67 λR J=>?_
 unfold s67 r67
 rw[Itm.may_eq]at J
 unfold Itm.pre at J
 generalize decide (x=x.told)=e at*
 have T:inR x.kind 0 11=true:=by rw[O];decide
 have V:x.own (Itm.mayOne x.by_)=(cV x.old 0&&(cV x.new 1&&(inR x.nth 0 256&&(decide (0<(x.old.length:Int))||decide (x.nth=0))))):=by unfold Itm.own;simp[O]
 rw[V,T]at J
 (repeat' (first|(with_reducible (first|refine ab (λh=>?_) (λh=>?_)|refine ai (λh=>?_) (λh=>?_))<;>(try simp only[DZ]at h))|(with_reducible first|refine aa (f117 G _ q.at_) ?_|refine aa (f118 G _ q.for_) ?_|refine aa (f119 G _ q.start) ?_|refine aa X ?_|refine aa hM ?_|refine aa hi ?_)|simp only[EVz,seval,↓reduceIte,EV6,EV7,O,F,Option.getD_some,Option.isSome_some,fnv,U.cs_fold,E]|simp only[EVz,seval,↓reduceIte,EV6,EV7,O,F,Option.getD_some,Option.isSome_some,fnv,U.cs_fold]|(with_reducible intro ac N;(try(have I:=N;simp only[EVK]at I;first|(have E:=AI I E)|(have E:=I))))|(with_reducible first|refine ae ?_ ?_|refine af ?_)|(refine ay [] _ M.v (aA.rfl' _) (SubN.refl _) (λr σ' hh Z=>?_);obtain⟨bm,rfl,rfl⟩:=hh;(have E:=Z);(try simp[Store.keys]at E))|(refine aC bE (l:=aF) (k:=3) (z:=.agg #[.nilFunc,.nilFunc]) (zv:=.agg [.sc .nilFunc,.sc .nilFunc]) (eT:=149) rfl (bZ _) (by kernel_rfl) (by first|exact aH|(simp[Store.get, *];done)) (by kernel_rfl) eQ ?_)|(refine aI hE (fd (by rw[Itm.cs_eq];simp[br,aU,Itm.told,Itm.just,iz,O])) ?_)))
 all_goals(refine RET.eq J (congrArg AV.bool ?_);clear J X Y hM hE M hi F V T q)
 all_goals(try(first
  |exact absurd h (by decide)
  |(simp[*];done)
  |(simp[*,Bool.and_assoc];done)
  |(simp_all;done)))
end
theorem iB (n:Int):∀τ w v,Rep τ w (.int .i64 n) v->v=intK n:=by
 intro τ w v h
 simp only[Rep]at h
 exact h
theorem fX:∀τ w,Rep τ w (.agg [.sc .nilFunc,.sc .nilFunc]) (.agg #[.nilFunc,.nilFunc]):=by
 intro τ w
 simp only[Rep,RepL]
 refine⟨_,rfl,by simp[Value.oneCell'],_,_,rfl,rfl,_,_,rfl,rfl,rfl⟩
theorem fp {x:Itm} {cs:List AV} (h:br cs x.told.cs):aA [.agg x.cs,.agg cs] [.agg x.cs,.agg x.told.cs]:=⟨AVle.rfl' _,.inr h,trivial⟩
section
variable (G:Glob) (hG:GOk G)
include hG
set_option maxHeartbeats 4000000 in
theorem valid_4 (x:Itm) (q:x.Short1) (O:x.kind=4):Pure G Tryz.prog 67 [.agg x.cs] (.bool x.may):=by
 have M:=f115 G hG
 have X:=f162 G x
 have Y:=Itm.cs_eq {iz with new:=x.new}
 simp only[iz,map_nil]at Y
 simp only[iz]at X
 rw[Y]at X
 have hM:=f163 G x q
 have hE:=f120 G x q.fit x.told
 have F:aN (4:Int) aF=some (.agg [fnv 162,fnv 163]):=by simp[aN,aF]
 have hi:=f116 G (4:Int)
 rw[show inR (4:Int) 0 6=true from by decide]at hi
 refine Pure.w c67 λR J=>?_
 unfold s67 r67
 rw[Itm.may_eq]at J
 unfold Itm.pre at J
 generalize decide (x=x.told)=e at*
 have T:inR x.kind 0 11=true:=by rw[O];decide
 have V:x.own (Itm.mayOne x.by_)=cV x.new 0:=by unfold Itm.own;simp[O]
 rw[V,T]at J
 (repeat' (first|(with_reducible (first|refine ab (λh=>?_) (λh=>?_)|refine ai (λh=>?_) (λh=>?_))<;>(try simp only[DZ]at h))|(with_reducible first|refine aa (f117 G _ q.at_) ?_|refine aa (f118 G _ q.for_) ?_|refine aa (f119 G _ q.start) ?_|refine aa X ?_|refine aa hM ?_|refine aa hi ?_)|simp only[EVz,seval,↓reduceIte,EV6,EV7,O,F,Option.getD_some,Option.isSome_some,fnv,U.cs_fold,E]|simp only[EVz,seval,↓reduceIte,EV6,EV7,O,F,Option.getD_some,Option.isSome_some,fnv,U.cs_fold]|(with_reducible intro ac N;(try(have I:=N;simp only[EVK]at I;first|(have E:=AI I E)|(have E:=I))))|(with_reducible first|refine ae ?_ ?_|refine af ?_)|(refine ay [] _ M.v (aA.rfl' _) (SubN.refl _) (λr σ' hh Z=>?_);obtain⟨bm,rfl,rfl⟩:=hh;(have E:=Z);(try simp[Store.keys]at E))|(refine aC bE (l:=aF) (k:=4) (z:=.agg #[.nilFunc,.nilFunc]) (zv:=.agg [.sc .nilFunc,.sc .nilFunc]) (eT:=149) rfl (iB _) (by kernel_rfl) (by first|exact aH|(simp[Store.get, *];done)) (by kernel_rfl) fX ?_)|(refine aI hE (fp (by rw[Itm.cs_eq];simp[br,aU,Itm.told,Itm.just,iz,O])) ?_)))
 all_goals(refine RET.eq J (congrArg AV.bool ?_);clear J X Y hM hE M hi F V T q)
 all_goals(try(first
  |exact absurd h (by decide)
  |(simp[*];done)
  |(simp[*,Bool.and_assoc];done)
  |(simp_all;done)))
set_option maxHeartbeats 4000000 in
theorem valid_5 (x:Itm) (q:x.Short1) (O:x.kind=5):Pure G Tryz.prog 67 [.agg x.cs] (.bool x.may):=by
 have M:=f115 G hG
 have X:=f164 G x
 have Y:=Itm.cs_eq {iz with label:=x.label}
 simp only[iz,map_nil]at Y
 simp only[iz]at X
 rw[Y]at X
 have hM:=f165 G x
 have hE:=f120 G x q.fit x.told
 have F:aN (5:Int) aF=some (.agg [fnv 164,fnv 165]):=by simp[aN,aF]
 have hi:=f116 G (5:Int)
 rw[show inR (5:Int) 0 6=true from by decide]at hi
 refine Pure.w c67 λR J=>?_
 unfold s67 r67
 rw[Itm.may_eq]at J
 unfold Itm.pre at J
 generalize decide (x=x.told)=e at*
 have T:inR x.kind 0 11=true:=by rw[O];decide
 have V:x.own (Itm.mayOne x.by_)=bc x.label:=by unfold Itm.own;simp[O]
 rw[V,T]at J
 (repeat' (first|(with_reducible (first|refine ab (λh=>?_) (λh=>?_)|refine ai (λh=>?_) (λh=>?_))<;>(try simp only[DZ]at h))|(with_reducible first|refine aa (f117 G _ q.at_) ?_|refine aa (f118 G _ q.for_) ?_|refine aa (f119 G _ q.start) ?_|refine aa X ?_|refine aa hM ?_|refine aa hi ?_)|simp only[EVz,seval,↓reduceIte,EV6,EV7,O,F,Option.getD_some,Option.isSome_some,fnv,U.cs_fold,E]|simp only[EVz,seval,↓reduceIte,EV6,EV7,O,F,Option.getD_some,Option.isSome_some,fnv,U.cs_fold]|(with_reducible intro ac N;(try(have I:=N;simp only[EVK]at I;first|(have E:=AI I E)|(have E:=I))))|(with_reducible first|refine ae ?_ ?_|refine af ?_)|(refine ay [] _ M.v (aA.rfl' _) (SubN.refl _) (λr σ' hh Z=>?_);obtain⟨bm,rfl,rfl⟩:=hh;(have E:=Z);(try simp[Store.keys]at E))|(refine aC bE (l:=aF) (k:=5) (z:=.agg #[.nilFunc,.nilFunc]) (zv:=.agg [.sc .nilFunc,.sc .nilFunc]) (eT:=149) rfl (iB _) (by kernel_rfl) (by first|exact aH|(simp[Store.get, *];done)) (by kernel_rfl) fX ?_)|(refine aI hE (fp (by rw[Itm.cs_eq];simp[br,aU,Itm.told,Itm.just,iz,O])) ?_)))
 all_goals(refine RET.eq J (congrArg AV.bool ?_);clear J X Y hM hE M hi F V T q)
 all_goals(try(first
  |exact absurd h (by decide)
  |(simp[*];done)
  |(simp[*,Bool.and_assoc];done)
  |(simp_all;done)))
set_option maxHeartbeats 4000000 in
theorem valid_6 (x:Itm) (q:x.Short1) (O:x.kind=6):Pure G Tryz.prog 67 [.agg x.cs] (.bool x.may):=by
 have M:=f115 G hG
 have X:=f166 G x
 have Y:=Itm.cs_eq {iz with to_:=x.to_,wh:=x.wh}
 simp only[iz,map_nil]at Y
 simp only[iz]at X
 rw[Y]at X
 have hM:=f167 G x q
 have hE:=f120 G x q.fit x.told
 have F:aN (6:Int) aF=some (.agg [fnv 166,fnv 167]):=by simp[aN,aF]
 have hi:=f116 G (6:Int)
 rw[show inR (6:Int) 0 6=true from by decide]at hi
 refine Pure.w c67 λR J=>?_
 unfold s67 r67
 rw[Itm.may_eq]at J
 unfold Itm.pre at J
 generalize decide (x=x.told)=e at*
 have T:inR x.kind 0 11=true:=by rw[O];decide
 have V:x.own (Itm.mayOne x.by_)=(inR x.wh 0 3&&dP x.to_):=by unfold Itm.own;simp[O]
 rw[V,T]at J
 (repeat' (first|(with_reducible (first|refine ab (λh=>?_) (λh=>?_)|refine ai (λh=>?_) (λh=>?_))<;>(try simp only[DZ]at h))|(with_reducible first|refine aa (f117 G _ q.at_) ?_|refine aa (f118 G _ q.for_) ?_|refine aa (f119 G _ q.start) ?_|refine aa X ?_|refine aa hM ?_|refine aa hi ?_)|simp only[EVz,seval,↓reduceIte,EV6,EV7,O,F,Option.getD_some,Option.isSome_some,fnv,U.cs_fold,E]|simp only[EVz,seval,↓reduceIte,EV6,EV7,O,F,Option.getD_some,Option.isSome_some,fnv,U.cs_fold]|(with_reducible intro ac N;(try(have I:=N;simp only[EVK]at I;first|(have E:=AI I E)|(have E:=I))))|(with_reducible first|refine ae ?_ ?_|refine af ?_)|(refine ay [] _ M.v (aA.rfl' _) (SubN.refl _) (λr σ' hh Z=>?_);obtain⟨bm,rfl,rfl⟩:=hh;(have E:=Z);(try simp[Store.keys]at E))|(refine aC bE (l:=aF) (k:=6) (z:=.agg #[.nilFunc,.nilFunc]) (zv:=.agg [.sc .nilFunc,.sc .nilFunc]) (eT:=149) rfl (iB _) (by kernel_rfl) (by first|exact aH|(simp[Store.get, *];done)) (by kernel_rfl) fX ?_)|(refine aI hE (fp (by rw[Itm.cs_eq];simp[br,aU,Itm.told,Itm.just,iz,O])) ?_)))
 all_goals(refine RET.eq J (congrArg AV.bool ?_);clear J X Y hM hE M hi F V T q)
 all_goals(try(first
  |exact absurd h (by decide)
  |(simp[*];done)
  |(simp[*,Bool.and_assoc];done)
  |(simp_all;done)))
set_option maxHeartbeats 4000000 in
theorem valid_7 (x:Itm) (q:x.Short1) (O:x.kind=7):Pure G Tryz.prog 67 [.agg x.cs] (.bool x.may):=by
 have M:=f115 G hG
 have X:=f422 G x
 have Y:=Itm.cs_eq {iz with act:=x.act,item:=x.item,day:=x.day}
 simp only[iz,map_nil]at Y
 simp only[iz]at X
 rw[Y]at X
 have hM:=f423 G x
 have hE:=f120 G x q.fit x.told
 have F:aN (7:Int) aF=some (.agg [fnv 422,fnv 423]):=by simp[aN,aF]
 have hi:=f116 G (7:Int)
 rw[show inR (7:Int) 0 6=false from by decide]at hi
 refine Pure.w c67 λR J=>?_
 unfold s67 r67
 rw[Itm.may_eq]at J
 unfold Itm.pre at J
 generalize decide (x=x.told)=e at*
 have T:inR x.kind 0 11=true:=by rw[O];decide
 have V:x.own (Itm.mayOne x.by_)=(inR x.act 1 1048576&&(inR x.item (-1) 31&&inR x.day 0 1048576)):=by unfold Itm.own;simp[O]
 rw[V,T]at J
 (repeat' (first|(with_reducible (refine ai (λh=>?_) (λh=>?_))<;>(try simp only[DZ]at h))|(with_reducible first|refine aa X ?_|refine aa hM ?_|refine aa hi ?_)|simp only[EVz,seval,↓reduceIte,EV6,EV7,O,F,Option.getD_some,Option.isSome_some,fnv,U.cs_fold,E]|simp only[EVz,seval,↓reduceIte,EV6,EV7,O,F,Option.getD_some,Option.isSome_some,fnv,U.cs_fold]|(with_reducible intro ac N;(try(have I:=N;simp only[EVK]at I;first|(have E:=AI I E)|(have E:=I))))|(with_reducible first|refine ae ?_ ?_|refine af ?_)|(refine ay [] _ M.v (aA.rfl' _) (SubN.refl _) (λr σ' hh Z=>?_);obtain⟨bm,rfl,rfl⟩:=hh;(have E:=Z);(try simp[Store.keys]at E))|(refine aC bE (l:=aF) (k:=7) (z:=.agg #[.nilFunc,.nilFunc]) (zv:=.agg [.sc .nilFunc,.sc .nilFunc]) (eT:=149) rfl (iB _) (by kernel_rfl) (by first|exact aH|(simp[Store.get, *];done)) (by kernel_rfl) fX ?_)|(refine aI hE (fp (by rw[Itm.cs_eq];simp[br,aU,Itm.told,Itm.just,iz,O])) ?_)))
 all_goals(refine RET.eq J (congrArg AV.bool ?_);clear J X Y hM hE M hi F V T q)
 all_goals(try(first
  |exact absurd h (by decide)
  |(simp[*];done)
  |(simp[*,Bool.and_assoc];done)
  |(simp_all;done)))
end
end Go.Av
