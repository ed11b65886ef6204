/-
  LINT, 32: the table of rules.
-/
import Derived.Test.YtnoakpkjccigoaaGreatDoorVXL28toXL31
import Derived.Test.YtnoakpkjccigoaaGreatDoorVXE1toXL25
import Derived.Test.YtnoakpkjccigoaaGreatDoorVXE8toXE11
import Derived.Lib.ItoaLen
namespace Go.Av
open Go Go.RowKit Go.Proofs List
set_option linter.unusedSimpArgs false
set_option linter.unusedVariables false
def fnv (k:Nat):AV:=.sc (.func (.func k) #[] #[])
def intK (n:Int):Value:=.int .i64 n
def aJ:List (Int×AV):=[(0,.agg [fnv 165,fnv 166]),(1,.agg [fnv 169,fnv 170]),(2,.agg [fnv 171,fnv 172]),(3,.agg [fnv 175,fnv 176]),
 (4,.agg [fnv 177,fnv 178]),(5,.agg [fnv 179,fnv 180]),(6,.agg [fnv 181,fnv 182]),(7,.agg [fnv 353,fnv 354]),(8,.agg [fnv 353,fnv 354]),
 (9,.agg [fnv 353,fnv 354]),(10,.agg [fnv 183,fnv 184]),(11,.agg [fnv 186,fnv 187])]
theorem aQ {b:Nat} {x:AObj} {σ:Store}:Store.get ((b,x)::σ) b=some x:=by simp[Store.get]
theorem bg:MapK Tryz.prog 3 intK:=mapK_int (by kernel_rfl)
theorem fT {G:Glob} {env:Env} (n:Int):∀τ w v,Rep τ w ((SOpd.of (.const (.int .i64 n))).eval G env) v->v=intK n:=by
 intro τ w v h
 have D:v= .int .i64 n:=by simpa only[SOpd.of,SOpd.eval,AV.ofValue,AV.ofOne,Rep]using h
 exact D
section
variable (G:Glob) (hG:GOk G)
include hG
theorem f99:ag G Tryz.prog 99 [] [] (λr σ=>∃b,r= .sc (.map (some b))/\σ=[(b,.map (cl intK aJ))]):=by
 have D:=eval_g hG.order
 refine ag.w c99 ?_
 unfold s99 r99
 (try simp only[EVz,seval,↓reduceIte,EV6,EV7])
 refine cV ?_
 intro b E
 (try simp only[EVz,seval,↓reduceIte,EV6,EV7])
 refine cA bg (l:=[]) (k:=0) (eT:=142) rfl (fT 0) rfl (by kernel_rfl) aQ ?_
 (repeat' (first|simp only[EVz,seval,↓reduceIte,EV6,EV7,D]|(refine cA bg (eT:=142) rfl (fT _) rfl (by kernel_rfl) aQ ?_)))
 exact RET.mk (SubN.refl _) ⟨b,rfl,rfl⟩
end
section
variable (G:Glob)
theorem f194 (f:Value) (a b:List Itm) (ha:a.length<9000000000000000000) (Z:∀x∈a,∀y,eZ G Tryz.prog f [.agg x.cs,.agg y.cs] (.bool (decide (x=y)))):
  Pure G Tryz.prog 194 [.lst 25 (a.map Itm.cs),.lst 25 (b.map Itm.cs),.sc f] (.bool (decide (a=b))):=by
 refine Pure.w c194 λR M=>?_
 unfold s194 r194
 by_cases E:a.length=b.length
 ·have O:decide ((a.length:Int)≠(b.length:Int))=false:=by simp[E]
  (repeat' (first|(with_reducible (first|refine ab (λh=>?_) (λh=>?_)|refine ai (λh=>?_) (λh=>?_)|refine aj (λh=>?_) (λh=>?_))<;>(try simp only[DZ]at h))|(with_reducible refine AI (by omega) ?_)|simp only[EVz,seval,↓reduceIte,EV6,EV7,O,J.yes,J.le0,J.lt',J.get,J.row,Y,T.row,T.lt',F]|simp only[EVz,seval,↓reduceIte,EV6,EV7,O,X,F]|simp only[EVz,seval,↓reduceIte,EV6,EV7,O,F]|simp only[EVz,seval,↓reduceIte,EV6,EV7,O,J.yes,J.le0,J.lt',J.get,J.row,Y,T.row,T.lt']|simp only[EVz,seval,↓reduceIte,EV6,EV7,O,X]|simp only[EVz,seval,↓reduceIte,EV6,EV7,O]|(with_reducible intro V N;(try(have I:=N;simp only[EVK]at I;first|(have F:=AI I F)|(have F:=I))))|(with_reducible first|refine ae ?_ ?_|refine af ?_)|(refine ap J () ?_ (Weak.rfl' _ _))|(refine ap J () ?_ (Weak.sub (SubN.nil _)))|(refine aI (Z _ J.mem y) ?_)|(refine ay (a) (λi r (c:Unit)=>a.length=b.length/\decide (a=b)=decide (r=b.drop i)) (λi c=>[(1,.lst 25 (b.map Itm.cs)),(2,.sc f),(15,.lst 25 (a.map Itm.cs)),(16,.int .i64 a.length),(17,.int .i64 i)]) (λ_ _=>[]) () (by first|rfl|(simp;done)|(simp[*];done)|(simp;omega)) (Weak.rfl' _ _) (by omega) (λi x r c D J Y=>?_) (λc D X=>?_)<;>(try(obtain⟨y,r2,T,ac,D⟩:=dv D J)))|(exfalso;omega)))
  (all_goals(first|(exact RET.eq M rfl)|rfl|(refine RET.eq M ?_;(refine congrArg AV.bool (Bool.eq_iff_iff.2 ?_);simp only[E,EVB]at*;omega))|(refine RET.eq M ?_;first|(simp only[E,D,h,EVC,decide_true,decide_false];done)|(simp only[E,D,EVC,decide_true,decide_false];done)|(simp only[E,D,EVC,decide_true,decide_false];refine congrArg AV.bool (decide_eq_decide.2 ?_);omega)|(simp_all[E];done)|(simp_all[E];omega)|grind|(norm_cast at*;simp_all[E];done)|(norm_cast at*;simp_all[E];omega))|(refine M _ _ (Or.inl (Or.inr ⟨rfl,?_⟩));simp[E];done)|(refine M _ _ (Or.inr ?_);simp[*,bc,aR,Itm.cs_eq,U.cs_eq,E];done)|(rw[D];simp only[E,h,EVC,decide_true,decide_false];done)|(rw[D];simp only[E,EVC,decide_true,decide_false];done)|(simp_all[E];done)|(simp_all[E];omega)|grind|(norm_cast at*;simp_all[E];done)|(norm_cast at*;simp_all[E];omega)))
 ·have O:decide ((a.length:Int)≠(b.length:Int))=true:=by simp;omega
  rw[mD E]at M
  (repeat' (first|(with_reducible (first|refine ab (λh=>?_) (λh=>?_)|refine ai (λh=>?_) (λh=>?_)|refine aj (λh=>?_) (λh=>?_))<;>(try simp only[DZ]at h))|(with_reducible refine AI (by omega) ?_)|simp only[EVz,seval,↓reduceIte,EV6,EV7,O]|(with_reducible intro V N;(try(have I:=N;simp only[EVK]at I;first|(have F:=AI I F)|(have F:=I))))|(with_reducible first|refine ae ?_ ?_|refine af ?_)|(exfalso;omega)))
  (all_goals(first|(exact RET.eq M rfl)|rfl|(refine RET.eq M ?_;(refine congrArg AV.bool (Bool.eq_iff_iff.2 ?_);simp only[EVB]at*;omega))|(refine RET.eq M ?_;first|(simp only[D,h,EVC,decide_true,decide_false];done)|(simp only[D,EVC,decide_true,decide_false];done)|(simp only[D,EVC,decide_true,decide_false];refine congrArg AV.bool (decide_eq_decide.2 ?_);omega)|(simp_all[];done)|(simp_all[];omega)|grind|(norm_cast at*;simp_all[];done)|(norm_cast at*;simp_all[];omega))|(refine M _ _ (Or.inl (Or.inr ⟨rfl,?_⟩));simp[];done)|(refine M _ _ (Or.inr ?_);simp[*,bc,aR,Itm.cs_eq,U.cs_eq,];done)|(rw[D];simp only[h,EVC,decide_true,decide_false];done)|(rw[D];simp only[EVC,decide_true,decide_false];done)|(simp_all[];done)|(simp_all[];omega)|grind|(norm_cast at*;simp_all[];done)|(norm_cast at*;simp_all[];omega)))
set_option maxHeartbeats 4000000 in
theorem f103:∀(a:Itm),a.fit->∀b:Itm,Pure G Tryz.prog 103 [.agg a.cs,.agg b.cs] (.bool (decide (a=b))):=by
 refine Itm.ind λa ih F b=>?_
 obtain⟨V,X,O,Y,Z,h6,T⟩:=(Itm.fit_eq a).1 F
 refine Pure.w c103 λR J=>?_
 unfold s103 r103
 (repeat' (first|(with_reducible (first|refine ab (λh=>?_) (λh=>?_)|refine ai (λh=>?_) (λh=>?_)|refine aj (λh=>?_) (λh=>?_))<;>(try simp only[DZ]at h))|(with_reducible first|refine AI (by omega) ?_|refine aa (f191 G _ _ (by omega)) ?_|refine aa (f192 G _ _ (by omega)) ?_|refine aa (f193 G a.unit O b.unit) ?_|refine aa (f194 G _ _ _ (by omega) (λx M y=>(ih x M (T x M) y).v)) ?_)|simp only[EVz,seval,↓reduceIte,EV6,EV7,U.cs_fold]|(with_reducible intro N E;(try(have D:=E;simp only[EVK]at D;first|(have I:=AI D I)|(have I:=D))))|(with_reducible first|refine ae ?_ ?_|refine af ?_)|(exfalso;omega)))
 all_goals first
  |(refine RET.eq J (congrArg AV.bool (Eq.symm (decide_eq_false ?_)));rintro rfl;first|exact absurd rfl h|exact absurd rfl ‹¬_=_› |exact sta_ne (by assumption) rfl)
  |(refine RET.eq J (congrArg AV.bool (decide_eq_decide.2 ⟨λe=>?_,λe=>by rw[e]⟩))
    exact Itm.ext' (by assumption) (by assumption) (by assumption) (by assumption) (by assumption) (by assumption) (by assumption) (by assumption) (by assumption) (by assumption) (sta_eq (by assumption)) (by assumption) (by assumption) (by assumption) (by assumption) e)
  |trace_state
end
theorem bK (n:Int):∀τ w v,Rep τ w (.int .i64 n) v->v=intK n:=by
 intro τ w v h
 simp only[Rep]at h
 exact h
theorem fm:∀τ w,Rep τ w (.agg [.sc .nilFunc,.sc .nilFunc]) (.agg #[.nilFunc,.nilFunc]):=by
 intro τ w
 simp only[Rep,RepL]
 refine⟨_,rfl,by simp[Value.oneCell'],_,_,rfl,rfl,_,_,rfl,rfl,rfl⟩
theorem fq {x:Itm} {cs:List AV} (h:bc cs x.told.cs):ax [.agg x.cs,.agg cs] [.agg x.cs,.agg x.told.cs]:=⟨AVle.rfl' _,.inr h,trivial⟩
section
variable (G:Glob) (hG:GOk G)
include hG
set_option maxHeartbeats 4000000 in
theorem valid_0 (x:Itm) (q:x.Short1) (N:x.kind=0):Pure G Tryz.prog 47 [.agg x.cs] (.bool x.may):=by
 have J:=f99 G hG
 have V:=f165 G x
 have X:=Itm.cs_eq {iz with wh:=x.wh,unit:=x.unit}
 simp only[iz,map_nil]at X
 simp only[iz]at V
 rw[X]at V
 have hM:=f166 G hG x q.unit
 have Z:=f103 G x q.fit x.told
 have E:aS (0:Int) aJ=some (.agg [fnv 165,fnv 166]):=by simp[aS,aJ]
 have hi:=f48 G (0:Int)
 rw[show inR (0:Int) 0 6=true from by decide]at hi
 refine Pure.w c47 λR I=>?_
 unfold s47 r47
 rw[Itm.may_eq]at I
 unfold Itm.pre at I
 generalize decide (x=x.told)=e at*
 have O:inR x.kind 0 11=true:=by rw[N];decide
 have T:x.own (Itm.mayOne x.by_)=(inR x.wh 0 3&&(bareOk x.unit&&(decide (x.unit.kind≠0)&&decide ((textOf x.unit).2=0)))):=by unfold Itm.own;simp[N]
 rw[T,O]at I
 (repeat' (first|(with_reducible (first|refine ab (λh=>?_) (λh=>?_)|refine ai (λh=>?_) (λh=>?_))<;>(try simp only[DZ]at h))|(with_reducible first|refine aa (f100 G _ q.at_) ?_|refine aa (f101 G _ q.for_) ?_|refine aa (f102 G _ q.start) ?_|refine aa V ?_|refine aa hM ?_|refine aa hi ?_)|simp only[EVz,seval,↓reduceIte,EV6,EV7,N,E,Option.getD_some,Option.isSome_some,fnv,U.cs_fold,D]|simp only[EVz,seval,↓reduceIte,EV6,EV7,N,E,Option.getD_some,Option.isSome_some,fnv,U.cs_fold]|(with_reducible intro ac M;(try(have F:=M;simp only[EVK]at F;first|(have D:=AI F D)|(have D:=F))))|(with_reducible first|refine ae ?_ ?_|refine af ?_)|(refine av [] _ J.v (ax.rfl' _) (SubN.refl _) (λr σ' hh Y=>?_);obtain⟨bm,rfl,rfl⟩:=hh;(have D:=Y);(try simp[Store.keys]at D))|(refine aG bg (l:=aJ) (k:=0) (z:=.agg #[.nilFunc,.nilFunc]) (zv:=.agg [.sc .nilFunc,.sc .nilFunc]) (eT:=142) rfl (bK _) (by kernel_rfl) (by first|exact aQ|(simp[Store.get, *];done)) (by kernel_rfl) fm ?_)|(refine aE Z (fq (by rw[Itm.cs_eq];simp[bc,aR,Itm.told,Itm.just,iz,N])) ?_)))
 all_goals(refine RET.eq I (congrArg AV.bool ?_);clear I V X hM Z J hi E T O q)
 all_goals(try(first
  |exact absurd h (by decide)
  |(simp[*];done)
  |(simp[*,Bool.and_assoc];done)
  |(simp_all;done)))
set_option maxHeartbeats 4000000 in
theorem valid_1 (x:Itm) (q:x.Short1) (N:x.kind=1):Pure G Tryz.prog 47 [.agg x.cs] (.bool x.may):=by
 have J:=f99 G hG
 have V:=f169 G x
 have X:=Itm.cs_eq iz
 simp only[iz,map_nil]at X
 simp only[iz]at V
 rw[X]at V
 have hM:=f170 G x
 have Z:=f103 G x q.fit x.told
 have E:aS (1:Int) aJ=some (.agg [fnv 169,fnv 170]):=by simp[aS,aJ]
 have hi:=f48 G (1:Int)
 rw[show inR (1:Int) 0 6=true from by decide]at hi
 refine Pure.w c47 λR I=>?_
 unfold s47 r47
 rw[Itm.may_eq]at I
 unfold Itm.pre at I
 generalize decide (x=x.told)=e at*
 have O:inR x.kind 0 11=true:=by rw[N];decide
 have T:x.own (Itm.mayOne x.by_)=true:=by unfold Itm.own;simp[N]
 rw[T,O]at I
 (repeat' (first|(with_reducible (first|refine ab (λh=>?_) (λh=>?_)|refine ai (λh=>?_) (λh=>?_))<;>(try simp only[DZ]at h))|(with_reducible first|refine aa (f100 G _ q.at_) ?_|refine aa (f101 G _ q.for_) ?_|refine aa (f102 G _ q.start) ?_|refine aa V ?_|refine aa hM ?_|refine aa hi ?_)|simp only[EVz,seval,↓reduceIte,EV6,EV7,N,E,Option.getD_some,Option.isSome_some,fnv,U.cs_fold,D]|simp only[EVz,seval,↓reduceIte,EV6,EV7,N,E,Option.getD_some,Option.isSome_some,fnv,U.cs_fold]|(with_reducible intro ac M;(try(have F:=M;simp only[EVK]at F;first|(have D:=AI F D)|(have D:=F))))|(with_reducible first|refine ae ?_ ?_|refine af ?_)|(refine av [] _ J.v (ax.rfl' _) (SubN.refl _) (λr σ' hh Y=>?_);obtain⟨bm,rfl,rfl⟩:=hh;(have D:=Y);(try simp[Store.keys]at D))|(refine aG bg (l:=aJ) (k:=1) (z:=.agg #[.nilFunc,.nilFunc]) (zv:=.agg [.sc .nilFunc,.sc .nilFunc]) (eT:=142) rfl (bK _) (by kernel_rfl) (by first|exact aQ|(simp[Store.get, *];done)) (by kernel_rfl) fm ?_)|(refine aE Z (fq (by rw[Itm.cs_eq];simp[bc,aR,Itm.told,Itm.just,iz,N])) ?_)))
 all_goals(refine RET.eq I (congrArg AV.bool ?_);clear I V X hM Z J hi E T O q)
 all_goals(try(first
  |exact absurd h (by decide)
  |(simp[*];done)
  |(simp[*,Bool.and_assoc];done)
  |(simp_all;done)))
set_option maxHeartbeats 4000000 in
theorem valid_2 (x:Itm) (q:x.Short1) (N:x.kind=2):Pure G Tryz.prog 47 [.agg x.cs] (.bool x.may):=by
 have J:=f99 G hG
 have V:=f171 G x
 have X:=Itm.cs_eq {iz with old:=x.old,new:=x.new,nth:=x.nth}
 simp only[iz,map_nil]at X
 simp only[iz]at V
 rw[X]at V
 have hM:=f172 G x q
 have Z:=f103 G x q.fit x.told
 have E:aS (2:Int) aJ=some (.agg [fnv 171,fnv 172]):=by simp[aS,aJ]
 have hi:=f48 G (2:Int)
 rw[show inR (2:Int) 0 6=true from by decide]at hi
 refine Pure.w c47 λR I=>?_
 unfold s47 r47
 rw[Itm.may_eq]at I
 unfold Itm.pre at I
 generalize decide (x=x.told)=e at*
 have O:inR x.kind 0 11=true:=by rw[N];decide
 have T:x.own (Itm.mayOne x.by_)=(cX x.old 1&&(cX x.new 0&&inR x.nth 0 256)):=by unfold Itm.own;simp[N]
 rw[T,O]at I
 (repeat' (first|(with_reducible (first|refine ab (λh=>?_) (λh=>?_)|refine ai (λh=>?_) (λh=>?_))<;>(try simp only[DZ]at h))|(with_reducible first|refine aa (f100 G _ q.at_) ?_|refine aa (f101 G _ q.for_) ?_|refine aa (f102 G _ q.start) ?_|refine aa V ?_|refine aa hM ?_|refine aa hi ?_)|simp only[EVz,seval,↓reduceIte,EV6,EV7,N,E,Option.getD_some,Option.isSome_some,fnv,U.cs_fold,D]|simp only[EVz,seval,↓reduceIte,EV6,EV7,N,E,Option.getD_some,Option.isSome_some,fnv,U.cs_fold]|(with_reducible intro ac M;(try(have F:=M;simp only[EVK]at F;first|(have D:=AI F D)|(have D:=F))))|(with_reducible first|refine ae ?_ ?_|refine af ?_)|(refine av [] _ J.v (ax.rfl' _) (SubN.refl _) (λr σ' hh Y=>?_);obtain⟨bm,rfl,rfl⟩:=hh;(have D:=Y);(try simp[Store.keys]at D))|(refine aG bg (l:=aJ) (k:=2) (z:=.agg #[.nilFunc,.nilFunc]) (zv:=.agg [.sc .nilFunc,.sc .nilFunc]) (eT:=142) rfl (bK _) (by kernel_rfl) (by first|exact aQ|(simp[Store.get, *];done)) (by kernel_rfl) fm ?_)|(refine aE Z (fq (by rw[Itm.cs_eq];simp[bc,aR,Itm.told,Itm.just,iz,N])) ?_)))
 all_goals(refine RET.eq I (congrArg AV.bool ?_);clear I V X hM Z J hi E T O q)
 all_goals(try(first
  |exact absurd h (by decide)
  |(simp[*];done)
  |(simp[*,Bool.and_assoc];done)
  |(simp_all;done)))
set_option maxHeartbeats 4000000 in
theorem valid_3 (x:Itm) (q:x.Short1) (N:x.kind=3):Pure G Tryz.prog 47 [.agg x.cs] (.bool x.may):=by
 have J:=f99 G hG
 have V:=f175 G x
 have X:=Itm.cs_eq {iz with old:=x.old,new:=x.new,nth:=x.nth}
 simp only[iz,map_nil]at X
 simp only[iz]at V
 rw[X]at V
 have hM:=f176 G x q
 have Z:=f103 G x q.fit x.told
 have E:aS (3:Int) aJ=some (.agg [fnv 175,fnv 176]):=by simp[aS,aJ]
 have hi:=f48 G (3:Int)
 rw[show inR (3:Int) 0 6=true from by decide]at hi
 refine Pure.w c47 λR I=>?_
 unfold s47 r47
 rw[Itm.may_eq]at I
 unfold Itm.pre at I
 generalize decide (x=x.told)=e at*
 have O:inR x.kind 0 11=true:=by rw[N];decide
 have T:x.own (Itm.mayOne x.by_)=(cX x.old 0&&(cX x.new 1&&(inR x.nth 0 256&&(decide (0<(x.old.length:Int))||decide (x.nth=0))))):=by unfold Itm.own;simp[N]
 rw[T,O]at I
 (repeat' (first|(with_reducible (first|refine ab (λh=>?_) (λh=>?_)|refine ai (λh=>?_) (λh=>?_))<;>(try simp only[DZ]at h))|(with_reducible first|refine aa (f100 G _ q.at_) ?_|refine aa (f101 G _ q.for_) ?_|refine aa (f102 G _ q.start) ?_|refine aa V ?_|refine aa hM ?_|refine aa hi ?_)|simp only[EVz,seval,↓reduceIte,EV6,EV7,N,E,Option.getD_some,Option.isSome_some,fnv,U.cs_fold,D]|simp only[EVz,seval,↓reduceIte,EV6,EV7,N,E,Option.getD_some,Option.isSome_some,fnv,U.cs_fold]|(with_reducible intro ac M;(try(have F:=M;simp only[EVK]at F;first|(have D:=AI F D)|(have D:=F))))|(with_reducible first|refine ae ?_ ?_|refine af ?_)|(refine av [] _ J.v (ax.rfl' _) (SubN.refl _) (λr σ' hh Y=>?_);obtain⟨bm,rfl,rfl⟩:=hh;(have D:=Y);(try simp[Store.keys]at D))|(refine aG bg (l:=aJ) (k:=3) (z:=.agg #[.nilFunc,.nilFunc]) (zv:=.agg [.sc .nilFunc,.sc .nilFunc]) (eT:=142) rfl (bK _) (by kernel_rfl) (by first|exact aQ|(simp[Store.get, *];done)) (by kernel_rfl) fm ?_)|(refine aE Z (fq (by rw[Itm.cs_eq];simp[bc,aR,Itm.told,Itm.just,iz,N])) ?_)))
 all_goals(refine RET.eq I (congrArg AV.bool ?_);clear I V X hM Z J hi E T O q)
 all_goals(try(first
  |exact absurd h (by decide)
  |(simp[*];done)
  |(simp[*,Bool.and_assoc];done)
  |(simp_all;done)))
end
theorem iF (n:Int):∀τ w v,Rep τ w (.int .i64 n) v->v=intK n:=by
 intro τ w v h
 simp only[Rep]at h
 exact h
theorem gR:∀τ w,Rep τ w (.agg [.sc .nilFunc,.sc .nilFunc]) (.agg #[.nilFunc,.nilFunc]):=by
 intro τ w
 simp only[Rep,RepL]
 refine⟨_,rfl,by simp[Value.oneCell'],_,_,rfl,rfl,_,_,rfl,rfl,rfl⟩
theorem fD {x:Itm} {cs:List AV} (h:bc cs x.told.cs):ax [.agg x.cs,.agg cs] [.agg x.cs,.agg x.told.cs]:=⟨AVle.rfl' _,.inr h,trivial⟩
section
variable (G:Glob) (hG:GOk G)
include hG
set_option maxHeartbeats 4000000 in
theorem valid_4 (x:Itm) (q:x.Short1) (N:x.kind=4):Pure G Tryz.prog 47 [.agg x.cs] (.bool x.may):=by
 have J:=f99 G hG
 have V:=f177 G x
 have X:=Itm.cs_eq {iz with new:=x.new}
 simp only[iz,map_nil]at X
 simp only[iz]at V
 rw[X]at V
 have hM:=f178 G x q
 have Z:=f103 G x q.fit x.told
 have E:aS (4:Int) aJ=some (.agg [fnv 177,fnv 178]):=by simp[aS,aJ]
 have hi:=f48 G (4:Int)
 rw[show inR (4:Int) 0 6=true from by decide]at hi
 refine Pure.w c47 λR I=>?_
 unfold s47 r47
 rw[Itm.may_eq]at I
 unfold Itm.pre at I
 generalize decide (x=x.told)=e at*
 have O:inR x.kind 0 11=true:=by rw[N];decide
 have T:x.own (Itm.mayOne x.by_)=cX x.new 0:=by unfold Itm.own;simp[N]
 rw[T,O]at I
 (repeat' (first|(with_reducible (first|refine ab (λh=>?_) (λh=>?_)|refine ai (λh=>?_) (λh=>?_))<;>(try simp only[DZ]at h))|(with_reducible first|refine aa (f100 G _ q.at_) ?_|refine aa (f101 G _ q.for_) ?_|refine aa (f102 G _ q.start) ?_|refine aa V ?_|refine aa hM ?_|refine aa hi ?_)|simp only[EVz,seval,↓reduceIte,EV6,EV7,N,E,Option.getD_some,Option.isSome_some,fnv,U.cs_fold,D]|simp only[EVz,seval,↓reduceIte,EV6,EV7,N,E,Option.getD_some,Option.isSome_some,fnv,U.cs_fold]|(with_reducible intro ac M;(try(have F:=M;simp only[EVK]at F;first|(have D:=AI F D)|(have D:=F))))|(with_reducible first|refine ae ?_ ?_|refine af ?_)|(refine av [] _ J.v (ax.rfl' _) (SubN.refl _) (λr σ' hh Y=>?_);obtain⟨bm,rfl,rfl⟩:=hh;(have D:=Y);(try simp[Store.keys]at D))|(refine aG bg (l:=aJ) (k:=4) (z:=.agg #[.nilFunc,.nilFunc]) (zv:=.agg [.sc .nilFunc,.sc .nilFunc]) (eT:=142) rfl (iF _) (by kernel_rfl) (by first|exact aQ|(simp[Store.get, *];done)) (by kernel_rfl) gR ?_)|(refine aE Z (fD (by rw[Itm.cs_eq];simp[bc,aR,Itm.told,Itm.just,iz,N])) ?_)))
 all_goals(refine RET.eq I (congrArg AV.bool ?_);clear I V X hM Z J hi E T O q)
 all_goals(try(first
  |exact absurd h (by decide)
  |(simp[*];done)
  |(simp[*,Bool.and_assoc];done)
  |(simp_all;done)))
set_option maxHeartbeats 4000000 in
theorem valid_5 (x:Itm) (q:x.Short1) (N:x.kind=5):Pure G Tryz.prog 47 [.agg x.cs] (.bool x.may):=by
 have J:=f99 G hG
 have V:=f179 G x
 have X:=Itm.cs_eq {iz with label:=x.label}
 simp only[iz,map_nil]at X
 simp only[iz]at V
 rw[X]at V
 have hM:=f180 G x
 have Z:=f103 G x q.fit x.told
 have E:aS (5:Int) aJ=some (.agg [fnv 179,fnv 180]):=by simp[aS,aJ]
 have hi:=f48 G (5:Int)
 rw[show inR (5:Int) 0 6=true from by decide]at hi
 refine Pure.w c47 λR I=>?_
 unfold s47 r47
 rw[Itm.may_eq]at I
 unfold Itm.pre at I
 generalize decide (x=x.told)=e at*
 have O:inR x.kind 0 11=true:=by rw[N];decide
 have T:x.own (Itm.mayOne x.by_)=br x.label:=by unfold Itm.own;simp[N]
 rw[T,O]at I
 (repeat' (first|(with_reducible (first|refine ab (λh=>?_) (λh=>?_)|refine ai (λh=>?_) (λh=>?_))<;>(try simp only[DZ]at h))|(with_reducible first|refine aa (f100 G _ q.at_) ?_|refine aa (f101 G _ q.for_) ?_|refine aa (f102 G _ q.start) ?_|refine aa V ?_|refine aa hM ?_|refine aa hi ?_)|simp only[EVz,seval,↓reduceIte,EV6,EV7,N,E,Option.getD_some,Option.isSome_some,fnv,U.cs_fold,D]|simp only[EVz,seval,↓reduceIte,EV6,EV7,N,E,Option.getD_some,Option.isSome_some,fnv,U.cs_fold]|(with_reducible intro ac M;(try(have F:=M;simp only[EVK]at F;first|(have D:=AI F D)|(have D:=F))))|(with_reducible first|refine ae ?_ ?_|refine af ?_)|(refine av [] _ J.v (ax.rfl' _) (SubN.refl _) (λr σ' hh Y=>?_);obtain⟨bm,rfl,rfl⟩:=hh;(have D:=Y);(try simp[Store.keys]at D))|(refine aG bg (l:=aJ) (k:=5) (z:=.agg #[.nilFunc,.nilFunc]) (zv:=.agg [.sc .nilFunc,.sc .nilFunc]) (eT:=142) rfl (iF _) (by kernel_rfl) (by first|exact aQ|(simp[Store.get, *];done)) (by kernel_rfl) gR ?_)|(refine aE Z (fD (by rw[Itm.cs_eq];simp[bc,aR,Itm.told,Itm.just,iz,N])) ?_)))
 all_goals(refine RET.eq I (congrArg AV.bool ?_);clear I V X hM Z J hi E T O q)
 all_goals(try(first
  |exact absurd h (by decide)
  |(simp[*];done)
  |(simp[*,Bool.and_assoc];done)
  |(simp_all;done)))
set_option maxHeartbeats 4000000 in
theorem valid_6 (x:Itm) (q:x.Short1) (N:x.kind=6):Pure G Tryz.prog 47 [.agg x.cs] (.bool x.may):=by
 have J:=f99 G hG
 have V:=f181 G x
 have X:=Itm.cs_eq {iz with to_:=x.to_,wh:=x.wh}
 simp only[iz,map_nil]at X
 simp only[iz]at V
 rw[X]at V
 have hM:=f182 G x q
 have Z:=f103 G x q.fit x.told
 have E:aS (6:Int) aJ=some (.agg [fnv 181,fnv 182]):=by simp[aS,aJ]
 have hi:=f48 G (6:Int)
 rw[show inR (6:Int) 0 6=true from by decide]at hi
 refine Pure.w c47 λR I=>?_
 unfold s47 r47
 rw[Itm.may_eq]at I
 unfold Itm.pre at I
 generalize decide (x=x.told)=e at*
 have O:inR x.kind 0 11=true:=by rw[N];decide
 have T:x.own (Itm.mayOne x.by_)=(inR x.wh 0 3&&dU x.to_):=by unfold Itm.own;simp[N]
 rw[T,O]at I
 (repeat' (first|(with_reducible (first|refine ab (λh=>?_) (λh=>?_)|refine ai (λh=>?_) (λh=>?_))<;>(try simp only[DZ]at h))|(with_reducible first|refine aa (f100 G _ q.at_) ?_|refine aa (f101 G _ q.for_) ?_|refine aa (f102 G _ q.start) ?_|refine aa V ?_|refine aa hM ?_|refine aa hi ?_)|simp only[EVz,seval,↓reduceIte,EV6,EV7,N,E,Option.getD_some,Option.isSome_some,fnv,U.cs_fold,D]|simp only[EVz,seval,↓reduceIte,EV6,EV7,N,E,Option.getD_some,Option.isSome_some,fnv,U.cs_fold]|(with_reducible intro ac M;(try(have F:=M;simp only[EVK]at F;first|(have D:=AI F D)|(have D:=F))))|(with_reducible first|refine ae ?_ ?_|refine af ?_)|(refine av [] _ J.v (ax.rfl' _) (SubN.refl _) (λr σ' hh Y=>?_);obtain⟨bm,rfl,rfl⟩:=hh;(have D:=Y);(try simp[Store.keys]at D))|(refine aG bg (l:=aJ) (k:=6) (z:=.agg #[.nilFunc,.nilFunc]) (zv:=.agg [.sc .nilFunc,.sc .nilFunc]) (eT:=142) rfl (iF _) (by kernel_rfl) (by first|exact aQ|(simp[Store.get, *];done)) (by kernel_rfl) gR ?_)|(refine aE Z (fD (by rw[Itm.cs_eq];simp[bc,aR,Itm.told,Itm.just,iz,N])) ?_)))
 all_goals(refine RET.eq I (congrArg AV.bool ?_);clear I V X hM Z J hi E T O q)
 all_goals(try(first
  |exact absurd h (by decide)
  |(simp[*];done)
  |(simp[*,Bool.and_assoc];done)
  |(simp_all;done)))
set_option maxHeartbeats 4000000 in
theorem valid_7 (x:Itm) (q:x.Short1) (N:x.kind=7):Pure G Tryz.prog 47 [.agg x.cs] (.bool x.may):=by
 have J:=f99 G hG
 have V:=f353 G x
 have X:=Itm.cs_eq {iz with act:=x.act,item:=x.item,day:=x.day}
 simp only[iz,map_nil]at X
 simp only[iz]at V
 rw[X]at V
 have hM:=f354 G x
 have Z:=f103 G x q.fit x.told
 have E:aS (7:Int) aJ=some (.agg [fnv 353,fnv 354]):=by simp[aS,aJ]
 have hi:=f48 G (7:Int)
 rw[show inR (7:Int) 0 6=false from by decide]at hi
 refine Pure.w c47 λR I=>?_
 unfold s47 r47
 rw[Itm.may_eq]at I
 unfold Itm.pre at I
 generalize decide (x=x.told)=e at*
 have O:inR x.kind 0 11=true:=by rw[N];decide
 have T:x.own (Itm.mayOne x.by_)=(inR x.act 1 1048576&&(inR x.item (-1) 31&&inR x.day 0 1048576)):=by unfold Itm.own;simp[N]
 rw[T,O]at I
 (repeat' (first|(with_reducible (refine ai (λh=>?_) (λh=>?_))<;>(try simp only[DZ]at h))|(with_reducible first|refine aa V ?_|refine aa hM ?_|refine aa hi ?_)|simp only[EVz,seval,↓reduceIte,EV6,EV7,N,E,Option.getD_some,Option.isSome_some,fnv,U.cs_fold,D]|simp only[EVz,seval,↓reduceIte,EV6,EV7,N,E,Option.getD_some,Option.isSome_some,fnv,U.cs_fold]|(with_reducible intro ac M;(try(have F:=M;simp only[EVK]at F;first|(have D:=AI F D)|(have D:=F))))|(with_reducible first|refine ae ?_ ?_|refine af ?_)|(refine av [] _ J.v (ax.rfl' _) (SubN.refl _) (λr σ' hh Y=>?_);obtain⟨bm,rfl,rfl⟩:=hh;(have D:=Y);(try simp[Store.keys]at D))|(refine aG bg (l:=aJ) (k:=7) (z:=.agg #[.nilFunc,.nilFunc]) (zv:=.agg [.sc .nilFunc,.sc .nilFunc]) (eT:=142) rfl (iF _) (by kernel_rfl) (by first|exact aQ|(simp[Store.get, *];done)) (by kernel_rfl) gR ?_)|(refine aE Z (fD (by rw[Itm.cs_eq];simp[bc,aR,Itm.told,Itm.just,iz,N])) ?_)))
 all_goals(refine RET.eq I (congrArg AV.bool ?_);clear I V X hM Z J hi E T O q)
 all_goals(try(first
  |exact absurd h (by decide)
  |(simp[*];done)
  |(simp[*,Bool.and_assoc];done)
  |(simp_all;done)))
end
theorem iW (n:Int):∀τ w v,Rep τ w (.int .i64 n) v->v=intK n:=by
 intro τ w v h
 simp only[Rep]at h
 exact h
theorem gm:∀τ w,Rep τ w (.agg [.sc .nilFunc,.sc .nilFunc]) (.agg #[.nilFunc,.nilFunc]):=by
 intro τ w
 simp only[Rep,RepL]
 refine⟨_,rfl,by simp[Value.oneCell'],_,_,rfl,rfl,_,_,rfl,rfl,rfl⟩
theorem fF {x:Itm} {cs:List AV} (h:bc cs x.told.cs):ax [.agg x.cs,.agg cs] [.agg x.cs,.agg x.told.cs]:=⟨AVle.rfl' _,.inr h,trivial⟩
section
variable (G:Glob) (hG:GOk G)
include hG
set_option maxHeartbeats 4000000 in
theorem valid_8 (x:Itm) (q:x.Short1) (N:x.kind=8):Pure G Tryz.prog 47 [.agg x.cs] (.bool x.may):=by
 have J:=f99 G hG
 have V:=f353 G x
 have X:=Itm.cs_eq {iz with act:=x.act,item:=x.item,day:=x.day}
 simp only[iz,map_nil]at X
 simp only[iz]at V
 rw[X]at V
 have hM:=f354 G x
 have Z:=f103 G x q.fit x.told
 have E:aS (8:Int) aJ=some (.agg [fnv 353,fnv 354]):=by simp[aS,aJ]
 have hi:=f48 G (8:Int)
 rw[show inR (8:Int) 0 6=false from by decide]at hi
 refine Pure.w c47 λR I=>?_
 unfold s47 r47
 rw[Itm.may_eq]at I
 unfold Itm.pre at I
 generalize decide (x=x.told)=e at*
 have O:inR x.kind 0 11=true:=by rw[N];decide
 have T:x.own (Itm.mayOne x.by_)=(inR x.act 1 1048576&&(inR x.item (-1) 31&&inR x.day 0 1048576)):=by unfold Itm.own;simp[N]
 rw[T,O]at I
 (repeat' (first|(with_reducible (refine ai (λh=>?_) (λh=>?_))<;>(try simp only[DZ]at h))|(with_reducible first|refine aa V ?_|refine aa hM ?_|refine aa hi ?_)|simp only[EVz,seval,↓reduceIte,EV6,EV7,N,E,Option.getD_some,Option.isSome_some,fnv,U.cs_fold,D]|simp only[EVz,seval,↓reduceIte,EV6,EV7,N,E,Option.getD_some,Option.isSome_some,fnv,U.cs_fold]|(with_reducible intro ac M;(try(have F:=M;simp only[EVK]at F;first|(have D:=AI F D)|(have D:=F))))|(with_reducible first|refine ae ?_ ?_|refine af ?_)|(refine av [] _ J.v (ax.rfl' _) (SubN.refl _) (λr σ' hh Y=>?_);obtain⟨bm,rfl,rfl⟩:=hh;(have D:=Y);(try simp[Store.keys]at D))|(refine aG bg (l:=aJ) (k:=8) (z:=.agg #[.nilFunc,.nilFunc]) (zv:=.agg [.sc .nilFunc,.sc .nilFunc]) (eT:=142) rfl (iW _) (by kernel_rfl) (by first|exact aQ|(simp[Store.get, *];done)) (by kernel_rfl) gm ?_)|(refine aE Z (fF (by rw[Itm.cs_eq];simp[bc,aR,Itm.told,Itm.just,iz,N])) ?_)))
 all_goals(refine RET.eq I (congrArg AV.bool ?_);clear I V X hM Z J hi E T O q)
 all_goals(try(first
  |exact absurd h (by decide)
  |(simp[*];done)
  |(simp[*,Bool.and_assoc];done)
  |(simp_all;done)))
set_option maxHeartbeats 4000000 in
theorem valid_9 (x:Itm) (q:x.Short1) (N:x.kind=9):Pure G Tryz.prog 47 [.agg x.cs] (.bool x.may):=by
 have J:=f99 G hG
 have V:=f353 G x
 have X:=Itm.cs_eq {iz with act:=x.act,item:=x.item,day:=x.day}
 simp only[iz,map_nil]at X
 simp only[iz]at V
 rw[X]at V
 have hM:=f354 G x
 have Z:=f103 G x q.fit x.told
 have E:aS (9:Int) aJ=some (.agg [fnv 353,fnv 354]):=by simp[aS,aJ]
 have hi:=f48 G (9:Int)
 rw[show inR (9:Int) 0 6=false from by decide]at hi
 refine Pure.w c47 λR I=>?_
 unfold s47 r47
 rw[Itm.may_eq]at I
 unfold Itm.pre at I
 generalize decide (x=x.told)=e at*
 have O:inR x.kind 0 11=true:=by rw[N];decide
 have T:x.own (Itm.mayOne x.by_)=(inR x.act 1 1048576&&(inR x.item (-1) 31&&inR x.day 0 1048576)):=by unfold Itm.own;simp[N]
 rw[T,O]at I
 (repeat' (first|(with_reducible (refine ai (λh=>?_) (λh=>?_))<;>(try simp only[DZ]at h))|(with_reducible first|refine aa V ?_|refine aa hM ?_|refine aa hi ?_)|simp only[EVz,seval,↓reduceIte,EV6,EV7,N,E,Option.getD_some,Option.isSome_some,fnv,U.cs_fold,D]|simp only[EVz,seval,↓reduceIte,EV6,EV7,N,E,Option.getD_some,Option.isSome_some,fnv,U.cs_fold]|(with_reducible intro ac M;(try(have F:=M;simp only[EVK]at F;first|(have D:=AI F D)|(have D:=F))))|(with_reducible first|refine ae ?_ ?_|refine af ?_)|(refine av [] _ J.v (ax.rfl' _) (SubN.refl _) (λr σ' hh Y=>?_);obtain⟨bm,rfl,rfl⟩:=hh;(have D:=Y);(try simp[Store.keys]at D))|(refine aG bg (l:=aJ) (k:=9) (z:=.agg #[.nilFunc,.nilFunc]) (zv:=.agg [.sc .nilFunc,.sc .nilFunc]) (eT:=142) rfl (iW _) (by kernel_rfl) (by first|exact aQ|(simp[Store.get, *];done)) (by kernel_rfl) gm ?_)|(refine aE Z (fF (by rw[Itm.cs_eq];simp[bc,aR,Itm.told,Itm.just,iz,N])) ?_)))
 all_goals(refine RET.eq I (congrArg AV.bool ?_);clear I V X hM Z J hi E T O q)
 all_goals(try(first
  |exact absurd h (by decide)
  |(simp[*];done)
  |(simp[*,Bool.and_assoc];done)
  |(simp_all;done)))
set_option maxHeartbeats 4000000 in
theorem valid_10 (x:Itm) (q:x.Short1) (N:x.kind=10):Pure G Tryz.prog 47 [.agg x.cs] (.bool x.may):=by
 have J:=f99 G hG
 have V:=f183 G x
 have X:=Itm.cs_eq {iz with event:=x.event,day:=x.day}
 simp only[iz,map_nil]at X
 simp only[iz]at V
 rw[X]at V
 have hM:=f184 G x q
 have Z:=f103 G x q.fit x.told
 have E:aS (10:Int) aJ=some (.agg [fnv 183,fnv 184]):=by simp[aS,aJ]
 have hi:=f48 G (10:Int)
 rw[show inR (10:Int) 0 6=false from by decide]at hi
 refine Pure.w c47 λR I=>?_
 unfold s47 r47
 rw[Itm.may_eq]at I
 unfold Itm.pre at I
 generalize decide (x=x.told)=e at*
 have O:inR x.kind 0 11=true:=by rw[N];decide
 have T:x.own (Itm.mayOne x.by_)=(ii x.event&&inR x.day 0 1048576):=by unfold Itm.own;simp[N]
 rw[T,O]at I
 (repeat' (first|(with_reducible (refine ai (λh=>?_) (λh=>?_))<;>(try simp only[DZ]at h))|(with_reducible first|refine aa V ?_|refine aa hM ?_|refine aa hi ?_)|simp only[EVz,seval,↓reduceIte,EV6,EV7,N,E,Option.getD_some,Option.isSome_some,fnv,U.cs_fold,D]|simp only[EVz,seval,↓reduceIte,EV6,EV7,N,E,Option.getD_some,Option.isSome_some,fnv,U.cs_fold]|(with_reducible intro ac M;(try(have F:=M;simp only[EVK]at F;first|(have D:=AI F D)|(have D:=F))))|(with_reducible first|refine ae ?_ ?_|refine af ?_)|(refine av [] _ J.v (ax.rfl' _) (SubN.refl _) (λr σ' hh Y=>?_);obtain⟨bm,rfl,rfl⟩:=hh;(have D:=Y);(try simp[Store.keys]at D))|(refine aG bg (l:=aJ) (k:=10) (z:=.agg #[.nilFunc,.nilFunc]) (zv:=.agg [.sc .nilFunc,.sc .nilFunc]) (eT:=142) rfl (iW _) (by kernel_rfl) (by first|exact aQ|(simp[Store.get, *];done)) (by kernel_rfl) gm ?_)|(refine aE Z (fF (by rw[Itm.cs_eq];simp[bc,aR,Itm.told,Itm.just,iz,N])) ?_)))
 all_goals(refine RET.eq I (congrArg AV.bool ?_);clear I V X hM Z J hi E T O q)
 all_goals(try(first
  |exact absurd h (by decide)
  |(simp[*];done)
  |(simp[*,Bool.and_assoc];done)
  |(simp_all;done)))
set_option maxHeartbeats 4000000 in
theorem valid_11 (x:Itm) (q:x.Short1) (hy:∀y∈x.by_,Pure G Tryz.prog 47 [.agg y.cs] (.bool y.may)) (N:x.kind=11):Pure G Tryz.prog 47 [.agg x.cs] (.bool x.may):=by
 have J:=f99 G hG
 have V:=f186 G x
 have X:=Itm.cs_eq {iz with act:=x.act,item:=x.item,by_:=x.by_}
 simp only[iz,map_nil]at X
 simp only[iz]at V
 rw[X]at V
 have hM:=f187 G x q hy
 have Z:=f103 G x q.fit x.told
 have E:aS (11:Int) aJ=some (.agg [fnv 186,fnv 187]):=by simp[aS,aJ]
 have hi:=f48 G (11:Int)
 rw[show inR (11:Int) 0 6=false from by decide]at hi
 refine Pure.w c47 λR I=>?_
 unfold s47 r47
 rw[Itm.may_eq]at I
 unfold Itm.pre at I
 generalize decide (x=x.told)=e at*
 have O:inR x.kind 0 11=true:=by rw[N];decide
 have T:x.own (Itm.mayOne x.by_)=(inR x.act 1 1048576&&(inR x.item 0 31&&Itm.mayOne x.by_)):=by unfold Itm.own;simp[N]
 rw[T,O]at I
 (repeat' (first|(with_reducible (refine ai (λh=>?_) (λh=>?_))<;>(try simp only[DZ]at h))|(with_reducible first|refine aa V ?_|refine aa hM ?_|refine aa hi ?_)|simp only[EVz,seval,↓reduceIte,EV6,EV7,N,E,Option.getD_some,Option.isSome_some,fnv,U.cs_fold,D]|simp only[EVz,seval,↓reduceIte,EV6,EV7,N,E,Option.getD_some,Option.isSome_some,fnv,U.cs_fold]|(with_reducible intro ac M;(try(have F:=M;simp only[EVK]at F;first|(have D:=AI F D)|(have D:=F))))|(with_reducible first|refine ae ?_ ?_|refine af ?_)|(refine av [] _ J.v (ax.rfl' _) (SubN.refl _) (λr σ' hh Y=>?_);obtain⟨bm,rfl,rfl⟩:=hh;(have D:=Y);(try simp[Store.keys]at D))|(refine aG bg (l:=aJ) (k:=11) (z:=.agg #[.nilFunc,.nilFunc]) (zv:=.agg [.sc .nilFunc,.sc .nilFunc]) (eT:=142) rfl (iW _) (by kernel_rfl) (by first|exact aQ|(simp[Store.get, *];done)) (by kernel_rfl) gm ?_)|(refine aE Z (fF (by rw[Itm.cs_eq];simp[bc,aR,Itm.told,Itm.just,iz,N])) ?_)))
 all_goals(refine RET.eq I (congrArg AV.bool ?_);clear I V X hM Z J hi E T O q)
 all_goals(try(first
  |exact absurd h (by decide)
  |(simp[*];done)
  |(simp[*,Bool.and_assoc];done)
  |(simp_all;done)))
end
def bes (x:Itm):Bool:=decide (x.wh=2)||decide (x.wh=3)
def ins (x:Itm) (k:Int):Bool:=decide (x.kind=k)&& !bes x
/-! ### valid items -/
section
variable (G:Glob) (hG:GOk G)
include hG in
end
theorem tab_none {k:Int} (h:¬(0<=k/\k<=11)):aS k aJ=none:=by
 simp only[aJ,aS]
 rw[if_neg (by omega),if_neg (by omega),if_neg (by omega),if_neg (by omega),if_neg (by omega),if_neg (by omega),if_neg (by omega),if_neg (by omega),if_neg (by omega),if_neg (by omega),if_neg (by omega),if_neg (by omega)]
section
variable (G:Glob) (hG:GOk G)
include hG
theorem o9 (x:Itm) (X:¬(0<=x.kind/\x.kind<=11)):Pure G Tryz.prog 47 [.agg x.cs] (.bool x.may):=by
 have M:=f99 G hG
 have I:=tab_none X
 have N:inR x.kind 0 11=false:=by unfold inR;simp;omega
 refine Pure.w c47 λR J=>?_
 unfold s47 r47
 rw[Itm.may_eq]at J
 unfold Itm.pre at J
 rw[N]at J
 (repeat' (first|(with_reducible (first|refine ab (λh=>?_) (λh=>?_)|refine ai (λh=>?_) (λh=>?_)|refine aj (λh=>?_) (λh=>?_))<;>(try simp only[DZ]at h))|(with_reducible refine AI (by omega) ?_)|simp only[EVz,seval,↓reduceIte,EV6,EV7,I,Option.getD_none,Option.isSome_none,D]|simp only[EVz,seval,↓reduceIte,EV6,EV7,I,Option.getD_none,Option.isSome_none]|(with_reducible intro T F;(try(have E:=F;simp only[EVK]at E;first|(have D:=AI E D)|(have D:=E))))|(with_reducible first|refine ae ?_ ?_|refine af ?_)|(refine av [] _ M.v (ax.rfl' _) (SubN.refl _) (λr σ' V O=>?_);obtain⟨Y,rfl,rfl⟩:=V;(have D:=O);(try simp[Store.keys]at D))|(refine af ?_)|(refine aG bg (l:=aJ) (k:=x.kind) (z:=.agg #[.nilFunc,.nilFunc]) (zv:=.agg [.sc .nilFunc,.sc .nilFunc]) (eT:=142) rfl (bK _) (by kernel_rfl) (by first|exact aQ|(simp[Store.get, *];done)) (by kernel_rfl) fm ?_)|(exfalso;omega)))
 all_goals(refine RET.eq J (congrArg AV.bool ?_);simp;done)
theorem f47:∀x:Itm,x.Shorts->Pure G Tryz.prog 47 [.agg x.cs] (.bool x.may):=by
 refine Itm.ind λx ih J=>?_
 obtain⟨q,D⟩:=(Itm.Shorts_eq x).1 J
 by_cases I:0<=x.kind/\x.kind<=11
 ·have F:x.kind=0\/x.kind=1\/x.kind=2\/x.kind=3\/x.kind=4\/x.kind=5\/x.kind=6\/x.kind=7\/x.kind=8\/x.kind=9\/x.kind=10\/x.kind=11:=by omega
  rcases F with h|h|h|h|h|h|h|h|h|h|h|h
  ·exact valid_0 G hG x q h
  ·exact valid_1 G hG x q h
  ·exact valid_2 G hG x q h
  ·exact valid_3 G hG x q h
  ·exact valid_4 G hG x q h
  ·exact valid_5 G hG x q h
  ·exact valid_6 G hG x q h
  ·exact valid_7 G hG x q h
  ·exact valid_8 G hG x q h
  ·exact valid_9 G hG x q h
  ·exact valid_10 G hG x q h
  ·exact valid_11 G hG x q (λy E=>ih y E (D y E)) h
 ·exact o9 G hG x I
end
section
variable (G:Glob)
variable (hG:GOk G)
include hG
end
section
variable (G:Glob)
end
section
variable (G:Glob) (hG:GOk G)
include hG
end
section
variable (G:Glob)
end
section
variable (G:Glob)
end
section
variable (G:Glob)
end
section
variable (G:Glob)
end
section
variable (G:Glob)
end
/-! ### stops and joins -/
section
variable (G:Glob)
variable (hG:GOk G)
include hG
end
end Go.Av
