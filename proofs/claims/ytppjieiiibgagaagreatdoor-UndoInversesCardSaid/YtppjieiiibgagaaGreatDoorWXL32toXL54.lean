/-
  LINT, 32: the table of rules.
-/
import Derived.Test.YtppjieiiibgagaaGreatDoorWXM1toXL31
import Derived.Test.YtppjieiiibgagaaGreatDoorWXE6toXL25
import Derived.Test.YtppjieiiibgagaaGreatDoorWXE8toXE10
import Derived.Lib.ItoaLen
import Derived.Test.YtppjieiiibgagaaGreatDoorWXL5toXL8
set_option linter.all false
namespace Go.Av
open Go Go.RowKit Go.Proofs List
def fnv (k:Nat):AV:=.sc (.func (.func k) #[] #[])
def intK (n:Int):Value:=.i n
def aQ:List (Int×AV):=[(0,.agg [fnv 227,fnv 228]),(1,.agg [fnv 231,fnv 232]),(2,.agg [fnv 233,fnv 234]),(3,.agg [fnv 237,fnv 238]),
 (4,.agg [fnv 239,fnv 240]),(5,.agg [fnv 241,fnv 242]),(6,.agg [fnv 243,fnv 244]),(7,.agg [fnv 438,fnv 439]),(8,.agg [fnv 438,fnv 439]),
 (9,.agg [fnv 438,fnv 439]),(10,.agg [fnv 245,fnv 246]),(11,.agg [fnv 248,fnv 249])]
def aW {b:Nat} {x:AObj} {σ:Store}:Store.get ((b,x)::σ) b=some x:=by simp[Store.get]
def bt:MapK Tryz.prog 3 intK:=mapK_int (by kernel_rfl)
def gV {G:Glob} {env:Env} (n:Int):∀τ w v,Rep τ w ((SOpd.of (.const (.i n))).eval G env) v->v=intK n:=by
 intro τ w v h
 have D:v= .i n:=by simpa only[SOpd.of,SOpd.eval,AV.ofValue,AV.ofOne,Rep]using h
 exact D
section
variable (G:Glob) (hG:GOk G)
include hG
def f130:aj G Tryz.prog 130 [] [] (λr σ=>∃b,r= .sc (.map (some b))/\σ=[(b,.map (cD intK aQ))]):=by
 have D:=eval_g hG.order;refine aj.w c130 ?_;unfold s130 r130;(try simp only[EV,seval]);refine dn ?_;intro b E;(try simp only[EV,seval]);refine cV bt (l:=[]) (k:=0) (eT:=170) rfl (gV 0) rfl (by kernel_rfl) aW ?_;(repeat' (first|simp only[EV,seval,D]|(refine cV bt (eT:=170) rfl (gV _) rfl (by kernel_rfl) aW ?_)));exact RET.mk (SubN.refl _) ⟨b,rfl,rfl⟩
end
section
variable (G:Glob)
def f170 (f:Value) (a b:List Itm) (ha:a.length<9000000000000000000) (Y:∀x∈a,∀y,fT G Tryz.prog f [.agg x.cs,.agg y.cs] (.bool (decide (x=y)))):
  Pure G Tryz.prog 170 [.lst 25 (a.map Itm.cs),.lst 25 (b.map Itm.cs),.sc f] (.bool (decide (a=b))):=by
 refine Pure.w c170 λR T=>?_
 unfold s170 r170
 by_cases N:a.length=b.length
 ·have J:decide ((a.length:Int)≠(b.length:Int))=false:=by simp[N]
  (repeat' (first|(with_reducible (refine ae (λh=>?_) λh=>?_)<;>(try simp only[DZ]at h))|(with_reducible refine AI (by omega) ?_)|simp only[EV,seval,J,D.yes,D.le0,D.lt',D.get,D.row,V,O.row,O.lt',E]|simp only[EV,seval,J,D.yes,D.le0,D.lt',D.get,D.row,V,O.row,O.lt']|simp only[EV,seval,J,Z]|simp only[EV,seval,J]|(with_reducible intro X M;(try(have F:=M;simp only[EVK]at F;first|(have E:=AI F E)|(have E:=F))))|(refine ak D () ?_ (Weak.sub (SubN.nil _)))|(refine aP (Y _ D.mem y) ?_)|(refine ap (a) (λi r (c:Unit)=>a.length=b.length/\decide (a=b)=decide (r=b.drop i)) (λi c=>[(1,.lst 25 (b.map Itm.cs)),(2,.sc f),(15,.lst 25 (a.map Itm.cs)),(16,.i a.length),(17,.i i)]) (λ_ _=>[]) () (by((simp[*];done))) (a0 _ _) (by omega) (λi x r c I D V=>?_) (λc I Z=>?_)<;>(try(obtain⟨y,r2,O,aa,I⟩:=cM I D)))));(all_goals(first|(refine RET.eq T ?_;((simp_all[N];done)))|(simp_all[N];done)))
 ·have J:decide ((a.length:Int)≠(b.length:Int))=true:=by simp;omega
  rw[or N]at T;(repeat' (simp only[EV,seval,J]));(all_goals((exact RET.eq T rfl)))
set_option maxHeartbeats 4000000 in
def f94:∀(a:Itm),a.fit->∀b:Itm,Pure G Tryz.prog 94 [.agg a.cs,.agg b.cs] (.bool (decide (a=b))):=by
 refine Itm.ind λa ih D b=>?_;obtain⟨M,N,I,O,T,V,J⟩:=(sg a).1 D;refine Pure.w c94 λR E=>?_;unfold s94 r94;(repeat' (first|(with_reducible (refine ai (λh=>?_) λh=>?_)<;>(try simp only[DZ]at h))|(with_reducible first|refine ab (f159 G _ _ (by omega)) ?_|refine ab (f168 G _ _ (by omega)) ?_|refine ab (f169 G a.unit I b.unit) ?_|refine ab (f170 G _ _ _ (by omega) (λx F y=>(ih x F (J x F) y).v)) ?_)|simp only[EV,seval,o6]))
 all_goals first
  |(refine RET.eq E (congrArg AV.bool (Eq.symm (decide_eq_false ?_)));rintro rfl;first|exact absurd rfl h|exact absurd rfl ‹¬_=_› |exact sta_ne (by assumption) rfl)
  |(refine RET.eq E (congrArg AV.bool (decide_eq_decide.2 ⟨λe=>?_,λe=>by rw[e]⟩))
    exact Itm.ext' (by assumption) (by assumption) (by assumption) (by assumption) (by assumption) (by assumption) (by assumption) (by assumption) (by assumption) (by assumption) (sta_eq (by assumption)) (by assumption) (by assumption) (by assumption) (by assumption) e)
  |trace_state
end
def bZ (n:Int):∀τ w v,Rep τ w (.i n) v->v=intK n:=by
 intro τ w v h;simp only[Rep]at h;exact h
def fS:∀τ w,Rep τ w (.agg [.sc .nilFunc,.sc .nilFunc]) (.agg #[.nilFunc,.nilFunc]):=by
 intro τ w;simp only[Rep,RepL];refine⟨_,rfl,by simp[Value.oneCell'],_,_,rfl,rfl,_,_,rfl,rfl,rfl⟩
def gu {x:Itm} {cs:List AV} (h:aY cs x.told.cs):aE [.agg x.cs,.agg cs] [.agg x.cs,.agg x.told.cs]:=⟨rH _,.inr h,trivial⟩
section
variable (G:Glob) (hG:GOk G)
include hG
set_option maxHeartbeats 4000000 in
def valid_0 (x:Itm) (q:x.Short1) (N:x.kind=0):Pure G Tryz.prog 60 [.agg x.cs] (.bool x.may):=by
 have J:=f130 G hG;have V:=f227 G x;have X:=dT {iz with wh:=x.wh,unit:=x.unit};simp only[iz,map_nil]at X;simp only[iz]at V;rw[X]at V;have hM:=f228 G hG x q.unit;have Z:=f94 G x q.fit x.told
 have E:bi (0:Int) aQ=some (.agg [fnv 227,fnv 228]):=by simp[bi,aQ]
 have hi:=f54 G (0:Int);rw[show inR (0:Int) 0 6=true from by decide]at hi;refine Pure.w c60 λR I=>?_;unfold s60 r60;rw[rE]at I;unfold Itm.pre at I;generalize decide (x=x.told)=e at*
 have O:inR x.kind 0 11=true:=by rw[N];decide
 have T:x.own (Itm.mayOne x.by_)=(inR x.wh 0 3&&(gj x.unit&&(decide (x.unit.kind≠0)&&decide ((dk x.unit).2=0)))):=by unfold Itm.own;simp[N]
 rw[T,O]at I;(repeat' (first|(with_reducible (first|refine ae (λh=>?_) λh=>?_|refine ai (λh=>?_) λh=>?_)<;>(try simp only[DZ]at h))|(with_reducible first|refine ab (f131 G _ q.at_) ?_|refine ab (f132 G _ q.for_) ?_|refine ab (f133 G _ q.start) ?_|refine ab V ?_|refine ab hM ?_|refine ab hi ?_)|simp only[EV,seval,N,E,Option.getD_some,Option.isSome_some,fnv,o6,D]|simp only[EV,seval,N,E,Option.getD_some,Option.isSome_some,fnv,o6]|(with_reducible intro aa M;(try(have F:=M;simp only[EVK]at F;first|(have D:=AI F D)|(have D:=F))))|(with_reducible first|refine af ?_ ?_|refine ag ?_)|(refine aC [] _ J.v (hH _) (SubN.refl _) (λr σ' hh Y=>?_);obtain⟨bm,rfl,rfl⟩:=hh;(have D:=Y);(try simp[Store.keys]at D))|(refine aO bt (l:=aQ) (k:=0) (z:=.agg #[.nilFunc,.nilFunc]) (zv:=.agg [.sc .nilFunc,.sc .nilFunc]) (eT:=170) rfl (bZ _) (by kernel_rfl) (by first|exact aW|(simp[Store.get, *];done)) (by kernel_rfl) fS ?_)|(refine aS Z (gu (by rw[dT];simp[aY,aT,Itm.told,Itm.just,iz,N])) ?_)))
 all_goals(refine RET.eq I (congrArg AV.bool ?_);clear I V X hM Z J hi E T O q)
 all_goals(try(first
  |exact absurd h (by decide)
  |(simp[*];done)
  |(simp[*,Bool.and_assoc];done)
  |(simp_all;done)))
set_option maxHeartbeats 4000000 in
def valid_1 (x:Itm) (q:x.Short1) (N:x.kind=1):Pure G Tryz.prog 60 [.agg x.cs] (.bool x.may):=by
 have J:=f130 G hG;have V:=f231 G x;have X:=dT iz;simp only[iz,map_nil]at X;simp only[iz]at V;rw[X]at V;have hM:=f232 G x;have Z:=f94 G x q.fit x.told
 have E:bi (1:Int) aQ=some (.agg [fnv 231,fnv 232]):=by simp[bi,aQ]
 have hi:=f54 G (1:Int);rw[show inR (1:Int) 0 6=true from by decide]at hi;refine Pure.w c60 λR I=>?_;unfold s60 r60;rw[rE]at I;unfold Itm.pre at I;generalize decide (x=x.told)=e at*
 have O:inR x.kind 0 11=true:=by rw[N];decide
 have T:x.own (Itm.mayOne x.by_)=true:=by unfold Itm.own;simp[N]
 rw[T,O]at I;(repeat' (first|(with_reducible (first|refine ae (λh=>?_) λh=>?_|refine ai (λh=>?_) λh=>?_)<;>(try simp only[DZ]at h))|(with_reducible first|refine ab (f131 G _ q.at_) ?_|refine ab (f132 G _ q.for_) ?_|refine ab (f133 G _ q.start) ?_|refine ab V ?_|refine ab hM ?_|refine ab hi ?_)|simp only[EV,seval,N,E,Option.getD_some,Option.isSome_some,fnv,o6,D]|simp only[EV,seval,N,E,Option.getD_some,Option.isSome_some,fnv,o6]|(with_reducible intro aa M;(try(have F:=M;simp only[EVK]at F;first|(have D:=AI F D)|(have D:=F))))|(with_reducible first|refine af ?_ ?_|refine ag ?_)|(refine aC [] _ J.v (hH _) (SubN.refl _) (λr σ' hh Y=>?_);obtain⟨bm,rfl,rfl⟩:=hh;(have D:=Y);(try simp[Store.keys]at D))|(refine aO bt (l:=aQ) (k:=1) (z:=.agg #[.nilFunc,.nilFunc]) (zv:=.agg [.sc .nilFunc,.sc .nilFunc]) (eT:=170) rfl (bZ _) (by kernel_rfl) (by first|exact aW|(simp[Store.get, *];done)) (by kernel_rfl) fS ?_)|(refine aS Z (gu (by rw[dT];simp[aY,aT,Itm.told,Itm.just,iz,N])) ?_)))
 all_goals(refine RET.eq I (congrArg AV.bool ?_);clear I V X hM Z J hi E T O q)
 all_goals(try(first
  |exact absurd h (by decide)
  |(simp[*];done)
  |(simp[*,Bool.and_assoc];done)
  |(simp_all;done)))
set_option maxHeartbeats 4000000 in
def valid_2 (x:Itm) (q:x.Short1) (N:x.kind=2):Pure G Tryz.prog 60 [.agg x.cs] (.bool x.may):=by
 have J:=f130 G hG;have V:=f233 G x;have X:=dT {iz with old:=x.old,new:=x.new,nth:=x.nth};simp only[iz,map_nil]at X;simp only[iz]at V;rw[X]at V;have hM:=f234 G x q;have Z:=f94 G x q.fit x.told
 have E:bi (2:Int) aQ=some (.agg [fnv 233,fnv 234]):=by simp[bi,aQ]
 have hi:=f54 G (2:Int);rw[show inR (2:Int) 0 6=true from by decide]at hi;refine Pure.w c60 λR I=>?_;unfold s60 r60;rw[rE]at I;unfold Itm.pre at I;generalize decide (x=x.told)=e at*
 have O:inR x.kind 0 11=true:=by rw[N];decide
 have T:x.own (Itm.mayOne x.by_)=(de x.old 1&&(de x.new 0&&inR x.nth 0 256)):=by unfold Itm.own;simp[N]
 rw[T,O]at I;(repeat' (first|(with_reducible (first|refine ae (λh=>?_) λh=>?_|refine ai (λh=>?_) λh=>?_)<;>(try simp only[DZ]at h))|(with_reducible first|refine ab (f131 G _ q.at_) ?_|refine ab (f132 G _ q.for_) ?_|refine ab (f133 G _ q.start) ?_|refine ab V ?_|refine ab hM ?_|refine ab hi ?_)|simp only[EV,seval,N,E,Option.getD_some,Option.isSome_some,fnv,o6,D]|simp only[EV,seval,N,E,Option.getD_some,Option.isSome_some,fnv,o6]|(with_reducible intro aa M;(try(have F:=M;simp only[EVK]at F;first|(have D:=AI F D)|(have D:=F))))|(with_reducible first|refine af ?_ ?_|refine ag ?_)|(refine aC [] _ J.v (hH _) (SubN.refl _) (λr σ' hh Y=>?_);obtain⟨bm,rfl,rfl⟩:=hh;(have D:=Y);(try simp[Store.keys]at D))|(refine aO bt (l:=aQ) (k:=2) (z:=.agg #[.nilFunc,.nilFunc]) (zv:=.agg [.sc .nilFunc,.sc .nilFunc]) (eT:=170) rfl (bZ _) (by kernel_rfl) (by first|exact aW|(simp[Store.get, *];done)) (by kernel_rfl) fS ?_)|(refine aS Z (gu (by rw[dT];simp[aY,aT,Itm.told,Itm.just,iz,N])) ?_)))
 all_goals(refine RET.eq I (congrArg AV.bool ?_);clear I V X hM Z J hi E T O q)
 all_goals(try(first
  |exact absurd h (by decide)
  |(simp[*];done)
  |(simp[*,Bool.and_assoc];done)
  |(simp_all;done)))
set_option maxHeartbeats 4000000 in
def valid_3 (x:Itm) (q:x.Short1) (N:x.kind=3):Pure G Tryz.prog 60 [.agg x.cs] (.bool x.may):=by
 have J:=f130 G hG;have V:=f237 G x;have X:=dT {iz with old:=x.old,new:=x.new,nth:=x.nth};simp only[iz,map_nil]at X;simp only[iz]at V;rw[X]at V;have hM:=f238 G x q;have Z:=f94 G x q.fit x.told
 have E:bi (3:Int) aQ=some (.agg [fnv 237,fnv 238]):=by simp[bi,aQ]
 have hi:=f54 G (3:Int);rw[show inR (3:Int) 0 6=true from by decide]at hi;refine Pure.w c60 λR I=>?_;unfold s60 r60;rw[rE]at I;unfold Itm.pre at I;generalize decide (x=x.told)=e at*
 have O:inR x.kind 0 11=true:=by rw[N];decide
 have T:x.own (Itm.mayOne x.by_)=(de x.old 0&&(de x.new 1&&(inR x.nth 0 256&&(decide (0<(x.old.length:Int))||decide (x.nth=0))))):=by unfold Itm.own;simp[N]
 rw[T,O]at I;(repeat' (first|(with_reducible (first|refine ae (λh=>?_) λh=>?_|refine ai (λh=>?_) λh=>?_)<;>(try simp only[DZ]at h))|(with_reducible first|refine ab (f131 G _ q.at_) ?_|refine ab (f132 G _ q.for_) ?_|refine ab (f133 G _ q.start) ?_|refine ab V ?_|refine ab hM ?_|refine ab hi ?_)|simp only[EV,seval,N,E,Option.getD_some,Option.isSome_some,fnv,o6,D]|simp only[EV,seval,N,E,Option.getD_some,Option.isSome_some,fnv,o6]|(with_reducible intro aa M;(try(have F:=M;simp only[EVK]at F;first|(have D:=AI F D)|(have D:=F))))|(with_reducible first|refine af ?_ ?_|refine ag ?_)|(refine aC [] _ J.v (hH _) (SubN.refl _) (λr σ' hh Y=>?_);obtain⟨bm,rfl,rfl⟩:=hh;(have D:=Y);(try simp[Store.keys]at D))|(refine aO bt (l:=aQ) (k:=3) (z:=.agg #[.nilFunc,.nilFunc]) (zv:=.agg [.sc .nilFunc,.sc .nilFunc]) (eT:=170) rfl (bZ _) (by kernel_rfl) (by first|exact aW|(simp[Store.get, *];done)) (by kernel_rfl) fS ?_)|(refine aS Z (gu (by rw[dT];simp[aY,aT,Itm.told,Itm.just,iz,N])) ?_)))
 all_goals(refine RET.eq I (congrArg AV.bool ?_);clear I V X hM Z J hi E T O q)
 all_goals(try(first
  |exact absurd h (by decide)
  |(simp[*];done)
  |(simp[*,Bool.and_assoc];done)
  |(simp_all;done)))
end
def jq (n:Int):∀τ w v,Rep τ w (.i n) v->v=intK n:=by
 intro τ w v h;simp only[Rep]at h;exact h
def iE:∀τ w,Rep τ w (.agg [.sc .nilFunc,.sc .nilFunc]) (.agg #[.nilFunc,.nilFunc]):=by
 intro τ w;simp only[Rep,RepL];refine⟨_,rfl,by simp[Value.oneCell'],_,_,rfl,rfl,_,_,rfl,rfl,rfl⟩
def gv {x:Itm} {cs:List AV} (h:aY cs x.told.cs):aE [.agg x.cs,.agg cs] [.agg x.cs,.agg x.told.cs]:=⟨rH _,.inr h,trivial⟩
section
variable (G:Glob) (hG:GOk G)
include hG
set_option maxHeartbeats 4000000 in
def valid_4 (x:Itm) (q:x.Short1) (N:x.kind=4):Pure G Tryz.prog 60 [.agg x.cs] (.bool x.may):=by
 have J:=f130 G hG;have V:=f239 G x;have X:=dT {iz with new:=x.new};simp only[iz,map_nil]at X;simp only[iz]at V;rw[X]at V;have hM:=f240 G x q;have Z:=f94 G x q.fit x.told
 have E:bi (4:Int) aQ=some (.agg [fnv 239,fnv 240]):=by simp[bi,aQ]
 have hi:=f54 G (4:Int);rw[show inR (4:Int) 0 6=true from by decide]at hi;refine Pure.w c60 λR I=>?_;unfold s60 r60;rw[rE]at I;unfold Itm.pre at I;generalize decide (x=x.told)=e at*
 have O:inR x.kind 0 11=true:=by rw[N];decide
 have T:x.own (Itm.mayOne x.by_)=de x.new 0:=by unfold Itm.own;simp[N]
 rw[T,O]at I;(repeat' (first|(with_reducible (first|refine ae (λh=>?_) λh=>?_|refine ai (λh=>?_) λh=>?_)<;>(try simp only[DZ]at h))|(with_reducible first|refine ab (f131 G _ q.at_) ?_|refine ab (f132 G _ q.for_) ?_|refine ab (f133 G _ q.start) ?_|refine ab V ?_|refine ab hM ?_|refine ab hi ?_)|simp only[EV,seval,N,E,Option.getD_some,Option.isSome_some,fnv,o6,D]|simp only[EV,seval,N,E,Option.getD_some,Option.isSome_some,fnv,o6]|(with_reducible intro aa M;(try(have F:=M;simp only[EVK]at F;first|(have D:=AI F D)|(have D:=F))))|(with_reducible first|refine af ?_ ?_|refine ag ?_)|(refine aC [] _ J.v (hH _) (SubN.refl _) (λr σ' hh Y=>?_);obtain⟨bm,rfl,rfl⟩:=hh;(have D:=Y);(try simp[Store.keys]at D))|(refine aO bt (l:=aQ) (k:=4) (z:=.agg #[.nilFunc,.nilFunc]) (zv:=.agg [.sc .nilFunc,.sc .nilFunc]) (eT:=170) rfl (jq _) (by kernel_rfl) (by first|exact aW|(simp[Store.get, *];done)) (by kernel_rfl) iE ?_)|(refine aS Z (gv (by rw[dT];simp[aY,aT,Itm.told,Itm.just,iz,N])) ?_)))
 all_goals(refine RET.eq I (congrArg AV.bool ?_);clear I V X hM Z J hi E T O q)
 all_goals(try(first
  |exact absurd h (by decide)
  |(simp[*];done)
  |(simp[*,Bool.and_assoc];done)
  |(simp_all;done)))
set_option maxHeartbeats 4000000 in
def valid_5 (x:Itm) (q:x.Short1) (N:x.kind=5):Pure G Tryz.prog 60 [.agg x.cs] (.bool x.may):=by
 have J:=f130 G hG;have V:=f241 G x;have X:=dT {iz with label:=x.label};simp only[iz,map_nil]at X;simp only[iz]at V;rw[X]at V;have hM:=f242 G x;have Z:=f94 G x q.fit x.told
 have E:bi (5:Int) aQ=some (.agg [fnv 241,fnv 242]):=by simp[bi,aQ]
 have hi:=f54 G (5:Int);rw[show inR (5:Int) 0 6=true from by decide]at hi;refine Pure.w c60 λR I=>?_;unfold s60 r60;rw[rE]at I;unfold Itm.pre at I;generalize decide (x=x.told)=e at*
 have O:inR x.kind 0 11=true:=by rw[N];decide
 have T:x.own (Itm.mayOne x.by_)=bA x.label:=by unfold Itm.own;simp[N]
 rw[T,O]at I;(repeat' (first|(with_reducible (first|refine ae (λh=>?_) λh=>?_|refine ai (λh=>?_) λh=>?_)<;>(try simp only[DZ]at h))|(with_reducible first|refine ab (f131 G _ q.at_) ?_|refine ab (f132 G _ q.for_) ?_|refine ab (f133 G _ q.start) ?_|refine ab V ?_|refine ab hM ?_|refine ab hi ?_)|simp only[EV,seval,N,E,Option.getD_some,Option.isSome_some,fnv,o6,D]|simp only[EV,seval,N,E,Option.getD_some,Option.isSome_some,fnv,o6]|(with_reducible intro aa M;(try(have F:=M;simp only[EVK]at F;first|(have D:=AI F D)|(have D:=F))))|(with_reducible first|refine af ?_ ?_|refine ag ?_)|(refine aC [] _ J.v (hH _) (SubN.refl _) (λr σ' hh Y=>?_);obtain⟨bm,rfl,rfl⟩:=hh;(have D:=Y);(try simp[Store.keys]at D))|(refine aO bt (l:=aQ) (k:=5) (z:=.agg #[.nilFunc,.nilFunc]) (zv:=.agg [.sc .nilFunc,.sc .nilFunc]) (eT:=170) rfl (jq _) (by kernel_rfl) (by first|exact aW|(simp[Store.get, *];done)) (by kernel_rfl) iE ?_)|(refine aS Z (gv (by rw[dT];simp[aY,aT,Itm.told,Itm.just,iz,N])) ?_)))
 all_goals(refine RET.eq I (congrArg AV.bool ?_);clear I V X hM Z J hi E T O q)
 all_goals(try(first
  |exact absurd h (by decide)
  |(simp[*];done)
  |(simp[*,Bool.and_assoc];done)
  |(simp_all;done)))
set_option maxHeartbeats 4000000 in
def valid_6 (x:Itm) (q:x.Short1) (N:x.kind=6):Pure G Tryz.prog 60 [.agg x.cs] (.bool x.may):=by
 have J:=f130 G hG;have V:=f243 G x;have X:=dT {iz with to_:=x.to_,wh:=x.wh};simp only[iz,map_nil]at X;simp only[iz]at V;rw[X]at V;have hM:=f244 G x q;have Z:=f94 G x q.fit x.told
 have E:bi (6:Int) aQ=some (.agg [fnv 243,fnv 244]):=by simp[bi,aQ]
 have hi:=f54 G (6:Int);rw[show inR (6:Int) 0 6=true from by decide]at hi;refine Pure.w c60 λR I=>?_;unfold s60 r60;rw[rE]at I;unfold Itm.pre at I;generalize decide (x=x.told)=e at*
 have O:inR x.kind 0 11=true:=by rw[N];decide
 have T:x.own (Itm.mayOne x.by_)=(inR x.wh 0 3&&cI x.to_):=by unfold Itm.own;simp[N]
 rw[T,O]at I;(repeat' (first|(with_reducible (first|refine ae (λh=>?_) λh=>?_|refine ai (λh=>?_) λh=>?_)<;>(try simp only[DZ]at h))|(with_reducible first|refine ab (f131 G _ q.at_) ?_|refine ab (f132 G _ q.for_) ?_|refine ab (f133 G _ q.start) ?_|refine ab V ?_|refine ab hM ?_|refine ab hi ?_)|simp only[EV,seval,N,E,Option.getD_some,Option.isSome_some,fnv,o6,D]|simp only[EV,seval,N,E,Option.getD_some,Option.isSome_some,fnv,o6]|(with_reducible intro aa M;(try(have F:=M;simp only[EVK]at F;first|(have D:=AI F D)|(have D:=F))))|(with_reducible first|refine af ?_ ?_|refine ag ?_)|(refine aC [] _ J.v (hH _) (SubN.refl _) (λr σ' hh Y=>?_);obtain⟨bm,rfl,rfl⟩:=hh;(have D:=Y);(try simp[Store.keys]at D))|(refine aO bt (l:=aQ) (k:=6) (z:=.agg #[.nilFunc,.nilFunc]) (zv:=.agg [.sc .nilFunc,.sc .nilFunc]) (eT:=170) rfl (jq _) (by kernel_rfl) (by first|exact aW|(simp[Store.get, *];done)) (by kernel_rfl) iE ?_)|(refine aS Z (gv (by rw[dT];simp[aY,aT,Itm.told,Itm.just,iz,N])) ?_)))
 all_goals(refine RET.eq I (congrArg AV.bool ?_);clear I V X hM Z J hi E T O q)
 all_goals(try(first
  |exact absurd h (by decide)
  |(simp[*];done)
  |(simp[*,Bool.and_assoc];done)
  |(simp_all;done)))
set_option maxHeartbeats 4000000 in
def valid_7 (x:Itm) (q:x.Short1) (N:x.kind=7):Pure G Tryz.prog 60 [.agg x.cs] (.bool x.may):=by
 have J:=f130 G hG;have V:=f438 G x;have X:=dT {iz with act:=x.act,item:=x.item,day:=x.day};simp only[iz,map_nil]at X;simp only[iz]at V;rw[X]at V;have hM:=f439 G x;have Z:=f94 G x q.fit x.told
 have E:bi (7:Int) aQ=some (.agg [fnv 438,fnv 439]):=by simp[bi,aQ]
 have hi:=f54 G (7:Int);rw[show inR (7:Int) 0 6=false from by decide]at hi;refine Pure.w c60 λR I=>?_;unfold s60 r60;rw[rE]at I;unfold Itm.pre at I;generalize decide (x=x.told)=e at*
 have O:inR x.kind 0 11=true:=by rw[N];decide
 have T:x.own (Itm.mayOne x.by_)=(inR x.act 1 1048576&&(inR x.item (-1) 31&&inR x.day 0 1048576)):=by unfold Itm.own;simp[N]
 rw[T,O]at I;(repeat' (first|(with_reducible (refine ai (λh=>?_) λh=>?_)<;>(try simp only[DZ]at h))|(with_reducible first|refine ab V ?_|refine ab hM ?_|refine ab hi ?_)|simp only[EV,seval,N,E,Option.getD_some,Option.isSome_some,fnv,o6,D]|simp only[EV,seval,N,E,Option.getD_some,Option.isSome_some,fnv,o6]|(with_reducible intro aa M;(try(have F:=M;simp only[EVK]at F;first|(have D:=AI F D)|(have D:=F))))|(with_reducible first|refine af ?_ ?_|refine ag ?_)|(refine aC [] _ J.v (hH _) (SubN.refl _) (λr σ' hh Y=>?_);obtain⟨bm,rfl,rfl⟩:=hh;(have D:=Y);(try simp[Store.keys]at D))|(refine aO bt (l:=aQ) (k:=7) (z:=.agg #[.nilFunc,.nilFunc]) (zv:=.agg [.sc .nilFunc,.sc .nilFunc]) (eT:=170) rfl (jq _) (by kernel_rfl) (by first|exact aW|(simp[Store.get, *];done)) (by kernel_rfl) iE ?_)|(refine aS Z (gv (by rw[dT];simp[aY,aT,Itm.told,Itm.just,iz,N])) ?_)))
 all_goals(refine RET.eq I (congrArg AV.bool ?_);clear I V X hM Z J hi E T O q)
 all_goals(try(first
  |exact absurd h (by decide)
  |(simp[*];done)
  |(simp[*,Bool.and_assoc];done)
  |(simp_all;done)))
end
def jH (n:Int):∀τ w v,Rep τ w (.i n) v->v=intK n:=by
 intro τ w v h;simp only[Rep]at h;exact h
def gX:∀τ w,Rep τ w (.agg [.sc .nilFunc,.sc .nilFunc]) (.agg #[.nilFunc,.nilFunc]):=by
 intro τ w;simp only[Rep,RepL];refine⟨_,rfl,by simp[Value.oneCell'],_,_,rfl,rfl,_,_,rfl,rfl,rfl⟩
def gB {x:Itm} {cs:List AV} (h:aY cs x.told.cs):aE [.agg x.cs,.agg cs] [.agg x.cs,.agg x.told.cs]:=⟨rH _,.inr h,trivial⟩
section
variable (G:Glob) (hG:GOk G)
include hG
set_option maxHeartbeats 4000000 in
def valid_8 (x:Itm) (q:x.Short1) (N:x.kind=8):Pure G Tryz.prog 60 [.agg x.cs] (.bool x.may):=by
 have J:=f130 G hG;have V:=f438 G x;have X:=dT {iz with act:=x.act,item:=x.item,day:=x.day};simp only[iz,map_nil]at X;simp only[iz]at V;rw[X]at V;have hM:=f439 G x;have Z:=f94 G x q.fit x.told
 have E:bi (8:Int) aQ=some (.agg [fnv 438,fnv 439]):=by simp[bi,aQ]
 have hi:=f54 G (8:Int);rw[show inR (8:Int) 0 6=false from by decide]at hi;refine Pure.w c60 λR I=>?_;unfold s60 r60;rw[rE]at I;unfold Itm.pre at I;generalize decide (x=x.told)=e at*
 have O:inR x.kind 0 11=true:=by rw[N];decide
 have T:x.own (Itm.mayOne x.by_)=(inR x.act 1 1048576&&(inR x.item (-1) 31&&inR x.day 0 1048576)):=by unfold Itm.own;simp[N]
 rw[T,O]at I;(repeat' (first|(with_reducible (refine ai (λh=>?_) λh=>?_)<;>(try simp only[DZ]at h))|(with_reducible first|refine ab V ?_|refine ab hM ?_|refine ab hi ?_)|simp only[EV,seval,N,E,Option.getD_some,Option.isSome_some,fnv,o6,D]|simp only[EV,seval,N,E,Option.getD_some,Option.isSome_some,fnv,o6]|(with_reducible intro aa M;(try(have F:=M;simp only[EVK]at F;first|(have D:=AI F D)|(have D:=F))))|(with_reducible first|refine af ?_ ?_|refine ag ?_)|(refine aC [] _ J.v (hH _) (SubN.refl _) (λr σ' hh Y=>?_);obtain⟨bm,rfl,rfl⟩:=hh;(have D:=Y);(try simp[Store.keys]at D))|(refine aO bt (l:=aQ) (k:=8) (z:=.agg #[.nilFunc,.nilFunc]) (zv:=.agg [.sc .nilFunc,.sc .nilFunc]) (eT:=170) rfl (jH _) (by kernel_rfl) (by first|exact aW|(simp[Store.get, *];done)) (by kernel_rfl) gX ?_)|(refine aS Z (gB (by rw[dT];simp[aY,aT,Itm.told,Itm.just,iz,N])) ?_)))
 all_goals(refine RET.eq I (congrArg AV.bool ?_);clear I V X hM Z J hi E T O q)
 all_goals(try(first
  |exact absurd h (by decide)
  |(simp[*];done)
  |(simp[*,Bool.and_assoc];done)
  |(simp_all;done)))
set_option maxHeartbeats 4000000 in
def valid_9 (x:Itm) (q:x.Short1) (N:x.kind=9):Pure G Tryz.prog 60 [.agg x.cs] (.bool x.may):=by
 have J:=f130 G hG;have V:=f438 G x;have X:=dT {iz with act:=x.act,item:=x.item,day:=x.day};simp only[iz,map_nil]at X;simp only[iz]at V;rw[X]at V;have hM:=f439 G x;have Z:=f94 G x q.fit x.told
 have E:bi (9:Int) aQ=some (.agg [fnv 438,fnv 439]):=by simp[bi,aQ]
 have hi:=f54 G (9:Int);rw[show inR (9:Int) 0 6=false from by decide]at hi;refine Pure.w c60 λR I=>?_;unfold s60 r60;rw[rE]at I;unfold Itm.pre at I;generalize decide (x=x.told)=e at*
 have O:inR x.kind 0 11=true:=by rw[N];decide
 have T:x.own (Itm.mayOne x.by_)=(inR x.act 1 1048576&&(inR x.item (-1) 31&&inR x.day 0 1048576)):=by unfold Itm.own;simp[N]
 rw[T,O]at I;(repeat' (first|(with_reducible (refine ai (λh=>?_) λh=>?_)<;>(try simp only[DZ]at h))|(with_reducible first|refine ab V ?_|refine ab hM ?_|refine ab hi ?_)|simp only[EV,seval,N,E,Option.getD_some,Option.isSome_some,fnv,o6,D]|simp only[EV,seval,N,E,Option.getD_some,Option.isSome_some,fnv,o6]|(with_reducible intro aa M;(try(have F:=M;simp only[EVK]at F;first|(have D:=AI F D)|(have D:=F))))|(with_reducible first|refine af ?_ ?_|refine ag ?_)|(refine aC [] _ J.v (hH _) (SubN.refl _) (λr σ' hh Y=>?_);obtain⟨bm,rfl,rfl⟩:=hh;(have D:=Y);(try simp[Store.keys]at D))|(refine aO bt (l:=aQ) (k:=9) (z:=.agg #[.nilFunc,.nilFunc]) (zv:=.agg [.sc .nilFunc,.sc .nilFunc]) (eT:=170) rfl (jH _) (by kernel_rfl) (by first|exact aW|(simp[Store.get, *];done)) (by kernel_rfl) gX ?_)|(refine aS Z (gB (by rw[dT];simp[aY,aT,Itm.told,Itm.just,iz,N])) ?_)))
 all_goals(refine RET.eq I (congrArg AV.bool ?_);clear I V X hM Z J hi E T O q)
 all_goals(try(first
  |exact absurd h (by decide)
  |(simp[*];done)
  |(simp[*,Bool.and_assoc];done)
  |(simp_all;done)))
set_option maxHeartbeats 4000000 in
def valid_10 (x:Itm) (q:x.Short1) (N:x.kind=10):Pure G Tryz.prog 60 [.agg x.cs] (.bool x.may):=by
 have J:=f130 G hG;have V:=f245 G x;have X:=dT {iz with event:=x.event,day:=x.day};simp only[iz,map_nil]at X;simp only[iz]at V;rw[X]at V;have hM:=f246 G x q;have Z:=f94 G x q.fit x.told
 have E:bi (10:Int) aQ=some (.agg [fnv 245,fnv 246]):=by simp[bi,aQ]
 have hi:=f54 G (10:Int);rw[show inR (10:Int) 0 6=false from by decide]at hi;refine Pure.w c60 λR I=>?_;unfold s60 r60;rw[rE]at I;unfold Itm.pre at I;generalize decide (x=x.told)=e at*
 have O:inR x.kind 0 11=true:=by rw[N];decide
 have T:x.own (Itm.mayOne x.by_)=(d8 x.event&&inR x.day 0 1048576):=by unfold Itm.own;simp[N]
 rw[T,O]at I;(repeat' (first|(with_reducible (refine ai (λh=>?_) λh=>?_)<;>(try simp only[DZ]at h))|(with_reducible first|refine ab V ?_|refine ab hM ?_|refine ab hi ?_)|simp only[EV,seval,N,E,Option.getD_some,Option.isSome_some,fnv,o6,D]|simp only[EV,seval,N,E,Option.getD_some,Option.isSome_some,fnv,o6]|(with_reducible intro aa M;(try(have F:=M;simp only[EVK]at F;first|(have D:=AI F D)|(have D:=F))))|(with_reducible first|refine af ?_ ?_|refine ag ?_)|(refine aC [] _ J.v (hH _) (SubN.refl _) (λr σ' hh Y=>?_);obtain⟨bm,rfl,rfl⟩:=hh;(have D:=Y);(try simp[Store.keys]at D))|(refine aO bt (l:=aQ) (k:=10) (z:=.agg #[.nilFunc,.nilFunc]) (zv:=.agg [.sc .nilFunc,.sc .nilFunc]) (eT:=170) rfl (jH _) (by kernel_rfl) (by first|exact aW|(simp[Store.get, *];done)) (by kernel_rfl) gX ?_)|(refine aS Z (gB (by rw[dT];simp[aY,aT,Itm.told,Itm.just,iz,N])) ?_)))
 all_goals(refine RET.eq I (congrArg AV.bool ?_);clear I V X hM Z J hi E T O q)
 all_goals(try(first
  |exact absurd h (by decide)
  |(simp[*];done)
  |(simp[*,Bool.and_assoc];done)
  |(simp_all;done)))
set_option maxHeartbeats 4000000 in
def valid_11 (x:Itm) (q:x.Short1) (hy:∀y∈x.by_,Pure G Tryz.prog 60 [.agg y.cs] (.bool y.may)) (N:x.kind=11):Pure G Tryz.prog 60 [.agg x.cs] (.bool x.may):=by
 have J:=f130 G hG;have V:=f248 G x;have X:=dT {iz with act:=x.act,item:=x.item,by_:=x.by_};simp only[iz,map_nil]at X;simp only[iz]at V;rw[X]at V;have hM:=f249 G x q hy;have Z:=f94 G x q.fit x.told
 have E:bi (11:Int) aQ=some (.agg [fnv 248,fnv 249]):=by simp[bi,aQ]
 have hi:=f54 G (11:Int);rw[show inR (11:Int) 0 6=false from by decide]at hi;refine Pure.w c60 λR I=>?_;unfold s60 r60;rw[rE]at I;unfold Itm.pre at I;generalize decide (x=x.told)=e at*
 have O:inR x.kind 0 11=true:=by rw[N];decide
 have T:x.own (Itm.mayOne x.by_)=(inR x.act 1 1048576&&(inR x.item 0 31&&Itm.mayOne x.by_)):=by unfold Itm.own;simp[N]
 rw[T,O]at I;(repeat' (first|(with_reducible (refine ai (λh=>?_) λh=>?_)<;>(try simp only[DZ]at h))|(with_reducible first|refine ab V ?_|refine ab hM ?_|refine ab hi ?_)|simp only[EV,seval,N,E,Option.getD_some,Option.isSome_some,fnv,o6,D]|simp only[EV,seval,N,E,Option.getD_some,Option.isSome_some,fnv,o6]|(with_reducible intro aa M;(try(have F:=M;simp only[EVK]at F;first|(have D:=AI F D)|(have D:=F))))|(with_reducible first|refine af ?_ ?_|refine ag ?_)|(refine aC [] _ J.v (hH _) (SubN.refl _) (λr σ' hh Y=>?_);obtain⟨bm,rfl,rfl⟩:=hh;(have D:=Y);(try simp[Store.keys]at D))|(refine aO bt (l:=aQ) (k:=11) (z:=.agg #[.nilFunc,.nilFunc]) (zv:=.agg [.sc .nilFunc,.sc .nilFunc]) (eT:=170) rfl (jH _) (by kernel_rfl) (by first|exact aW|(simp[Store.get, *];done)) (by kernel_rfl) gX ?_)|(refine aS Z (gB (by rw[dT];simp[aY,aT,Itm.told,Itm.just,iz,N])) ?_)))
 all_goals(refine RET.eq I (congrArg AV.bool ?_);clear I V X hM Z J hi E T O q)
 all_goals(try(first
  |exact absurd h (by decide)
  |(simp[*];done)
  |(simp[*,Bool.and_assoc];done)
  |(simp_all;done)))
end
def bes (x:Itm):Bool:=decide (x.wh=2)||decide (x.wh=3)
def ins (x:Itm) (k:Int):Bool:=decide (x.kind=k)&& !bes x
/-! ### valid items -/
section
variable (G:Glob) (hG:GOk G)
end
def tab_none {k:Int} (h:¬(0<=k/\k<=11)):bi k aQ=none:=by
 simp only[aQ,bi];rw[if_neg (by omega),if_neg (by omega),if_neg (by omega),if_neg (by omega),if_neg (by omega),if_neg (by omega),if_neg (by omega),if_neg (by omega),if_neg (by omega),if_neg (by omega),if_neg (by omega),if_neg (by omega)]
section
variable (G:Glob) (hG:GOk G)
include hG
def rz (x:Itm) (X:¬(0<=x.kind/\x.kind<=11)):Pure G Tryz.prog 60 [.agg x.cs] (.bool x.may):=by
 have M:=f130 G hG;have I:=tab_none X
 have N:inR x.kind 0 11=false:=by unfold inR;simp;omega
 refine Pure.w c60 λR J=>?_;unfold s60 r60;rw[rE]at J;unfold Itm.pre at J;rw[N]at J;(repeat' (first|(with_reducible (first|refine ae (λh=>?_) λh=>?_|refine ai (λh=>?_) λh=>?_|refine ax (λh=>?_) λh=>?_)<;>(try simp only[DZ]at h))|(with_reducible refine AI (by omega) ?_)|simp only[EV,seval,I,Option.getD_none,Option.isSome_none,D]|simp only[EV,seval,I,Option.getD_none,Option.isSome_none]|(with_reducible intro T F;(try(have E:=F;simp only[EVK]at E;first|(have D:=AI E D)|(have D:=E))))|(with_reducible first|refine af ?_ ?_|refine ag ?_)|(refine aC [] _ M.v (hH _) (SubN.refl _) (λr σ' V O=>?_);obtain⟨Y,rfl,rfl⟩:=V;(have D:=O);(try simp[Store.keys]at D))|(refine ag ?_)|(refine aO bt (l:=aQ) (k:=x.kind) (z:=.agg #[.nilFunc,.nilFunc]) (zv:=.agg [.sc .nilFunc,.sc .nilFunc]) (eT:=170) rfl (bZ _) (by kernel_rfl) (by first|exact aW|(simp[Store.get, *];done)) (by kernel_rfl) fS ?_)|(exfalso;omega)))
 all_goals(refine RET.eq J (congrArg AV.bool ?_);simp;done)
def f60:∀x:Itm,x.Shorts->Pure G Tryz.prog 60 [.agg x.cs] (.bool x.may):=by
 refine Itm.ind λx ih J=>?_;obtain⟨q,D⟩:=(rI x).1 J;by_cases I:0<=x.kind/\x.kind<=11
 ·have F:x.kind=0\/x.kind=1\/x.kind=2\/x.kind=3\/x.kind=4\/x.kind=5\/x.kind=6\/x.kind=7\/x.kind=8\/x.kind=9\/x.kind=10\/x.kind=11:=by omega
  rcases F with h|h|h|h|h|h|h|h|h|h|h|h
  ·exact valid_0 G hG x q h
  ·exact valid_1 G hG x q h
  ·exact valid_2 G hG x q h
  ·exact valid_3 G hG x q h
  ·exact valid_4 G hG x q h
  ·exact valid_5 G hG x q h
  ·exact valid_6 G hG x q h
  ·exact valid_7 G hG x q h
  ·exact valid_8 G hG x q h
  ·exact valid_9 G hG x q h
  ·exact valid_10 G hG x q h
  ·exact valid_11 G hG x q (λy E=>ih y E (D y E)) h
 ·exact rz G hG x I
end
section
variable (G:Glob)
variable (hG:GOk G)
include hG
end
section
variable (G:Glob)
end
section
variable (G:Glob) (hG:GOk G)
include hG
end
section
variable (G:Glob)
end
section
variable (G:Glob)
end
section
variable (G:Glob)
end
section
variable (G:Glob)
end
section
variable (G:Glob)
end
section
variable (G:Glob)
end
/-! ### stops and joins -/
section
variable (G:Glob)
variable (hG:GOk G)
include hG
end
end Go.Av
