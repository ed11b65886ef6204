/-
  LINT, 33: valid items by the program.
-/
import Derived.Test.YtppjieiiibgagaaGreatDoorQXAv29toXL23
import Derived.Test.YtppjieiiibgagaaGreatDoorQXL19toXL25
import Derived.Test.YtppjieiiibgagaaGreatDoorQXE8toXE10
set_option linter.all false
namespace Go.Av
open Go Go.RowKit Go.Proofs List
def cM (n:Int):∀τ w v,Rep τ w (.i n) v->v=intK n:=by
 intro τ w v h;simp only[Rep]at h;exact h
def gh:∀τ w,Rep τ w (.agg [.sc .nilFunc,.sc .nilFunc]) (.agg #[.nilFunc,.nilFunc]):=by
 intro τ w;simp only[Rep,RepL];refine⟨_,rfl,by simp[Value.oneCell'],_,_,rfl,rfl,_,_,rfl,rfl,rfl⟩
def gz {x:Itm} {cs:List AV} (h:aW cs x.told.cs):aE [.agg x.cs,.agg cs] [.agg x.cs,.agg x.told.cs]:=⟨rW _,.inr h,trivial⟩
section
variable (G:Glob) (hG:GOk G)
include hG
set_option maxHeartbeats 4000000 in
def valid_0 (x:Itm) (q:x.Short1) (N:x.kind=0):Pure G Tryz.prog 60 [.agg x.cs] (.bool x.may):=by
 have J:=f130 G hG;have V:=f227 G x;have X:=eH {iz with wh:=x.wh,unit:=x.unit};simp only[iz,map_nil]at X;simp only[iz]at V;rw[X]at V;have hM:=f228 G hG x q.unit;have Z:=f94 G x q.fit x.told
 have E:bt (0:Int) aK=some (.agg [fnv 227,fnv 228]):=by simp[bt,aK]
 have hi:=f54 G (0:Int);rw[show inR (0:Int) 0 6=true from by decide]at hi;refine Pure.w c60 λR I=>?_;unfold s60 r60;rw[rS]at I;unfold Itm.pre at I;generalize decide (x=x.told)=e at*
 have O:inR x.kind 0 11=true:=by rw[N];decide
 have T:x.own (Itm.mayOne x.by_)=(inR x.wh 0 3&&(gu x.unit&&(decide (x.unit.kind≠0)&&decide ((textOf x.unit).2=0)))):=by unfold Itm.own;simp[N]
 rw[T,O]at I;(repeat' (first|(with_reducible (first|refine ae (λh=>?_) λh=>?_|refine af (λh=>?_) λh=>?_)<;>(try simp only[DZ]at h))|(with_reducible first|refine ab (f131 G _ q.at_) ?_|refine ab (f132 G _ q.for_) ?_|refine ab (f133 G _ q.start) ?_|refine ab V ?_|refine ab hM ?_|refine ab hi ?_)|simp only[EV,seval,N,E,Option.getD_some,Option.isSome_some,fnv,pt,D]|simp only[EV,seval,N,E,Option.getD_some,Option.isSome_some,fnv,pt]|(with_reducible intro aa M;(try(have F:=M;simp only[EVK]at F;first|(have D:=AI F D)|(have D:=F))))|(with_reducible first|refine ag ?_ ?_|refine ai ?_)|(refine aB [] _ J.v (hU _) (SubN.refl _) (λr σ' hh Y=>?_);obtain⟨bm,rfl,rfl⟩:=hh;(have D:=Y);(try simp[Store.keys]at D))|(refine aO bU (l:=aK) (k:=0) (z:=.agg #[.nilFunc,.nilFunc]) (zv:=.agg [.sc .nilFunc,.sc .nilFunc]) (eT:=170) rfl (cM _) (by kernel_rfl) (by first|exact bE|(simp[Store.get, *];done)) (by kernel_rfl) gh ?_)|(refine aP Z (gz (by rw[eH];simp[aW,aH,Itm.told,Itm.just,iz,N])) ?_)))
 all_goals(refine RET.eq I (congrArg AV.bool ?_);clear I V X hM Z J hi E T O q)
 all_goals(try(first
  |exact absurd h (by decide)
  |(simp[*];done)
  |(simp[*,Bool.and_assoc];done)
  |(simp_all;done)))
set_option maxHeartbeats 4000000 in
def valid_1 (x:Itm) (q:x.Short1) (N:x.kind=1):Pure G Tryz.prog 60 [.agg x.cs] (.bool x.may):=by
 have J:=f130 G hG;have V:=f231 G x;have X:=eH iz;simp only[iz,map_nil]at X;simp only[iz]at V;rw[X]at V;have hM:=f232 G x;have Z:=f94 G x q.fit x.told
 have E:bt (1:Int) aK=some (.agg [fnv 231,fnv 232]):=by simp[bt,aK]
 have hi:=f54 G (1:Int);rw[show inR (1:Int) 0 6=true from by decide]at hi;refine Pure.w c60 λR I=>?_;unfold s60 r60;rw[rS]at I;unfold Itm.pre at I;generalize decide (x=x.told)=e at*
 have O:inR x.kind 0 11=true:=by rw[N];decide
 have T:x.own (Itm.mayOne x.by_)=true:=by unfold Itm.own;simp[N]
 rw[T,O]at I;(repeat' (first|(with_reducible (first|refine ae (λh=>?_) λh=>?_|refine af (λh=>?_) λh=>?_)<;>(try simp only[DZ]at h))|(with_reducible first|refine ab (f131 G _ q.at_) ?_|refine ab (f132 G _ q.for_) ?_|refine ab (f133 G _ q.start) ?_|refine ab V ?_|refine ab hM ?_|refine ab hi ?_)|simp only[EV,seval,N,E,Option.getD_some,Option.isSome_some,fnv,pt,D]|simp only[EV,seval,N,E,Option.getD_some,Option.isSome_some,fnv,pt]|(with_reducible intro aa M;(try(have F:=M;simp only[EVK]at F;first|(have D:=AI F D)|(have D:=F))))|(with_reducible first|refine ag ?_ ?_|refine ai ?_)|(refine aB [] _ J.v (hU _) (SubN.refl _) (λr σ' hh Y=>?_);obtain⟨bm,rfl,rfl⟩:=hh;(have D:=Y);(try simp[Store.keys]at D))|(refine aO bU (l:=aK) (k:=1) (z:=.agg #[.nilFunc,.nilFunc]) (zv:=.agg [.sc .nilFunc,.sc .nilFunc]) (eT:=170) rfl (cM _) (by kernel_rfl) (by first|exact bE|(simp[Store.get, *];done)) (by kernel_rfl) gh ?_)|(refine aP Z (gz (by rw[eH];simp[aW,aH,Itm.told,Itm.just,iz,N])) ?_)))
 all_goals(refine RET.eq I (congrArg AV.bool ?_);clear I V X hM Z J hi E T O q)
 all_goals(try(first
  |exact absurd h (by decide)
  |(simp[*];done)
  |(simp[*,Bool.and_assoc];done)
  |(simp_all;done)))
set_option maxHeartbeats 4000000 in
def valid_2 (x:Itm) (q:x.Short1) (N:x.kind=2):Pure G Tryz.prog 60 [.agg x.cs] (.bool x.may):=by
 have J:=f130 G hG;have V:=f233 G x;have X:=eH {iz with old:=x.old,new:=x.new,nth:=x.nth};simp only[iz,map_nil]at X;simp only[iz]at V;rw[X]at V;have hM:=f234 G x q;have Z:=f94 G x q.fit x.told
 have E:bt (2:Int) aK=some (.agg [fnv 233,fnv 234]):=by simp[bt,aK]
 have hi:=f54 G (2:Int);rw[show inR (2:Int) 0 6=true from by decide]at hi;refine Pure.w c60 λR I=>?_;unfold s60 r60;rw[rS]at I;unfold Itm.pre at I;generalize decide (x=x.told)=e at*
 have O:inR x.kind 0 11=true:=by rw[N];decide
 have T:x.own (Itm.mayOne x.by_)=(dB x.old 1&&(dB x.new 0&&inR x.nth 0 256)):=by unfold Itm.own;simp[N]
 rw[T,O]at I;(repeat' (first|(with_reducible (first|refine ae (λh=>?_) λh=>?_|refine af (λh=>?_) λh=>?_)<;>(try simp only[DZ]at h))|(with_reducible first|refine ab (f131 G _ q.at_) ?_|refine ab (f132 G _ q.for_) ?_|refine ab (f133 G _ q.start) ?_|refine ab V ?_|refine ab hM ?_|refine ab hi ?_)|simp only[EV,seval,N,E,Option.getD_some,Option.isSome_some,fnv,pt,D]|simp only[EV,seval,N,E,Option.getD_some,Option.isSome_some,fnv,pt]|(with_reducible intro aa M;(try(have F:=M;simp only[EVK]at F;first|(have D:=AI F D)|(have D:=F))))|(with_reducible first|refine ag ?_ ?_|refine ai ?_)|(refine aB [] _ J.v (hU _) (SubN.refl _) (λr σ' hh Y=>?_);obtain⟨bm,rfl,rfl⟩:=hh;(have D:=Y);(try simp[Store.keys]at D))|(refine aO bU (l:=aK) (k:=2) (z:=.agg #[.nilFunc,.nilFunc]) (zv:=.agg [.sc .nilFunc,.sc .nilFunc]) (eT:=170) rfl (cM _) (by kernel_rfl) (by first|exact bE|(simp[Store.get, *];done)) (by kernel_rfl) gh ?_)|(refine aP Z (gz (by rw[eH];simp[aW,aH,Itm.told,Itm.just,iz,N])) ?_)))
 all_goals(refine RET.eq I (congrArg AV.bool ?_);clear I V X hM Z J hi E T O q)
 all_goals(try(first
  |exact absurd h (by decide)
  |(simp[*];done)
  |(simp[*,Bool.and_assoc];done)
  |(simp_all;done)))
set_option maxHeartbeats 4000000 in
def valid_3 (x:Itm) (q:x.Short1) (N:x.kind=3):Pure G Tryz.prog 60 [.agg x.cs] (.bool x.may):=by
 have J:=f130 G hG;have V:=f237 G x;have X:=eH {iz with old:=x.old,new:=x.new,nth:=x.nth};simp only[iz,map_nil]at X;simp only[iz]at V;rw[X]at V;have hM:=f238 G x q;have Z:=f94 G x q.fit x.told
 have E:bt (3:Int) aK=some (.agg [fnv 237,fnv 238]):=by simp[bt,aK]
 have hi:=f54 G (3:Int);rw[show inR (3:Int) 0 6=true from by decide]at hi;refine Pure.w c60 λR I=>?_;unfold s60 r60;rw[rS]at I;unfold Itm.pre at I;generalize decide (x=x.told)=e at*
 have O:inR x.kind 0 11=true:=by rw[N];decide
 have T:x.own (Itm.mayOne x.by_)=(dB x.old 0&&(dB x.new 1&&(inR x.nth 0 256&&(decide (0<(x.old.length:Int))||decide (x.nth=0))))):=by unfold Itm.own;simp[N]
 rw[T,O]at I;(repeat' (first|(with_reducible (first|refine ae (λh=>?_) λh=>?_|refine af (λh=>?_) λh=>?_)<;>(try simp only[DZ]at h))|(with_reducible first|refine ab (f131 G _ q.at_) ?_|refine ab (f132 G _ q.for_) ?_|refine ab (f133 G _ q.start) ?_|refine ab V ?_|refine ab hM ?_|refine ab hi ?_)|simp only[EV,seval,N,E,Option.getD_some,Option.isSome_some,fnv,pt,D]|simp only[EV,seval,N,E,Option.getD_some,Option.isSome_some,fnv,pt]|(with_reducible intro aa M;(try(have F:=M;simp only[EVK]at F;first|(have D:=AI F D)|(have D:=F))))|(with_reducible first|refine ag ?_ ?_|refine ai ?_)|(refine aB [] _ J.v (hU _) (SubN.refl _) (λr σ' hh Y=>?_);obtain⟨bm,rfl,rfl⟩:=hh;(have D:=Y);(try simp[Store.keys]at D))|(refine aO bU (l:=aK) (k:=3) (z:=.agg #[.nilFunc,.nilFunc]) (zv:=.agg [.sc .nilFunc,.sc .nilFunc]) (eT:=170) rfl (cM _) (by kernel_rfl) (by first|exact bE|(simp[Store.get, *];done)) (by kernel_rfl) gh ?_)|(refine aP Z (gz (by rw[eH];simp[aW,aH,Itm.told,Itm.just,iz,N])) ?_)))
 all_goals(refine RET.eq I (congrArg AV.bool ?_);clear I V X hM Z J hi E T O q)
 all_goals(try(first
  |exact absurd h (by decide)
  |(simp[*];done)
  |(simp[*,Bool.and_assoc];done)
  |(simp_all;done)))
end
def jG (n:Int):∀τ w v,Rep τ w (.i n) v->v=intK n:=by
 intro τ w v h;simp only[Rep]at h;exact h
def iS:∀τ w,Rep τ w (.agg [.sc .nilFunc,.sc .nilFunc]) (.agg #[.nilFunc,.nilFunc]):=by
 intro τ w;simp only[Rep,RepL];refine⟨_,rfl,by simp[Value.oneCell'],_,_,rfl,rfl,_,_,rfl,rfl,rfl⟩
def gH {x:Itm} {cs:List AV} (h:aW cs x.told.cs):aE [.agg x.cs,.agg cs] [.agg x.cs,.agg x.told.cs]:=⟨rW _,.inr h,trivial⟩
section
variable (G:Glob) (hG:GOk G)
include hG
set_option maxHeartbeats 4000000 in
def valid_4 (x:Itm) (q:x.Short1) (N:x.kind=4):Pure G Tryz.prog 60 [.agg x.cs] (.bool x.may):=by
 have J:=f130 G hG;have V:=f239 G x;have X:=eH {iz with new:=x.new};simp only[iz,map_nil]at X;simp only[iz]at V;rw[X]at V;have hM:=f240 G x q;have Z:=f94 G x q.fit x.told
 have E:bt (4:Int) aK=some (.agg [fnv 239,fnv 240]):=by simp[bt,aK]
 have hi:=f54 G (4:Int);rw[show inR (4:Int) 0 6=true from by decide]at hi;refine Pure.w c60 λR I=>?_;unfold s60 r60;rw[rS]at I;unfold Itm.pre at I;generalize decide (x=x.told)=e at*
 have O:inR x.kind 0 11=true:=by rw[N];decide
 have T:x.own (Itm.mayOne x.by_)=dB x.new 0:=by unfold Itm.own;simp[N]
 rw[T,O]at I;(repeat' (first|(with_reducible (first|refine ae (λh=>?_) λh=>?_|refine af (λh=>?_) λh=>?_)<;>(try simp only[DZ]at h))|(with_reducible first|refine ab (f131 G _ q.at_) ?_|refine ab (f132 G _ q.for_) ?_|refine ab (f133 G _ q.start) ?_|refine ab V ?_|refine ab hM ?_|refine ab hi ?_)|simp only[EV,seval,N,E,Option.getD_some,Option.isSome_some,fnv,pt,D]|simp only[EV,seval,N,E,Option.getD_some,Option.isSome_some,fnv,pt]|(with_reducible intro aa M;(try(have F:=M;simp only[EVK]at F;first|(have D:=AI F D)|(have D:=F))))|(with_reducible first|refine ag ?_ ?_|refine ai ?_)|(refine aB [] _ J.v (hU _) (SubN.refl _) (λr σ' hh Y=>?_);obtain⟨bm,rfl,rfl⟩:=hh;(have D:=Y);(try simp[Store.keys]at D))|(refine aO bU (l:=aK) (k:=4) (z:=.agg #[.nilFunc,.nilFunc]) (zv:=.agg [.sc .nilFunc,.sc .nilFunc]) (eT:=170) rfl (jG _) (by kernel_rfl) (by first|exact bE|(simp[Store.get, *];done)) (by kernel_rfl) iS ?_)|(refine aP Z (gH (by rw[eH];simp[aW,aH,Itm.told,Itm.just,iz,N])) ?_)))
 all_goals(refine RET.eq I (congrArg AV.bool ?_);clear I V X hM Z J hi E T O q)
 all_goals(try(first
  |exact absurd h (by decide)
  |(simp[*];done)
  |(simp[*,Bool.and_assoc];done)
  |(simp_all;done)))
set_option maxHeartbeats 4000000 in
def valid_5 (x:Itm) (q:x.Short1) (N:x.kind=5):Pure G Tryz.prog 60 [.agg x.cs] (.bool x.may):=by
 have J:=f130 G hG;have V:=f241 G x;have X:=eH {iz with label:=x.label};simp only[iz,map_nil]at X;simp only[iz]at V;rw[X]at V;have hM:=f242 G x;have Z:=f94 G x q.fit x.told
 have E:bt (5:Int) aK=some (.agg [fnv 241,fnv 242]):=by simp[bt,aK]
 have hi:=f54 G (5:Int);rw[show inR (5:Int) 0 6=true from by decide]at hi;refine Pure.w c60 λR I=>?_;unfold s60 r60;rw[rS]at I;unfold Itm.pre at I;generalize decide (x=x.told)=e at*
 have O:inR x.kind 0 11=true:=by rw[N];decide
 have T:x.own (Itm.mayOne x.by_)=bK x.label:=by unfold Itm.own;simp[N]
 rw[T,O]at I;(repeat' (first|(with_reducible (first|refine ae (λh=>?_) λh=>?_|refine af (λh=>?_) λh=>?_)<;>(try simp only[DZ]at h))|(with_reducible first|refine ab (f131 G _ q.at_) ?_|refine ab (f132 G _ q.for_) ?_|refine ab (f133 G _ q.start) ?_|refine ab V ?_|refine ab hM ?_|refine ab hi ?_)|simp only[EV,seval,N,E,Option.getD_some,Option.isSome_some,fnv,pt,D]|simp only[EV,seval,N,E,Option.getD_some,Option.isSome_some,fnv,pt]|(with_reducible intro aa M;(try(have F:=M;simp only[EVK]at F;first|(have D:=AI F D)|(have D:=F))))|(with_reducible first|refine ag ?_ ?_|refine ai ?_)|(refine aB [] _ J.v (hU _) (SubN.refl _) (λr σ' hh Y=>?_);obtain⟨bm,rfl,rfl⟩:=hh;(have D:=Y);(try simp[Store.keys]at D))|(refine aO bU (l:=aK) (k:=5) (z:=.agg #[.nilFunc,.nilFunc]) (zv:=.agg [.sc .nilFunc,.sc .nilFunc]) (eT:=170) rfl (jG _) (by kernel_rfl) (by first|exact bE|(simp[Store.get, *];done)) (by kernel_rfl) iS ?_)|(refine aP Z (gH (by rw[eH];simp[aW,aH,Itm.told,Itm.just,iz,N])) ?_)))
 all_goals(refine RET.eq I (congrArg AV.bool ?_);clear I V X hM Z J hi E T O q)
 all_goals(try(first
  |exact absurd h (by decide)
  |(simp[*];done)
  |(simp[*,Bool.and_assoc];done)
  |(simp_all;done)))
set_option maxHeartbeats 4000000 in
def valid_6 (x:Itm) (q:x.Short1) (N:x.kind=6):Pure G Tryz.prog 60 [.agg x.cs] (.bool x.may):=by
 have J:=f130 G hG;have V:=f243 G x;have X:=eH {iz with to_:=x.to_,wh:=x.wh};simp only[iz,map_nil]at X;simp only[iz]at V;rw[X]at V;have hM:=f244 G x q;have Z:=f94 G x q.fit x.told
 have E:bt (6:Int) aK=some (.agg [fnv 243,fnv 244]):=by simp[bt,aK]
 have hi:=f54 G (6:Int);rw[show inR (6:Int) 0 6=true from by decide]at hi;refine Pure.w c60 λR I=>?_;unfold s60 r60;rw[rS]at I;unfold Itm.pre at I;generalize decide (x=x.told)=e at*
 have O:inR x.kind 0 11=true:=by rw[N];decide
 have T:x.own (Itm.mayOne x.by_)=(inR x.wh 0 3&&cP x.to_):=by unfold Itm.own;simp[N]
 rw[T,O]at I;(repeat' (first|(with_reducible (first|refine ae (λh=>?_) λh=>?_|refine af (λh=>?_) λh=>?_)<;>(try simp only[DZ]at h))|(with_reducible first|refine ab (f131 G _ q.at_) ?_|refine ab (f132 G _ q.for_) ?_|refine ab (f133 G _ q.start) ?_|refine ab V ?_|refine ab hM ?_|refine ab hi ?_)|simp only[EV,seval,N,E,Option.getD_some,Option.isSome_some,fnv,pt,D]|simp only[EV,seval,N,E,Option.getD_some,Option.isSome_some,fnv,pt]|(with_reducible intro aa M;(try(have F:=M;simp only[EVK]at F;first|(have D:=AI F D)|(have D:=F))))|(with_reducible first|refine ag ?_ ?_|refine ai ?_)|(refine aB [] _ J.v (hU _) (SubN.refl _) (λr σ' hh Y=>?_);obtain⟨bm,rfl,rfl⟩:=hh;(have D:=Y);(try simp[Store.keys]at D))|(refine aO bU (l:=aK) (k:=6) (z:=.agg #[.nilFunc,.nilFunc]) (zv:=.agg [.sc .nilFunc,.sc .nilFunc]) (eT:=170) rfl (jG _) (by kernel_rfl) (by first|exact bE|(simp[Store.get, *];done)) (by kernel_rfl) iS ?_)|(refine aP Z (gH (by rw[eH];simp[aW,aH,Itm.told,Itm.just,iz,N])) ?_)))
 all_goals(refine RET.eq I (congrArg AV.bool ?_);clear I V X hM Z J hi E T O q)
 all_goals(try(first
  |exact absurd h (by decide)
  |(simp[*];done)
  |(simp[*,Bool.and_assoc];done)
  |(simp_all;done)))
set_option maxHeartbeats 4000000 in
def valid_7 (x:Itm) (q:x.Short1) (N:x.kind=7):Pure G Tryz.prog 60 [.agg x.cs] (.bool x.may):=by
 have J:=f130 G hG;have V:=f438 G x;have X:=eH {iz with act:=x.act,item:=x.item,day:=x.day};simp only[iz,map_nil]at X;simp only[iz]at V;rw[X]at V;have hM:=f439 G x;have Z:=f94 G x q.fit x.told
 have E:bt (7:Int) aK=some (.agg [fnv 438,fnv 439]):=by simp[bt,aK]
 have hi:=f54 G (7:Int);rw[show inR (7:Int) 0 6=false from by decide]at hi;refine Pure.w c60 λR I=>?_;unfold s60 r60;rw[rS]at I;unfold Itm.pre at I;generalize decide (x=x.told)=e at*
 have O:inR x.kind 0 11=true:=by rw[N];decide
 have T:x.own (Itm.mayOne x.by_)=(inR x.act 1 1048576&&(inR x.item (-1) 31&&inR x.day 0 1048576)):=by unfold Itm.own;simp[N]
 rw[T,O]at I;(repeat' (first|(with_reducible (refine af (λh=>?_) λh=>?_)<;>(try simp only[DZ]at h))|(with_reducible first|refine ab V ?_|refine ab hM ?_|refine ab hi ?_)|simp only[EV,seval,N,E,Option.getD_some,Option.isSome_some,fnv,pt,D]|simp only[EV,seval,N,E,Option.getD_some,Option.isSome_some,fnv,pt]|(with_reducible intro aa M;(try(have F:=M;simp only[EVK]at F;first|(have D:=AI F D)|(have D:=F))))|(with_reducible first|refine ag ?_ ?_|refine ai ?_)|(refine aB [] _ J.v (hU _) (SubN.refl _) (λr σ' hh Y=>?_);obtain⟨bm,rfl,rfl⟩:=hh;(have D:=Y);(try simp[Store.keys]at D))|(refine aO bU (l:=aK) (k:=7) (z:=.agg #[.nilFunc,.nilFunc]) (zv:=.agg [.sc .nilFunc,.sc .nilFunc]) (eT:=170) rfl (jG _) (by kernel_rfl) (by first|exact bE|(simp[Store.get, *];done)) (by kernel_rfl) iS ?_)|(refine aP Z (gH (by rw[eH];simp[aW,aH,Itm.told,Itm.just,iz,N])) ?_)))
 all_goals(refine RET.eq I (congrArg AV.bool ?_);clear I V X hM Z J hi E T O q)
 all_goals(try(first
  |exact absurd h (by decide)
  |(simp[*];done)
  |(simp[*,Bool.and_assoc];done)
  |(simp_all;done)))
end
def jW (n:Int):∀τ w v,Rep τ w (.i n) v->v=intK n:=by
 intro τ w v h;simp only[Rep]at h;exact h
def iL:∀τ w,Rep τ w (.agg [.sc .nilFunc,.sc .nilFunc]) (.agg #[.nilFunc,.nilFunc]):=by
 intro τ w;simp only[Rep,RepL];refine⟨_,rfl,by simp[Value.oneCell'],_,_,rfl,rfl,_,_,rfl,rfl,rfl⟩
def gw {x:Itm} {cs:List AV} (h:aW cs x.told.cs):aE [.agg x.cs,.agg cs] [.agg x.cs,.agg x.told.cs]:=⟨rW _,.inr h,trivial⟩
section
variable (G:Glob) (hG:GOk G)
include hG
set_option maxHeartbeats 4000000 in
def valid_8 (x:Itm) (q:x.Short1) (N:x.kind=8):Pure G Tryz.prog 60 [.agg x.cs] (.bool x.may):=by
 have J:=f130 G hG;have V:=f438 G x;have X:=eH {iz with act:=x.act,item:=x.item,day:=x.day};simp only[iz,map_nil]at X;simp only[iz]at V;rw[X]at V;have hM:=f439 G x;have Z:=f94 G x q.fit x.told
 have E:bt (8:Int) aK=some (.agg [fnv 438,fnv 439]):=by simp[bt,aK]
 have hi:=f54 G (8:Int);rw[show inR (8:Int) 0 6=false from by decide]at hi;refine Pure.w c60 λR I=>?_;unfold s60 r60;rw[rS]at I;unfold Itm.pre at I;generalize decide (x=x.told)=e at*
 have O:inR x.kind 0 11=true:=by rw[N];decide
 have T:x.own (Itm.mayOne x.by_)=(inR x.act 1 1048576&&(inR x.item (-1) 31&&inR x.day 0 1048576)):=by unfold Itm.own;simp[N]
 rw[T,O]at I;(repeat' (first|(with_reducible (refine af (λh=>?_) λh=>?_)<;>(try simp only[DZ]at h))|(with_reducible first|refine ab V ?_|refine ab hM ?_|refine ab hi ?_)|simp only[EV,seval,N,E,Option.getD_some,Option.isSome_some,fnv,pt,D]|simp only[EV,seval,N,E,Option.getD_some,Option.isSome_some,fnv,pt]|(with_reducible intro aa M;(try(have F:=M;simp only[EVK]at F;first|(have D:=AI F D)|(have D:=F))))|(with_reducible first|refine ag ?_ ?_|refine ai ?_)|(refine aB [] _ J.v (hU _) (SubN.refl _) (λr σ' hh Y=>?_);obtain⟨bm,rfl,rfl⟩:=hh;(have D:=Y);(try simp[Store.keys]at D))|(refine aO bU (l:=aK) (k:=8) (z:=.agg #[.nilFunc,.nilFunc]) (zv:=.agg [.sc .nilFunc,.sc .nilFunc]) (eT:=170) rfl (jW _) (by kernel_rfl) (by first|exact bE|(simp[Store.get, *];done)) (by kernel_rfl) iL ?_)|(refine aP Z (gw (by rw[eH];simp[aW,aH,Itm.told,Itm.just,iz,N])) ?_)))
 all_goals(refine RET.eq I (congrArg AV.bool ?_);clear I V X hM Z J hi E T O q)
 all_goals(try(first
  |exact absurd h (by decide)
  |(simp[*];done)
  |(simp[*,Bool.and_assoc];done)
  |(simp_all;done)))
set_option maxHeartbeats 4000000 in
def valid_9 (x:Itm) (q:x.Short1) (N:x.kind=9):Pure G Tryz.prog 60 [.agg x.cs] (.bool x.may):=by
 have J:=f130 G hG;have V:=f438 G x;have X:=eH {iz with act:=x.act,item:=x.item,day:=x.day};simp only[iz,map_nil]at X;simp only[iz]at V;rw[X]at V;have hM:=f439 G x;have Z:=f94 G x q.fit x.told
 have E:bt (9:Int) aK=some (.agg [fnv 438,fnv 439]):=by simp[bt,aK]
 have hi:=f54 G (9:Int);rw[show inR (9:Int) 0 6=false from by decide]at hi;refine Pure.w c60 λR I=>?_;unfold s60 r60;rw[rS]at I;unfold Itm.pre at I;generalize decide (x=x.told)=e at*
 have O:inR x.kind 0 11=true:=by rw[N];decide
 have T:x.own (Itm.mayOne x.by_)=(inR x.act 1 1048576&&(inR x.item (-1) 31&&inR x.day 0 1048576)):=by unfold Itm.own;simp[N]
 rw[T,O]at I;(repeat' (first|(with_reducible (refine af (λh=>?_) λh=>?_)<;>(try simp only[DZ]at h))|(with_reducible first|refine ab V ?_|refine ab hM ?_|refine ab hi ?_)|simp only[EV,seval,N,E,Option.getD_some,Option.isSome_some,fnv,pt,D]|simp only[EV,seval,N,E,Option.getD_some,Option.isSome_some,fnv,pt]|(with_reducible intro aa M;(try(have F:=M;simp only[EVK]at F;first|(have D:=AI F D)|(have D:=F))))|(with_reducible first|refine ag ?_ ?_|refine ai ?_)|(refine aB [] _ J.v (hU _) (SubN.refl _) (λr σ' hh Y=>?_);obtain⟨bm,rfl,rfl⟩:=hh;(have D:=Y);(try simp[Store.keys]at D))|(refine aO bU (l:=aK) (k:=9) (z:=.agg #[.nilFunc,.nilFunc]) (zv:=.agg [.sc .nilFunc,.sc .nilFunc]) (eT:=170) rfl (jW _) (by kernel_rfl) (by first|exact bE|(simp[Store.get, *];done)) (by kernel_rfl) iL ?_)|(refine aP Z (gw (by rw[eH];simp[aW,aH,Itm.told,Itm.just,iz,N])) ?_)))
 all_goals(refine RET.eq I (congrArg AV.bool ?_);clear I V X hM Z J hi E T O q)
 all_goals(try(first
  |exact absurd h (by decide)
  |(simp[*];done)
  |(simp[*,Bool.and_assoc];done)
  |(simp_all;done)))
set_option maxHeartbeats 4000000 in
def valid_10 (x:Itm) (q:x.Short1) (N:x.kind=10):Pure G Tryz.prog 60 [.agg x.cs] (.bool x.may):=by
 have J:=f130 G hG;have V:=f245 G x;have X:=eH {iz with event:=x.event,day:=x.day};simp only[iz,map_nil]at X;simp only[iz]at V;rw[X]at V;have hM:=f246 G x q;have Z:=f94 G x q.fit x.told
 have E:bt (10:Int) aK=some (.agg [fnv 245,fnv 246]):=by simp[bt,aK]
 have hi:=f54 G (10:Int);rw[show inR (10:Int) 0 6=false from by decide]at hi;refine Pure.w c60 λR I=>?_;unfold s60 r60;rw[rS]at I;unfold Itm.pre at I;generalize decide (x=x.told)=e at*
 have O:inR x.kind 0 11=true:=by rw[N];decide
 have T:x.own (Itm.mayOne x.by_)=(cQ x.event&&inR x.day 0 1048576):=by unfold Itm.own;simp[N]
 rw[T,O]at I;(repeat' (first|(with_reducible (refine af (λh=>?_) λh=>?_)<;>(try simp only[DZ]at h))|(with_reducible first|refine ab V ?_|refine ab hM ?_|refine ab hi ?_)|simp only[EV,seval,N,E,Option.getD_some,Option.isSome_some,fnv,pt,D]|simp only[EV,seval,N,E,Option.getD_some,Option.isSome_some,fnv,pt]|(with_reducible intro aa M;(try(have F:=M;simp only[EVK]at F;first|(have D:=AI F D)|(have D:=F))))|(with_reducible first|refine ag ?_ ?_|refine ai ?_)|(refine aB [] _ J.v (hU _) (SubN.refl _) (λr σ' hh Y=>?_);obtain⟨bm,rfl,rfl⟩:=hh;(have D:=Y);(try simp[Store.keys]at D))|(refine aO bU (l:=aK) (k:=10) (z:=.agg #[.nilFunc,.nilFunc]) (zv:=.agg [.sc .nilFunc,.sc .nilFunc]) (eT:=170) rfl (jW _) (by kernel_rfl) (by first|exact bE|(simp[Store.get, *];done)) (by kernel_rfl) iL ?_)|(refine aP Z (gw (by rw[eH];simp[aW,aH,Itm.told,Itm.just,iz,N])) ?_)))
 all_goals(refine RET.eq I (congrArg AV.bool ?_);clear I V X hM Z J hi E T O q)
 all_goals(try(first
  |exact absurd h (by decide)
  |(simp[*];done)
  |(simp[*,Bool.and_assoc];done)
  |(simp_all;done)))
set_option maxHeartbeats 4000000 in
def valid_11 (x:Itm) (q:x.Short1) (hy:∀y∈x.by_,Pure G Tryz.prog 60 [.agg y.cs] (.bool y.may)) (N:x.kind=11):Pure G Tryz.prog 60 [.agg x.cs] (.bool x.may):=by
 have J:=f130 G hG;have V:=f248 G x;have X:=eH {iz with act:=x.act,item:=x.item,by_:=x.by_};simp only[iz,map_nil]at X;simp only[iz]at V;rw[X]at V;have hM:=f249 G x q hy;have Z:=f94 G x q.fit x.told
 have E:bt (11:Int) aK=some (.agg [fnv 248,fnv 249]):=by simp[bt,aK]
 have hi:=f54 G (11:Int);rw[show inR (11:Int) 0 6=false from by decide]at hi;refine Pure.w c60 λR I=>?_;unfold s60 r60;rw[rS]at I;unfold Itm.pre at I;generalize decide (x=x.told)=e at*
 have O:inR x.kind 0 11=true:=by rw[N];decide
 have T:x.own (Itm.mayOne x.by_)=(inR x.act 1 1048576&&(inR x.item 0 31&&Itm.mayOne x.by_)):=by unfold Itm.own;simp[N]
 rw[T,O]at I;(repeat' (first|(with_reducible (refine af (λh=>?_) λh=>?_)<;>(try simp only[DZ]at h))|(with_reducible first|refine ab V ?_|refine ab hM ?_|refine ab hi ?_)|simp only[EV,seval,N,E,Option.getD_some,Option.isSome_some,fnv,pt,D]|simp only[EV,seval,N,E,Option.getD_some,Option.isSome_some,fnv,pt]|(with_reducible intro aa M;(try(have F:=M;simp only[EVK]at F;first|(have D:=AI F D)|(have D:=F))))|(with_reducible first|refine ag ?_ ?_|refine ai ?_)|(refine aB [] _ J.v (hU _) (SubN.refl _) (λr σ' hh Y=>?_);obtain⟨bm,rfl,rfl⟩:=hh;(have D:=Y);(try simp[Store.keys]at D))|(refine aO bU (l:=aK) (k:=11) (z:=.agg #[.nilFunc,.nilFunc]) (zv:=.agg [.sc .nilFunc,.sc .nilFunc]) (eT:=170) rfl (jW _) (by kernel_rfl) (by first|exact bE|(simp[Store.get, *];done)) (by kernel_rfl) iL ?_)|(refine aP Z (gw (by rw[eH];simp[aW,aH,Itm.told,Itm.just,iz,N])) ?_)))
 all_goals(refine RET.eq I (congrArg AV.bool ?_);clear I V X hM Z J hi E T O q)
 all_goals(try(first
  |exact absurd h (by decide)
  |(simp[*];done)
  |(simp[*,Bool.and_assoc];done)
  |(simp_all;done)))
end
def fw (w:Int) (t:List UInt8):Fnd:=⟨0,⟨0,0,0⟩,w,t⟩
def fY:List UInt8:=[105,110,118,97,108,105,100]
def cK:List UInt8:=[98,111,111,107]
def bA:List UInt8:=[99,111,110,116,97,105,110,109,101,110,116]
def dJ:List UInt8:=[115,101,108,102]
def aT:List UInt8:=[110,111,32,101,102,102,101,99,116]
def aV:List UInt8:=[111,119,110,32,108,97,98,101,108]
def bes (x:Itm):Bool:=decide (x.wh=2)||decide (x.wh=3)
def ins (x:Itm) (k:Int):Bool:=decide (x.kind=k)&& !bes x
def mJ (x:Itm):Bool:=(bD x.at_&&((decide (1<=x.kind)&&decide (x.kind<=6))||(decide (x.kind=0)&&bes x)))||(decide (x.kind=6)&&(bes x&&bD x.to_))
def lE (x:Itm):Bool:=(ins x 0&& !nests (bQ x.at_).kind x.unit.kind)||(ins x 6&& !nests (bQ x.to_).kind (bQ x.at_).kind)
def mP (x:Itm):Bool:=ins x 6&&decide (x.at_=x.to_)
def lK (x:Itm):Bool:=(decide (x.kind=2)&&decide (x.old=x.new))||(decide (x.kind=6)&&(bes x&&decide (x.at_=x.to_)))
def lz (x:Itm):Bool:=decide (x.kind=5)&&decide ((bQ x.at_).label=x.label)
def optF (b:Bool) (f:Fnd):List Fnd:=if b then [f]else []
def fk (x:Itm):List Fnd:=optF (mJ x) (fw 9 cK)++(optF (lE x) (fw 9 bA)++(optF (mP x) (fw 9 dJ)++(optF (lK x) (fw 11 aT)++optF (lz x) (fw 10 aV))))
def besR (x:Itm):Bool:=decide (2<=x.wh)
def dv (x:Itm):Bool:=(decide (1<=x.kind)&&(decide (x.kind<=6)&&bD x.at_))||((decide (x.kind=0)&&(besR x&&bD x.at_))||(decide (x.kind=6)&&(besR x&&bD x.to_)))
def dr (x:Itm):Bool:=(decide (x.kind=0)&&(!besR x&& !nests (bQ x.at_).kind x.unit.kind))||(decide (x.kind=6)&&(!besR x&& !nests (bQ x.to_).kind (bQ x.at_).kind))
def dq (x:Itm):Bool:=decide (x.kind=6)&&(!besR x&&decide (x.at_=x.to_))
def dk (x:Itm):Bool:=(decide (x.kind=2)&&decide (x.old=x.new))||(decide (x.kind=6)&&(besR x&&decide (x.at_=x.to_)))
def dh (x:Itm):Bool:=decide (x.kind=5)&&(!bD x.at_&&decide ((bQ x.at_).label=x.label))
def bB (x:Itm):List Fnd:=optF (dv x) (fw 9 cK)++(optF (dr x) (fw 9 bA)++(optF (dq x) (fw 9 dJ)++(optF (dk x) (fw 11 aT)++optF (dh x) (fw 10 aV))))
mutual
def Itm.finds:Itm->List Fnd
 |⟨k,a,t,wh,n,u,o,w,l,f,s,ac,it,d,e,b⟩=>if Itm.may ⟨k,a,t,wh,n,u,o,w,l,f,s,ac,it,d,e,b⟩=true then fk ⟨k,a,t,wh,n,u,o,w,l,f,s,ac,it,d,e,b⟩++Itm.findss b else [fw 1 fY]
def Itm.findss:List Itm->List Fnd
 |[]=>[]
 |x::l=>Itm.finds x++Itm.findss l
end
def sC (x:Itm):x.finds=if x.may=true then fk x++Itm.findss x.by_ else [fw 1 fY]:=by cases x;rw[Itm.finds]
def sI (x:Itm) (l:List Itm):Itm.findss (x::l)=x.finds++Itm.findss l:=by rw[Itm.findss]
def si:Itm.findss []=[]:=by rw[Itm.findss]
mutual
def Itm.refs:Itm->List Fnd
 |⟨k,a,t,wh,n,u,o,w,l,f,s,ac,it,d,e,b⟩=>if Itm.may ⟨k,a,t,wh,n,u,o,w,l,f,s,ac,it,d,e,b⟩=true then bB ⟨k,a,t,wh,n,u,o,w,l,f,s,ac,it,d,e,b⟩++(if k=11 then Itm.refs1 b else [])else [fw 1 fY]
def Itm.refs1:List Itm->List Fnd
 |[]=>[]
 |x::_=>Itm.refs x
end
def rR (x:Itm):x.refs=if x.may=true then bB x++(if x.kind=11 then Itm.refs1 x.by_ else [])else [fw 1 fY]:=by cases x;rw[Itm.refs]
def ta (x:Itm) (l:List Itm):Itm.refs1 (x::l)=x.refs:=by rw[Itm.refs1]
/-! ### valid items -/
def gt {x:Itm} (h:x.may=true):0<=x.kind/\x.kind<=11/\x=x.told/\x.own (Itm.mayOne x.by_)=true:=by
 rw[rS,Bool.and_eq_true]at h;obtain⟨D,E⟩:=h;unfold Itm.pre inR at D;simp only[Bool.and_eq_true,decide_eq_true_eq]at D;exact⟨D.1.1.1,D.1.1.2,D.1.2,E⟩
def may_by {x:Itm} (h:x.may=true) (J:x.kind≠11):x.by_=[]:=by
 obtain⟨I,E,F,_⟩:=gt h;have e:x.by_=x.told.by_:=congrArg Itm.by_ F;rw[e]
 have D:x.kind=0\/x.kind=1\/x.kind=2\/x.kind=3\/x.kind=4\/x.kind=5\/x.kind=6\/x.kind=7\/x.kind=8\/x.kind=9\/x.kind=10:=by omega
 rcases D with D|D|D|D|D|D|D|D|D|D|D<;>simp[Itm.told,Itm.just,iz,D]
def may_wh {x:Itm} (h:x.may=true) (E:x.kind=0\/x.kind=6):0<=x.wh/\x.wh<=3:=by
 obtain⟨_,_,_,D⟩:=gt h;unfold Itm.own at D
 rcases E with E|E
 ·rw[if_pos E]at D;unfold inR at D;simp only[Bool.and_eq_true,decide_eq_true_eq]at D;exact D.1
 ·rw[if_neg (by omega),if_neg (by omega),if_neg (by omega),if_neg (by omega),if_neg (by omega),if_pos E]at D;unfold inR at D;simp only[Bool.and_eq_true,decide_eq_true_eq]at D;exact D.1
def may_label {x:Itm} (h:x.may=true) (E:x.kind=5):x.label≠[]:=by
 obtain⟨_,_,_,D⟩:=gt h;unfold Itm.own at D;rw[if_neg (by omega),if_neg (by omega),if_neg (by omega),if_neg (by omega),if_pos E]at D;intro e;rw[e]at D;exact absurd D (by decide)
def og {x:Itm} (h:x.may=true) (I:x.kind=11):∃y,x.by_=[y]/\y.may=true:=by
 obtain⟨_,_,_,E⟩:=gt h;unfold Itm.own at E;rw[if_neg (by omega),if_neg (by omega),if_neg (by omega),if_neg (by omega),if_neg (by omega),if_neg (by omega),if_neg (by omega),if_neg (by omega),if_pos I]at E;simp only[Bool.and_eq_true]at E;have D:=E.2.2
 rcases F:x.by_ with _|⟨y,_|⟨z,l⟩⟩
 ·rw[F,Itm.mayOne]at D;cases D
 ·rw[F,rX]at D;simp only[Bool.and_eq_true]at D;exact⟨y,rfl,D.2⟩
 ·rw[F,rX]at D;simp at D
def j5 {x:Itm} (h:x.may=true) (D:x.kind=0\/x.kind=6):bes x=besR x:=by
 have:=may_wh h D;unfold bes besR;rw[Bool.eq_iff_iff];simp only[Bool.or_eq_true,decide_eq_true_eq];omega
def flaws_eq {x:Itm} (h:x.may=true):fk x=bB x:=by
 have I:mJ x=dv x:=by
  unfold mJ dv;by_cases E:x.kind=0
  ·rw[j5 h (.inl E)];simp[E,Bool.and_comm]
  ·by_cases D:x.kind=6
   ·rw[j5 h (.inr D)];simp[D]
   ·simp[E,D,Bool.and_comm,Bool.and_assoc,Bool.and_left_comm]
 have J:lE x=dr x:=by
  unfold lE dr ins;by_cases E:x.kind=0
  ·rw[j5 h (.inl E)];simp[E]
  ·by_cases D:x.kind=6
   ·rw[j5 h (.inr D)];simp[D]
   ·simp[E,D]
 have M:mP x=dq x:=by
  unfold mP dq ins;by_cases D:x.kind=6
  ·rw[j5 h (.inr D)];simp[D]
  ·simp[D]
 have N:lK x=dk x:=by
  unfold lK dk;by_cases D:x.kind=6
  ·rw[j5 h (.inr D)]
  ·simp[D]
 have O:lz x=dh x:=by
  unfold lz dh;by_cases F:x.kind=5
  ·cases X:bD x.at_ with
   |true=>
    have:(bQ x.at_).label=[]:=by unfold bQ;rw[X];rfl
    rw[this];have T:=may_label h F;have V:¬([]:List UInt8)=x.label:=λe=>T e.symm;simp[V]
   |false=>simp
  ·simp[F]
 unfold fk bB;rw[I,J,M,N,O]
def lV:∀x:Itm,x.finds=x.refs:=by
 refine Itm.ind λx ih=>?_;rw[sC,rR];by_cases D:x.may=true
 ·rw[if_pos D,if_pos D,flaws_eq D];by_cases E:x.kind=11
  ·obtain⟨y,F,_⟩:=og D E;rw[if_pos E,F,sI,si,append_nil,ta,ih y (by rw[F];simp)]
  ·rw[if_neg E,may_by D E,si]
 ·rw[if_neg D,if_neg D]
end Go.Av
