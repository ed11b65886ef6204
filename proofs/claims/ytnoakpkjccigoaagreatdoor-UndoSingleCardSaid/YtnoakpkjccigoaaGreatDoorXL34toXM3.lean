/-
  LINT, 34: valid items by the program.
-/
import Derived.Test.YtnoakpkjccigoaaGreatDoorXL30toXL33
import Derived.Test.YtnoakpkjccigoaaGreatDoorXE7toXP1
import Derived.Test.YtnoakpkjccigoaaGreatDoorXL28toXL51
import Derived.Lib.ItoaLen
namespace Go.Av
open Go Go.RowKit Go.Proofs List
set_option linter.unusedSimpArgs false
set_option linter.unusedVariables false
theorem iF (n:Int):∀τ w v,Rep τ w (.int .i64 n) v->v=intK n:=by
 intro τ w v h
 simp only[Rep]at h
 exact h
theorem gR:∀τ w,Rep τ w (.agg [.sc .nilFunc,.sc .nilFunc]) (.agg #[.nilFunc,.nilFunc]):=by
 intro τ w
 simp only[Rep,RepL]
 refine⟨_,rfl,by simp[Value.oneCell'],_,_,rfl,rfl,_,_,rfl,rfl,rfl⟩
theorem fD {x:Itm} {cs:List AV} (h:bc cs x.told.cs):ax [.agg x.cs,.agg cs] [.agg x.cs,.agg x.told.cs]:=⟨AVle.rfl' _,.inr h,trivial⟩
section
variable (G:Glob) (hG:GOk G)
include hG
set_option maxHeartbeats 4000000 in
theorem valid_4 (x:Itm) (q:x.Short1) (hk:x.kind=4):Pure G Tryz.prog 47 [.agg x.cs] (.bool x.may):=by
 have hRu:=f99 G hG
 have hH:=f177 G x
 have eH:=Itm.cs_eq {iz with new:=x.new}
 simp only[iz,map_nil]at eH
 simp only[iz]at hH
 rw[eH]at hH
 have hM:=f178 G x q
 have hE:=f103 G x q.fit x.told
 have hm1:aS (4:Int) aJ=some (.agg [fnv 177,fnv 178]):=by simp[aS,aJ]
 have hi:=f48 G (4:Int)
 rw[show inR (4:Int) 0 6=true from by decide]at hi
 refine Pure.w c47 λR hR=>?_
 unfold s47 r47
 rw[Itm.may_eq]at hR
 unfold Itm.pre at hR
 generalize decide (x=x.told)=e at*
 have hkk:inR x.kind 0 11=true:=by rw[hk];decide
 have hoo:x.own (Itm.mayOne x.by_)=cX x.new 0:=by unfold Itm.own;simp[hk]
 rw[hoo,hkk]at hR
 (repeat' (first|(with_reducible (first|refine ab (λh=>?_) (λh=>?_)|refine ai (λh=>?_) (λh=>?_))<;>(try simp only[Da,Db,Dc,Dw,De,Df,Dg,Dh]at h))|(with_reducible first|refine aa (f100 G _ q.at_) ?_|refine aa (f101 G _ q.for_) ?_|refine aa (f102 G _ q.start) ?_|refine aa hH ?_|refine aa hM ?_|refine aa hi ?_)|simp only[EVz,seval,↓reduceIte,EV6,EV7,hk,hm1,Option.getD_some,Option.isSome_some,fnv,U.cs_fold,hne]|simp only[EVz,seval,↓reduceIte,EV6,EV7,hk,hm1,Option.getD_some,Option.isSome_some,fnv,U.cs_fold]|(with_reducible intro blk hblk;(try(have hnx:=hblk;simp only[EVK]at hnx;first|(have hne:=AI hnx hne)|(have hne:=hnx))))|(with_reducible refine ae ?_ ?_)|(with_reducible refine af ?_)|(refine av [] _ hRu.v (ax.rfl' _) (SubN.refl _) (λr σ' hh hnd=>?_);obtain⟨bm,rfl,rfl⟩:=hh;(have hne:=hnd);(try simp[Store.keys]at hne))|(refine aG bg (l:=aJ) (k:=4) (z:=.agg #[.nilFunc,.nilFunc]) (zv:=.agg [.sc .nilFunc,.sc .nilFunc]) (eT:=142) rfl (iF _) (by kernel_rfl) (by first|exact aQ|(simp[Store.get, *];done)) (by kernel_rfl) gR ?_)|(refine aE hE (fD (by rw[Itm.cs_eq];simp[bc,aR,Itm.told,Itm.just,iz,hk])) ?_)|fail))
 all_goals(refine RET.eq hR (congrArg AV.bool ?_);clear hR hH eH hM hE hRu hi hm1 hoo hkk q)
 all_goals(try(first
  |exact absurd h (by decide)
  |(simp[*];done)
  |(simp[*,Bool.and_assoc];done)
  |(simp_all;done)))
set_option maxHeartbeats 4000000 in
theorem valid_5 (x:Itm) (q:x.Short1) (hk:x.kind=5):Pure G Tryz.prog 47 [.agg x.cs] (.bool x.may):=by
 have hRu:=f99 G hG
 have hH:=f179 G x
 have eH:=Itm.cs_eq {iz with label:=x.label}
 simp only[iz,map_nil]at eH
 simp only[iz]at hH
 rw[eH]at hH
 have hM:=f180 G x
 have hE:=f103 G x q.fit x.told
 have hm1:aS (5:Int) aJ=some (.agg [fnv 179,fnv 180]):=by simp[aS,aJ]
 have hi:=f48 G (5:Int)
 rw[show inR (5:Int) 0 6=true from by decide]at hi
 refine Pure.w c47 λR hR=>?_
 unfold s47 r47
 rw[Itm.may_eq]at hR
 unfold Itm.pre at hR
 generalize decide (x=x.told)=e at*
 have hkk:inR x.kind 0 11=true:=by rw[hk];decide
 have hoo:x.own (Itm.mayOne x.by_)=br x.label:=by unfold Itm.own;simp[hk]
 rw[hoo,hkk]at hR
 (repeat' (first|(with_reducible (first|refine ab (λh=>?_) (λh=>?_)|refine ai (λh=>?_) (λh=>?_))<;>(try simp only[Da,Db,Dc,Dw,De,Df,Dg,Dh]at h))|(with_reducible first|refine aa (f100 G _ q.at_) ?_|refine aa (f101 G _ q.for_) ?_|refine aa (f102 G _ q.start) ?_|refine aa hH ?_|refine aa hM ?_|refine aa hi ?_)|simp only[EVz,seval,↓reduceIte,EV6,EV7,hk,hm1,Option.getD_some,Option.isSome_some,fnv,U.cs_fold,hne]|simp only[EVz,seval,↓reduceIte,EV6,EV7,hk,hm1,Option.getD_some,Option.isSome_some,fnv,U.cs_fold]|(with_reducible intro blk hblk;(try(have hnx:=hblk;simp only[EVK]at hnx;first|(have hne:=AI hnx hne)|(have hne:=hnx))))|(with_reducible refine ae ?_ ?_)|(with_reducible refine af ?_)|(refine av [] _ hRu.v (ax.rfl' _) (SubN.refl _) (λr σ' hh hnd=>?_);obtain⟨bm,rfl,rfl⟩:=hh;(have hne:=hnd);(try simp[Store.keys]at hne))|(refine aG bg (l:=aJ) (k:=5) (z:=.agg #[.nilFunc,.nilFunc]) (zv:=.agg [.sc .nilFunc,.sc .nilFunc]) (eT:=142) rfl (iF _) (by kernel_rfl) (by first|exact aQ|(simp[Store.get, *];done)) (by kernel_rfl) gR ?_)|(refine aE hE (fD (by rw[Itm.cs_eq];simp[bc,aR,Itm.told,Itm.just,iz,hk])) ?_)|fail))
 all_goals(refine RET.eq hR (congrArg AV.bool ?_);clear hR hH eH hM hE hRu hi hm1 hoo hkk q)
 all_goals(try(first
  |exact absurd h (by decide)
  |(simp[*];done)
  |(simp[*,Bool.and_assoc];done)
  |(simp_all;done)))
set_option maxHeartbeats 4000000 in
theorem valid_6 (x:Itm) (q:x.Short1) (hk:x.kind=6):Pure G Tryz.prog 47 [.agg x.cs] (.bool x.may):=by
 have hRu:=f99 G hG
 have hH:=f181 G x
 have eH:=Itm.cs_eq {iz with to_:=x.to_,wh:=x.wh}
 simp only[iz,map_nil]at eH
 simp only[iz]at hH
 rw[eH]at hH
 have hM:=f182 G x q
 have hE:=f103 G x q.fit x.told
 have hm1:aS (6:Int) aJ=some (.agg [fnv 181,fnv 182]):=by simp[aS,aJ]
 have hi:=f48 G (6:Int)
 rw[show inR (6:Int) 0 6=true from by decide]at hi
 refine Pure.w c47 λR hR=>?_
 unfold s47 r47
 rw[Itm.may_eq]at hR
 unfold Itm.pre at hR
 generalize decide (x=x.told)=e at*
 have hkk:inR x.kind 0 11=true:=by rw[hk];decide
 have hoo:x.own (Itm.mayOne x.by_)=(inR x.wh 0 3&&dU x.to_):=by unfold Itm.own;simp[hk]
 rw[hoo,hkk]at hR
 (repeat' (first|(with_reducible (first|refine ab (λh=>?_) (λh=>?_)|refine ai (λh=>?_) (λh=>?_))<;>(try simp only[Da,Db,Dc,Dw,De,Df,Dg,Dh]at h))|(with_reducible first|refine aa (f100 G _ q.at_) ?_|refine aa (f101 G _ q.for_) ?_|refine aa (f102 G _ q.start) ?_|refine aa hH ?_|refine aa hM ?_|refine aa hi ?_)|simp only[EVz,seval,↓reduceIte,EV6,EV7,hk,hm1,Option.getD_some,Option.isSome_some,fnv,U.cs_fold,hne]|simp only[EVz,seval,↓reduceIte,EV6,EV7,hk,hm1,Option.getD_some,Option.isSome_some,fnv,U.cs_fold]|(with_reducible intro blk hblk;(try(have hnx:=hblk;simp only[EVK]at hnx;first|(have hne:=AI hnx hne)|(have hne:=hnx))))|(with_reducible refine ae ?_ ?_)|(with_reducible refine af ?_)|(refine av [] _ hRu.v (ax.rfl' _) (SubN.refl _) (λr σ' hh hnd=>?_);obtain⟨bm,rfl,rfl⟩:=hh;(have hne:=hnd);(try simp[Store.keys]at hne))|(refine aG bg (l:=aJ) (k:=6) (z:=.agg #[.nilFunc,.nilFunc]) (zv:=.agg [.sc .nilFunc,.sc .nilFunc]) (eT:=142) rfl (iF _) (by kernel_rfl) (by first|exact aQ|(simp[Store.get, *];done)) (by kernel_rfl) gR ?_)|(refine aE hE (fD (by rw[Itm.cs_eq];simp[bc,aR,Itm.told,Itm.just,iz,hk])) ?_)|fail))
 all_goals(refine RET.eq hR (congrArg AV.bool ?_);clear hR hH eH hM hE hRu hi hm1 hoo hkk q)
 all_goals(try(first
  |exact absurd h (by decide)
  |(simp[*];done)
  |(simp[*,Bool.and_assoc];done)
  |(simp_all;done)))
set_option maxHeartbeats 4000000 in
theorem valid_7 (x:Itm) (q:x.Short1) (hk:x.kind=7):Pure G Tryz.prog 47 [.agg x.cs] (.bool x.may):=by
 have hRu:=f99 G hG
 have hH:=f353 G x
 have eH:=Itm.cs_eq {iz with act:=x.act,item:=x.item,day:=x.day}
 simp only[iz,map_nil]at eH
 simp only[iz]at hH
 rw[eH]at hH
 have hM:=f354 G x
 have hE:=f103 G x q.fit x.told
 have hm1:aS (7:Int) aJ=some (.agg [fnv 353,fnv 354]):=by simp[aS,aJ]
 have hi:=f48 G (7:Int)
 rw[show inR (7:Int) 0 6=false from by decide]at hi
 refine Pure.w c47 λR hR=>?_
 unfold s47 r47
 rw[Itm.may_eq]at hR
 unfold Itm.pre at hR
 generalize decide (x=x.told)=e at*
 have hkk:inR x.kind 0 11=true:=by rw[hk];decide
 have hoo:x.own (Itm.mayOne x.by_)=(inR x.act 1 1048576&&(inR x.item (-1) 31&&inR x.day 0 1048576)):=by unfold Itm.own;simp[hk]
 rw[hoo,hkk]at hR
 (repeat' (first|(with_reducible (refine ai (λh=>?_) (λh=>?_))<;>(try simp only[Da,Db,Dc,Dw,De,Df,Dg,Dh]at h))|(with_reducible first|refine aa hH ?_|refine aa hM ?_|refine aa hi ?_)|simp only[EVz,seval,↓reduceIte,EV6,EV7,hk,hm1,Option.getD_some,Option.isSome_some,fnv,U.cs_fold,hne]|simp only[EVz,seval,↓reduceIte,EV6,EV7,hk,hm1,Option.getD_some,Option.isSome_some,fnv,U.cs_fold]|(with_reducible intro blk hblk;(try(have hnx:=hblk;simp only[EVK]at hnx;first|(have hne:=AI hnx hne)|(have hne:=hnx))))|(with_reducible refine ae ?_ ?_)|(with_reducible refine af ?_)|(refine av [] _ hRu.v (ax.rfl' _) (SubN.refl _) (λr σ' hh hnd=>?_);obtain⟨bm,rfl,rfl⟩:=hh;(have hne:=hnd);(try simp[Store.keys]at hne))|(refine aG bg (l:=aJ) (k:=7) (z:=.agg #[.nilFunc,.nilFunc]) (zv:=.agg [.sc .nilFunc,.sc .nilFunc]) (eT:=142) rfl (iF _) (by kernel_rfl) (by first|exact aQ|(simp[Store.get, *];done)) (by kernel_rfl) gR ?_)|(refine aE hE (fD (by rw[Itm.cs_eq];simp[bc,aR,Itm.told,Itm.just,iz,hk])) ?_)|fail))
 all_goals(refine RET.eq hR (congrArg AV.bool ?_);clear hR hH eH hM hE hRu hi hm1 hoo hkk q)
 all_goals(try(first
  |exact absurd h (by decide)
  |(simp[*];done)
  |(simp[*,Bool.and_assoc];done)
  |(simp_all;done)))
end
theorem iW (n:Int):∀τ w v,Rep τ w (.int .i64 n) v->v=intK n:=by
 intro τ w v h
 simp only[Rep]at h
 exact h
theorem gm:∀τ w,Rep τ w (.agg [.sc .nilFunc,.sc .nilFunc]) (.agg #[.nilFunc,.nilFunc]):=by
 intro τ w
 simp only[Rep,RepL]
 refine⟨_,rfl,by simp[Value.oneCell'],_,_,rfl,rfl,_,_,rfl,rfl,rfl⟩
theorem fF {x:Itm} {cs:List AV} (h:bc cs x.told.cs):ax [.agg x.cs,.agg cs] [.agg x.cs,.agg x.told.cs]:=⟨AVle.rfl' _,.inr h,trivial⟩
section
variable (G:Glob) (hG:GOk G)
include hG
set_option maxHeartbeats 4000000 in
theorem valid_8 (x:Itm) (q:x.Short1) (hk:x.kind=8):Pure G Tryz.prog 47 [.agg x.cs] (.bool x.may):=by
 have hRu:=f99 G hG
 have hH:=f353 G x
 have eH:=Itm.cs_eq {iz with act:=x.act,item:=x.item,day:=x.day}
 simp only[iz,map_nil]at eH
 simp only[iz]at hH
 rw[eH]at hH
 have hM:=f354 G x
 have hE:=f103 G x q.fit x.told
 have hm1:aS (8:Int) aJ=some (.agg [fnv 353,fnv 354]):=by simp[aS,aJ]
 have hi:=f48 G (8:Int)
 rw[show inR (8:Int) 0 6=false from by decide]at hi
 refine Pure.w c47 λR hR=>?_
 unfold s47 r47
 rw[Itm.may_eq]at hR
 unfold Itm.pre at hR
 generalize decide (x=x.told)=e at*
 have hkk:inR x.kind 0 11=true:=by rw[hk];decide
 have hoo:x.own (Itm.mayOne x.by_)=(inR x.act 1 1048576&&(inR x.item (-1) 31&&inR x.day 0 1048576)):=by unfold Itm.own;simp[hk]
 rw[hoo,hkk]at hR
 (repeat' (first|(with_reducible (refine ai (λh=>?_) (λh=>?_))<;>(try simp only[Da,Db,Dc,Dw,De,Df,Dg,Dh]at h))|(with_reducible first|refine aa hH ?_|refine aa hM ?_|refine aa hi ?_)|simp only[EVz,seval,↓reduceIte,EV6,EV7,hk,hm1,Option.getD_some,Option.isSome_some,fnv,U.cs_fold,hne]|simp only[EVz,seval,↓reduceIte,EV6,EV7,hk,hm1,Option.getD_some,Option.isSome_some,fnv,U.cs_fold]|(with_reducible intro blk hblk;(try(have hnx:=hblk;simp only[EVK]at hnx;first|(have hne:=AI hnx hne)|(have hne:=hnx))))|(with_reducible refine ae ?_ ?_)|(with_reducible refine af ?_)|(refine av [] _ hRu.v (ax.rfl' _) (SubN.refl _) (λr σ' hh hnd=>?_);obtain⟨bm,rfl,rfl⟩:=hh;(have hne:=hnd);(try simp[Store.keys]at hne))|(refine aG bg (l:=aJ) (k:=8) (z:=.agg #[.nilFunc,.nilFunc]) (zv:=.agg [.sc .nilFunc,.sc .nilFunc]) (eT:=142) rfl (iW _) (by kernel_rfl) (by first|exact aQ|(simp[Store.get, *];done)) (by kernel_rfl) gm ?_)|(refine aE hE (fF (by rw[Itm.cs_eq];simp[bc,aR,Itm.told,Itm.just,iz,hk])) ?_)|fail))
 all_goals(refine RET.eq hR (congrArg AV.bool ?_);clear hR hH eH hM hE hRu hi hm1 hoo hkk q)
 all_goals(try(first
  |exact absurd h (by decide)
  |(simp[*];done)
  |(simp[*,Bool.and_assoc];done)
  |(simp_all;done)))
set_option maxHeartbeats 4000000 in
theorem valid_9 (x:Itm) (q:x.Short1) (hk:x.kind=9):Pure G Tryz.prog 47 [.agg x.cs] (.bool x.may):=by
 have hRu:=f99 G hG
 have hH:=f353 G x
 have eH:=Itm.cs_eq {iz with act:=x.act,item:=x.item,day:=x.day}
 simp only[iz,map_nil]at eH
 simp only[iz]at hH
 rw[eH]at hH
 have hM:=f354 G x
 have hE:=f103 G x q.fit x.told
 have hm1:aS (9:Int) aJ=some (.agg [fnv 353,fnv 354]):=by simp[aS,aJ]
 have hi:=f48 G (9:Int)
 rw[show inR (9:Int) 0 6=false from by decide]at hi
 refine Pure.w c47 λR hR=>?_
 unfold s47 r47
 rw[Itm.may_eq]at hR
 unfold Itm.pre at hR
 generalize decide (x=x.told)=e at*
 have hkk:inR x.kind 0 11=true:=by rw[hk];decide
 have hoo:x.own (Itm.mayOne x.by_)=(inR x.act 1 1048576&&(inR x.item (-1) 31&&inR x.day 0 1048576)):=by unfold Itm.own;simp[hk]
 rw[hoo,hkk]at hR
 (repeat' (first|(with_reducible (refine ai (λh=>?_) (λh=>?_))<;>(try simp only[Da,Db,Dc,Dw,De,Df,Dg,Dh]at h))|(with_reducible first|refine aa hH ?_|refine aa hM ?_|refine aa hi ?_)|simp only[EVz,seval,↓reduceIte,EV6,EV7,hk,hm1,Option.getD_some,Option.isSome_some,fnv,U.cs_fold,hne]|simp only[EVz,seval,↓reduceIte,EV6,EV7,hk,hm1,Option.getD_some,Option.isSome_some,fnv,U.cs_fold]|(with_reducible intro blk hblk;(try(have hnx:=hblk;simp only[EVK]at hnx;first|(have hne:=AI hnx hne)|(have hne:=hnx))))|(with_reducible refine ae ?_ ?_)|(with_reducible refine af ?_)|(refine av [] _ hRu.v (ax.rfl' _) (SubN.refl _) (λr σ' hh hnd=>?_);obtain⟨bm,rfl,rfl⟩:=hh;(have hne:=hnd);(try simp[Store.keys]at hne))|(refine aG bg (l:=aJ) (k:=9) (z:=.agg #[.nilFunc,.nilFunc]) (zv:=.agg [.sc .nilFunc,.sc .nilFunc]) (eT:=142) rfl (iW _) (by kernel_rfl) (by first|exact aQ|(simp[Store.get, *];done)) (by kernel_rfl) gm ?_)|(refine aE hE (fF (by rw[Itm.cs_eq];simp[bc,aR,Itm.told,Itm.just,iz,hk])) ?_)|fail))
 all_goals(refine RET.eq hR (congrArg AV.bool ?_);clear hR hH eH hM hE hRu hi hm1 hoo hkk q)
 all_goals(try(first
  |exact absurd h (by decide)
  |(simp[*];done)
  |(simp[*,Bool.and_assoc];done)
  |(simp_all;done)))
set_option maxHeartbeats 4000000 in
theorem valid_10 (x:Itm) (q:x.Short1) (hk:x.kind=10):Pure G Tryz.prog 47 [.agg x.cs] (.bool x.may):=by
 have hRu:=f99 G hG
 have hH:=f183 G x
 have eH:=Itm.cs_eq {iz with event:=x.event,day:=x.day}
 simp only[iz,map_nil]at eH
 simp only[iz]at hH
 rw[eH]at hH
 have hM:=f184 G x q
 have hE:=f103 G x q.fit x.told
 have hm1:aS (10:Int) aJ=some (.agg [fnv 183,fnv 184]):=by simp[aS,aJ]
 have hi:=f48 G (10:Int)
 rw[show inR (10:Int) 0 6=false from by decide]at hi
 refine Pure.w c47 λR hR=>?_
 unfold s47 r47
 rw[Itm.may_eq]at hR
 unfold Itm.pre at hR
 generalize decide (x=x.told)=e at*
 have hkk:inR x.kind 0 11=true:=by rw[hk];decide
 have hoo:x.own (Itm.mayOne x.by_)=(ii x.event&&inR x.day 0 1048576):=by unfold Itm.own;simp[hk]
 rw[hoo,hkk]at hR
 (repeat' (first|(with_reducible (refine ai (λh=>?_) (λh=>?_))<;>(try simp only[Da,Db,Dc,Dw,De,Df,Dg,Dh]at h))|(with_reducible first|refine aa hH ?_|refine aa hM ?_|refine aa hi ?_)|simp only[EVz,seval,↓reduceIte,EV6,EV7,hk,hm1,Option.getD_some,Option.isSome_some,fnv,U.cs_fold,hne]|simp only[EVz,seval,↓reduceIte,EV6,EV7,hk,hm1,Option.getD_some,Option.isSome_some,fnv,U.cs_fold]|(with_reducible intro blk hblk;(try(have hnx:=hblk;simp only[EVK]at hnx;first|(have hne:=AI hnx hne)|(have hne:=hnx))))|(with_reducible refine ae ?_ ?_)|(with_reducible refine af ?_)|(refine av [] _ hRu.v (ax.rfl' _) (SubN.refl _) (λr σ' hh hnd=>?_);obtain⟨bm,rfl,rfl⟩:=hh;(have hne:=hnd);(try simp[Store.keys]at hne))|(refine aG bg (l:=aJ) (k:=10) (z:=.agg #[.nilFunc,.nilFunc]) (zv:=.agg [.sc .nilFunc,.sc .nilFunc]) (eT:=142) rfl (iW _) (by kernel_rfl) (by first|exact aQ|(simp[Store.get, *];done)) (by kernel_rfl) gm ?_)|(refine aE hE (fF (by rw[Itm.cs_eq];simp[bc,aR,Itm.told,Itm.just,iz,hk])) ?_)|fail))
 all_goals(refine RET.eq hR (congrArg AV.bool ?_);clear hR hH eH hM hE hRu hi hm1 hoo hkk q)
 all_goals(try(first
  |exact absurd h (by decide)
  |(simp[*];done)
  |(simp[*,Bool.and_assoc];done)
  |(simp_all;done)))
set_option maxHeartbeats 4000000 in
theorem valid_11 (x:Itm) (q:x.Short1) (hy:∀y∈x.by_,Pure G Tryz.prog 47 [.agg y.cs] (.bool y.may)) (hk:x.kind=11):Pure G Tryz.prog 47 [.agg x.cs] (.bool x.may):=by
 have hRu:=f99 G hG
 have hH:=f186 G x
 have eH:=Itm.cs_eq {iz with act:=x.act,item:=x.item,by_:=x.by_}
 simp only[iz,map_nil]at eH
 simp only[iz]at hH
 rw[eH]at hH
 have hM:=f187 G x q hy
 have hE:=f103 G x q.fit x.told
 have hm1:aS (11:Int) aJ=some (.agg [fnv 186,fnv 187]):=by simp[aS,aJ]
 have hi:=f48 G (11:Int)
 rw[show inR (11:Int) 0 6=false from by decide]at hi
 refine Pure.w c47 λR hR=>?_
 unfold s47 r47
 rw[Itm.may_eq]at hR
 unfold Itm.pre at hR
 generalize decide (x=x.told)=e at*
 have hkk:inR x.kind 0 11=true:=by rw[hk];decide
 have hoo:x.own (Itm.mayOne x.by_)=(inR x.act 1 1048576&&(inR x.item 0 31&&Itm.mayOne x.by_)):=by unfold Itm.own;simp[hk]
 rw[hoo,hkk]at hR
 (repeat' (first|(with_reducible (refine ai (λh=>?_) (λh=>?_))<;>(try simp only[Da,Db,Dc,Dw,De,Df,Dg,Dh]at h))|(with_reducible first|refine aa hH ?_|refine aa hM ?_|refine aa hi ?_)|simp only[EVz,seval,↓reduceIte,EV6,EV7,hk,hm1,Option.getD_some,Option.isSome_some,fnv,U.cs_fold,hne]|simp only[EVz,seval,↓reduceIte,EV6,EV7,hk,hm1,Option.getD_some,Option.isSome_some,fnv,U.cs_fold]|(with_reducible intro blk hblk;(try(have hnx:=hblk;simp only[EVK]at hnx;first|(have hne:=AI hnx hne)|(have hne:=hnx))))|(with_reducible refine ae ?_ ?_)|(with_reducible refine af ?_)|(refine av [] _ hRu.v (ax.rfl' _) (SubN.refl _) (λr σ' hh hnd=>?_);obtain⟨bm,rfl,rfl⟩:=hh;(have hne:=hnd);(try simp[Store.keys]at hne))|(refine aG bg (l:=aJ) (k:=11) (z:=.agg #[.nilFunc,.nilFunc]) (zv:=.agg [.sc .nilFunc,.sc .nilFunc]) (eT:=142) rfl (iW _) (by kernel_rfl) (by first|exact aQ|(simp[Store.get, *];done)) (by kernel_rfl) gm ?_)|(refine aE hE (fF (by rw[Itm.cs_eq];simp[bc,aR,Itm.told,Itm.just,iz,hk])) ?_)|fail))
 all_goals(refine RET.eq hR (congrArg AV.bool ?_);clear hR hH eH hM hE hRu hi hm1 hoo hkk q)
 all_goals(try(first
  |exact absurd h (by decide)
  |(simp[*];done)
  |(simp[*,Bool.and_assoc];done)
  |(simp_all;done)))
end
def bes (x:Itm):Bool:=decide (x.wh=2)||decide (x.wh=3)
def ins (x:Itm) (k:Int):Bool:=decide (x.kind=k)&& !bes x
/-! ### valid items -/
section
variable (G:Glob) (hG:GOk G)
include hG in
end
theorem tab_none {k:Int} (h:¬(0<=k/\k<=11)):aS k aJ=none:=by
 simp only[aJ,aS]
 rw[if_neg (by omega),if_neg (by omega),if_neg (by omega),if_neg (by omega),if_neg (by omega),if_neg (by omega),if_neg (by omega),if_neg (by omega),if_neg (by omega),if_neg (by omega),if_neg (by omega),if_neg (by omega)]
section
variable (G:Glob) (hG:GOk G)
include hG
theorem o9 (x:Itm) (hk:¬(0<=x.kind/\x.kind<=11)):Pure G Tryz.prog 47 [.agg x.cs] (.bool x.may):=by
 have hRu:=f99 G hG
 have hm1:=tab_none hk
 have hkk:inR x.kind 0 11=false:=by unfold inR;simp;omega
 refine Pure.w c47 λR hR=>?_
 unfold s47 r47
 rw[Itm.may_eq]at hR
 unfold Itm.pre at hR
 rw[hkk]at hR
 (repeat' (first|simp only[EVz,seval,↓reduceIte,EV6,EV7,hm1,Option.getD_none,Option.isSome_none,hne]|simp only[EVz,seval,↓reduceIte,EV6,EV7,hm1,Option.getD_none,Option.isSome_none]|(with_reducible intro blk hblk;(try(have hnx:=hblk;simp only[EVK]at hnx;first|(have hne:=AI hnx hne)|(have hne:=hnx))))|(with_reducible refine ae ?_ ?_)|(with_reducible refine af ?_)|(refine av [] _ hRu.v (ax.rfl' _) (SubN.refl _) (λr σ' hh hnd=>?_);obtain⟨bm,rfl,rfl⟩:=hh;(have hne:=hnd);(try simp[Store.keys]at hne))|(refine aG bg (l:=aJ) (k:=x.kind) (z:=.agg #[.nilFunc,.nilFunc]) (zv:=.agg [.sc .nilFunc,.sc .nilFunc]) (eT:=142) rfl (bK _) (by kernel_rfl) (by first|exact aQ|(simp[Store.get, *];done)) (by kernel_rfl) fm ?_)|fail))
 all_goals(refine RET.eq hR (congrArg AV.bool ?_);simp;done)
theorem f47:∀x:Itm,x.Shorts->Pure G Tryz.prog 47 [.agg x.cs] (.bool x.may):=by
 refine Itm.ind λx ih hs=>?_
 obtain⟨q,hby⟩:=(Itm.Shorts_eq x).1 hs
 by_cases hk:0<=x.kind/\x.kind<=11
 ·have hh:x.kind=0\/x.kind=1\/x.kind=2\/x.kind=3\/x.kind=4\/x.kind=5\/x.kind=6\/x.kind=7\/x.kind=8\/x.kind=9\/x.kind=10\/x.kind=11:=by omega
  rcases hh with h|h|h|h|h|h|h|h|h|h|h|h
  ·exact valid_0 G hG x q h
  ·exact valid_1 G hG x q h
  ·exact valid_2 G hG x q h
  ·exact valid_3 G hG x q h
  ·exact valid_4 G hG x q h
  ·exact valid_5 G hG x q h
  ·exact valid_6 G hG x q h
  ·exact valid_7 G hG x q h
  ·exact valid_8 G hG x q h
  ·exact valid_9 G hG x q h
  ·exact valid_10 G hG x q h
  ·exact valid_11 G hG x q (λy hy=>ih y hy (hby y hy)) h
 ·exact o9 G hG x hk
end
section
variable (G:Glob)
variable (hG:GOk G)
include hG
end
section
variable (G:Glob)
end
section
variable (G:Glob) (hG:GOk G)
include hG
end
section
variable (G:Glob)
end
section
variable (G:Glob)
end
section
variable (G:Glob)
end
section
variable (G:Glob)
end
section
variable (G:Glob)
end
/-! ### stops and joins -/
section
variable (G:Glob)
variable (hG:GOk G)
include hG
end
theorem kP {α:Type} (p:α->Bool):∀(l:List α) (i k:Nat),cf p l=some k->idxF p i l=((i+k:Nat):Int)
 |[],i,k,h=>by cases h
 |x::l,i,k,h=>by
  rw[cf]at h
  rw[idxF]
  cases hp:p x with
  |true=>rw[hp]at h;simp only[if_true]at h ⊢;injection h with h;subst h;rfl
  |false=>
   rw[hp]at h
   simp only[Bool.false_eq_true,if_false]at h ⊢
   obtain⟨k',h2,rfl⟩:=Option.map_eq_some_iff.1 h
   rw[kP p l (i+1) k' h2]
   omega
def gW (j:Idd) (u:U):AV:=match aF j u with
 |some (p,_,k)=>.tup [.agg p.id.cs,.int .i64 k,.bool true]
 |none=>.tup [.agg [.int .i64 0,.int .i64 0,.int .i64 0],.int .i64 (-1),.bool false]
section
variable (G:Glob)
theorem f220k (σ:Store) (f:Value) (p:U->Bool) (l:List U) (hl:l.length<9000000000000000000) (hf:∀x∈l,cd G Tryz.prog f [.agg x.cs] σ λr σ'=>r= .bool (p x)/\σ'=σ):
  ag G Tryz.prog 220 [.lst 8 (l.map U.cs),.sc f] σ λr σ'=>r= .int .i64 (idxF p 0 l)/\σ'=σ:=by
 refine ag.wk c220 λR hR=>?_
 unfold s220 r220
 (repeat' (first|(with_reducible (refine ab (λh=>?_) (λh=>?_))<;>(try simp only[Da,Db,Dc,Dw,De,Df,Dg,Dh]at h))|simp only[EVz,seval,↓reduceIte,EV6,EV7,hx.yes,hx.le0,hx.lt',hx.get,hx.row,hw]|simp only[EVz,seval,↓reduceIte,EV6,EV7,hn]|simp only[EVz,seval,↓reduceIte,EV6,EV7]|(refine ap hx () ?_ (Weak.rfl' _ _))|(refine ay l (λi r (c:Unit)=>idxF p 0 l=idxF p i r) (λi c=>[(0,.lst 8 (l.map U.cs)),(1,.sc f),(7,.int .i64 l.length),(8,.int .i64 i)]) (λ_ _=>σ) () rfl (Weak.rfl' _ _) (by omega) (λi x r c hok hx hw=>?_) (λc hok hn=>?_))|(refine ec (hf _ hx.mem) ?_)|fail))
 ·refine hR _ _ (.inl (.inl ?_)) (SubN.refl _)
  rw[hok,idxF,if_pos h]
 ·rw[hok,idxF,h];rfl
 ·refine hR _ _ (.inl (.inl ?_)) (SubN.refl _)
  rw[hok];rfl
theorem f215k (σ:Store) (f:Value) (p:U->Bool) (l:List U) (hl:l.length<9000000000000000000) (hf:∀x∈l,cd G Tryz.prog f [.agg x.cs] σ λr σ'=>r= .bool (p x)/\σ'=σ):
  ag G Tryz.prog 215 [.lst 8 (l.map U.cs),.sc f] σ λr σ'=>r= .bool (l.any p)/\σ'=σ:=by
 refine ag.wk c215 λR hR=>?_
 unfold s215 r215
 have hI:=f220k G σ f p l hl hf
 (repeat' (first|simp only[EVz,seval,↓reduceIte,EV6,EV7]|(refine ec hI.v ?_)|fail))
 exact hR _ _ (.inl (.inl (congrArg AV.bool (d7 p l 0)))) (SubN.refl _)
theorem f221 (b:Nat) (j:Idd) (u:U) (ht:u.Tame):ag G Tryz.prog 221 [.agg u.cs,.sc (.pointer (some ⟨b,0,none⟩))] [(b,.cells 23 j.cs)] λr σ'=>r= .bool (!(U.way j u).isEmpty)/\σ'=[(b,.cells 23 j.cs)]:=by
 have hW:=f83 G j u ht
 refine ag.wk c221 λR hR=>?_
 unfold s221 r221
 simp only[Idd.cs]at hW
 cases hw:U.way j u with
 |nil=>
  rw[hw]at hW hR
  simp only[fK]at hW
  (repeat' (first|(with_reducible refine aa hW ?_)|simp only[EVz,seval,↓reduceIte,EV6,EV7]|fail))
  exact hR _ _ (AVle.rfl' _) (SubN.refl _)
 |cons x l=>
  rw[hw]at hW hR
  simp only[fK,map_cons]at hW
  (repeat' (first|(with_reducible refine aa hW ?_)|simp only[EVz,seval,↓reduceIte,EV6,EV7]|(with_reducible intro blk hblk;(try(have hnx:=hblk;simp only[EVK]at hnx;(have hne:=hnx))))|fail))
  have:=hblk (by simp)
  subst this
  exact hR _ _ (AVle.rfl' _) (SubN.refl _)
theorem f131 (j:Idd) (u:U) (hs:u.Short) (hn:u.ids.Nodup):Pure G Tryz.prog 131 [.agg u.cs,.agg j.cs] (gW j u):=by
 have hW:=f83 G j u hs.1
 have hwl:=eF j u
 have hc:=hs.1.2
 refine Pure.w c131 λR hR=>?_
 unfold s131 r131
 unfold gW at hR
 simp only[Idd.cs]at hW ⊢
 by_cases hi:j∈u.ids/\u.id≠j
 ·obtain⟨p,d,k,e1,e2,e3⟩:=bt hn hi.1 hi.2
  rw[e1]at hR
  obtain⟨a,x,b,s,hx,hj,hl⟩:=e3.split
  have hpn:p∈u.flat:=by
   have:=aP u hn e3.mem
   rw[e3.fnd]at this;exact this
  have hps:=hs.node hpn
  have hpath:=e3.path
  have hdeep:=e3.deep
  have hlast:=e3.last
  obtain⟨q,hq⟩:∃q,U.way p.id u=q:=⟨_,rfl⟩
  rw[hq]at hpath hdeep hlast
  have hlen:(U.way j u).length=d+2:=by rw[hpath];simp;omega
  have hwne:U.way j u≠[]:=by intro e;rw[e]at hlen;simp at hlen
  rw[mX hwne]at hW
  have hg:((U.way j u).map U.cs).getD d []=p.cs:=by
   have h1:(U.way j u)[d]? =some p:=by
    rw[hpath,getElem?_append_left (by omega)]
    rw[getLast?_eq_getElem?,hdeep]at hlast
    simpa using hlast
   simp only[List.getD,getElem?_map,h1,Option.map_some,Option.getD_some]
  obtain⟨L,hL⟩:∃L,U.way j u=L:=⟨_,rfl⟩
  rw[hL]at hW hlen hg hwl
  have hwp:IntKind.i64.wrap ((L.length:Int)-2)=(d:Int):=by rw[aA (by omega) (by omega)];omega
  have hkl:=hps.1.kids
  have hix:idxF (λk=>!(U.way j k).isEmpty) 0 p.kids=(k:Int):=by
   rw[kP _ _ 0 k (by rw[s.no_way,hj])];simp
  have e0:decide ((L.length:Int)<2)=false:=decide_eq_false (by omega)
  (repeat' (first|(with_reducible refine AI (by omega) ?_)|(with_reducible refine aa hW ?_)|simp only[EVz,seval,↓reduceIte,EV6,EV7,hwp,hg,e0,hne]|simp only[EVz,seval,↓reduceIte,EV6,EV7,hwp,hg,e0]|(with_reducible intro blk hblk;(try(have hnx:=hblk;simp only[EVK]at hnx;first|(have hne:=AI hnx hne)|(have hne:=hnx))))|fail))
  rename_i b1 _ _ _ b2 _ _ _
  have hI:=f220k G [(b1,.cells 23 j.cs)] (.func (.func 221) #[] #[.pointer (some ⟨b1,0,none⟩)]) (λk=>!(U.way j k).isEmpty) p.kids (by omega)
   (λy hy=>⟨_,_,_,rfl,f221 G b1 j y (hps.1.kid hy)⟩)
  rw[hix]at hI
  refine aZ [(b1,.cells 23 j.cs)] [(blk,.cells 27 p.cs),(b2,.cells 23 [.int .i64 0,.int .i64 0,.int .i64 0])] hI.v (ax.rfl' _) (SubN.perm perm_append_comm) ?_
  rintro _ _ ⟨rfl,rfl⟩
  have n1:¬b1=b2:=λe=>hne.2.1 e.symm
  have n2:¬b1=blk:=λe=>hne.1.2 e.symm
  (repeat' (simp only[EVz,seval,↓reduceIte,EV6,EV7,hne,n1,n2,cons_append,nil_append]))
  exact hR _ _ (Or.inl (Or.inl rfl))
 ·have hnone:aF j u=none:=by
   by_cases h1:j∈u.ids
   ·exact cB (Classical.byContradiction λh2=>hi ⟨h1,h2⟩)
   ·unfold aF
    rw[(cO u).2 h1]
    rfl
  rw[hnone]at hR
  have hl1:(U.way j u).length<2:=by
   by_cases h1:j∈u.ids
   ·rw[aN (Classical.byContradiction λh2=>hi ⟨h1,h2⟩)];simp
   ·rw[(cO u).2 h1];simp
  cases hw:U.way j u with
  |nil=>
   rw[hw]at hW
   simp only[fK]at hW
   (repeat' (first|(with_reducible refine aa hW ?_)|simp only[EVz,seval,↓reduceIte,EV6,EV7,hne]|simp only[EVz,seval,↓reduceIte,EV6,EV7]|(with_reducible intro blk hblk;(try(have hnx:=hblk;simp only[EVK]at hnx;first|(have hne:=AI hnx hne)|(have hne:=hnx))))|fail))
   exact hR _ _ (Or.inl (Or.inl rfl))
  |cons x l=>
   rw[hw]at hW hl1
   simp only[fK,map_cons]at hW
   simp only[length_cons]at hl1
   have e0:decide (((l.length+1:Nat):Int)<2)=true:=decide_eq_true (by omega)
   (repeat' (first|(with_reducible refine aa hW ?_)|simp only[EVz,seval,↓reduceIte,EV6,EV7,e0,hne]|simp only[EVz,seval,↓reduceIte,EV6,EV7,e0]|(with_reducible intro blk hblk;(try(have hnx:=hblk;simp only[EVK]at hnx;first|(have hne:=AI hnx hne)|(have hne:=hnx))))|fail))
   exact hR _ _ (Or.inl (Or.inl rfl))
end
theorem ph (a b:Int) (l:List (List UInt8)) (m:Int) {i:Nat} {s:List UInt8} {r:List (List UInt8)} (hx:Rest l i s r):aX a b (l.take (i+1)) m=aX a b (l.take i) m++[⟨s,a,b,m+i⟩]:=by
 have h:(l.take i).length=i:=by rw[length_take];have:=hx.lt;omega
 rw[hx.take,lZ,h]
 rfl
section
variable (G:Glob)
end
end Go.Av
