/-
  LINT, 34: valid items by the program.
-/
import Derived.Test.YtjolkfjccojnnaaGreatDoorXL30toXL33
import Derived.Test.YtjolkfjccojnnaaGreatDoorXE3toXL25
import Derived.Test.YtjolkfjccojnnaaGreatDoorXE8toXE10
import Derived.Test.YtjolkfjccojnnaaGreatDoorXL28toXL51
import Derived.Lib.ItoaLen
namespace Go.Av
open Go Go.RowKit Go.Proofs List
set_option linter.unusedSimpArgs false
set_option linter.unusedVariables false
theorem jh (n:Int):∀τ w v,Rep τ w (.int .i64 n) v->v=intK n:=by
 intro τ w v h
 simp only[Rep]at h
 exact h
theorem ij:∀τ w,Rep τ w (.agg [.sc .nilFunc,.sc .nilFunc]) (.agg #[.nilFunc,.nilFunc]):=by
 intro τ w
 simp only[Rep,RepL]
 refine⟨_,rfl,by simp[Value.oneCell'],_,_,rfl,rfl,_,_,rfl,rfl,rfl⟩
theorem ge {x:Itm} {cs:List AV} (h:bz cs x.told.cs):aB [.agg x.cs,.agg cs] [.agg x.cs,.agg x.told.cs]:=⟨AVle.rfl' _,.inr h,trivial⟩
section
variable (G:Glob) (hG:GOk G)
include hG
set_option maxHeartbeats 4000000 in
theorem valid_4 (x:Itm) (q:x.Short1) (hk:x.kind=4):Pure G Tryz.prog 35 [.agg x.cs] (.bool x.may):=by
 have hRu:=f67 G hG
 have hH:=f139 G x
 have eH:=Itm.cs_eq {iz with new:=x.new}
 simp only[iz,map_nil]at eH
 simp only[iz]at hH
 rw[eH]at hH
 have hM:=f140 G x q
 have hE:=f58 G x q.fit x.told
 have hm1:aX (4:Int) aG=some (.agg [fnv 139,fnv 140]):=by simp[aX,aG]
 have hi:=f68 G (4:Int)
 rw[show inR (4:Int) 0 6=true from by decide]at hi
 refine Pure.w c35 λR hR=>?_
 unfold s35 r35
 rw[Itm.may_eq]at hR
 unfold Itm.pre at hR
 generalize decide (x=x.told)=e at*
 have hkk:inR x.kind 0 11=true:=by rw[hk];decide
 have hoo:x.own (Itm.mayOne x.by_)=cY x.new 0:=by unfold Itm.own;simp[hk]
 rw[hoo,hkk]at hR
 (repeat' (first|(with_reducible (first|refine ae (λh=>?_) (λh=>?_)|refine ag (λh=>?_) (λh=>?_))<;>(try simp only[Da,Db,Dc,Dw,De,Df,Dg,Dh]at h))|(with_reducible first|refine ab (f69 G _ q.at_) ?_|refine ab (f70 G _ q.for_) ?_|refine ab (f71 G _ q.start) ?_|refine ab hH ?_|refine ab hM ?_|refine ab hi ?_)|simp only[EVz,seval,↓reduceIte,EV6,EV7,hk,hm1,Option.getD_some,Option.isSome_some,fnv,U.cs_fold,hne]|simp only[EVz,seval,↓reduceIte,EV6,EV7,hk,hm1,Option.getD_some,Option.isSome_some,fnv,U.cs_fold]|(with_reducible intro blk hblk;(try(have hnx:=hblk;simp only[EVK]at hnx;first|(have hne:=AI hnx hne)|(have hne:=hnx))))|(with_reducible refine ak ?_ ?_)|(with_reducible refine am ?_)|(refine az [] _ hRu.v (aB.rfl' _) (SubN.refl _) (λr σ' hh hnd=>?_);obtain⟨bm,rfl,rfl⟩:=hh;(have hne:=hnd);(try simp[Store.keys]at hne))|(refine aI bO (l:=aG) (k:=4) (z:=.agg #[.nilFunc,.nilFunc]) (zv:=.agg [.sc .nilFunc,.sc .nilFunc]) (eT:=107) rfl (jh _) (by kernel_rfl) (by first|exact bf|(simp[Store.get, *];done)) (by kernel_rfl) ij ?_)|(refine aC hE (ge (by rw[Itm.cs_eq];simp[bz,aP,Itm.told,Itm.just,iz,hk])) ?_)|fail))
 all_goals(refine RET.eq hR (congrArg AV.bool ?_);clear hR hH eH hM hE hRu hi hm1 hoo hkk q)
 all_goals(try(first
  |exact absurd h (by decide)
  |(simp[*];done)
  |(simp[*,Bool.and_assoc];done)
  |(simp_all;done)))
set_option maxHeartbeats 4000000 in
theorem valid_5 (x:Itm) (q:x.Short1) (hk:x.kind=5):Pure G Tryz.prog 35 [.agg x.cs] (.bool x.may):=by
 have hRu:=f67 G hG
 have hH:=f141 G x
 have eH:=Itm.cs_eq {iz with label:=x.label}
 simp only[iz,map_nil]at eH
 simp only[iz]at hH
 rw[eH]at hH
 have hM:=f142 G x
 have hE:=f58 G x q.fit x.told
 have hm1:aX (5:Int) aG=some (.agg [fnv 141,fnv 142]):=by simp[aX,aG]
 have hi:=f68 G (5:Int)
 rw[show inR (5:Int) 0 6=true from by decide]at hi
 refine Pure.w c35 λR hR=>?_
 unfold s35 r35
 rw[Itm.may_eq]at hR
 unfold Itm.pre at hR
 generalize decide (x=x.told)=e at*
 have hkk:inR x.kind 0 11=true:=by rw[hk];decide
 have hoo:x.own (Itm.mayOne x.by_)=bC x.label:=by unfold Itm.own;simp[hk]
 rw[hoo,hkk]at hR
 (repeat' (first|(with_reducible (first|refine ae (λh=>?_) (λh=>?_)|refine ag (λh=>?_) (λh=>?_))<;>(try simp only[Da,Db,Dc,Dw,De,Df,Dg,Dh]at h))|(with_reducible first|refine ab (f69 G _ q.at_) ?_|refine ab (f70 G _ q.for_) ?_|refine ab (f71 G _ q.start) ?_|refine ab hH ?_|refine ab hM ?_|refine ab hi ?_)|simp only[EVz,seval,↓reduceIte,EV6,EV7,hk,hm1,Option.getD_some,Option.isSome_some,fnv,U.cs_fold,hne]|simp only[EVz,seval,↓reduceIte,EV6,EV7,hk,hm1,Option.getD_some,Option.isSome_some,fnv,U.cs_fold]|(with_reducible intro blk hblk;(try(have hnx:=hblk;simp only[EVK]at hnx;first|(have hne:=AI hnx hne)|(have hne:=hnx))))|(with_reducible refine ak ?_ ?_)|(with_reducible refine am ?_)|(refine az [] _ hRu.v (aB.rfl' _) (SubN.refl _) (λr σ' hh hnd=>?_);obtain⟨bm,rfl,rfl⟩:=hh;(have hne:=hnd);(try simp[Store.keys]at hne))|(refine aI bO (l:=aG) (k:=5) (z:=.agg #[.nilFunc,.nilFunc]) (zv:=.agg [.sc .nilFunc,.sc .nilFunc]) (eT:=107) rfl (jh _) (by kernel_rfl) (by first|exact bf|(simp[Store.get, *];done)) (by kernel_rfl) ij ?_)|(refine aC hE (ge (by rw[Itm.cs_eq];simp[bz,aP,Itm.told,Itm.just,iz,hk])) ?_)|fail))
 all_goals(refine RET.eq hR (congrArg AV.bool ?_);clear hR hH eH hM hE hRu hi hm1 hoo hkk q)
 all_goals(try(first
  |exact absurd h (by decide)
  |(simp[*];done)
  |(simp[*,Bool.and_assoc];done)
  |(simp_all;done)))
set_option maxHeartbeats 4000000 in
theorem valid_6 (x:Itm) (q:x.Short1) (hk:x.kind=6):Pure G Tryz.prog 35 [.agg x.cs] (.bool x.may):=by
 have hRu:=f67 G hG
 have hH:=f144 G x
 have eH:=Itm.cs_eq {iz with to_:=x.to_,wh:=x.wh}
 simp only[iz,map_nil]at eH
 simp only[iz]at hH
 rw[eH]at hH
 have hM:=f145 G x q
 have hE:=f58 G x q.fit x.told
 have hm1:aX (6:Int) aG=some (.agg [fnv 144,fnv 145]):=by simp[aX,aG]
 have hi:=f68 G (6:Int)
 rw[show inR (6:Int) 0 6=true from by decide]at hi
 refine Pure.w c35 λR hR=>?_
 unfold s35 r35
 rw[Itm.may_eq]at hR
 unfold Itm.pre at hR
 generalize decide (x=x.told)=e at*
 have hkk:inR x.kind 0 11=true:=by rw[hk];decide
 have hoo:x.own (Itm.mayOne x.by_)=(inR x.wh 0 3&&cC x.to_):=by unfold Itm.own;simp[hk]
 rw[hoo,hkk]at hR
 (repeat' (first|(with_reducible (first|refine ae (λh=>?_) (λh=>?_)|refine ag (λh=>?_) (λh=>?_))<;>(try simp only[Da,Db,Dc,Dw,De,Df,Dg,Dh]at h))|(with_reducible first|refine ab (f69 G _ q.at_) ?_|refine ab (f70 G _ q.for_) ?_|refine ab (f71 G _ q.start) ?_|refine ab hH ?_|refine ab hM ?_|refine ab hi ?_)|simp only[EVz,seval,↓reduceIte,EV6,EV7,hk,hm1,Option.getD_some,Option.isSome_some,fnv,U.cs_fold,hne]|simp only[EVz,seval,↓reduceIte,EV6,EV7,hk,hm1,Option.getD_some,Option.isSome_some,fnv,U.cs_fold]|(with_reducible intro blk hblk;(try(have hnx:=hblk;simp only[EVK]at hnx;first|(have hne:=AI hnx hne)|(have hne:=hnx))))|(with_reducible refine ak ?_ ?_)|(with_reducible refine am ?_)|(refine az [] _ hRu.v (aB.rfl' _) (SubN.refl _) (λr σ' hh hnd=>?_);obtain⟨bm,rfl,rfl⟩:=hh;(have hne:=hnd);(try simp[Store.keys]at hne))|(refine aI bO (l:=aG) (k:=6) (z:=.agg #[.nilFunc,.nilFunc]) (zv:=.agg [.sc .nilFunc,.sc .nilFunc]) (eT:=107) rfl (jh _) (by kernel_rfl) (by first|exact bf|(simp[Store.get, *];done)) (by kernel_rfl) ij ?_)|(refine aC hE (ge (by rw[Itm.cs_eq];simp[bz,aP,Itm.told,Itm.just,iz,hk])) ?_)|fail))
 all_goals(refine RET.eq hR (congrArg AV.bool ?_);clear hR hH eH hM hE hRu hi hm1 hoo hkk q)
 all_goals(try(first
  |exact absurd h (by decide)
  |(simp[*];done)
  |(simp[*,Bool.and_assoc];done)
  |(simp_all;done)))
set_option maxHeartbeats 4000000 in
theorem valid_7 (x:Itm) (q:x.Short1) (hk:x.kind=7):Pure G Tryz.prog 35 [.agg x.cs] (.bool x.may):=by
 have hRu:=f67 G hG
 have hH:=f323 G x
 have eH:=Itm.cs_eq {iz with act:=x.act,item:=x.item,day:=x.day}
 simp only[iz,map_nil]at eH
 simp only[iz]at hH
 rw[eH]at hH
 have hM:=f324 G x
 have hE:=f58 G x q.fit x.told
 have hm1:aX (7:Int) aG=some (.agg [fnv 323,fnv 324]):=by simp[aX,aG]
 have hi:=f68 G (7:Int)
 rw[show inR (7:Int) 0 6=false from by decide]at hi
 refine Pure.w c35 λR hR=>?_
 unfold s35 r35
 rw[Itm.may_eq]at hR
 unfold Itm.pre at hR
 generalize decide (x=x.told)=e at*
 have hkk:inR x.kind 0 11=true:=by rw[hk];decide
 have hoo:x.own (Itm.mayOne x.by_)=(inR x.act 1 1048576&&(inR x.item (-1) 31&&inR x.day 0 1048576)):=by unfold Itm.own;simp[hk]
 rw[hoo,hkk]at hR
 (repeat' (first|(with_reducible (refine ag (λh=>?_) (λh=>?_))<;>(try simp only[Da,Db,Dc,Dw,De,Df,Dg,Dh]at h))|(with_reducible first|refine ab hH ?_|refine ab hM ?_|refine ab hi ?_)|simp only[EVz,seval,↓reduceIte,EV6,EV7,hk,hm1,Option.getD_some,Option.isSome_some,fnv,U.cs_fold,hne]|simp only[EVz,seval,↓reduceIte,EV6,EV7,hk,hm1,Option.getD_some,Option.isSome_some,fnv,U.cs_fold]|(with_reducible intro blk hblk;(try(have hnx:=hblk;simp only[EVK]at hnx;first|(have hne:=AI hnx hne)|(have hne:=hnx))))|(with_reducible refine ak ?_ ?_)|(with_reducible refine am ?_)|(refine az [] _ hRu.v (aB.rfl' _) (SubN.refl _) (λr σ' hh hnd=>?_);obtain⟨bm,rfl,rfl⟩:=hh;(have hne:=hnd);(try simp[Store.keys]at hne))|(refine aI bO (l:=aG) (k:=7) (z:=.agg #[.nilFunc,.nilFunc]) (zv:=.agg [.sc .nilFunc,.sc .nilFunc]) (eT:=107) rfl (jh _) (by kernel_rfl) (by first|exact bf|(simp[Store.get, *];done)) (by kernel_rfl) ij ?_)|(refine aC hE (ge (by rw[Itm.cs_eq];simp[bz,aP,Itm.told,Itm.just,iz,hk])) ?_)|fail))
 all_goals(refine RET.eq hR (congrArg AV.bool ?_);clear hR hH eH hM hE hRu hi hm1 hoo hkk q)
 all_goals(try(first
  |exact absurd h (by decide)
  |(simp[*];done)
  |(simp[*,Bool.and_assoc];done)
  |(simp_all;done)))
end
theorem jn (n:Int):∀τ w v,Rep τ w (.int .i64 n) v->v=intK n:=by
 intro τ w v h
 simp only[Rep]at h
 exact h
theorem gJ:∀τ w,Rep τ w (.agg [.sc .nilFunc,.sc .nilFunc]) (.agg #[.nilFunc,.nilFunc]):=by
 intro τ w
 simp only[Rep,RepL]
 refine⟨_,rfl,by simp[Value.oneCell'],_,_,rfl,rfl,_,_,rfl,rfl,rfl⟩
theorem gg {x:Itm} {cs:List AV} (h:bz cs x.told.cs):aB [.agg x.cs,.agg cs] [.agg x.cs,.agg x.told.cs]:=⟨AVle.rfl' _,.inr h,trivial⟩
section
variable (G:Glob) (hG:GOk G)
include hG
set_option maxHeartbeats 4000000 in
theorem valid_8 (x:Itm) (q:x.Short1) (hk:x.kind=8):Pure G Tryz.prog 35 [.agg x.cs] (.bool x.may):=by
 have hRu:=f67 G hG
 have hH:=f323 G x
 have eH:=Itm.cs_eq {iz with act:=x.act,item:=x.item,day:=x.day}
 simp only[iz,map_nil]at eH
 simp only[iz]at hH
 rw[eH]at hH
 have hM:=f324 G x
 have hE:=f58 G x q.fit x.told
 have hm1:aX (8:Int) aG=some (.agg [fnv 323,fnv 324]):=by simp[aX,aG]
 have hi:=f68 G (8:Int)
 rw[show inR (8:Int) 0 6=false from by decide]at hi
 refine Pure.w c35 λR hR=>?_
 unfold s35 r35
 rw[Itm.may_eq]at hR
 unfold Itm.pre at hR
 generalize decide (x=x.told)=e at*
 have hkk:inR x.kind 0 11=true:=by rw[hk];decide
 have hoo:x.own (Itm.mayOne x.by_)=(inR x.act 1 1048576&&(inR x.item (-1) 31&&inR x.day 0 1048576)):=by unfold Itm.own;simp[hk]
 rw[hoo,hkk]at hR
 (repeat' (first|(with_reducible (refine ag (λh=>?_) (λh=>?_))<;>(try simp only[Da,Db,Dc,Dw,De,Df,Dg,Dh]at h))|(with_reducible first|refine ab hH ?_|refine ab hM ?_|refine ab hi ?_)|simp only[EVz,seval,↓reduceIte,EV6,EV7,hk,hm1,Option.getD_some,Option.isSome_some,fnv,U.cs_fold,hne]|simp only[EVz,seval,↓reduceIte,EV6,EV7,hk,hm1,Option.getD_some,Option.isSome_some,fnv,U.cs_fold]|(with_reducible intro blk hblk;(try(have hnx:=hblk;simp only[EVK]at hnx;first|(have hne:=AI hnx hne)|(have hne:=hnx))))|(with_reducible refine ak ?_ ?_)|(with_reducible refine am ?_)|(refine az [] _ hRu.v (aB.rfl' _) (SubN.refl _) (λr σ' hh hnd=>?_);obtain⟨bm,rfl,rfl⟩:=hh;(have hne:=hnd);(try simp[Store.keys]at hne))|(refine aI bO (l:=aG) (k:=8) (z:=.agg #[.nilFunc,.nilFunc]) (zv:=.agg [.sc .nilFunc,.sc .nilFunc]) (eT:=107) rfl (jn _) (by kernel_rfl) (by first|exact bf|(simp[Store.get, *];done)) (by kernel_rfl) gJ ?_)|(refine aC hE (gg (by rw[Itm.cs_eq];simp[bz,aP,Itm.told,Itm.just,iz,hk])) ?_)|fail))
 all_goals(refine RET.eq hR (congrArg AV.bool ?_);clear hR hH eH hM hE hRu hi hm1 hoo hkk q)
 all_goals(try(first
  |exact absurd h (by decide)
  |(simp[*];done)
  |(simp[*,Bool.and_assoc];done)
  |(simp_all;done)))
set_option maxHeartbeats 4000000 in
theorem valid_9 (x:Itm) (q:x.Short1) (hk:x.kind=9):Pure G Tryz.prog 35 [.agg x.cs] (.bool x.may):=by
 have hRu:=f67 G hG
 have hH:=f323 G x
 have eH:=Itm.cs_eq {iz with act:=x.act,item:=x.item,day:=x.day}
 simp only[iz,map_nil]at eH
 simp only[iz]at hH
 rw[eH]at hH
 have hM:=f324 G x
 have hE:=f58 G x q.fit x.told
 have hm1:aX (9:Int) aG=some (.agg [fnv 323,fnv 324]):=by simp[aX,aG]
 have hi:=f68 G (9:Int)
 rw[show inR (9:Int) 0 6=false from by decide]at hi
 refine Pure.w c35 λR hR=>?_
 unfold s35 r35
 rw[Itm.may_eq]at hR
 unfold Itm.pre at hR
 generalize decide (x=x.told)=e at*
 have hkk:inR x.kind 0 11=true:=by rw[hk];decide
 have hoo:x.own (Itm.mayOne x.by_)=(inR x.act 1 1048576&&(inR x.item (-1) 31&&inR x.day 0 1048576)):=by unfold Itm.own;simp[hk]
 rw[hoo,hkk]at hR
 (repeat' (first|(with_reducible (refine ag (λh=>?_) (λh=>?_))<;>(try simp only[Da,Db,Dc,Dw,De,Df,Dg,Dh]at h))|(with_reducible first|refine ab hH ?_|refine ab hM ?_|refine ab hi ?_)|simp only[EVz,seval,↓reduceIte,EV6,EV7,hk,hm1,Option.getD_some,Option.isSome_some,fnv,U.cs_fold,hne]|simp only[EVz,seval,↓reduceIte,EV6,EV7,hk,hm1,Option.getD_some,Option.isSome_some,fnv,U.cs_fold]|(with_reducible intro blk hblk;(try(have hnx:=hblk;simp only[EVK]at hnx;first|(have hne:=AI hnx hne)|(have hne:=hnx))))|(with_reducible refine ak ?_ ?_)|(with_reducible refine am ?_)|(refine az [] _ hRu.v (aB.rfl' _) (SubN.refl _) (λr σ' hh hnd=>?_);obtain⟨bm,rfl,rfl⟩:=hh;(have hne:=hnd);(try simp[Store.keys]at hne))|(refine aI bO (l:=aG) (k:=9) (z:=.agg #[.nilFunc,.nilFunc]) (zv:=.agg [.sc .nilFunc,.sc .nilFunc]) (eT:=107) rfl (jn _) (by kernel_rfl) (by first|exact bf|(simp[Store.get, *];done)) (by kernel_rfl) gJ ?_)|(refine aC hE (gg (by rw[Itm.cs_eq];simp[bz,aP,Itm.told,Itm.just,iz,hk])) ?_)|fail))
 all_goals(refine RET.eq hR (congrArg AV.bool ?_);clear hR hH eH hM hE hRu hi hm1 hoo hkk q)
 all_goals(try(first
  |exact absurd h (by decide)
  |(simp[*];done)
  |(simp[*,Bool.and_assoc];done)
  |(simp_all;done)))
set_option maxHeartbeats 4000000 in
theorem valid_10 (x:Itm) (q:x.Short1) (hk:x.kind=10):Pure G Tryz.prog 35 [.agg x.cs] (.bool x.may):=by
 have hRu:=f67 G hG
 have hH:=f146 G x
 have eH:=Itm.cs_eq {iz with event:=x.event,day:=x.day}
 simp only[iz,map_nil]at eH
 simp only[iz]at hH
 rw[eH]at hH
 have hM:=f147 G x q
 have hE:=f58 G x q.fit x.told
 have hm1:aX (10:Int) aG=some (.agg [fnv 146,fnv 147]):=by simp[aX,aG]
 have hi:=f68 G (10:Int)
 rw[show inR (10:Int) 0 6=false from by decide]at hi
 refine Pure.w c35 λR hR=>?_
 unfold s35 r35
 rw[Itm.may_eq]at hR
 unfold Itm.pre at hR
 generalize decide (x=x.told)=e at*
 have hkk:inR x.kind 0 11=true:=by rw[hk];decide
 have hoo:x.own (Itm.mayOne x.by_)=(d9 x.event&&inR x.day 0 1048576):=by unfold Itm.own;simp[hk]
 rw[hoo,hkk]at hR
 (repeat' (first|(with_reducible (refine ag (λh=>?_) (λh=>?_))<;>(try simp only[Da,Db,Dc,Dw,De,Df,Dg,Dh]at h))|(with_reducible first|refine ab hH ?_|refine ab hM ?_|refine ab hi ?_)|simp only[EVz,seval,↓reduceIte,EV6,EV7,hk,hm1,Option.getD_some,Option.isSome_some,fnv,U.cs_fold,hne]|simp only[EVz,seval,↓reduceIte,EV6,EV7,hk,hm1,Option.getD_some,Option.isSome_some,fnv,U.cs_fold]|(with_reducible intro blk hblk;(try(have hnx:=hblk;simp only[EVK]at hnx;first|(have hne:=AI hnx hne)|(have hne:=hnx))))|(with_reducible refine ak ?_ ?_)|(with_reducible refine am ?_)|(refine az [] _ hRu.v (aB.rfl' _) (SubN.refl _) (λr σ' hh hnd=>?_);obtain⟨bm,rfl,rfl⟩:=hh;(have hne:=hnd);(try simp[Store.keys]at hne))|(refine aI bO (l:=aG) (k:=10) (z:=.agg #[.nilFunc,.nilFunc]) (zv:=.agg [.sc .nilFunc,.sc .nilFunc]) (eT:=107) rfl (jn _) (by kernel_rfl) (by first|exact bf|(simp[Store.get, *];done)) (by kernel_rfl) gJ ?_)|(refine aC hE (gg (by rw[Itm.cs_eq];simp[bz,aP,Itm.told,Itm.just,iz,hk])) ?_)|fail))
 all_goals(refine RET.eq hR (congrArg AV.bool ?_);clear hR hH eH hM hE hRu hi hm1 hoo hkk q)
 all_goals(try(first
  |exact absurd h (by decide)
  |(simp[*];done)
  |(simp[*,Bool.and_assoc];done)
  |(simp_all;done)))
set_option maxHeartbeats 4000000 in
theorem valid_11 (x:Itm) (q:x.Short1) (hy:∀y∈x.by_,Pure G Tryz.prog 35 [.agg y.cs] (.bool y.may)) (hk:x.kind=11):Pure G Tryz.prog 35 [.agg x.cs] (.bool x.may):=by
 have hRu:=f67 G hG
 have hH:=f149 G x
 have eH:=Itm.cs_eq {iz with act:=x.act,item:=x.item,by_:=x.by_}
 simp only[iz,map_nil]at eH
 simp only[iz]at hH
 rw[eH]at hH
 have hM:=f150 G x q hy
 have hE:=f58 G x q.fit x.told
 have hm1:aX (11:Int) aG=some (.agg [fnv 149,fnv 150]):=by simp[aX,aG]
 have hi:=f68 G (11:Int)
 rw[show inR (11:Int) 0 6=false from by decide]at hi
 refine Pure.w c35 λR hR=>?_
 unfold s35 r35
 rw[Itm.may_eq]at hR
 unfold Itm.pre at hR
 generalize decide (x=x.told)=e at*
 have hkk:inR x.kind 0 11=true:=by rw[hk];decide
 have hoo:x.own (Itm.mayOne x.by_)=(inR x.act 1 1048576&&(inR x.item 0 31&&Itm.mayOne x.by_)):=by unfold Itm.own;simp[hk]
 rw[hoo,hkk]at hR
 (repeat' (first|(with_reducible (refine ag (λh=>?_) (λh=>?_))<;>(try simp only[Da,Db,Dc,Dw,De,Df,Dg,Dh]at h))|(with_reducible first|refine ab hH ?_|refine ab hM ?_|refine ab hi ?_)|simp only[EVz,seval,↓reduceIte,EV6,EV7,hk,hm1,Option.getD_some,Option.isSome_some,fnv,U.cs_fold,hne]|simp only[EVz,seval,↓reduceIte,EV6,EV7,hk,hm1,Option.getD_some,Option.isSome_some,fnv,U.cs_fold]|(with_reducible intro blk hblk;(try(have hnx:=hblk;simp only[EVK]at hnx;first|(have hne:=AI hnx hne)|(have hne:=hnx))))|(with_reducible refine ak ?_ ?_)|(with_reducible refine am ?_)|(refine az [] _ hRu.v (aB.rfl' _) (SubN.refl _) (λr σ' hh hnd=>?_);obtain⟨bm,rfl,rfl⟩:=hh;(have hne:=hnd);(try simp[Store.keys]at hne))|(refine aI bO (l:=aG) (k:=11) (z:=.agg #[.nilFunc,.nilFunc]) (zv:=.agg [.sc .nilFunc,.sc .nilFunc]) (eT:=107) rfl (jn _) (by kernel_rfl) (by first|exact bf|(simp[Store.get, *];done)) (by kernel_rfl) gJ ?_)|(refine aC hE (gg (by rw[Itm.cs_eq];simp[bz,aP,Itm.told,Itm.just,iz,hk])) ?_)|fail))
 all_goals(refine RET.eq hR (congrArg AV.bool ?_);clear hR hH eH hM hE hRu hi hm1 hoo hkk q)
 all_goals(try(first
  |exact absurd h (by decide)
  |(simp[*];done)
  |(simp[*,Bool.and_assoc];done)
  |(simp_all;done)))
end
def fw (w:Int) (t:List UInt8):Fnd:=⟨0,⟨0,0,0⟩,w,t⟩
def qJ:List UInt8:=[105,110,118,97,108,105,100]
def tBook:List UInt8:=[98,111,111,107]
def qA:List UInt8:=[99,111,110,116,97,105,110,109,101,110,116]
def tSelf:List UInt8:=[115,101,108,102]
def n0:List UInt8:=[110,111,32,101,102,102,101,99,116]
def ni:List UInt8:=[111,119,110,32,108,97,98,101,108]
def bes (x:Itm):Bool:=decide (x.wh=2)||decide (x.wh=3)
def ins (x:Itm) (k:Int):Bool:=decide (x.kind=k)&& !bes x
def o7 (x:Itm):Bool:=(l5 x.at_&&((decide (1<=x.kind)&&decide (x.kind<=6))||(decide (x.kind=0)&&bes x)))||(decide (x.kind=6)&&(bes x&&l5 x.to_))
def o9 (x:Itm):Bool:=(ins x 0&& !g6 (m0 x.at_).kind x.unit.kind)||(ins x 6&& !g6 (m0 x.to_).kind (m0 x.at_).kind)
def qm (x:Itm):Bool:=ins x 6&&decide (x.at_=x.to_)
def rule4 (x:Itm):Bool:=(decide (x.kind=2)&&decide (x.old=x.new))||(decide (x.kind=6)&&(bes x&&decide (x.at_=x.to_)))
def qk (x:Itm):Bool:=decide (x.kind=5)&&decide ((m0 x.at_).label=x.label)
def optF (b:Bool) (f:Fnd):List Fnd:=if b then [f]else []
def n8 (x:Itm):List Fnd:=optF (o7 x) (fw 9 tBook)++(optF (o9 x) (fw 9 qA)++(optF (qm x) (fw 9 tSelf)++(optF (rule4 x) (fw 11 n0)++optF (qk x) (fw 10 ni))))
mutual
def Itm.finds:Itm->List Fnd
 |⟨k,a,t,wh,n,u,o,w,l,f,s,ac,it,d,e,b⟩=>if Itm.may ⟨k,a,t,wh,n,u,o,w,l,f,s,ac,it,d,e,b⟩=true then n8 ⟨k,a,t,wh,n,u,o,w,l,f,s,ac,it,d,e,b⟩++Itm.findss b else [fw 1 qJ]
def Itm.findss:List Itm->List Fnd
 |[]=>[]
 |x::l=>Itm.finds x++Itm.findss l
end
theorem Itm.finds_eq (x:Itm):x.finds=if x.may=true then n8 x++Itm.findss x.by_ else [fw 1 qJ]:=by cases x;rw[Itm.finds]
theorem Itm.findss_cons (x:Itm) (l:List Itm):Itm.findss (x::l)=x.finds++Itm.findss l:=by rw[Itm.findss]
theorem Itm.findss_nil:Itm.findss []=[]:=by rw[Itm.findss]
/-! ### valid items -/
theorem qU {x:Itm} (h:x.may=true):0<=x.kind/\x.kind<=11/\x=x.told/\x.own (Itm.mayOne x.by_)=true:=by
 rw[Itm.may_eq,Bool.and_eq_true]at h
 obtain⟨h1,h2⟩:=h
 unfold Itm.pre inR at h1
 simp only[Bool.and_eq_true,decide_eq_true_eq]at h1
 exact⟨h1.1.1.1,h1.1.1.2,h1.1.2,h2⟩
theorem may_by {x:Itm} (h:x.may=true) (hk:x.kind≠11):x.by_=[]:=by
 obtain⟨h0,h11,ht,_⟩:=qU h
 have e:x.by_=x.told.by_:=congrArg Itm.by_ ht
 rw[e]
 have hh:x.kind=0\/x.kind=1\/x.kind=2\/x.kind=3\/x.kind=4\/x.kind=5\/x.kind=6\/x.kind=7\/x.kind=8\/x.kind=9\/x.kind=10:=by omega
 rcases hh with hh|hh|hh|hh|hh|hh|hh|hh|hh|hh|hh<;>simp[Itm.told,Itm.just,iz,hh]
theorem may_one {x:Itm} (h:x.may=true) (hk:x.kind=11):∃y,x.by_=[y]/\y.may=true:=by
 obtain⟨_,_,_,ho⟩:=qU h
 unfold Itm.own at ho
 rw[if_neg (by omega),if_neg (by omega),if_neg (by omega),if_neg (by omega),if_neg (by omega),if_neg (by omega),if_neg (by omega),if_neg (by omega),if_pos hk]at ho
 simp only[Bool.and_eq_true]at ho
 have hm:=ho.2.2
 rcases hb:x.by_ with _|⟨y,_|⟨z,l⟩⟩
 ·rw[hb,Itm.mayOne]at hm;cases hm
 ·rw[hb,Itm.mayOne_cons]at hm
  simp only[Bool.and_eq_true]at hm
  exact⟨y,rfl,hm.2⟩
 ·rw[hb,Itm.mayOne_cons]at hm
  simp at hm
section
variable (G:Glob) (hG:GOk G)
theorem f85 (a b:List (List UInt8)) (ha:a.length<9000000000000000000):Pure G Tryz.prog 85 [.lst 1 (a.map srow),.lst 1 (b.map srow)] (.bool (decide (a=b))):=by
 refine Pure.w c85 λR hR=>?_
 unfold s85 r85
 (repeat' (first|(with_reducible refine ab (f101 G _ _ ha) ?_)|simp only[EVz,seval,↓reduceIte,EV6,EV7]|fail))
 (all_goals((exact RET.eq hR rfl)))
theorem f75 (x:Itm):Pure G Tryz.prog 75 [.agg x.cs] (.bool (o7 x)):=by
 have hb:=f77 G x
 have h1:=f76 G x.at_
 have h2:=f76 G x.to_
 refine Pure.w c75 λR hR=>?_
 unfold s75 r75
 unfold o7 bes at hR
 generalize l5 x.at_=q1 at*
 generalize l5 x.to_=q2 at*
 generalize (decide (x.wh=2)||decide (x.wh=3))=q3 at*
 (repeat' (first|(with_reducible (refine ag (λh=>?_) (λh=>?_))<;>(try simp only[Da,Db,Dc,Dw,De,Df,Dg,Dh]at h))|(with_reducible first|refine ab hb ?_|refine ab h1 ?_|refine ab h2 ?_)|simp only[EVz,seval,↓reduceIte,EV6,EV7]|(exfalso;omega)|fail))
 all_goals(refine RET.eq hR (congrArg AV.bool ?_);first|(simp[*];done)|(rw[decide_eq_false (by omega)];simp_all))
include hG in
theorem f78 (x:Itm) (q:x.Short1):Pure G Tryz.prog 78 [.agg x.cs] (.bool (o9 x)):=by
 have hi:=λk=>f79 G x k
 have h1:=f81 G x.at_ q.at_
 have h2:=f81 G x.to_ q.to_
 have hn:=f80 G hG
 rw[stp_cs]at h1 h2
 refine Pure.w c78 λR hR=>?_
 unfold s78 r78
 unfold o9 ins bes at hR
 have hi0:=hi 0
 have hi6:=hi 6
 clear hi
 generalize (decide (x.wh=2)||decide (x.wh=3))=b at*
 (repeat' (first|(with_reducible (refine ag (λh=>?_) (λh=>?_))<;>(try simp only[Da,Db,Dc,Dw,De,Df,Dg,Dh]at h))|(with_reducible first|refine ab hi0 ?_|refine ab hi6 ?_|refine ab h1 ?_|refine ab h2 ?_|refine ab (hn _ _) ?_)|simp only[EVz,seval,↓reduceIte,EV6,EV7]|fail))
 all_goals(refine RET.eq hR (congrArg AV.bool ?_);((simp[*];done)))
theorem f82 (x:Itm) (q:x.Short1):Pure G Tryz.prog 82 [.agg x.cs] (.bool (qm x)):=by
 have hi:=f79 G x 6
 have he:=f83 G x.at_ x.to_ (by have:=q.at_;omega)
 refine Pure.w c82 λR hR=>?_
 unfold s82 r82
 unfold qm ins bes at hR
 generalize decide (x.at_=x.to_)=q1 at*
 generalize (decide (x.kind=6)&& !(decide (x.wh=2)||decide (x.wh=3)))=q2 at*
 (repeat' (first|(with_reducible (refine ag (λh=>?_) (λh=>?_))<;>(try simp only[Da,Db,Dc,Dw,De,Df,Dg,Dh]at h))|(with_reducible first|refine ab hi ?_|refine ab he ?_)|simp only[EVz,seval,↓reduceIte,EV6,EV7]|fail))
 (all_goals(((refine RET.eq hR ?_;((simp_all[];done))))))
theorem f84 (x:Itm) (q:x.Short1):Pure G Tryz.prog 84 [.agg x.cs] (.bool (rule4 x)):=by
 have hb:=f77 G x
 have he:=f83 G x.at_ x.to_ (by have:=q.at_;omega)
 have hw:=f85 G x.old x.new (by have:=q.old;omega)
 refine Pure.w c84 λR hR=>?_
 unfold s84 r84
 unfold rule4 bes at hR
 generalize decide (x.at_=x.to_)=q1 at*
 generalize decide (x.old=x.new)=q2 at*
 generalize (decide (x.wh=2)||decide (x.wh=3))=q3 at*
 (repeat' (first|(with_reducible (refine ag (λh=>?_) (λh=>?_))<;>(try simp only[Da,Db,Dc,Dw,De,Df,Dg,Dh]at h))|(with_reducible first|refine ab hb ?_|refine ab he ?_|refine ab hw ?_)|simp only[EVz,seval,↓reduceIte,EV6,EV7]|(exfalso;omega)|fail))
 (all_goals(first|(refine RET.eq hR ?_;(refine congrArg AV.bool (Bool.eq_iff_iff.2 ?_);simp only[EVB]at*;omega))|(refine RET.eq hR ?_;((simp_all[];done)))))
theorem f86 (x:Itm) (q:x.Short1):Pure G Tryz.prog 86 [.agg x.cs] (.bool (qk x)):=by
 have h1:=f81 G x.at_ q.at_
 rw[stp_cs]at h1
 refine Pure.w c86 λR hR=>?_
 unfold s86 r86
 (repeat' (first|(with_reducible (refine ag (λh=>?_) (λh=>?_))<;>(try simp only[Da,Db,Dc,Dw,De,Df,Dg,Dh]at h))|(with_reducible refine ab h1 ?_)|simp only[EVz,seval,↓reduceIte,EV6,EV7]|fail))
 all_goals(refine RET.eq hR (congrArg AV.bool ?_);((simp[qk, *];done)))
end
theorem tab_none {k:Int} (h:¬(0<=k/\k<=11)):aX k aG=none:=by
 simp only[aG,aX]
 rw[if_neg (by omega),if_neg (by omega),if_neg (by omega),if_neg (by omega),if_neg (by omega),if_neg (by omega),if_neg (by omega),if_neg (by omega),if_neg (by omega),if_neg (by omega),if_neg (by omega),if_neg (by omega)]
section
variable (G:Glob) (hG:GOk G)
include hG
theorem oV (x:Itm) (hk:¬(0<=x.kind/\x.kind<=11)):Pure G Tryz.prog 35 [.agg x.cs] (.bool x.may):=by
 have hRu:=f67 G hG
 have hm1:=tab_none hk
 have hkk:inR x.kind 0 11=false:=by unfold inR;simp;omega
 refine Pure.w c35 λR hR=>?_
 unfold s35 r35
 rw[Itm.may_eq]at hR
 unfold Itm.pre at hR
 rw[hkk]at hR
 (repeat' (first|(with_reducible (first|refine ae (λh=>?_) (λh=>?_)|refine ag (λh=>?_) (λh=>?_)|refine aa (λh=>?_) (λh=>?_))<;>(try simp only[Da,Db,Dc,Dw,De,Df,Dg,Dh]at h))|(with_reducible refine AI (by omega) ?_)|simp only[EVz,seval,↓reduceIte,EV6,EV7,hm1,Option.getD_none,Option.isSome_none,hne]|simp only[EVz,seval,↓reduceIte,EV6,EV7,hm1,Option.getD_none,Option.isSome_none]|(with_reducible intro blk hblk;(try(have hnx:=hblk;simp only[EVK]at hnx;first|(have hne:=AI hnx hne)|(have hne:=hnx))))|(with_reducible refine ak ?_ ?_)|(with_reducible refine am ?_)|(refine az [] _ hRu.v (aB.rfl' _) (SubN.refl _) (λr σ' hh hnd=>?_);obtain⟨bm,rfl,rfl⟩:=hh;(have hne:=hnd);(try simp[Store.keys]at hne))|(refine am ?_)|(refine aI bO (l:=aG) (k:=x.kind) (z:=.agg #[.nilFunc,.nilFunc]) (zv:=.agg [.sc .nilFunc,.sc .nilFunc]) (eT:=107) rfl (ct _) (by kernel_rfl) (by first|exact bf|(simp[Store.get, *];done)) (by kernel_rfl) fB ?_)|(exfalso;omega)))
 all_goals(refine RET.eq hR (congrArg AV.bool ?_);simp;done)
theorem f35:∀x:Itm,x.Shorts->Pure G Tryz.prog 35 [.agg x.cs] (.bool x.may):=by
 refine Itm.ind λx ih hs=>?_
 obtain⟨q,hby⟩:=(Itm.Shorts_eq x).1 hs
 by_cases hk:0<=x.kind/\x.kind<=11
 ·have hh:x.kind=0\/x.kind=1\/x.kind=2\/x.kind=3\/x.kind=4\/x.kind=5\/x.kind=6\/x.kind=7\/x.kind=8\/x.kind=9\/x.kind=10\/x.kind=11:=by omega
  rcases hh with h|h|h|h|h|h|h|h|h|h|h|h
  ·exact valid_0 G hG x q h
  ·exact valid_1 G hG x q h
  ·exact valid_2 G hG x q h
  ·exact valid_3 G hG x q h
  ·exact valid_4 G hG x q h
  ·exact valid_5 G hG x q h
  ·exact valid_6 G hG x q h
  ·exact valid_7 G hG x q h
  ·exact valid_8 G hG x q h
  ·exact valid_9 G hG x q h
  ·exact valid_10 G hG x q h
  ·exact valid_11 G hG x q (λy hy=>ih y hy (hby y hy)) h
 ·exact oV G hG x hk
def n7 (w:Int) (t:List UInt8) (k:Nat):List AV:=[.int .i64 w,.str t,fnv k]
def qp:List (List AV):=[n7 9 tBook 75,n7 9 qA 78,n7 9 tSelf 82,n7 11 n0 84,n7 10 ni 86]
omit hG in
theorem f38:Pure G Tryz.prog 38 [] (.lst 3 qp):=by
 refine Pure.w c38 λR hR=>?_
 unfold s38 r38
 (repeat' (first|(with_reducible (first|refine ae (λh=>?_) (λh=>?_)|refine ag (λh=>?_) (λh=>?_)|refine aa (λh=>?_) (λh=>?_))<;>(try simp only[Da,Db,Dc,Dw,De,Df,Dg,Dh]at h))|(with_reducible refine AI (by omega) ?_)|simp only[EVz,seval,↓reduceIte,EV6,EV7]|(with_reducible intro blk hblk;(try(have hnx:=hblk;simp only[EVK]at hnx;first|(have hne:=AI hnx hne)|(have hne:=hnx))))|(with_reducible refine ak ?_ ?_)|(with_reducible refine am ?_)|(refine⟨qp,rfl,(by simp[qp,n7]),rfl,?_⟩)|(exfalso;omega)))
 exact hR _ _ (Or.inl (Or.inr ⟨rfl,rfl⟩))
end
section
variable (G:Glob)
variable (hG:GOk G)
include hG
end
section
variable (G:Glob)
end
end Go.Av
