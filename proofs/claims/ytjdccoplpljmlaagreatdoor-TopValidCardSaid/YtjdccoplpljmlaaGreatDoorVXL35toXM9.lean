/-
  LINT, 35: valid items by the program.
-/
import Derived.Test.YtjdccoplpljmlaaGreatDoorVXL30toXL32
import Derived.Test.YtjdccoplpljmlaaGreatDoorVXM1toXL34
import Derived.Test.YtjdccoplpljmlaaGreatDoorVXL29toXL28
import Derived.Lib.ItoaLen
import Derived.Test.YtjdccoplpljmlaaGreatDoorVXAv29toXAv33
namespace Go.Av
open Go Go.RowKit Go.Proofs List
set_option linter.unusedSimpArgs false
set_option linter.unusedVariables false
theorem ii (n:Int):∀τ w v,Rep τ w (.int .i64 n) v->v=intK n:=by
 intro τ w v h
 simp only[Rep]at h
 exact h
theorem gc:∀τ w,Rep τ w (.agg [.sc .nilFunc,.sc .nilFunc]) (.agg #[.nilFunc,.nilFunc]):=by
 intro τ w
 simp only[Rep,RepL]
 refine⟨_,rfl,by simp[Value.oneCell'],_,_,rfl,rfl,_,_,rfl,rfl,rfl⟩
theorem fi {x:Itm} {cs:List AV} (h:br cs x.told.cs):aA [.agg x.cs,.agg cs] [.agg x.cs,.agg x.told.cs]:=⟨AVle.rfl' _,.inr h,trivial⟩
section
variable (G:Glob) (hG:GOk G)
include hG
set_option maxHeartbeats 4000000 in
theorem valid_8 (x:Itm) (q:x.Short1) (O:x.kind=8):Pure G Tryz.prog 67 [.agg x.cs] (.bool x.may):=by
 have M:=f115 G hG
 have X:=f422 G x
 have Y:=Itm.cs_eq {iz with act:=x.act,item:=x.item,day:=x.day}
 simp only[iz,map_nil]at Y
 simp only[iz]at X
 rw[Y]at X
 have hM:=f423 G x
 have hE:=f120 G x q.fit x.told
 have F:aN (8:Int) aF=some (.agg [fnv 422,fnv 423]):=by simp[aN,aF]
 have hi:=f116 G (8:Int)
 rw[show inR (8:Int) 0 6=false from by decide]at hi
 refine Pure.w c67 λR J=>?_
 unfold s67 r67
 rw[Itm.may_eq]at J
 unfold Itm.pre at J
 generalize decide (x=x.told)=e at*
 have T:inR x.kind 0 11=true:=by rw[O];decide
 have V:x.own (Itm.mayOne x.by_)=(inR x.act 1 1048576&&(inR x.item (-1) 31&&inR x.day 0 1048576)):=by unfold Itm.own;simp[O]
 rw[V,T]at J
 (repeat' (first|(with_reducible (refine ai (λh=>?_) (λh=>?_))<;>(try simp only[DZ]at h))|(with_reducible first|refine aa X ?_|refine aa hM ?_|refine aa hi ?_)|simp only[EVz,seval,↓reduceIte,EV6,EV7,O,F,Option.getD_some,Option.isSome_some,fnv,U.cs_fold,E]|simp only[EVz,seval,↓reduceIte,EV6,EV7,O,F,Option.getD_some,Option.isSome_some,fnv,U.cs_fold]|(with_reducible intro ac N;(try(have I:=N;simp only[EVK]at I;first|(have E:=AI I E)|(have E:=I))))|(with_reducible first|refine ae ?_ ?_|refine af ?_)|(refine ay [] _ M.v (aA.rfl' _) (SubN.refl _) (λr σ' hh Z=>?_);obtain⟨bm,rfl,rfl⟩:=hh;(have E:=Z);(try simp[Store.keys]at E))|(refine aC bE (l:=aF) (k:=8) (z:=.agg #[.nilFunc,.nilFunc]) (zv:=.agg [.sc .nilFunc,.sc .nilFunc]) (eT:=149) rfl (ii _) (by kernel_rfl) (by first|exact aH|(simp[Store.get, *];done)) (by kernel_rfl) gc ?_)|(refine aI hE (fi (by rw[Itm.cs_eq];simp[br,aU,Itm.told,Itm.just,iz,O])) ?_)))
 all_goals(refine RET.eq J (congrArg AV.bool ?_);clear J X Y hM hE M hi F V T q)
 all_goals(try(first
  |exact absurd h (by decide)
  |(simp[*];done)
  |(simp[*,Bool.and_assoc];done)
  |(simp_all;done)))
set_option maxHeartbeats 4000000 in
theorem valid_9 (x:Itm) (q:x.Short1) (O:x.kind=9):Pure G Tryz.prog 67 [.agg x.cs] (.bool x.may):=by
 have M:=f115 G hG
 have X:=f422 G x
 have Y:=Itm.cs_eq {iz with act:=x.act,item:=x.item,day:=x.day}
 simp only[iz,map_nil]at Y
 simp only[iz]at X
 rw[Y]at X
 have hM:=f423 G x
 have hE:=f120 G x q.fit x.told
 have F:aN (9:Int) aF=some (.agg [fnv 422,fnv 423]):=by simp[aN,aF]
 have hi:=f116 G (9:Int)
 rw[show inR (9:Int) 0 6=false from by decide]at hi
 refine Pure.w c67 λR J=>?_
 unfold s67 r67
 rw[Itm.may_eq]at J
 unfold Itm.pre at J
 generalize decide (x=x.told)=e at*
 have T:inR x.kind 0 11=true:=by rw[O];decide
 have V:x.own (Itm.mayOne x.by_)=(inR x.act 1 1048576&&(inR x.item (-1) 31&&inR x.day 0 1048576)):=by unfold Itm.own;simp[O]
 rw[V,T]at J
 (repeat' (first|(with_reducible (refine ai (λh=>?_) (λh=>?_))<;>(try simp only[DZ]at h))|(with_reducible first|refine aa X ?_|refine aa hM ?_|refine aa hi ?_)|simp only[EVz,seval,↓reduceIte,EV6,EV7,O,F,Option.getD_some,Option.isSome_some,fnv,U.cs_fold,E]|simp only[EVz,seval,↓reduceIte,EV6,EV7,O,F,Option.getD_some,Option.isSome_some,fnv,U.cs_fold]|(with_reducible intro ac N;(try(have I:=N;simp only[EVK]at I;first|(have E:=AI I E)|(have E:=I))))|(with_reducible first|refine ae ?_ ?_|refine af ?_)|(refine ay [] _ M.v (aA.rfl' _) (SubN.refl _) (λr σ' hh Z=>?_);obtain⟨bm,rfl,rfl⟩:=hh;(have E:=Z);(try simp[Store.keys]at E))|(refine aC bE (l:=aF) (k:=9) (z:=.agg #[.nilFunc,.nilFunc]) (zv:=.agg [.sc .nilFunc,.sc .nilFunc]) (eT:=149) rfl (ii _) (by kernel_rfl) (by first|exact aH|(simp[Store.get, *];done)) (by kernel_rfl) gc ?_)|(refine aI hE (fi (by rw[Itm.cs_eq];simp[br,aU,Itm.told,Itm.just,iz,O])) ?_)))
 all_goals(refine RET.eq J (congrArg AV.bool ?_);clear J X Y hM hE M hi F V T q)
 all_goals(try(first
  |exact absurd h (by decide)
  |(simp[*];done)
  |(simp[*,Bool.and_assoc];done)
  |(simp_all;done)))
set_option maxHeartbeats 4000000 in
theorem valid_10 (x:Itm) (q:x.Short1) (O:x.kind=10):Pure G Tryz.prog 67 [.agg x.cs] (.bool x.may):=by
 have M:=f115 G hG
 have X:=f168 G x
 have Y:=Itm.cs_eq {iz with event:=x.event,day:=x.day}
 simp only[iz,map_nil]at Y
 simp only[iz]at X
 rw[Y]at X
 have hM:=f169 G x q
 have hE:=f120 G x q.fit x.told
 have F:aN (10:Int) aF=some (.agg [fnv 168,fnv 169]):=by simp[aN,aF]
 have hi:=f116 G (10:Int)
 rw[show inR (10:Int) 0 6=false from by decide]at hi
 refine Pure.w c67 λR J=>?_
 unfold s67 r67
 rw[Itm.may_eq]at J
 unfold Itm.pre at J
 generalize decide (x=x.told)=e at*
 have T:inR x.kind 0 11=true:=by rw[O];decide
 have V:x.own (Itm.mayOne x.by_)=(gS x.event&&inR x.day 0 1048576):=by unfold Itm.own;simp[O]
 rw[V,T]at J
 (repeat' (first|(with_reducible (refine ai (λh=>?_) (λh=>?_))<;>(try simp only[DZ]at h))|(with_reducible first|refine aa X ?_|refine aa hM ?_|refine aa hi ?_)|simp only[EVz,seval,↓reduceIte,EV6,EV7,O,F,Option.getD_some,Option.isSome_some,fnv,U.cs_fold,E]|simp only[EVz,seval,↓reduceIte,EV6,EV7,O,F,Option.getD_some,Option.isSome_some,fnv,U.cs_fold]|(with_reducible intro ac N;(try(have I:=N;simp only[EVK]at I;first|(have E:=AI I E)|(have E:=I))))|(with_reducible first|refine ae ?_ ?_|refine af ?_)|(refine ay [] _ M.v (aA.rfl' _) (SubN.refl _) (λr σ' hh Z=>?_);obtain⟨bm,rfl,rfl⟩:=hh;(have E:=Z);(try simp[Store.keys]at E))|(refine aC bE (l:=aF) (k:=10) (z:=.agg #[.nilFunc,.nilFunc]) (zv:=.agg [.sc .nilFunc,.sc .nilFunc]) (eT:=149) rfl (ii _) (by kernel_rfl) (by first|exact aH|(simp[Store.get, *];done)) (by kernel_rfl) gc ?_)|(refine aI hE (fi (by rw[Itm.cs_eq];simp[br,aU,Itm.told,Itm.just,iz,O])) ?_)))
 all_goals(refine RET.eq J (congrArg AV.bool ?_);clear J X Y hM hE M hi F V T q)
 all_goals(try(first
  |exact absurd h (by decide)
  |(simp[*];done)
  |(simp[*,Bool.and_assoc];done)
  |(simp_all;done)))
set_option maxHeartbeats 4000000 in
theorem valid_11 (x:Itm) (q:x.Short1) (hy:∀y∈x.by_,Pure G Tryz.prog 67 [.agg y.cs] (.bool y.may)) (O:x.kind=11):Pure G Tryz.prog 67 [.agg x.cs] (.bool x.may):=by
 have M:=f115 G hG
 have X:=f171 G x
 have Y:=Itm.cs_eq {iz with act:=x.act,item:=x.item,by_:=x.by_}
 simp only[iz,map_nil]at Y
 simp only[iz]at X
 rw[Y]at X
 have hM:=f172 G x q hy
 have hE:=f120 G x q.fit x.told
 have F:aN (11:Int) aF=some (.agg [fnv 171,fnv 172]):=by simp[aN,aF]
 have hi:=f116 G (11:Int)
 rw[show inR (11:Int) 0 6=false from by decide]at hi
 refine Pure.w c67 λR J=>?_
 unfold s67 r67
 rw[Itm.may_eq]at J
 unfold Itm.pre at J
 generalize decide (x=x.told)=e at*
 have T:inR x.kind 0 11=true:=by rw[O];decide
 have V:x.own (Itm.mayOne x.by_)=(inR x.act 1 1048576&&(inR x.item 0 31&&Itm.mayOne x.by_)):=by unfold Itm.own;simp[O]
 rw[V,T]at J
 (repeat' (first|(with_reducible (refine ai (λh=>?_) (λh=>?_))<;>(try simp only[DZ]at h))|(with_reducible first|refine aa X ?_|refine aa hM ?_|refine aa hi ?_)|simp only[EVz,seval,↓reduceIte,EV6,EV7,O,F,Option.getD_some,Option.isSome_some,fnv,U.cs_fold,E]|simp only[EVz,seval,↓reduceIte,EV6,EV7,O,F,Option.getD_some,Option.isSome_some,fnv,U.cs_fold]|(with_reducible intro ac N;(try(have I:=N;simp only[EVK]at I;first|(have E:=AI I E)|(have E:=I))))|(with_reducible first|refine ae ?_ ?_|refine af ?_)|(refine ay [] _ M.v (aA.rfl' _) (SubN.refl _) (λr σ' hh Z=>?_);obtain⟨bm,rfl,rfl⟩:=hh;(have E:=Z);(try simp[Store.keys]at E))|(refine aC bE (l:=aF) (k:=11) (z:=.agg #[.nilFunc,.nilFunc]) (zv:=.agg [.sc .nilFunc,.sc .nilFunc]) (eT:=149) rfl (ii _) (by kernel_rfl) (by first|exact aH|(simp[Store.get, *];done)) (by kernel_rfl) gc ?_)|(refine aI hE (fi (by rw[Itm.cs_eq];simp[br,aU,Itm.told,Itm.just,iz,O])) ?_)))
 all_goals(refine RET.eq J (congrArg AV.bool ?_);clear J X Y hM hE M hi F V T q)
 all_goals(try(first
  |exact absurd h (by decide)
  |(simp[*];done)
  |(simp[*,Bool.and_assoc];done)
  |(simp_all;done)))
end
def bes (x:Itm):Bool:=decide (x.wh=2)||decide (x.wh=3)
def ins (x:Itm) (k:Int):Bool:=decide (x.kind=k)&& !bes x
/-! ### valid items -/
section
variable (G:Glob) (hG:GOk G)
include hG in
end
theorem tab_none {k:Int} (h:¬(0<=k/\k<=11)):aN k aF=none:=by
 simp only[aF,aN]
 rw[if_neg (by omega),if_neg (by omega),if_neg (by omega),if_neg (by omega),if_neg (by omega),if_neg (by omega),if_neg (by omega),if_neg (by omega),if_neg (by omega),if_neg (by omega),if_neg (by omega),if_neg (by omega)]
section
variable (G:Glob) (hG:GOk G)
include hG
theorem oa (x:Itm) (Y:¬(0<=x.kind/\x.kind<=11)):Pure G Tryz.prog 67 [.agg x.cs] (.bool x.may):=by
 have N:=f115 G hG
 have J:=tab_none Y
 have O:inR x.kind 0 11=false:=by unfold inR;simp;omega
 refine Pure.w c67 λR M=>?_
 unfold s67 r67
 rw[Itm.may_eq]at M
 unfold Itm.pre at M
 rw[O]at M
 (repeat' (first|(with_reducible (first|refine ab (λh=>?_) (λh=>?_)|refine ai (λh=>?_) (λh=>?_)|refine ak (λh=>?_) (λh=>?_))<;>(try simp only[DZ]at h))|(with_reducible refine AI (by omega) ?_)|simp only[EVz,seval,↓reduceIte,EV6,EV7,J,Option.getD_none,Option.isSome_none,E]|simp only[EVz,seval,↓reduceIte,EV6,EV7,J,Option.getD_none,Option.isSome_none]|(with_reducible intro V I;(try(have F:=I;simp only[EVK]at F;first|(have E:=AI F E)|(have E:=F))))|(with_reducible first|refine ae ?_ ?_|refine af ?_)|(refine ay [] _ N.v (aA.rfl' _) (SubN.refl _) (λr σ' X T=>?_);obtain⟨Z,rfl,rfl⟩:=X;(have E:=T);(try simp[Store.keys]at E))|(refine af ?_)|(refine aC bE (l:=aF) (k:=x.kind) (z:=.agg #[.nilFunc,.nilFunc]) (zv:=.agg [.sc .nilFunc,.sc .nilFunc]) (eT:=149) rfl (bZ _) (by kernel_rfl) (by first|exact aH|(simp[Store.get, *];done)) (by kernel_rfl) eQ ?_)|(exfalso;omega)))
 all_goals(refine RET.eq M (congrArg AV.bool ?_);simp;done)
theorem f67:∀x:Itm,x.Shorts->Pure G Tryz.prog 67 [.agg x.cs] (.bool x.may):=by
 refine Itm.ind λx ih M=>?_
 obtain⟨q,E⟩:=(Itm.Shorts_eq x).1 M
 by_cases J:0<=x.kind/\x.kind<=11
 ·have I:x.kind=0\/x.kind=1\/x.kind=2\/x.kind=3\/x.kind=4\/x.kind=5\/x.kind=6\/x.kind=7\/x.kind=8\/x.kind=9\/x.kind=10\/x.kind=11:=by omega
  rcases I with h|h|h|h|h|h|h|h|h|h|h|h
  ·exact valid_0 G hG x q h
  ·exact valid_1 G hG x q h
  ·exact valid_2 G hG x q h
  ·exact valid_3 G hG x q h
  ·exact valid_4 G hG x q h
  ·exact valid_5 G hG x q h
  ·exact valid_6 G hG x q h
  ·exact valid_7 G hG x q h
  ·exact valid_8 G hG x q h
  ·exact valid_9 G hG x q h
  ·exact valid_10 G hG x q h
  ·exact valid_11 G hG x q (λy F=>ih y F (E y F)) h
 ·exact oa G hG x J
end
section
variable (G:Glob)
variable (hG:GOk G)
include hG
end
section
variable (G:Glob)
end
section
variable (G:Glob) (hG:GOk G)
include hG
end
section
variable (G:Glob)
end
section
variable (G:Glob)
end
section
variable (G:Glob)
end
section
variable (G:Glob)
end
section
variable (G:Glob)
end
/-! ### stops and joins -/
section
variable (G:Glob)
variable (hG:GOk G)
include hG
end
theorem gV {α:Type} (p:α->Bool):∀(l:List α) (i k:Nat),bF p l=some k->idxF p i l=((i+k:Nat):Int)
 |[],i,k,h=>by cases h
 |x::l,i,k,h=>by
  rw[bF]at h
  rw[idxF]
  cases E:p x with
  |true=>rw[E]at h;simp only[if_true]at h ⊢;injection h with h;subst h;rfl
  |false=>
   rw[E]at h
   simp only[Bool.false_eq_true,if_false]at h ⊢
   obtain⟨I,F,rfl⟩:=Option.map_eq_some_iff.1 h
   rw[gV p l (i+1) I F]
   omega
theorem lF {α:Type} (p:α->Bool):∀(l:List α) (i:Nat),bF p l=none->idxF p i l= -1
 |[],i,h=>rfl
 |x::l,i,h=>by
  rw[bF]at h
  rw[idxF]
  cases E:p x with
  |true=>rw[E]at h;cases h
  |false=>
   rw[E]at h
   simp only[Bool.false_eq_true,if_false]at h ⊢
   exact lF p l (i+1) (Option.map_eq_none_iff.1 h)
def kl (j:Idd) (u:U):AV:=match aM j u with
 |some (p,_,k)=>.tup [.agg p.id.cs,.int .i64 k,.bool true]
 |none=>.tup [.agg [.int .i64 0,.int .i64 0,.int .i64 0],.int .i64 (-1),.bool false]
section
variable (G:Glob)
theorem f338k (σ:Store) (f:Value) (p:U->Bool) (l:List U) (O:l.length<9000000000000000000) (J:∀x∈l,cn G Tryz.prog f [.agg x.cs] σ λr σ'=>r= .bool (p x)/\σ'=σ):
  aj G Tryz.prog 338 [.lst 8 (l.map U.cs),.sc f] σ λr σ'=>r= .int .i64 (idxF p 0 l)/\σ'=σ:=by
 refine aj.wk c338 λR I=>?_
 unfold s338 r338
 (repeat' (first|(with_reducible (refine ab (λh=>?_) (λh=>?_))<;>(try simp only[DZ]at h))|simp only[EVz,seval,↓reduceIte,EV6,EV7,F.yes,F.le0,F.lt',F.get,F.row,N]|simp only[EVz,seval,↓reduceIte,EV6,EV7,M]|simp only[EVz,seval,↓reduceIte,EV6,EV7]|(refine am F () ?_ (Weak.rfl' _ _))|(refine ax l (λi r (c:Unit)=>idxF p 0 l=idxF p i r) (λi c=>[(0,.lst 8 (l.map U.cs)),(1,.sc f),(7,.int .i64 l.length),(8,.int .i64 i)]) (λ_ _=>σ) () rfl (Weak.rfl' _ _) (by omega) (λi x r c E F N=>?_) (λc E M=>?_))|(refine cU (J _ F.mem) ?_)))
 ·refine I _ _ (.inl (.inl ?_)) (SubN.refl _)
  rw[E,idxF,if_pos h]
 ·rw[E,idxF,h];rfl
 ·refine I _ _ (.inl (.inl ?_)) (SubN.refl _)
  rw[E];rfl
theorem f326k (σ:Store) (f:Value) (p:U->Bool) (l:List U) (J:l.length<9000000000000000000) (I:∀x∈l,cn G Tryz.prog f [.agg x.cs] σ λr σ'=>r= .bool (p x)/\σ'=σ):
  aj G Tryz.prog 326 [.lst 8 (l.map U.cs),.sc f] σ λr σ'=>r= .bool (l.any p)/\σ'=σ:=by
 refine aj.wk c326 λR F=>?_
 unfold s326 r326
 have E:=f338k G σ f p l J I
 (repeat' (first|simp only[EVz,seval,↓reduceIte,EV6,EV7]|(refine cU E.v ?_)))
 exact F _ _ (.inl (.inl (congrArg AV.bool (dW p l 0)))) (SubN.refl _)
theorem f339 (b:Nat) (j:Idd) (u:U) (T:u.Tame):aj G Tryz.prog 339 [.agg u.cs,.sc (.pointer (some ⟨b,0,none⟩))] [(b,.cells 25 j.cs)] λr σ'=>r= .bool (!(U.way j u).isEmpty)/\σ'=[(b,.cells 25 j.cs)]:=by
 have F:=f144 G j u T
 refine aj.wk c339 λR J=>?_
 unfold s339 r339
 simp only[Idd.cs]at F
 cases M:U.way j u with
 |nil=>
  rw[M]at F J
  simp only[fy]at F
  (repeat' (first|(with_reducible refine aa F ?_)|simp only[EVz,seval,↓reduceIte,EV6,EV7]))
  exact J _ _ (AVle.rfl' _) (SubN.refl _)
 |cons x l=>
  rw[M]at F J
  simp only[fy,map_cons]at F
  (repeat' (first|(with_reducible refine aa F ?_)|simp only[EVz,seval,↓reduceIte,EV6,EV7]|(with_reducible intro N E;(try(have I:=E;simp only[EVK]at I;(have O:=I))))))
  have:=E (by simp)
  subst this
  exact J _ _ (AVle.rfl' _) (SubN.refl _)
theorem f286 (j:Idd) (u:U) (hs:u.Short) (hn:u.ids.Nodup):Pure G Tryz.prog 286 [.agg u.cs,.agg j.cs] (kl j u):=by
 have T:=f144 G j u hs.1
 have aw:=fS j u
 have hc:=hs.1.2
 refine Pure.w c286 λR hR=>?_
 unfold s286 r286
 unfold kl at hR
 simp only[Idd.cs]at T ⊢
 by_cases hi:j∈u.ids/\u.id≠j
 ·obtain⟨p,d,k,e1,e2,e3⟩:=cg hn hi.1 hi.2
  rw[e1]at hR
  obtain⟨a,x,b,s,hx,hj,hl⟩:=e3.split
  have an:p∈u.flat:=by
   have:=bI u hn e3.mem
   rw[e3.fnd]at this;exact this
  have ad:=hs.node an
  have M:=e3.path
  have N:=e3.deep
  have J:=e3.last
  obtain⟨q,hq⟩:∃q,U.way p.id u=q:=⟨_,rfl⟩
  rw[hq]at M N J
  have O:(U.way j u).length=d+2:=by rw[M];simp;omega
  have ag:U.way j u≠[]:=by intro e;rw[e]at O;simp at O
  rw[nO ag]at T
  have hg:((U.way j u).map U.cs).getD d []=p.cs:=by
   have X:(U.way j u)[d]? =some p:=by
    rw[M,getElem?_append_left (by omega)]
    rw[getLast?_eq_getElem?,N]at J
    simpa using J
   simp only[List.getD,getElem?_map,X,Option.map_some,Option.getD_some]
  obtain⟨L,hL⟩:∃L,U.way j u=L:=⟨_,rfl⟩
  rw[hL]at T O hg aw
  have ah:IntKind.i64.wrap ((L.length:Int)-2)=(d:Int):=by rw[av (by omega) (by omega)];omega
  have bb:=ad.1.kids
  have al:idxF (λk=>!(U.way j k).isEmpty) 0 p.kids=(k:Int):=by
   rw[gV _ _ 0 k (by rw[s.no_way,hj])];simp
  have e0:decide ((L.length:Int)<2)=false:=decide_eq_false (by omega)
  (repeat' (first|(with_reducible first|refine AI (by omega) ?_|refine aa T ?_)|simp only[EVz,seval,↓reduceIte,EV6,EV7,ah,hg,e0,E]|simp only[EVz,seval,↓reduceIte,EV6,EV7,ah,hg,e0]|(with_reducible intro V I;(try(have F:=I;simp only[EVK]at F;first|(have E:=AI F E)|(have E:=F))))))
  rename_i Z _ _ _ b2 _ _ _
  have hI:=f338k G [(Z,.cells 25 j.cs)] (.func (.func 339) #[] #[.pointer (some ⟨Z,0,none⟩)]) (λk=>!(U.way j k).isEmpty) p.kids (by omega)
   (λy hy=>⟨_,_,_,rfl,f339 G Z j y (ad.1.kid hy)⟩)
  rw[al]at hI
  refine aP [(Z,.cells 25 j.cs)] [(V,.cells 29 p.cs),(b2,.cells 25 [.int .i64 0,.int .i64 0,.int .i64 0])] hI.v (aA.rfl' _) (SubN.perm perm_append_comm) ?_
  rintro _ _ ⟨rfl,rfl⟩
  have n1:¬Z=b2:=λe=>E.2.1 e.symm
  have n2:¬Z=V:=λe=>E.1.2 e.symm
  (repeat' (simp only[EVz,seval,↓reduceIte,EV6,EV7,E,n1,n2,cons_append,nil_append]))
  exact hR _ _ (Or.inl (Or.inl rfl))
 ·have Y:aM j u=none:=by
   by_cases X:j∈u.ids
   ·exact dG (Classical.byContradiction λh2=>hi ⟨X,h2⟩)
   ·unfold aM
    rw[(dS u).2 X]
    rfl
  rw[Y]at hR
  have ac:(U.way j u).length<2:=by
   by_cases X:j∈u.ids
   ·rw[aV (Classical.byContradiction λh2=>hi ⟨X,h2⟩)];simp
   ·rw[(dS u).2 X];simp
  cases hw:U.way j u with
  |nil=>
   rw[hw]at T
   simp only[fy]at T
   (repeat' (first|(with_reducible refine aa T ?_)|simp only[EVz,seval,↓reduceIte,EV6,EV7,E]|simp only[EVz,seval,↓reduceIte,EV6,EV7]|(with_reducible intro V I;(try(have F:=I;simp only[EVK]at F;first|(have E:=AI F E)|(have E:=F))))))
   exact hR _ _ (Or.inl (Or.inl rfl))
  |cons x l=>
   rw[hw]at T ac
   simp only[fy,map_cons]at T
   simp only[length_cons]at ac
   have e0:decide (((l.length+1:Nat):Int)<2)=true:=decide_eq_true (by omega)
   (repeat' (first|(with_reducible refine aa T ?_)|simp only[EVz,seval,↓reduceIte,EV6,EV7,e0,E]|simp only[EVz,seval,↓reduceIte,EV6,EV7,e0]|(with_reducible intro V I;(try(have F:=I;simp only[EVK]at F;first|(have E:=AI F E)|(have E:=F))))))
   exact hR _ _ (Or.inl (Or.inl rfl))
end
theorem oW (a b:Int) (l:List (List UInt8)) (m:Int) {i:Nat} {s:List UInt8} {r:List (List UInt8)} (E:Rest l i s r):aW a b (l.take (i+1)) m=aW a b (l.take i) m++[⟨s,a,b,m+i⟩]:=by
 have h:(l.take i).length=i:=by rw[length_take];have:=E.lt;omega
 rw[E.take,lz,h]
 rfl
section
variable (G:Glob)
end
section
variable (G:Glob)
def anc (j:Idd) (u:U):List Idd:=((U.way j u).dropLast.map U.id).reverse
theorem f328 (j:Idd) (u:U) (ht:u.Tame):Pure G Tryz.prog 328 [.agg u.cs,.agg j.cs] (.lst 3 ((anc j u).map Idd.cs)):=by
 have F:=f144 G j u ht
 have ad:=fS j u
 have hc:=ht.2
 refine Pure.w c328 λR O=>?_
 unfold s328 r328
 unfold anc at O
 simp only[Idd.cs]at F ⊢
 cases M:U.way j u with
 |nil=>
  rw[M]at F O
  simp only[fy]at F
  (repeat' (first|(with_reducible refine aa F ?_)|simp only[EVz,seval,↓reduceIte,EV6,EV7]))
  refine ax ([]:List U) (λi r (c:Unit)=>True) (λi c=>[(5,.nil),(6,.nil),(7,.int .i64 (-2))]) (λi c=>[]) () trivial (Weak.rfl' _ _) (by simp) (λi x r c J N hw=>?_) (λc J hn=>?_)
  ·exact absurd N.lt (by simp)
  ·(repeat' (simp only[EVz,seval,↓reduceIte,EV6,EV7,hn]))
   exact O _ _ (Or.inl (Or.inr (by simp)))
 |cons y l=>
  have E:U.way j u≠[]:=by rw[M];simp
  rw[nO E]at F
  obtain⟨L,hL⟩:∃L,U.way j u=L:=⟨_,rfl⟩
  rw[hL]at F ad E O
  have ah:1<=L.length:=by cases L<;>simp_all
  have ag:IntKind.i64.wrap ((L.length:Int)-2)=(L.length:Int)-2:=av (by omega) (by omega)
  clear M hL
  have I:L.dropLast.reverse.length=L.length-1:=by simp
  (repeat' (first|(with_reducible refine aa F ?_)|simp only[EVz,seval,↓reduceIte,EV6,EV7,ag]))
  refine ax (ι:=Option Nat) L.dropLast.reverse (λi r c=>True) (λi c=>[(5,.own c 25 3 ((L.dropLast.reverse.take i).map λx=>x.id.cs)),(6,.lst 8 (L.map U.cs)),(7,.int .i64 ((L.length:Int)-2-i))]) (λi c=>tokS c 25 (i*3)) none trivial (Weak.of (by simp[dI,Env.get,AVle,aU]) (SubN.refl _)) (by omega) (λi x r c J N hw=>?_) (λc J hn=>?_)
  ·have hi:=N.lt
   rw[I]at hi
   have Z:decide ((0:Int)<=(L.length:Int)-2-i)=true:=decide_eq_true (by omega)
   have w1:IntKind.i64.wrap ((L.length:Int)-2-i-1)=(L.length:Int)-2-((i+1:Nat):Int):=by rw[av (by omega) (by omega)];omega
   have ac:((L.length:Int)-2-i).toNat=L.length-2-i:=by omega
   have hg:(L.map U.cs).getD (L.length-2-i) []=x.cs:=by
    have X:=N.get noU
    have Y:L.dropLast.reverse[i]? =some x:=by
     rw[getD_eq_getElem?_getD]at X
     rw[getElem?_eq_getElem (by rw[I];exact hi)]at X ⊢
     simp at X ⊢
     exact X
    rw[getElem?_reverse (by simp;omega),getElem?_dropLast]at Y
    simp only[length_dropLast]at Y
    rw[show L.length-1-1-i=L.length-2-i by omega,if_pos (by omega)]at Y
    simp only[List.getD,getElem?_map,Y,Option.map_some,Option.getD_some]
   (repeat' (first|(with_reducible refine AI (by omega) ?_)|simp only[EVz,seval,↓reduceIte,EV6,EV7,Z,w1,ac,hg]|(with_reducible intro al T;(try(have V:=T;simp only[EVK]at V;(have an:=V))))))
   refine gk (n:=i) (m':=(i+1)*3) io (by rw[length_map,length_take];omega) rfl rfl rfl (by assumption) (by omega) (λgn=>?_)
   refine am N gn trivial ?_
   simp only[N.take,map_append,map_cons,map_nil,Idd.cs]
   exact Weak.rfl' _ _
  ·have Z:decide ((0:Int)<=(L.length:Int)-2-(L.dropLast.reverse.length:Int))=false:=decide_eq_false (by rw[I];omega)
   (repeat' (simp only[EVz,seval,↓reduceIte,EV6,EV7,Z]))
   exact O _ _ (Or.inl (Or.inr ⟨rfl,by rw[take_length,←map_reverse,map_map];rfl⟩))
end
def LeRep (x y:AV):Prop:=∀σ w u,Rep σ w x u->Rep σ w y u
inductive LeReps:List AV->List AV->Prop
 |nil:LeReps [] []
 |cons {x y xs ys}:LeRep x y->LeReps xs ys->LeReps (x::xs) (y::ys)
theorem LeRep.of {x y:AV} (h:AVle x y):LeRep x y:=λ_ _ _ E=>h.rep E
theorem LeRep.refl (x:AV):LeRep x x:=λ_ _ _ h=>h
theorem LeReps.rep {xs ys:List AV} (h:LeReps xs ys):∀{σ w us},RepL σ w xs us->RepL σ w ys us:=by
 induction h with
 |nil=>intro σ w us h;exact h
 |cons h1 h2 ih=>
  intro σ w us h
  simp only[RepL]at h ⊢
  obtain⟨u,E,rfl,F,I⟩:=h
  exact⟨u,E,rfl,h1 _ _ _ F,ih I⟩
theorem aj.toPure {G:Glob} {P:Program} {k:FuncId} {args:List AV} {R:AV->Store->Prop} {r0:AV} (h:aj G P k args [] R) (M:∀r σ',R r σ'->LeRep r r0):Pure G P k args r0:=
 ⟨h.1,λρ w vs N I=>(h.2 ρ w vs N I).mono (by
  rintro e w' ⟨v,r,σ',rfl,O,F,J,E⟩
  exact⟨v,r0,[],rfl,⟨rfl,rfl⟩,F.subN (SubN.nil σ'),J.trans (Ev.of_sub (SubN.nil σ').1 w'),Rep.ev (Ev.of_sub (SubN.nil σ').1 w') _ _ (M r σ' O _ _ _ E)⟩)⟩
theorem tokF {g:Option Nat} {e:TypeId} {m:Nat} {κ:Store} (E:∀b,g=some b->b∉κ.keys):∀b,g=some b->Store.get (κ++tokS g e m) b=some (.tok e m):=by
 rintro b rfl
 rw[ao (E b rfl)]
 simp[tokS,Store.get]
section
variable (G:Glob)
end
def U.wt (u:U):Nat:=(u.flat.map λy=>y.head.length+y.words.length).sum
def U.wts (us:List U):Nat:=((U.flats us).map λy=>y.head.length+y.words.length).sum
theorem U.wt_eq (u:U):u.wt=u.head.length+u.words.length+U.wts u.kids:=by unfold U.wt U.wts;rw[U.flat_eq];simp
theorem U.wts_nil:U.wts []=0:=by unfold U.wts;rw[bl];rfl
theorem U.wts_cons (u:U) (us:List U):U.wts (u::us)=u.wt+U.wts us:=by unfold U.wt U.wts;rw[aG];simp
theorem U.wts_app (a b:List U):U.wts (a++b)=U.wts a+U.wts b:=by unfold U.wts;rw[cG];simp
theorem kv (a b:Int) (x:U):∀(l:List U) (n m:Int),U.stamps a b (l++[x]) n m=((U.stamps a b l n m).1++[(U.stamp a b x (U.stamps a b l n m).2.1 (U.stamps a b l n m).2.2).1],(U.stamp a b x (U.stamps a b l n m).2.1 (U.stamps a b l n m).2.2).2)
 |[],n,m=>by rw[nil_append,U.stamps_cons,U.stamps_nil,U.stamps_nil];rfl
 |u::l,n,m=>by rw[cons_append,U.stamps_cons,kv a b x l,U.stamps_cons];rfl
theorem oQ (a b:Int):∀(u:U) (n m:Int),(U.stamp a b u n m).2.2=m+u.wt:=by
 refine U.ind λu ih n m=>?_
 have h:∀(us:List U),(∀k∈us,∀n m,(U.stamp a b k n m).2.2=m+k.wt)->∀n m,(U.stamps a b us n m).2.2=m+U.wts us:=by
  intro us
  induction us with
  |nil=>intro _ n m;rw[U.stamps_nil,U.wts_nil];simp
  |cons x us ihu=>
   intro h n m
   rw[U.stamps_cons]
   simp only
   rw[ihu (λk E=>h k (by simp[E])),h x (by simp),U.wts_cons]
   omega
 rw[U.stamp_eq]
 simp only
 rw[h u.kids ih,U.wt_eq]
 omega
theorem jm (a b:Int) (us:List U) (n m:Int):(U.stamps a b us n m).2.1=n+(U.flats us).length/\(U.stamps a b us n m).2.2=m+U.wts us/\(U.stamps a b us n m).1.length=us.length:=by
 refine⟨(ga a b (λk _ n m=>jV a b k n m) n m).next,?_,?_⟩
 ·induction us generalizing n m with
  |nil=>rw[U.stamps_nil,U.wts_nil];simp
  |cons x us ih=>
   rw[U.stamps_cons]
   simp only
   rw[ih,oQ,U.wts_cons]
   omega
 ·have:=congrArg List.length (ga a b (us:=us) (λk _ n m=>jV a b k n m) n m).key
  simpa using this
theorem app_kept2 {e:TypeId} {sz bytes m:Nat} {g:Option Nat} {rows ys:List (List AV)} {K:AV->Store->Prop} {F I:Nat} {Y y2:AObj} (κ:Store) (M:F∉Store.keys (κ++tokS g e m)) (N:I∉Store.keys ((F,Y)::(κ++tokS g e m))) (X:∀b,g=some b->b∉κ.keys) (hm:m=rows.length*sz) (O:κ.keys.Nodup) (hb:(rows.length+ys.length)*bytes<=140737488355328)
  (hk:∀J,(∀b,J=some b->b∉κ.keys)->K (.own J e sz (rows++ys)) (κ++tokS J e ((rows++ys).length*sz))):appX e sz bytes ((I,y2)::(F,Y)::(κ++tokS g e m)) g rows ys K:=by
 subst hm
 refine fN κ (λb h=>?_) hb ⟨λq T=>?_,λ_=>O⟩ hk
 ·have V:=tokF (e:=e) (m:=rows.length*sz) X b h
  have E:b∈Store.keys (κ++tokS g e (rows.length*sz)):=mem_map.2 ⟨_,Store.get_mem V,rfl⟩
  have Z:F≠b:=λe=>M (by rw[e];exact E)
  have h3:I≠b:=λe=>N (by rw[e];exact mem_cons_of_mem _ E)
  simp only[Store.get,if_neg Z,if_neg h3]
  exact V
 ·cases g with
  |none=>exact mem_cons_of_mem _ (mem_cons_of_mem _ (mem_append.2 (.inl T)))
  |some b=>
   refine mem_filter.2 ⟨mem_cons_of_mem _ (mem_cons_of_mem _ (mem_append.2 (.inl T))),?_⟩
   have:q.1≠b:=λh=>X b rfl (by rw[←h];exact mem_map.2 ⟨q,T,rfl⟩)
   simpa using this
section
variable (G:Glob)
end
def msr (l:List U):Nat:=(l.map λx=>x.flat.length).sum
theorem mc:msr []=0:=rfl
theorem cK (x:U) (l:List U):msr (x::l)=x.flat.length+msr l:=by simp[msr]
theorem jE (a b:List U):msr (a++b)=msr a+msr b:=by simp[msr]
theorem fT:∀l:List U,l.length<=msr l
 |[]=>Nat.le_refl _
 |x::l=>by have:=fT l;have:=x.flat_pos;rw[cK,length_cons];omega
theorem iZ:∀us:List U,msr us=(U.flats us).length
 |[]=>by rw[bl];rfl
 |u::us=>by rw[cK,iZ us,aG,length_append]
theorem g9 (p:U->Bool):∀l:List U,msr (l.filter p)<=msr l
 |[]=>Nat.le_refl _
 |x::l=>by
  have:=g9 p l
  rw[filter_cons]
  split
  ·rw[cK,cK];omega
  ·rw[cK];omega
theorem iF (s:Stp):∀l:List U,msr (aJ l s)<=msr l
 |[]=>Nat.le_refl _
 |x::l=>by
  have E:=iF s l
  have F:=g9 (λk=>aK k s) x.kids
  have I:msr x.kids=x.flat.length-1:=by rw[iZ,U.flat_eq];simp
  have e:aJ (x::l) s=x.kids.filter (λk=>aK k s)++aJ l s:=by simp[aJ]
  rw[e,jE,cK];omega
theorem mN {u x:U} (E:x∈u.flat):x.flat.length<=u.flat.length:=by
 revert E
 refine U.ind (p:=λu=>x∈u.flat->x.flat.length<=u.flat.length) (λu ih E=>?_) u
 rw[U.flat_eq]at E
 rcases mem_cons.1 E with rfl|E
 ·exact Nat.le_refl _
 ·obtain⟨y,F,E⟩:=bT E
  have I:=ih y F E
  have J:=U.flats_mem F
  rw[U.flat_eq u,length_cons];omega
theorem msr_le {N:Nat}:∀{l:List U},(∀x∈l,x.flat.length<=N)->msr l<=l.length*N
 |[],_=>Nat.zero_le _
 |x::l,h=>by
  have F:=msr_le (l:=l) λy E=>h y (by simp[E])
  have I:=h x (by simp)
  rw[cK,length_cons,Nat.add_mul];omega
theorem msr_flat (u:U):msr u.flat<=u.flat.length*u.flat.length:=msr_le λx E=>mN E
def dQ (u:U) (s:Stp):List U:=if mh s then [u]else u.flat.filter λx=>aK x s
theorem kJ (u:U) (s:Stp):msr (dQ u s)<=u.flat.length*u.flat.length:=by
 unfold dQ
 split
 ·have:=u.flat_pos
  rw[cK,mc]
  exact Nat.le_mul_of_pos_right _ this
 ·exact Nat.le_trans (g9 _ _) (msr_flat u)
theorem lU:∀(r:List Stp) (l:List U),msr (r.foldl aJ l)<=msr l
 |[],l=>Nat.le_refl _
 |s::r,l=>Nat.le_trans (lU r (aJ l s)) (iF s l)
theorem lx (u:U) (p:List Stp):(fI u p).length<=u.flat.length*u.flat.length:=by
 refine Nat.le_trans (fT _) ?_
 unfold fI
 split
 ·exact Nat.zero_le _
 ·split
  ·have:=u.flat_pos
   rw[cK,mc]
   exact Nat.le_mul_of_pos_right _ this
  ·exact Nat.le_trans (lU _ _) (kJ u _)
theorem la (l:List U) (x:U) (s:Stp):aJ (l++[x]) s=aJ l s++x.kids.filter λk=>aK k s:=by simp[aJ]
def zPre (l:List U) (y:Stp) (ks:List U) (j k:Nat):List U:=aJ (l.take j) y++(ks.take k).filter λx=>aK x y
theorem zPre_zero (l:List U) (y:Stp) (ks:List U) (j:Nat):zPre l y ks j 0=aJ (l.take j) y:=by simp[zPre]
theorem zPre_full (l:List U) (y:Stp) (ks:List U) (j:Nat):zPre l y ks j ks.length=aJ (l.take j) y++ks.filter λx=>aK x y:=by simp[zPre]
theorem zPre_len (l:List U) (y:Stp) (ks:List U) (j k:Nat):(zPre l y ks j k).length=(aJ (l.take j) y).length+((ks.take k).filter λx=>aK x y).length:=by simp[zPre]
theorem zPre_yes {l:List U} {y:Stp} {ks:List U} {j k:Nat} {q:U} {r:List U} (F:Rest ks k q r) (E:aK q y=true):zPre l y ks j (k+1)=zPre l y ks j k++[q]:=by
 unfold zPre
 rw[F.take,filter_append,append_assoc]
 simp[E]
theorem zPre_not {l:List U} {y:Stp} {ks:List U} {j k:Nat} {q:U} {r:List U} (F:Rest ks k q r) (E:aK q y=false):zPre l y ks j (k+1)=zPre l y ks j k:=by
 unfold zPre
 rw[F.take,filter_append]
 simp[E]
section
variable (G:Glob)
end
def oneAV (u:U) (p:List Stp):AV:=.tup [.agg [.int .i64 (one u p).1.act,.int .i64 (one u p).1.item,.int .i64 (one u p).1.n],.int .i64 (one u p).2]
section
variable (G:Glob)
end
def Dd.cs (d:Dd):List AV:=.int .i64 d.act:: .int .i64 d.item:: .int .i64 d.day::d.it.cs
def cJ (q:U×Int):AV:=.tup [.agg q.1.cs,.int .i64 q.2]
structure Unit0 (d:Dd):Prop where
 nodes:∀y∈d.it.unit.flat,nodeOk y=true
 cnt:d.it.unit.flat.length<=1024
theorem wt_le {u:U} (h:∀y∈u.flat,nodeOk y=true):u.wt<=u.flat.length*512:=by
 unfold U.wt
 have:∀l:List U,(∀y∈l,nodeOk y=true)->(l.map λy=>y.head.length+y.words.length).sum<=l.length*512:=by
  intro l
  induction l with
  |nil=>intro _;simp
  |cons x l ih=>
   intro h
   have I:=ih λy F=>h y (by simp[F])
   have E:=dJ (h x (by simp))
   have J:=E.head.1
   have M:=E.words.1
   rw[map_cons,sum_cons,length_cons]
   omega
 exact this u.flat h
section
variable (G:Glob)
end
end Go.Av
