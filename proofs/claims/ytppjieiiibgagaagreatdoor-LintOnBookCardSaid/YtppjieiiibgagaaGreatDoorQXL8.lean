/-
  LINT, 8: rows of words with marks; names; labels; addresses by the reference.
-/
import Derived.Test.YtppjieiiibgagaaGreatDoorQXL3toXL7
set_option linter.all false
namespace Go.Av
open Go Go.RowKit Go.Proofs List
def ov (l:List Wd):(l.map Wd.text).all bj=l.all wdOk:=by simp only[all_map];rfl
def iT (l:List Wd):ee (l.map Wd.text)=ba l:=by unfold ee ba;rw[ov,length_map]
def fK (c:UInt8):Bool:=decide ((48:Int)<=c.toNat)&&decide ((c.toNat:Int)<=57)
def isUp (c:UInt8):Bool:=decide ((65:Int)<=c.toNat)&&decide ((c.toNat:Int)<=90)
def gM (c:UInt8):Bool:=decide ((97:Int)<=c.toNat)&&decide ((c.toNat:Int)<=122)
def dI (c:UInt8):Bool:=gM c||(fK c||decide ((c.toNat:Int)=45))
def cQ (s:List UInt8):Bool:=decide ((1:Int)<=s.length)&&(decide ((s.length:Int)<=16)&&(gM (s.getD 0 0)&&s.all dI))
def digN:List UInt8->Nat
 |[]=>0
 |c::s=>if fK c then digN s+1 else 0
def kU:∀s:List UInt8,digN s<=s.length
 |[]=>Nat.le_refl _
 |c::s=>by unfold digN;have:=kU s;split<;>simp<;>omega
def bK (s:List UInt8):Bool:=decide ((1:Int)<=digN s)&&(decide ((digN s:Int)<=4)&&(!decide (((s.getD 0 0).toNat:Int)=48)&&(decide (((s.length-digN s:Nat):Int)<=3)&&(s.drop (digN s)).all isUp)))
def fg (i:Nat) (s:Stp):Bool:=(decide (i=0)&&(decide (s.kind=0)&&decide (s.label=[])))||(decide (1<=s.kind)&&(decide (s.kind<=7)&&bK s.label))
def cC:Nat->List Stp->Bool
 |_,[]=>true
 |i,s::l=>fg i s&&cC (i+1) l
def cP (p:List Stp):Bool:=decide ((p.length:Int)<=9)&&cC 0 p
def jI (s:Sta):Bool:=
 if s.kind=1 then inR s.day 0 1048576&&decide (s.event=[])else if s.kind=3 then decide (s.day=0)&&cQ s.event else if s.kind=0\/s.kind=2 then decide (s.day=0)&&decide (s.event=[])else false
section
variable (G:Glob)
def f337 (l:List Wd) (E:l.length<1000000):Pure G Tryz.prog 337 [.lst 4 (l.map Wd.cs)] (.bool (ba l)):=by
 refine Pure.w c337 λR D=>?_;unfold s337 r337;(repeat' (first|(with_reducible (refine af (λh=>?_) λh=>?_)<;>(try simp only[DZ]at h))|(with_reducible first|refine ab (f368 G _ E) ?_|refine ab (f140 G (l.map Wd.text) (by simp;omega)) ?_)|simp only[EV,seval,iT]));(all_goals(first|(exact RET.eq D rfl)|(refine RET.eq D ?_;(refine congrArg AV.bool (Bool.eq_iff_iff.2 ?_);simp only[ba,EVB]at*;omega))))
def f360 (l:List Wd) (N:l.length<1000000) (J:∀w∈l,w.text.length<1000000000000000000):Pure G Tryz.prog 360 [.lst 4 (l.map Wd.cs)] (.bool (ba l)):=by
 refine Pure.w c360 λR F=>?_;unfold s360 r360;(repeat' (first|(with_reducible (refine ae (λh=>?_) λh=>?_)<;>(try simp only[DZ]at h))|(with_reducible refine ab (f392 G _ (by have:=J _ E.mem;omega)) ?_)|simp only[EV,seval,E.yes,E.le0,E.lt',E.get,E.row,M]|simp only[EV,seval,I]|simp only[EV,seval]|(refine ak E () ?_ (dT _ _))|(refine ap (l) (λi r (c:Unit)=>l.all wdOk=r.all wdOk) (λi c=>[(0,.lst 4 (l.map Wd.cs)),(3,.i i)]) (λ_ _=>[]) () (by rfl) (dT _ _) (by omega) (λi x r c D E M=>?_) (λc D I=>?_))));(all_goals(first|(refine RET.eq F ?_;first|(simp only[ba,wdOk,D,h,EVC,decide_true,decide_false];done)|(simp only[ba,wdOk,D,EVC,decide_true,decide_false];done))|(rw[D];simp only[ba,wdOk,h,EVC,decide_true,decide_false];done)))
def f375 (l:List Wd) (X:l.length<1000000):Pure G Tryz.prog 375 [.lst 4 (l.map Wd.cs)] (.bool (ba l)):=by
 refine Pure.w c375 λR J=>?_;unfold s375 r375;(repeat' (first|(with_reducible (refine af (λh=>?_) λh=>?_)<;>(try simp only[DZ]at h))|simp only[EV,seval,iT,D.yes,D.le0,D.lt',D.get,D.row,V]|simp only[EV,seval,iT,O]|simp only[EV,seval,iT]|(with_reducible intro M E;(try(have F:=E;simp only[EVK]at F;(have T:=F))))|(refine ap (ι:=Option Nat) (l) (λi r c=>True) (λi c=>[(0,.lst 4 (l.map Wd.cs)),(3,.own c 9 1 ((l.take i).map (λw=>[AV.str w.text]))),(6,.lst 4 (l.map Wd.cs)),(7,.i l.length),(8,.i i)]) (λi c=>tokS c 9 (i)) (none) (by trivial) (Weak.of (by simp[cj,Env.get,AVle,aH]) (SubN.refl _)) (by omega) (λi x r c I D V=>?_) (λc I O=>?_))|(refine aZ (n:=i) (m':=(i+1)) (by exact bp (by assumption)) (by simp;have:=D.lt;omega) (by omega) (by omega) rfl (by assumption) (by have:=D.lt;omega) (λN=>?_))|(refine ak D N ?_ (by simp only[D.take,map_append,map_cons,map_nil];exact dT _ _))|(refine aP (f295 G (l.map Wd.text) (by simp;omega)) ⟨.inl (.inr ⟨rfl,by simp[Function.comp_def,kX]⟩),trivial⟩ ?_)));(all_goals(first|(exact RET.eq J rfl)|(refine RET.eq J ?_;(refine congrArg AV.bool (Bool.eq_iff_iff.2 ?_);simp only[ba,EVB]at*;omega))))
def f74 (s:List UInt8):Pure G Tryz.prog 74 [.str s] (.bool (cQ s)):=by
 refine Pure.w c74 λR F=>?_;unfold s74 r74;(repeat' (first|(with_reducible (first|refine ae (λh=>?_) λh=>?_|refine af (λh=>?_) λh=>?_)<;>(try simp only[DZ]at h))|(with_reducible refine AI (by omega) ?_)|simp only[EV,seval,D.yes,D.le0,D.lt',D.get,D.row,J]|simp only[EV,seval,I]|simp only[EV,seval]|(refine ak D () ?_ (dT _ _))|(refine ap (s) (λi r (c:Unit)=>s.all dI=r.all dI) (λi c=>[(0,.str s),(3,.i i)]) (λ_ _=>[]) () (by rfl) (dT _ _) (by omega) (λi x r c E D J=>?_) (λc E I=>?_))|(exfalso;omega)));(all_goals(first|(refine RET.eq F ?_;(refine congrArg AV.bool (Bool.eq_iff_iff.2 ?_);simp only[cQ,dI,gM,fK,EVB]at*;omega))|(refine RET.eq F ?_;first|(simp_all[cQ,dI,gM,fK];done)|(simp_all[cQ,dI,gM,fK];omega))|(rw[E];simp only[cQ,dI,gM,fK,h,EVC,decide_true,decide_false];done)|(simp_all[cQ,dI,gM,fK];done)))
def f141 (s:List UInt8) (M:s.length<1000000000000000000):Pure G Tryz.prog 141 [.str s] (.i (digN s)):=by
 refine Pure.w c141 λR F=>?_;unfold s141 r141;(repeat' (first|(with_reducible (first|refine ae (λh=>?_) λh=>?_|refine af (λh=>?_) λh=>?_)<;>(try simp only[DZ]at h))|simp only[EV,seval,E.yes,E.le0,E.lt',E.get,E.row,J]|simp only[EV,seval,I]|simp only[EV,seval]|(refine ak E () ?_ (dT _ _))|(refine ap (s) (λi r (c:Unit)=>digN s=i+digN r) (λi c=>[(0,.str s),(3,.i i)]) (λ_ _=>[]) () (by((simp;done))) (dT _ _) (by omega) (λi x r c D E J=>?_) (λc D I=>?_))))
 ·have e:digN s=i+1+digN r:=by
   rw[D,digN,if_pos (by simp[fK];omega)];omega
  exact e
 ·have e:digN s=i:=by rw[D,digN,if_neg (by simp[fK];omega)];rfl
  exact RET.eq F (by rw[e])
 ·have e:digN s=i:=by rw[D,digN,if_neg (by simp[fK];omega)];rfl
  exact RET.eq F (by rw[e])
 ·exact RET.eq F (by rw[D];simp[digN])
def f75 (s:Sta):Pure G Tryz.prog 75 [.agg [.i s.kind,.i s.day,.str s.event]] (.bool (jI s)):=by
 refine Pure.w c75 λR D=>?_;unfold s75 r75;(repeat' (first|(with_reducible (first|refine ae (λh=>?_) λh=>?_|refine af (λh=>?_) λh=>?_)<;>(try simp only[DZ]at h))|(with_reducible first|refine ab (f71 G _ _ _) ?_|refine ab (f74 G _) ?_)|simp only[EV,seval]|(exfalso;omega)));(all_goals(((refine RET.eq D ?_;((simp_all[jI];done))))))
end
end Go.Av
