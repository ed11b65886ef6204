/-
  LINT, 36: the rules of the checks.
-/
import Derived.Test.YtppjieiiibgagaaGreatDoorQXAv29toXL23
import Derived.Test.YtppjieiiibgagaaGreatDoorQXL33toXP2
import Derived.Lib.ItoaLen
import Derived.Test.YtppjieiiibgagaaGreatDoorQXM1toXL49
import Derived.Test.YtppjieiiibgagaaGreatDoorQXL3toXL7
set_option linter.all false
namespace Go.Av
open Go Go.RowKit Go.Proofs List
section
variable (G:Glob) (hG:GOk G)
def f161 (a b:List (List UInt8)) (E:a.length<9000000000000000000):Pure G Tryz.prog 161 [.lst 1 (a.map srow),.lst 1 (b.map srow)] (.bool (decide (a=b))):=by
 refine Pure.w c161 λR D=>?_;unfold s161 r161;(repeat' (first|(with_reducible refine ab (f168 G _ _ E) ?_)|simp only[EV,seval]));(all_goals((exact RET.eq D rfl)))
def f151 (x:Itm):Pure G Tryz.prog 151 [.agg x.cs] (.bool (mJ x)):=by
 have I:=f153 G x;have E:=f152 G x.at_;have F:=f152 G x.to_;refine Pure.w c151 λR D=>?_;unfold s151 r151;unfold mJ bes at D;generalize bD x.at_=q1 at*;generalize bD x.to_=q2 at*;generalize (decide (x.wh=2)||decide (x.wh=3))=q3 at*;(repeat' (first|(with_reducible (refine af (λh=>?_) λh=>?_)<;>(try simp only[DZ]at h))|(with_reducible first|refine ab I ?_|refine ab E ?_|refine ab F ?_)|simp only[EV,seval]|(exfalso;omega)))
 all_goals(refine RET.eq D (congrArg AV.bool ?_);first|(simp[*];done)|(rw[decide_eq_false (by omega)];simp_all))
include hG in
def f154 (x:Itm) (q:x.Short1):Pure G Tryz.prog 154 [.agg x.cs] (.bool (lE x)):=by
 have hi:=λk=>f155 G x k;have F:=f157 G x.at_ q.at_;have I:=f157 G x.to_ q.to_;have M:=f156 G hG;rw[stp_cs]at F I;refine Pure.w c154 λR J=>?_;unfold s154 r154;unfold lE ins bes at J;have D:=hi 0;have E:=hi 6;clear hi;generalize (decide (x.wh=2)||decide (x.wh=3))=b at*;(repeat' (first|(with_reducible (refine af (λh=>?_) λh=>?_)<;>(try simp only[DZ]at h))|(with_reducible first|refine ab D ?_|refine ab E ?_|refine ab F ?_|refine ab I ?_|refine ab (M _ _) ?_)|simp only[EV,seval]))
 all_goals(refine RET.eq J (congrArg AV.bool ?_);((simp[*];done)))
def f158 (x:Itm) (q:x.Short1):Pure G Tryz.prog 158 [.agg x.cs] (.bool (mP x)):=by
 have hi:=f155 G x 6;have E:=f159 G x.at_ x.to_ (by have:=q.at_;omega);refine Pure.w c158 λR D=>?_;unfold s158 r158;unfold mP ins bes at D;generalize decide (x.at_=x.to_)=q1 at*;generalize (decide (x.kind=6)&& !(decide (x.wh=2)||decide (x.wh=3)))=q2 at*;(repeat' (first|(with_reducible (refine af (λh=>?_) λh=>?_)<;>(try simp only[DZ]at h))|(with_reducible first|refine ab hi ?_|refine ab E ?_)|simp only[EV,seval]));(all_goals(((refine RET.eq D ?_;((simp_all[];done))))))
def f160 (x:Itm) (q:x.Short1):Pure G Tryz.prog 160 [.agg x.cs] (.bool (lK x)):=by
 have E:=f153 G x;have F:=f159 G x.at_ x.to_ (by have:=q.at_;omega);have I:=f161 G x.old x.new (by have:=q.old;omega);refine Pure.w c160 λR D=>?_;unfold s160 r160;unfold lK bes at D;generalize decide (x.at_=x.to_)=q1 at*;generalize decide (x.old=x.new)=q2 at*;generalize (decide (x.wh=2)||decide (x.wh=3))=q3 at*;(repeat' (first|(with_reducible (refine af (λh=>?_) λh=>?_)<;>(try simp only[DZ]at h))|(with_reducible first|refine ab E ?_|refine ab F ?_|refine ab I ?_)|simp only[EV,seval]|(exfalso;omega)));(all_goals(first|(refine RET.eq D ?_;(refine congrArg AV.bool (Bool.eq_iff_iff.2 ?_);simp only[EVB]at*;omega))|(refine RET.eq D ?_;((simp_all[];done)))))
def f162 (x:Itm) (q:x.Short1):Pure G Tryz.prog 162 [.agg x.cs] (.bool (lz x)):=by
 have D:=f157 G x.at_ q.at_;rw[stp_cs]at D;refine Pure.w c162 λR E=>?_;unfold s162 r162;(repeat' (first|(with_reducible (refine af (λh=>?_) λh=>?_)<;>(try simp only[DZ]at h))|(with_reducible refine ab D ?_)|simp only[EV,seval]))
 all_goals(refine RET.eq E (congrArg AV.bool ?_);((simp[lz, *];done)))
end
def tab_none {k:Int} (h:¬(0<=k/\k<=11)):bt k aK=none:=by
 simp only[aK,bt];rw[if_neg (by omega),if_neg (by omega),if_neg (by omega),if_neg (by omega),if_neg (by omega),if_neg (by omega),if_neg (by omega),if_neg (by omega),if_neg (by omega),if_neg (by omega),if_neg (by omega),if_neg (by omega)]
section
variable (G:Glob) (hG:GOk G)
include hG
def qK (x:Itm) (X:¬(0<=x.kind/\x.kind<=11)):Pure G Tryz.prog 60 [.agg x.cs] (.bool x.may):=by
 have M:=f130 G hG;have I:=tab_none X
 have N:inR x.kind 0 11=false:=by unfold inR;simp;omega
 refine Pure.w c60 λR J=>?_;unfold s60 r60;rw[rS]at J;unfold Itm.pre at J;rw[N]at J;(repeat' (first|(with_reducible (first|refine ae (λh=>?_) λh=>?_|refine af (λh=>?_) λh=>?_|refine ax (λh=>?_) λh=>?_)<;>(try simp only[DZ]at h))|(with_reducible refine AI (by omega) ?_)|simp only[EV,seval,I,Option.getD_none,Option.isSome_none,D]|simp only[EV,seval,I,Option.getD_none,Option.isSome_none]|(with_reducible intro T F;(try(have E:=F;simp only[EVK]at E;first|(have D:=AI E D)|(have D:=E))))|(with_reducible first|refine ag ?_ ?_|refine ai ?_)|(refine aB [] _ M.v (hU _) (SubN.refl _) (λr σ' V O=>?_);obtain⟨Y,rfl,rfl⟩:=V;(have D:=O);(try simp[Store.keys]at D))|(refine ai ?_)|(refine aO bU (l:=aK) (k:=x.kind) (z:=.agg #[.nilFunc,.nilFunc]) (zv:=.agg [.sc .nilFunc,.sc .nilFunc]) (eT:=170) rfl (cM _) (by kernel_rfl) (by first|exact bE|(simp[Store.get, *];done)) (by kernel_rfl) gh ?_)|(exfalso;omega)))
 all_goals(refine RET.eq J (congrArg AV.bool ?_);simp;done)
def f60:∀x:Itm,x.Shorts->Pure G Tryz.prog 60 [.agg x.cs] (.bool x.may):=by
 refine Itm.ind λx ih J=>?_;obtain⟨q,D⟩:=(o5 x).1 J;by_cases I:0<=x.kind/\x.kind<=11
 ·have F:x.kind=0\/x.kind=1\/x.kind=2\/x.kind=3\/x.kind=4\/x.kind=5\/x.kind=6\/x.kind=7\/x.kind=8\/x.kind=9\/x.kind=10\/x.kind=11:=by omega
  rcases F with h|h|h|h|h|h|h|h|h|h|h|h
  ·exact valid_0 G hG x q h
  ·exact valid_1 G hG x q h
  ·exact valid_2 G hG x q h
  ·exact valid_3 G hG x q h
  ·exact valid_4 G hG x q h
  ·exact valid_5 G hG x q h
  ·exact valid_6 G hG x q h
  ·exact valid_7 G hG x q h
  ·exact valid_8 G hG x q h
  ·exact valid_9 G hG x q h
  ·exact valid_10 G hG x q h
  ·exact valid_11 G hG x q (λy E=>ih y E (D y E)) h
 ·exact qK G hG x I
def fd (w:Int) (t:List UInt8) (k:Nat):List AV:=[.i w,.str t,fnv k]
def iC:List (List AV):=[fd 9 cK 151,fd 9 bA 154,fd 9 dJ 158,fd 11 aT 160,fd 10 aV 162]
omit hG in
def f90:Pure G Tryz.prog 90 [] (.lst 3 iC):=by
 refine Pure.w c90 λR J=>?_;unfold s90 r90;(repeat' (first|(with_reducible (first|refine ae (λh=>?_) λh=>?_|refine af (λh=>?_) λh=>?_|refine ax (λh=>?_) λh=>?_)<;>(try simp only[DZ]at h))|(with_reducible refine AI (by omega) ?_)|simp only[EV,seval]|(with_reducible intro I E;(try(have D:=E;simp only[EVK]at D;first|(have F:=AI D F)|(have F:=D))))|(with_reducible first|refine ag ?_ ?_|refine ai ?_)|(refine⟨iC,rfl,(by simp[iC,fd]),rfl,?_⟩)|(exfalso;omega)));exact J _ _ (Or.inl (Or.inr ⟨rfl,rfl⟩))
end
def fit_ch (c:UInt8):fitN c.toNat=dI c:=by
 unfold fitN dI gM fK;rfl
def idxF_lt {α:Type} (p:α->Bool) (l:List α):decide (idxF p 0 l<0)=l.all λx=>!p x:=by
 have h:=dZ p l 0
 have e:decide (idxF p 0 l<0)= !decide (0<=idxF p 0 l):=by rw[Bool.eq_iff_iff];simp
 rw[e,h,not_any_eq_all_not]
def k9:List UInt8:=[102,114,111,109,32,100,97,121,32]
def kW:List UInt8:=[98,121,32,111,114,100,101,114]
def ld:List UInt8:=[111,110,32,101,118,101,110,116,32]
def oN (s:Sta):List UInt8:=
 if decide (s.kind=1)&&(inR s.day 0 1048576&&decide (s.event=[]))then k9++Lib.itoa s.day
 else if decide (s.kind=2)&&(decide (s.day=0)&&decide (s.event=[]))then kW
 else if decide (s.kind=3)&&(decide (s.day=0)&&cQ s.event)then ld++s.event else []
def beginT_ne (s:Sta):decide (oN s≠[])=bq s:=by
 unfold oN bq;generalize inR s.day 0 1048576=q1;generalize cQ s.event=q2;by_cases F:s.kind=1
 ·have E:¬s.kind=2:=by omega
  have D:¬s.kind=3:=by omega
  simp[F,E,D]
  cases q1<;>by_cases J:s.event=[]<;>simp[J,k9]
 ·by_cases E:s.kind=2
  ·have D:¬s.kind=3:=by omega
   simp[F,E,D];by_cases I:s.day=0<;>by_cases J:s.event=[]<;>simp[I,J,kW]
  ·by_cases D:s.kind=3
   ·simp[F,E,D]
    by_cases I:s.day=0<;>cases q2<;>simp[I,ld]
   ·simp[F,E,D]
section
variable (G:Glob)
def f336 (b n:Nat):aj G Tryz.prog 336 [.int .i32 (n:Int),.p b] (fitS b) λx σ'=>x= .bool (!fitN n)/\σ'=fitS b:=by
 have D:=f334 G n;refine sX c336 λR E=>?_;unfold s336 r336 fitS;(repeat' (first|(with_reducible refine ab D ?_)|simp only[EV,seval]));exact E _ _ (rW _) (SubN.refl _)
def f267 (s:List UInt8):Pure G Tryz.prog 267 [.str s] (.bool (cQ s)):=by
 have F:∀b,aj G Tryz.prog 335 _ (fitS b) _:=λb=>index_k G 336 b (λn=>!fitN n) s (fitS_det b) (enters_of Tryz.func336 (by kernel_rfl) rfl) (λn O=>by simp[fitN];omega) (λn=>f336 G b n);unfold fitS at F
 have M:decide (idxF (λc:UInt8=>!fitN c.toNat) 0 s<0)=s.all dI:=by
  rw[idxF_lt];simp only[Bool.not_not,fit_ch]
 refine Pure.w c267 λR I=>?_;unfold s267 r267;(repeat' (first|(with_reducible (refine af (λh=>?_) λh=>?_)<;>(try simp only[DZ]at h))|(with_reducible refine AI (by omega) ?_)|simp only[EV,seval,M]|(with_reducible intro J D;(try(have E:=D;simp only[EVK]at E;(have N:=E))))|(refine dw (F _).v ?_)));(all_goals(first|(refine RET.eq I ?_;(refine congrArg AV.bool (Bool.eq_iff_iff.2 ?_);simp only[cQ,gM,EVB]at*;omega))|(refine RET.eq I ?_;((simp_all[cQ,gM];done)))))
set_option maxRecDepth 100000 in
def f166 (hG:GOk2 G) (s:Sta) (M:s.event.length<1000000000000000000):Pure G Tryz.prog 166 [.agg [.i s.kind,.i s.day,.str s.event]] (.str (oN s)):=by
 have I:=f267 G s.event;refine Pure.w c166 λR E=>?_;unfold s166 r166;unfold oN at E
 cases F:inR s.day 0 1048576 with
 |true=>
  have D:=F;unfold inR at D;simp only[Bool.and_eq_true,decide_eq_true_eq]at D;have hi:=f108 G hG s.day (by omega) (by omega);have J:=Lib.itoa_length_le s.day (by omega) (by omega);(repeat' (first|(with_reducible (first|refine ae (λh=>?_) λh=>?_|refine af (λh=>?_) λh=>?_)<;>(try simp only[DZ]at h))|(with_reducible first|refine AI (by omega) ?_|refine ab (f165 G _) ?_|refine ab I ?_|refine ab hi ?_)|simp only[EV,seval,F]|(exfalso;omega)));(all_goals(((refine RET.eq E ?_;((simp_all[k9,kW,ld];done))))))
 |false=>
  (repeat' (first|(with_reducible (first|refine ae (λh=>?_) λh=>?_|refine af (λh=>?_) λh=>?_)<;>(try simp only[DZ]at h))|(with_reducible first|refine AI (by omega) ?_|refine ab (f165 G _) ?_|refine ab I ?_)|simp only[EV,seval,F]|(exfalso;omega)));(all_goals(((refine RET.eq E ?_;((simp_all[k9,kW,ld];done))))))
variable (hG:GOk G)
include hG
def f163 (x:Itm) (E:x.Shorts):Pure G Tryz.prog 163 [.agg x.cs] (.bool (!x.may)):=by
 refine Pure.w c163 λR D=>?_;unfold s163 r163;(repeat' (first|(with_reducible refine ab (f60 G hG x E) ?_)|simp only[EV,seval]));(all_goals((exact RET.eq D rfl)))
def f91 (D:GOk2 G) (a:Ac) (V:a.title.length<4294967281) (N:a.start.event.length<1000000000000000000) (O:a.items.length<9000000000000000000) (T:∀x∈a.items,x.Shorts):Pure G Tryz.prog 91 [.agg a.cs] (.bool a.may):=by
 have M:=f164 G D a.title V;have I:=f166 G D a.start N;have J:Pure G Tryz.prog _ _ _:=f92k G [] (.func (.func 163) #[] #[]) (λx=>!x.may) a.items O (λx X=>(f163 G hG x (T x X)).v);have F:=beginT_ne a.start;refine Pure.w c91 λR E=>?_;unfold s91 r91 Ac.cs;unfold Ac.may at E;generalize dy a.title=q1 at*;generalize bq a.start=q2 at*;(repeat' (first|(with_reducible (refine af (λh=>?_) λh=>?_)<;>(try simp only[DZ]at h))|(with_reducible first|refine ab M ?_|refine ab (f165 G _) ?_|refine ab I ?_|refine ab J ?_)|simp only[EV,seval,F,fI]));(all_goals(first|(refine RET.eq E ?_;(refine congrArg AV.bool (Bool.eq_iff_iff.2 ?_);simp only[inR,EVB]at*;omega))|(refine RET.eq E ?_;first|(simp_all[inR];done)|(simp_all[inR];omega))))
end
def cL:List UInt8:=[110,111,32,115,117,99,104,32,105,116,101,109]
def ey:List UInt8:=[110,111,116,32,97,110,32,97,109,101,110,100,109,101,110,116]
def tDup:List UInt8:=[100,117,112,108,105,99,97,116,101]
def ownB (a:Ac) (x:Itm):Bool:=(decide (x.kind=7)||(decide (x.kind=8)||(decide (x.kind=9)||decide (x.kind=11))))&&decide (x.act=a.number)
def misB (a:Ac) (x:Itm):Bool:=decide ((a.items.length:Int)<=x.item)
def notB (a:Ac) (x:Itm):Bool:=decide (0<=x.item)&& !inR (a.items.getD x.item.toNat iz).kind 0 6
def ownF (a:Ac) (x:Itm):List Fnd:=if ownB a x then (if misB a x then [fw 4 cL]else optF (notB a x) (fw 9 ey))else []
def dupB (a:Ac) (i:Nat) (x:Itm):Bool:=(a.items.take i).any λy=>decide (y=x)
def Ac.fnds (a:Ac) (i:Nat) (x:Itm):List Fnd:=x.finds++(optF (dupB a i x) (fw 5 tDup)++ownF a x)
def Fnd.put (n:Int) (f:Fnd):Fnd:={f with at_:=n}
def Ac.chkFrom (a:Ac):Nat->List Itm->List Fnd
 |_,[]=>[]
 |i,x::r=>(a.fnds i x).map (Fnd.put i)++a.chkFrom (i+1) r
def jZ:Fnd:=⟨-1,⟨0,0,0⟩,1,[97,99,116]⟩
def Ac.chk (a:Ac):List Fnd:=if a.may then a.chkFrom 0 a.items else [jZ]
def ownF_len (a:Ac) (x:Itm):(ownF a x).length<=1:=by unfold ownF optF;split<;>(try split)<;>(try split)<;>simp
def ownP (a:Ac) (x:Itm):Fnd×Bool:=if ownB a x then (if misB a x then (fw 4 cL,true)else if notB a x then (fw 9 ey,true)else (fw 0 [],false))else (fw 0 [],false)
def ownP_F (a:Ac) (x:Itm):ownF a x=optF (ownP a x).2 (ownP a x).1:=by
 unfold ownF ownP;split<;>(try split)<;>(try split)<;>simp_all[optF]
def p8 (l:List Itm) (n:Int) (D:0<=n) (E:n<l.length):(l.map Itm.cs).getD n.toNat []=(l.getD n.toNat iz).cs:=by
 have h:n.toNat<l.length:=by omega
 simp[List.getD,h]
section
variable (G:Glob)
def f95 (a:Ac) (x:Itm) (hl:a.items.length<9000000000000000000):Pure G Tryz.prog 95 [.agg a.cs,.agg x.cs] (.tup [.agg (ownP a x).1.cs,.bool (ownP a x).2]):=by
 have T:=f171 G x.kind
 have Y:ownB a x=((decide (x.kind=7)||decide (x.kind=8)||decide (x.kind=9)||decide (x.kind=11))&&decide (x.act=a.number)):=by unfold ownB;simp only[Bool.or_assoc]
 unfold ownP at*;rw[Y];generalize (decide (x.kind=7)||decide (x.kind=8)||decide (x.kind=9)||decide (x.kind=11))=q at*;refine Pure.w c95 λR F=>?_;unfold s95 r95 Ac.cs;unfold notB misB at F;by_cases O:0<=x.item
 ·have N:decide (0<=x.item)=true:=decide_eq_true O;by_cases V:x.item<a.items.length
  ·have J:decide ((a.items.length:Int)<=x.item)=false:=decide_eq_false (by omega);have Z:=p8 a.items x.item O V;rw[N,J]at F;generalize a.items.getD x.item.toNat iz=y at*;have X:=f54 G y.kind;generalize inR y.kind 0 6=q2 at*;(repeat' (first|(with_reducible (first|refine ae (λh=>?_) λh=>?_|refine af (λh=>?_) λh=>?_)<;>(try simp only[DZ]at h))|(with_reducible first|refine AI (by omega) ?_|refine ab T ?_|refine ab X ?_)|simp only[EV,seval,Z]|(with_reducible intro I D;(try(have E:=D;simp only[EVK]at E;(have M:=E))))|(exfalso;omega)))
   all_goals(refine F _ _ (Or.inl (Or.inl ?_)))
   all_goals(clear F;simp_all[fw,Fnd.cs,cL,ey];done)
  ·have J:decide ((a.items.length:Int)<=x.item)=true:=decide_eq_true (by omega);rw[N,J]at F;(repeat' (first|(with_reducible (first|refine ae (λh=>?_) λh=>?_|refine af (λh=>?_) λh=>?_)<;>(try simp only[DZ]at h))|(with_reducible first|refine AI (by omega) ?_|refine ab T ?_)|simp only[EV,seval]|(with_reducible intro I D;(try(have E:=D;simp only[EVK]at E;(have M:=E))))|(exfalso;omega)))
   all_goals(refine F _ _ (Or.inl (Or.inl ?_)))
   all_goals(clear F;simp_all[fw,Fnd.cs,cL,ey];done)
 ·have N:decide (0<=x.item)=false:=decide_eq_false O;have J:decide ((a.items.length:Int)<=x.item)=false:=decide_eq_false (by omega);rw[N,J]at F;(repeat' (first|(with_reducible (first|refine ae (λh=>?_) λh=>?_|refine af (λh=>?_) λh=>?_)<;>(try simp only[DZ]at h))|(with_reducible first|refine AI (by omega) ?_|refine ab T ?_)|simp only[EV,seval]|(with_reducible intro I D;(try(have E:=D;simp only[EVK]at E;(have M:=E))))|(exfalso;omega)))
  all_goals(refine F _ _ (Or.inl (Or.inl ?_)))
  all_goals(clear F;simp_all[fw,Fnd.cs,cL,ey];done)
end
def eO (b:Bool) (f:Fnd):(optF b f).length<=1:=by unfold optF;split<;>simp
def jg (x:Itm):(fk x).length<=5:=by
 unfold fk;simp only[length_append];have D:=eO (mJ x) (fw 9 cK);have E:=eO (lE x) (fw 9 bA);have F:=eO (mP x) (fw 9 dJ);have I:=eO (lK x) (fw 11 aT);have J:=eO (lz x) (fw 10 aV);omega
def one_kind {x y:Itm} (h:x.may=true) (F:x.by_=[y]) (I:x.kind=11):y.kind<=6:=by
 obtain⟨_,_,_,E⟩:=gt h;unfold Itm.own at E;rw[if_neg (by omega),if_neg (by omega),if_neg (by omega),if_neg (by omega),if_neg (by omega),if_neg (by omega),if_neg (by omega),if_neg (by omega),if_pos I]at E;simp only[Bool.and_eq_true]at E;have D:=E.2.2;rw[F,rX]at D;unfold inR at D;simp only[Bool.and_eq_true,decide_eq_true_eq]at D;exact D.1.2.2
def fV (x:Itm):x.finds.length<=10:=by
 rw[sC];split
 ·rename_i F;have M:=jg x;by_cases E:x.kind=11
  ·obtain⟨y,I,D⟩:=og F E;have J:=one_kind F I E;have N:=jg y;rw[I,sI,si,sC,if_pos D,may_by D (by omega),si];simp only[length_append,length_nil];omega
  ·rw[may_by F E,si,append_nil];omega
 ·simp
def refs_len (x:Itm):x.refs.length<=10:=by rw[←lV];exact fV x
structure Fl where
 why:Int
 text:List UInt8
 fn:Nat
 yes:Bool
def Fl.row (p:Fl):List AV:=fd p.why p.text p.fn
def flOf (x:Itm):List Fl:=[⟨9,cK,151,mJ x⟩,⟨9,bA,154,lE x⟩,⟨9,dJ,158,mP x⟩,⟨11,aT,160,lK x⟩,⟨10,aV,162,lz x⟩]
def flF (l:List Fl):List Fnd:=l.flatMap λp=>optF p.yes (fw p.why p.text)
def flF_of (x:Itm):flF (flOf x)=fk x:=by simp[flF,flOf,fk]
def pb (p:Fl) (l:List Fl):flF (p::l)=optF p.yes (fw p.why p.text)++flF l:=by simp[flF]
def fl_rows (x:Itm):(flOf x).map Fl.row=iC:=rfl
def jX (p:Fl):p.row=[.i p.why,.str p.text,.sc (.func (.func p.fn) #[] #[])]:=rfl
def db (w:Int) (t:List UInt8):(fw w t).cs=[.i 0,.i 0,.i 0,.i 0,.i w,.str t]:=rfl
section
variable (G:Glob) (hG:GOk G)
include hG
def fl_calls (x:Itm) (q:x.Short1):∀p∈flOf x,Pure G Tryz.prog p.fn [.agg x.cs] (.bool p.yes):=by
 intro p D;simp only[flOf,mem_cons,not_mem_nil,or_false]at D
 rcases D with rfl|rfl|rfl|rfl|rfl
 ·exact f151 G x
 ·exact f154 G hG x q
 ·exact f158 G x q
 ·exact f160 G x q
 ·exact f162 G x q
set_option maxHeartbeats 2000000 in
def f39o:∀x:Itm,x.Shorts->aj G Tryz.prog 39 [.agg x.cs] [] (Opn 88 6 (x.finds.map Fnd.cs)):=by
 refine Itm.ind λx ih hs=>?_;obtain⟨q,ac⟩:=(o5 x).1 hs;have hV:=f60 G hG x hs;have hF:=f90 G;have T:=fl_calls G hG x q;have al:x.by_.length<1000000000000000000:=((su x).1 q.fit).2.2.2.2.2.1;have V:=fV x;rw[sC]at V;refine sJ c39 λR hR=>?_;unfold s39 r39;rw[sC]at hR;by_cases hm:x.may=true
 ·rw[hm]at hV;rw[if_pos hm]at hR V;rw[length_append]at V;rw[←fl_rows x]at hF;(repeat' (first|(with_reducible (first|refine ae (λh=>?_) λh=>?_|refine af (λh=>?_) λh=>?_|refine ax (λh=>?_) λh=>?_)<;>(try simp only[DZ]at h))|(with_reducible first|refine AI (by omega) ?_|refine ab hV ?_|refine ab hF ?_)|simp only[EV,seval]|(with_reducible intro O F;(try(have D:=F;simp only[EVK]at D;first|(have E:=AI D E)|(have E:=D))))|(with_reducible first|refine ag ?_ ?_|refine ai ?_)|(exfalso;omega)));refine ap (ι:=Option Nat×List Fnd) (flOf x) (λi r c=>fk x=c.2++flF r) (λi c=>[(1,.ref x.cs),(3,.own c.1 88 6 (c.2.map Fnd.cs)),(13,.lst 3 ((flOf x).map Fl.row)),(14,.i 5),(15,.i i)])
   (λi c=>tokS c.1 88 (c.2.length*6)) (none,[]) (by rw[flF_of];rfl) (Weak.of (by simp[cj,Env.get,AVle,aH,flOf]) (SubN.refl _)) (by simp[flOf]) (λi p r c J I hw=>?_) (λc J Z=>?_)
  ·have X:=T p I.mem;have aa:=jg x;rw[J,pb]at aa;simp only[length_append]at aa;have N:decide ((i:Int)<5)=true:=I.yes;have M:(i:Int)<5:=I.lt';rw[pb]at J
   cases hy:p.yes with
   |false=>
    rw[hy]at X J;(repeat' (first|(with_reducible (first|refine ae (λh=>?_) λh=>?_|refine af (λh=>?_) λh=>?_|refine ax (λh=>?_) λh=>?_)<;>(try simp only[DZ]at h))|(with_reducible first|refine AI (by omega) ?_|refine ab X ?_)|simp only[EV,seval,I.yes,N,M,I.le0,I.lt',I.get,I.row,hw,jX,E]|simp only[EV,seval,I.yes,N,M,I.le0,I.lt',I.get,I.row,hw,jX]|(with_reducible intro O F;(try(have D:=F;simp only[EVK]at D;first|(have E:=AI D E)|(have E:=D))))|(with_reducible first|refine ag ?_ ?_|refine ai ?_)|(exfalso;omega)));refine ak I c (by rw[J];rfl) (Weak.sub ⟨λq hq=>mem_cons_of_mem _ hq,λZ=>by simp only[Store.keys,map_cons,nodup_cons]at Z;exact Z.2⟩)
   |true=>
    rw[hy]at X J;(repeat' (first|(with_reducible (first|refine ae (λh=>?_) λh=>?_|refine af (λh=>?_) λh=>?_|refine ax (λh=>?_) λh=>?_)<;>(try simp only[DZ]at h))|(with_reducible first|refine AI (by omega) ?_|refine ab X ?_)|simp only[EV,seval,I.yes,N,M,I.le0,I.lt',I.get,I.row,hw,jX,E]|simp only[EV,seval,I.yes,N,M,I.le0,I.lt',I.get,I.row,hw,jX]|(with_reducible intro O F;(try(have D:=F;simp only[EVK]at D;first|(have E:=AI D E)|(have E:=D))))|(with_reducible first|refine ag ?_ ?_|refine ai ?_)|(refine aZ (n:=c.2.length) (m':=(c.2.length+1)*6) (by first|exact aS|exact bp (by assumption)) (by simp) rfl rfl rfl (by assumption) (by omega) (λgn=>?_))|(exfalso;omega)));refine ak I (gn,c.2++[fw p.why p.text]) (by rw[J,append_assoc];rfl) (by simp only[map_append,map_cons,map_nil,db,length_append,length_cons,length_nil,Nat.zero_add];exact dT _ _)
  ·have ah:decide (((flOf x).length:Int)<5)=false:=Z;(repeat' (first|(with_reducible (first|refine ae (λh=>?_) λh=>?_|refine af (λh=>?_) λh=>?_|refine ax (λh=>?_) λh=>?_)<;>(try simp only[DZ]at h))|(with_reducible refine AI (by omega) ?_)|simp only[EV,seval,Z,ah]|(with_reducible intro O F;(try(have D:=F;simp only[EVK]at D;first|(have E:=AI D E)|(have E:=D))))|(with_reducible first|refine ag ?_ ?_|refine ai ?_)|(exfalso;omega)))
   have e0:fk x=c.2:=by rw[J];simp[flF]
   refine ap (ι:=Option Nat×List Fnd) x.by_ (λi r d=>fk x++Itm.findss x.by_=d.2++Itm.findss r) (λi d=>[(3,.own d.1 88 6 (d.2.map Fnd.cs)),(33,.lst 25 (x.by_.map Itm.cs)),(34,.i x.by_.length),(35,.i i)])
    (λi d=>tokS d.1 88 (d.2.length*6)) c (by rw[e0]) (dT _ _) (by omega) (λi y r d J I hw=>?_) (λd J Z=>?_)
   ·have hy:=(ih y I.mem (ac y I.mem)).lst;have Y:=congrArg List.length J;rw[sI]at J Y;simp only[length_append]at Y V;(repeat' (first|(with_reducible (first|refine ae (λh=>?_) λh=>?_|refine af (λh=>?_) λh=>?_|refine ax (λh=>?_) λh=>?_)<;>(try simp only[DZ]at h))|(with_reducible first|refine AI (by omega) ?_|refine ab hy ?_)|simp only[EV,seval,I.yes,I.le0,I.lt',I.get,I.row,hw]|(with_reducible intro O F;(try(have D:=F;simp only[EVK]at D;first|(have E:=AI D E)|(have E:=D))))|(with_reducible first|refine ag ?_ ?_|refine ai ?_)|(refine cx (m':=(d.2.length+y.finds.length)*6) (by first|exact aS|exact bp (by assumption)) (by simp) (by simp) (by simp;omega) (λgn=>?_))|(exfalso;omega)));refine ak I (gn,d.2++y.finds) (by rw[J,append_assoc]) (by simp only[map_append,length_append];exact dT _ _)
   ·(repeat' (first|(with_reducible (first|refine ae (λh=>?_) λh=>?_|refine af (λh=>?_) λh=>?_|refine ax (λh=>?_) λh=>?_)<;>(try simp only[DZ]at h))|(with_reducible refine AI (by omega) ?_)|simp only[EV,seval,Z]|(with_reducible intro O F;(try(have D:=F;simp only[EVK]at D;first|(have E:=AI D E)|(have E:=D))))|(with_reducible first|refine ag ?_ ?_|refine ai ?_)|(exfalso;omega)));exact hR _ _ _ (by rw[J,si,append_nil]) (by rw[length_map];exact SubN.refl _)
 ·have ad:x.may=false:=by simpa using hm
  rw[ad]at hV;rw[if_neg hm]at hR;(repeat' (first|(with_reducible (first|refine ae (λh=>?_) λh=>?_|refine af (λh=>?_) λh=>?_|refine ax (λh=>?_) λh=>?_)<;>(try simp only[DZ]at h))|(with_reducible first|refine AI (by omega) ?_|refine ab hV ?_)|simp only[EV,seval]|(with_reducible intro O F;(try(have D:=F;simp only[EVK]at D;first|(have E:=AI D E)|(have E:=D))))|(with_reducible first|refine ag ?_ ?_|refine ai ?_)|(refine⟨[(fw 1 fY).cs],rfl,(by simp[db]),rfl,?_⟩)|(exfalso;omega)));exact hR _ _ _ rfl (SubN.refl _)
def f39 (x:Itm) (D:x.Shorts):Pure G Tryz.prog 39 [.agg x.cs] (.lst 6 (x.finds.map Fnd.cs)):=(f39o G hG x D).lst
end
section
variable (G:Glob)
def f48 (w:Int) (t:List UInt8):Pure G Tryz.prog 48 [.i w,.str t] (.agg (Fnd.cs ⟨0,⟨0,0,0⟩,w,t⟩)):=by
 refine Pure.w c48 λR I=>?_;unfold s48 r48;(repeat' (first|simp only[EV,seval]|(with_reducible intro F D;(try(have E:=D;simp only[EVK]at E;(have J:=E))))|fail));(all_goals((exact RET.eq I rfl)))
def f99 (p:List Stp):Pure G Tryz.prog 99 [.lst 2 (p.map Stp.cs)] (.bool (bD p)):=by
 refine Pure.w c99 λR D=>?_;unfold s99 r99
 match p with
 |[]=>
  (repeat' (simp only[EV,seval]));(all_goals((exact RET.eq D rfl)))
 |[x]=>
  obtain⟨k,l⟩:=x;(repeat' (first|(with_reducible (refine af (λh=>?_) λh=>?_)<;>(try simp only[DZ]at h))|simp only[EV,seval]|fail));(all_goals(((refine RET.eq D ?_;((simp_all[bD];done))))))
 |x::y::r=>
  (repeat' (first|(with_reducible (refine af (λh=>?_) λh=>?_)<;>(try simp only[DZ]at h))|(with_reducible refine AI (by omega) ?_)|simp only[EV,seval]|(exfalso;omega)|fail));(all_goals(((refine RET.eq D ?_;((simp_all[bD];done))))))
def f100 (x:Itm):Pure G Tryz.prog 100 [.agg x.cs] (.bool (decide (2<=x.wh))):=by
 refine Pure.w c100 λR D=>?_;unfold s100 r100;(repeat' (simp only[EV,seval]));(all_goals((exact RET.eq D rfl)))
def f102 (p:List Stp) (M:p.length<1000000):Pure G Tryz.prog 102 [.lst 2 (p.map Stp.cs)] (.i (bQ p).kind):=by
 refine Pure.w c102 λR E=>?_;unfold s102 r102
 cases D:bD p with
 |true=>
  (repeat' (first|(with_reducible refine ab (f99 G _) ?_)|simp only[EV,seval,D]|fail));(all_goals(((refine RET.eq E ?_;((simp_all[bQ,Stp.cs];done))))))
 |false=>
  have F:=gU D;have J:0<p.length:=length_pos_iff.2 F
  have I:IntKind.i64.wrap ((p.length:Int)-1)=((p.length-1:Nat):Int):=by rw[av (by omega) (by omega)];omega
  (repeat' (first|(with_reducible first|refine AI (by omega) ?_|refine ab (f99 G _) ?_)|simp only[EV,seval,D,I,lF p F]|fail));(all_goals(((refine RET.eq E ?_;((simp_all[bQ,Stp.cs];done))))))
def f13 (a b:List Fnd) (X:a.length<9000000000000000000):Pure G Tryz.prog 13 [.lst 6 (a.map Fnd.cs),.lst 6 (b.map Fnd.cs)] (.bool (decide (a=b))):=by
 refine Pure.w c13 λR J=>?_;unfold s13 r13;by_cases I:a.length=b.length
 ·have F:decide ((a.length:Int)≠(b.length:Int))=false:=by simp[I]
  (repeat' (first|(with_reducible (refine ae (λh=>?_) λh=>?_)<;>(try simp only[DZ]at h))|(with_reducible refine AI (by omega) ?_)|simp only[EV,seval,F,E.yes,E.le0,E.lt',E.get,E.row,T,M.row,M.lt']|simp only[EV,seval,F,O]|simp only[EV,seval,F]|(refine ak E () ?_ (dT _ _))|(refine ap (a) (λi r (c:Unit)=>a.length=b.length/\decide (a=b)=decide (r=b.drop i)) (λi c=>[(0,.lst 6 (a.map Fnd.cs)),(1,.lst 6 (b.map Fnd.cs)),(5,.i i)]) (λ_ _=>[]) () (by((simp[*];done))) (dT _ _) (by omega) (λi x r c D E T=>?_) (λc D O=>?_)<;>(try(obtain⟨y,r2,M,V,D⟩:=cH D E;(obtain⟨_,⟨_,_,_⟩,_,_⟩:=x;obtain⟨_,⟨_,_,_⟩,_,_⟩:=y))))|fail));(all_goals(first|(refine RET.eq J ?_;first|(simp_all[I];done)|grind)|(simp_all[I];done)))
 ·have F:decide ((a.length:Int)≠(b.length:Int))=true:=by simp;omega
  have N:decide (a=b)=false:=by simp;rintro rfl;exact I rfl
  rw[N]at J;(repeat' (simp only[EV,seval,F]));(all_goals((exact RET.eq J rfl)))
end
end Go.Av
