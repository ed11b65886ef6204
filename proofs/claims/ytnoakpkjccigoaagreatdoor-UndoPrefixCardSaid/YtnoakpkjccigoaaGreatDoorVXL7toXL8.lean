/-
  scratch: rows of words.
-/
import Derived.Test.YtnoakpkjccigoaaGreatDoorVXC3toXL6
namespace Go.Av
open Go Go.RowKit Go.Proofs List
set_option linter.unusedSimpArgs false
set_option linter.unusedVariables false
theorem appX_oneF {e:TypeId} {sz bytes:Nat} {σ:Store} {g:Option Nat} {rows ys:List (List AV)} {K:AV->Store->Prop} (κ:Store) (N:∀b,g=some b->σ.get b=some (.tok e (rows.length*sz))) (I:Fits (rows.length+ys.length) bytes)
  (D:SubN κ (σ.erase g)) (O:∀E,(∀b,E=some b->b∉κ.keys)->K (.own E e sz (rows++ys)) (κ++tokS E e ((rows++ys).length*sz))):appX e sz bytes σ g rows ys K:=by
 refine⟨N,I,λE _ J=>⟨κ++tokS E e ((rows++ys).length*sz),⟨?_,?_⟩,O E (λb I T=>J b I (ct D.1 T))⟩⟩
 ·intro p F
  rcases mem_append.1 F with F|F
  ·exact mem_append.2 (.inr (D.1 p F))
  ·exact mem_append.2 (.inl F)
 ·intro M
  rw[az]at M ⊢
  obtain⟨Y,Z,n3⟩:=nodup_append.1 M
  exact nodup_append.2 ⟨D.2 Z,Y,λx V y X e=>n3 y X x (ct D.1 V) e.symm⟩
theorem fM {e:TypeId} {sz bytes:Nat} {σ:Store} {g:Option Nat} {rows ys:List (List AV)} {K:AV->Store->Prop} (κ:Store) (I:∀b,g=some b->σ.get b=some (.tok e (rows.length*sz))) (F:(rows.length+ys.length)*bytes<=140737488355328)
  (E:SubN κ (σ.erase g)) (J:∀D,(∀b,D=some b->b∉κ.keys)->K (.own D e sz (rows++ys)) (κ++tokS D e ((rows++ys).length*sz))):appX e sz bytes σ g rows ys K:=appX_oneF κ I (.inl F) E J
theorem gi {e:TypeId} {sz bytes n m m':Nat} {τ:Store} {g:Option Nat} {rows:List (List AV)} {cs:List AV} {K:AV->Store->Prop} {b k1:Nat} (I:∀d,g=some d->τ.get d=some (.tok e m)) (Y:rows.length=n) (V:m=n*sz) (F:m'=(n+1)*sz) (T:cs.length=sz)
  (M:b∉τ.keys) (X:(n+1)*bytes<=140737488355328) (O:∀D,K (.own D e sz (rows++[cs])) (tokS D e m')):
  ∃E:List (List AV),E.length=1/\(∀r∈E,r.length=sz)/\E.flatten=cs/\appX e sz bytes ((b,.tok e k1)::τ) g rows E K:=by
 subst V F Y
 refine⟨[cs],rfl,by simpa using T,by simp,fM [] (λd N=>?_) (by simpa using X) (SubN.nil _) (λD _=>by simpa using O D)⟩
 have J:=I d N
 have:¬b=d:=by
  rintro rfl
  exact M (mem_map.2 ⟨_,Store.get_mem J,rfl⟩)
 simp only[Store.get,if_neg this]
 exact J
theorem Weak.sub {G:Glob} {env:Env} {σ σ':Store} (D:SubN σ' σ):Weak G env σ env σ':=λρ w tmps F E=>⟨F.subN D,Ev.of_sub D.1 w,λj=>Rep.ev (Ev.of_sub D.1 w) _ _ (E j)⟩
theorem iR {g:Option Nat} {e:TypeId} {k:Nat}:∀d,g=some d->(tokS g e k).get d=some (.tok e k):=by
 rintro d rfl;simp[tokS,Store.get]
theorem d5 {g:Option Nat} {e:TypeId} {k c:Nat} {y:AObj} (D:c∉(tokS g e k).keys):∀d,g=some d->Store.get ((c,y)::tokS g e k) d=some (.tok e k):=by
 rintro d rfl
 have:¬c=d:=by rintro rfl;exact D (by simp[tokS,Store.keys])
 simp[tokS,Store.get,this]
theorem lk {g:Option Nat} {e:TypeId} {k c c2:Nat} {y J:AObj} (I:c∉(tokS g e k).keys) (D:c2∉Store.keys ((c,y)::tokS g e k)):∀d,g=some d->Store.get ((c2,J)::(c,y)::tokS g e k) d=some (.tok e k):=by
 rintro d rfl
 have E:¬c=d:=by rintro rfl;exact I (by simp[tokS,Store.keys])
 have F:¬c2=d:=by rintro rfl;exact D (by simp[tokS,Store.keys])
 simp[tokS,Store.get,E,F]
section
variable (G:Glob)
theorem f270 (s:List UInt8):Pure G Tryz.prog 270 [.str s] (.bool (!bf s)):=by
 refine Pure.w c270 λR D=>?_
 unfold s270 r270
 (repeat' (first|(with_reducible refine aa (f271 G _) ?_)|simp only[EVz,seval,↓reduceIte,EV6,EV7]))
 (all_goals((exact RET.eq D rfl)))
theorem f223 (l:List (List UInt8)) (E:l.length<9000000000000000000):Pure G Tryz.prog 223 [.lst 1 (l.map srow)] (.bool (dq l)):=by
 refine Pure.w c223 λR D=>?_
 unfold s223 r223
 (repeat' (first|(with_reducible (refine ai (λh=>?_) (λh=>?_))<;>(try simp only[DZ]at h))|(with_reducible refine aa (f269 G _ (λc=>!bf c) l E (λx _=>(f270 G x).v)) ?_)|simp only[EVz,seval,↓reduceIte,EV6,EV7,gw]))
 (all_goals(first|(refine RET.eq D ?_;(refine congrArg AV.bool (Bool.eq_iff_iff.2 ?_);simp only[dq,gw,EVB]at*;omega))|(refine RET.eq D ?_;((simp_all[dq,gw];done)))))
theorem f316 (l:List (List UInt8)) (M:l.length<9000000000000000000):Pure G Tryz.prog 316 [.lst 1 (l.map srow)] (.bool (dq l)):=by
 refine Pure.w c316 λR F=>?_
 unfold s316 r316
 (repeat' (first|(with_reducible (refine ab (λh=>?_) (λh=>?_))<;>(try simp only[DZ]at h))|(with_reducible refine aa (f81 G _) ?_)|simp only[EVz,seval,↓reduceIte,EV6,EV7,E.yes,E.le0,E.lt',E.get,E.row,J]|simp only[EVz,seval,↓reduceIte,EV6,EV7,I]|simp only[EVz,seval,↓reduceIte,EV6,EV7]|(refine ap E () ?_ (Weak.rfl' _ _))|(refine ay (l) (λi r (c:Unit)=>l.all bf=r.all bf) (λi c=>[(0,.lst 1 (l.map srow)),(3,.int .i64 i)]) (λ_ _=>[]) () (by rfl) (Weak.rfl' _ _) (by omega) (λi x r c D E J=>?_) (λc D I=>?_))))
 (all_goals(first|(refine RET.eq F ?_;(refine congrArg AV.bool (Bool.eq_iff_iff.2 ?_);simp only[dq,EVB]at*;omega))|(refine RET.eq F ?_;((simp only[dq,D,h,EVC,decide_true,decide_false];done)))|(rw[D];simp only[dq,h,EVC,decide_true,decide_false];done)))
theorem f173 (l:List (List UInt8)) (n:Int) (E:l.length<9000000000000000000):Pure G Tryz.prog 173 [.lst 1 (l.map srow),.int .i64 n] (.bool (dq l&&decide (n<=(l.length:Int)))):=by
 refine Pure.w c173 λR D=>?_
 unfold s173 r173
 (repeat' (first|(with_reducible (refine ai (λh=>?_) (λh=>?_))<;>(try simp only[DZ]at h))|(with_reducible refine aa (f223 G _ E) ?_)|simp only[EVz,seval,↓reduceIte,EV6,EV7]))
 (all_goals(((refine RET.eq D ?_;((simp_all[];done))))))
def wdOk (w:Wd):Bool:=bf w.text
def aU (l:List Wd):Bool:=decide ((l.length:Int)<=256)&&l.all wdOk
theorem f317 (l:List Wd) (X:l.length<1000000):Pure G Tryz.prog 317 [.lst 4 (l.map Wd.cs)] (.lst 1 ((l.map Wd.text).map srow)):=by
 refine Pure.w c317 λR N=>?_
 unfold s317 r317
 (repeat' (first|simp only[EVz,seval,↓reduceIte,EV6,EV7,D.yes,D.le0,D.lt',D.get,D.row,V]|simp only[EVz,seval,↓reduceIte,EV6,EV7,O]|simp only[EVz,seval,↓reduceIte,EV6,EV7]|(with_reducible intro I E;(try(have F:=E;simp only[EVK]at F;(have T:=F))))|(refine⟨[],rfl,(by simp),rfl,?_⟩)|(refine ay (ι:=Option Nat) (l) (λi r c=>True) (λi c=>[(0,.lst 4 (l.map Wd.cs)),(3,.own c 9 1 ((l.take i).map (λw=>[AV.str w.text]))),(4,.int .i64 i)]) (λi c=>tokS c 9 (i)) (some I) (by trivial) (Weak.rfl' _ _) (by omega) (λi x r c J D V=>?_) (λc J O=>?_))|(refine gi (n:=i) (m':=(i+1)) (by exact iR) (by simp;have:=D.lt;omega) (by omega) (by omega) rfl (by assumption) (by have:=D.lt;omega) (λM=>?_))|(refine ap D M ?_ (by simp only[D.take,map_append,map_cons,map_nil];exact Weak.rfl' _ _))))
 (all_goals(((refine N _ _ (Or.inl (Or.inr ⟨rfl,?_⟩));simp[mc,Function.comp_def];done))))
end
theorem mP (l:List Wd):(l.map Wd.text).all bf=l.all wdOk:=by simp only[all_map];rfl
theorem gQ (l:List Wd):dq (l.map Wd.text)=aU l:=by unfold dq aU;rw[mP,length_map]
def jC (c:UInt8):Bool:=decide ((48:Int)<=c.toNat)&&decide ((c.toNat:Int)<=57)
def isUp (c:UInt8):Bool:=decide ((65:Int)<=c.toNat)&&decide ((c.toNat:Int)<=90)
def isLow (c:UInt8):Bool:=decide ((97:Int)<=c.toNat)&&decide ((c.toNat:Int)<=122)
def kt (c:UInt8):Bool:=isLow c||(jC c||decide ((c.toNat:Int)=45))
def ii (s:List UInt8):Bool:=decide ((1:Int)<=s.length)&&(decide ((s.length:Int)<=16)&&(isLow (s.getD 0 0)&&s.all kt))
def digN:List UInt8->Nat
 |[]=>0
 |c::s=>if jC c then digN s+1 else 0
theorem jO:∀s:List UInt8,digN s<=s.length
 |[]=>Nat.le_refl _
 |c::s=>by unfold digN;have:=jO s;split<;>simp<;>omega
def br (s:List UInt8):Bool:=decide ((1:Int)<=digN s)&&(decide ((digN s:Int)<=4)&&(!decide (((s.getD 0 0).toNat:Int)=48)&&(decide (((s.length-digN s:Nat):Int)<=3)&&(s.drop (digN s)).all isUp)))
def i8 (i:Nat) (s:Stp):Bool:=(decide (i=0)&&(decide (s.kind=0)&&decide (s.label=[])))||(decide (1<=s.kind)&&(decide (s.kind<=7)&&br s.label))
def d8:Nat->List Stp->Bool
 |_,[]=>true
 |i,s::l=>i8 i s&&d8 (i+1) l
def dU (p:List Stp):Bool:=decide ((p.length:Int)<=9)&&d8 0 p
def mJ (s:Sta):Bool:=
 if s.kind=1 then inR s.day 0 1048576&&decide (s.event=[])else if s.kind=3 then decide (s.day=0)&&ii s.event else if s.kind=0\/s.kind=2 then decide (s.day=0)&&decide (s.event=[])else false
section
variable (G:Glob)
theorem f291 (l:List Wd) (E:l.length<1000000):Pure G Tryz.prog 291 [.lst 4 (l.map Wd.cs)] (.bool (aU l)):=by
 refine Pure.w c291 λR D=>?_
 unfold s291 r291
 (repeat' (first|(with_reducible (refine ai (λh=>?_) (λh=>?_))<;>(try simp only[DZ]at h))|(with_reducible first|refine aa (f317 G _ E) ?_|refine aa (f316 G (l.map Wd.text) (by simp;omega)) ?_)|simp only[EVz,seval,↓reduceIte,EV6,EV7,gQ]))
 (all_goals(first|(exact RET.eq D rfl)|(refine RET.eq D ?_;(refine congrArg AV.bool (Bool.eq_iff_iff.2 ?_);simp only[aU,EVB]at*;omega))))
theorem f293 (l:List Wd) (X:l.length<1000000):Pure G Tryz.prog 293 [.lst 4 (l.map Wd.cs)] (.bool (aU l)):=by
 refine Pure.w c293 λR J=>?_
 unfold s293 r293
 (repeat' (first|(with_reducible (refine ai (λh=>?_) (λh=>?_))<;>(try simp only[DZ]at h))|simp only[EVz,seval,↓reduceIte,EV6,EV7,gQ,D.yes,D.le0,D.lt',D.get,D.row,V]|simp only[EVz,seval,↓reduceIte,EV6,EV7,gQ,O]|simp only[EVz,seval,↓reduceIte,EV6,EV7,gQ]|(with_reducible intro M E;(try(have F:=E;simp only[EVK]at F;(have T:=F))))|(refine ay (ι:=Option Nat) (l) (λi r c=>True) (λi c=>[(0,.lst 4 (l.map Wd.cs)),(3,.own c 9 1 ((l.take i).map (λw=>[AV.str w.text]))),(6,.lst 4 (l.map Wd.cs)),(7,.int .i64 l.length),(8,.int .i64 i)]) (λi c=>tokS c 9 (i)) (none) (by trivial) (Weak.of (by simp[eJ,Env.get,AVle,aR]) (SubN.refl _)) (by omega) (λi x r c I D V=>?_) (λc I O=>?_))|(refine gi (n:=i) (m':=(i+1)) (by exact d5 (by assumption)) (by simp;have:=D.lt;omega) (by omega) (by omega) rfl (by assumption) (by have:=D.lt;omega) (λN=>?_))|(refine ap D N ?_ (by simp only[D.take,map_append,map_cons,map_nil];exact Weak.rfl' _ _))|(refine aE (f223 G (l.map Wd.text) (by simp;omega)) ⟨.inl (.inr ⟨rfl,by simp[Function.comp_def,mc]⟩),trivial⟩ ?_)))
 (all_goals(first|(exact RET.eq J rfl)|(refine RET.eq J ?_;(refine congrArg AV.bool (Bool.eq_iff_iff.2 ?_);simp only[aU,EVB]at*;omega))))
theorem f142 (s:List UInt8) (M:s.length<1000000000000000000):Pure G Tryz.prog 142 [.str s] (.int .i64 (digN s)):=by
 refine Pure.w c142 λR F=>?_
 unfold s142 r142
 (repeat' (first|(with_reducible (first|refine ab (λh=>?_) (λh=>?_)|refine ai (λh=>?_) (λh=>?_))<;>(try simp only[DZ]at h))|simp only[EVz,seval,↓reduceIte,EV6,EV7,E.yes,E.le0,E.lt',E.get,E.row,J]|simp only[EVz,seval,↓reduceIte,EV6,EV7,I]|simp only[EVz,seval,↓reduceIte,EV6,EV7]|(refine ap E () ?_ (Weak.rfl' _ _))|(refine ay (s) (λi r (c:Unit)=>digN s=i+digN r) (λi c=>[(0,.str s),(3,.int .i64 i)]) (λ_ _=>[]) () (by((simp;done))) (Weak.rfl' _ _) (by omega) (λi x r c D E J=>?_) (λc D I=>?_))))
 ·have e:digN s=i+1+digN r:=by
   rw[D,digN,if_pos (by simp[jC];omega)]
   omega
  exact e
 ·have e:digN s=i:=by rw[D,digN,if_neg (by simp[jC];omega)];rfl
  exact RET.eq F (by rw[e])
 ·have e:digN s=i:=by rw[D,digN,if_neg (by simp[jC];omega)];rfl
  exact RET.eq F (by rw[e])
 ·exact RET.eq F (by rw[D];simp[digN])
end
end Go.Av
