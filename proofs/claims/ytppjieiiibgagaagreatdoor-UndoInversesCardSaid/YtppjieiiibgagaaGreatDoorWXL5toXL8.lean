/-
  LINT, 5: lists that are compared, searched.
-/
import Derived.Test.YtppjieiiibgagaaGreatDoorWXC3toXL4
set_option linter.all false
namespace Go.Av
open Go Go.RowKit Go.Proofs List
def cM {α:Type} [DecidableEq α] {a b:List α} {i:Nat} {x:α} {r:List α} (F:a.length=b.length/\decide (a=b)=decide (x::r=b.drop i)) (I:Rest a i x r):
  ∃y D,Rest b i y D/\b.drop (i+1)=D/\decide (a=b)=decide (x::r=y::D):=by
 have J:=I.lt
 cases E:b.drop i with
 |nil=>
  have:=congrArg List.length E;simp at this;omega
 |cons y D=>exact⟨y,D,iA E,(iA E).next,by rw[F.2,E]⟩
section
variable (G:Glob)
def f104 (a b:List (List UInt8)) (X:a.length<9000000000000000000):Pure G Tryz.prog 104 [.lst 1 (a.map srow),.lst 1 (b.map srow)] (.bool (decide (a=b))):=by
 refine Pure.w c104 λR J=>?_;unfold s104 r104;by_cases I:a.length=b.length
 ·have F:decide ((a.length:Int)≠(b.length:Int))=false:=by simp[I]
  (repeat' (first|(with_reducible (refine ae (λh=>?_) λh=>?_)<;>(try simp only[DZ]at h))|(with_reducible refine AI (by omega) ?_)|simp only[EV,seval,F,E.yes,E.le0,E.lt',E.get,E.row,T,M.row,M.lt']|simp only[EV,seval,F,O]|simp only[EV,seval,F]|(refine ak E () ?_ (a0 _ _))|(refine ap (a) (λi r (c:Unit)=>a.length=b.length/\decide (a=b)=decide (r=b.drop i)) (λi c=>[(0,.lst 1 (a.map srow)),(1,.lst 1 (b.map srow)),(5,.i i)]) (λ_ _=>[]) () (by((simp[*];done))) (a0 _ _) (by omega) (λi x r c D E T=>?_) (λc D O=>?_)<;>(try(obtain⟨y,r2,M,V,D⟩:=cM D E;skip)))));(all_goals(first|(refine RET.eq J ?_;((simp_all[I];done)))|(simp_all[I];done)))
 ·have F:decide ((a.length:Int)≠(b.length:Int))=true:=by simp;omega
  have N:decide (a=b)=false:=by simp;rintro rfl;exact I rfl
  rw[N]at J;(repeat' (simp only[EV,seval,F]));(all_goals((exact RET.eq J rfl)))
def f103 (a b:List Stp) (X:a.length<9000000000000000000):Pure G Tryz.prog 103 [.lst 2 (a.map Stp.cs),.lst 2 (b.map Stp.cs)] (.bool (decide (a=b))):=by
 refine Pure.w c103 λR J=>?_;unfold s103 r103;by_cases I:a.length=b.length
 ·have F:decide ((a.length:Int)≠(b.length:Int))=false:=by simp[I]
  (repeat' (first|(with_reducible (refine ae (λh=>?_) λh=>?_)<;>(try simp only[DZ]at h))|(with_reducible refine AI (by omega) ?_)|simp only[EV,seval,F,E.yes,E.le0,E.lt',E.get,E.row,T,M.row,M.lt']|simp only[EV,seval,F,O]|simp only[EV,seval,F]|(refine ak E () ?_ (a0 _ _))|(refine ap (a) (λi r (c:Unit)=>a.length=b.length/\decide (a=b)=decide (r=b.drop i)) (λi c=>[(0,.lst 2 (a.map Stp.cs)),(1,.lst 2 (b.map Stp.cs)),(5,.i i)]) (λ_ _=>[]) () (by((simp[*];done))) (a0 _ _) (by omega) (λi x r c D E T=>?_) (λc D O=>?_)<;>(try(obtain⟨y,r2,M,V,D⟩:=cM D E;(cases x;cases y))))));(all_goals(first|(refine RET.eq J ?_;first|(simp_all[I];done)|grind)|(simp_all[I];done)))
 ·have F:decide ((a.length:Int)≠(b.length:Int))=true:=by simp;omega
  have N:decide (a=b)=false:=by simp;rintro rfl;exact I rfl
  rw[N]at J;(repeat' (simp only[EV,seval,F]));(all_goals((exact RET.eq J rfl)))
def f36 (a b:List Wd) (X:a.length<9000000000000000000):Pure G Tryz.prog 36 [.lst 4 (a.map Wd.cs),.lst 4 (b.map Wd.cs)] (.bool (decide (a=b))):=by
 refine Pure.w c36 λR J=>?_;unfold s36 r36;by_cases I:a.length=b.length
 ·have F:decide ((a.length:Int)≠(b.length:Int))=false:=by simp[I]
  (repeat' (first|(with_reducible (refine ae (λh=>?_) λh=>?_)<;>(try simp only[DZ]at h))|(with_reducible refine AI (by omega) ?_)|simp only[EV,seval,F,E.yes,E.le0,E.lt',E.get,E.row,T,M.row,M.lt']|simp only[EV,seval,F,O]|simp only[EV,seval,F]|(refine ak E () ?_ (a0 _ _))|(refine ap (a) (λi r (c:Unit)=>a.length=b.length/\decide (a=b)=decide (r=b.drop i)) (λi c=>[(0,.lst 4 (a.map Wd.cs)),(1,.lst 4 (b.map Wd.cs)),(5,.i i)]) (λ_ _=>[]) () (by((simp[*];done))) (a0 _ _) (by omega) (λi x r c D E T=>?_) (λc D O=>?_)<;>(try(obtain⟨y,r2,M,V,D⟩:=cM D E;(cases x;cases y))))));(all_goals(first|(refine RET.eq J ?_;first|(simp_all[I];done)|grind)|(simp_all[I];done)))
 ·have F:decide ((a.length:Int)≠(b.length:Int))=true:=by simp;omega
  have N:decide (a=b)=false:=by simp;rintro rfl;exact I rfl
  rw[N]at J;(repeat' (simp only[EV,seval,F]));(all_goals((exact RET.eq J rfl)))
def f168 (a b:List (List UInt8)) (X:a.length<9000000000000000000):Pure G Tryz.prog 168 [.lst 1 (a.map srow),.lst 1 (b.map srow)] (.bool (decide (a=b))):=by
 refine Pure.w c168 λR J=>?_;unfold s168 r168;by_cases I:a.length=b.length
 ·have F:decide ((a.length:Int)≠(b.length:Int))=false:=by simp[I]
  (repeat' (first|(with_reducible (refine ae (λh=>?_) λh=>?_)<;>(try simp only[DZ]at h))|(with_reducible refine AI (by omega) ?_)|simp only[EV,seval,F,E.yes,E.le0,E.lt',E.get,E.row,T,M.row,M.lt']|simp only[EV,seval,F,O]|simp only[EV,seval,F]|(refine ak E () ?_ (a0 _ _))|(refine ap (a) (λi r (c:Unit)=>a.length=b.length/\decide (a=b)=decide (r=b.drop i)) (λi c=>[(0,.lst 1 (a.map srow)),(1,.lst 1 (b.map srow)),(12,.i a.length),(13,.i i)]) (λ_ _=>[]) () (by((simp[*];done))) (a0 _ _) (by omega) (λi x r c D E T=>?_) (λc D O=>?_)<;>(try(obtain⟨y,r2,M,V,D⟩:=cM D E;skip)))));(all_goals(first|(refine RET.eq J ?_;((simp_all[I];done)))|(simp_all[I];done)))
 ·have F:decide ((a.length:Int)≠(b.length:Int))=true:=by simp;omega
  have N:decide (a=b)=false:=by simp;rintro rfl;exact I rfl
  rw[N]at J;(repeat' (simp only[EV,seval,F]));(all_goals((exact RET.eq J rfl)))
def f159 (a b:List Stp) (X:a.length<9000000000000000000):Pure G Tryz.prog 159 [.lst 2 (a.map Stp.cs),.lst 2 (b.map Stp.cs)] (.bool (decide (a=b))):=by
 refine Pure.w c159 λR J=>?_;unfold s159 r159;by_cases I:a.length=b.length
 ·have F:decide ((a.length:Int)≠(b.length:Int))=false:=by simp[I]
  (repeat' (first|(with_reducible (refine ae (λh=>?_) λh=>?_)<;>(try simp only[DZ]at h))|(with_reducible refine AI (by omega) ?_)|simp only[EV,seval,F,E.yes,E.le0,E.lt',E.get,E.row,T,M.row,M.lt']|simp only[EV,seval,F,O]|simp only[EV,seval,F]|(refine ak E () ?_ (a0 _ _))|(refine ap (a) (λi r (c:Unit)=>a.length=b.length/\decide (a=b)=decide (r=b.drop i)) (λi c=>[(0,.lst 2 (a.map Stp.cs)),(1,.lst 2 (b.map Stp.cs)),(12,.i a.length),(13,.i i)]) (λ_ _=>[]) () (by((simp[*];done))) (a0 _ _) (by omega) (λi x r c D E T=>?_) (λc D O=>?_)<;>(try(obtain⟨y,r2,M,V,D⟩:=cM D E;(cases x;cases y))))));(all_goals(first|(refine RET.eq J ?_;first|(simp_all[I];done)|grind)|(simp_all[I];done)))
 ·have F:decide ((a.length:Int)≠(b.length:Int))=true:=by simp;omega
  have N:decide (a=b)=false:=by simp;rintro rfl;exact I rfl
  rw[N]at J;(repeat' (simp only[EV,seval,F]));(all_goals((exact RET.eq J rfl)))
def f268 (a b:List Wd) (X:a.length<9000000000000000000):Pure G Tryz.prog 268 [.lst 4 (a.map Wd.cs),.lst 4 (b.map Wd.cs)] (.bool (decide (a=b))):=by
 refine Pure.w c268 λR J=>?_;unfold s268 r268;by_cases I:a.length=b.length
 ·have F:decide ((a.length:Int)≠(b.length:Int))=false:=by simp[I]
  (repeat' (first|(with_reducible (refine ae (λh=>?_) λh=>?_)<;>(try simp only[DZ]at h))|(with_reducible refine AI (by omega) ?_)|simp only[EV,seval,F,E.yes,E.le0,E.lt',E.get,E.row,T,M.row,M.lt']|simp only[EV,seval,F,O]|simp only[EV,seval,F]|(refine ak E () ?_ (a0 _ _))|(refine ap (a) (λi r (c:Unit)=>a.length=b.length/\decide (a=b)=decide (r=b.drop i)) (λi c=>[(0,.lst 4 (a.map Wd.cs)),(1,.lst 4 (b.map Wd.cs)),(12,.i a.length),(13,.i i)]) (λ_ _=>[]) () (by((simp[*];done))) (a0 _ _) (by omega) (λi x r c D E T=>?_) (λc D O=>?_)<;>(try(obtain⟨y,r2,M,V,D⟩:=cM D E;(cases x;cases y))))));(all_goals(first|(refine RET.eq J ?_;first|(simp_all[I];done)|grind)|(simp_all[I];done)))
 ·have F:decide ((a.length:Int)≠(b.length:Int))=true:=by simp;omega
  have N:decide (a=b)=false:=by simp;rintro rfl;exact I rfl
  rw[N]at J;(repeat' (simp only[EV,seval,F]));(all_goals((exact RET.eq J rfl)))
end
def idxF {α:Type} (p:α->Bool):Nat->List α->Int
 |_,[]=>-1
 |i,x::r=>if p x then (i:Int)else idxF p (i+1) r
def eE {α:Type} (p:α->Bool):∀(l:List α) (i:Nat),decide (0<=idxF p i l)=l.any p
 |[],i=>rfl
 |x::r,i=>by
  unfold idxF
  cases h:p x with
  |true=>simp[h]
  |false=>simp[h];simpa using eE p r (i+1)
def dN (l:List (List UInt8)):Bool:=decide ((l.length:Int)<=256)&&l.all bJ
def irow (n:Int):List AV:=[.i n]
def ob (n:Int):irow n=[.i n]:=(rfl)
def brow (c:UInt8):List AV:=[.int .u8 c.toNat]
def mG (l:List UInt8):ey l=l.map brow:=rfl
def nR (c:UInt8):brow c=[.int .u8 c.toNat]:=(rfl)
def gZ {α:Type} (p:α->Bool) (l:List α):(!l.any λx=>!p x)=l.all p:=by
 induction l with
 |nil=>rfl
 |cons x r ih=>simp[←ih]
section
variable (G:Glob)
def f365 (c:UInt8):Pure G Tryz.prog 365 [.int .u8 c.toNat] (.bool (!okCh c)):=by
 refine Pure.w c365 λR D=>?_;unfold s365 r365;(repeat' (first|(with_reducible (refine ai (λh=>?_) λh=>?_)<;>(try simp only[DZ]at h))|simp only[EV,seval]));(all_goals(((refine RET.eq D ?_;(refine congrArg AV.bool (Bool.eq_iff_iff.2 ?_);simp only[okCh,EVB]at*;omega)))))
def f396 (f:Value) (p:UInt8->Bool) (l:List UInt8) (N:l.length<9000000000000000000) (I:∀x∈l,fT G Tryz.prog f [.int .u8 x.toNat] (.bool (p x))):Pure G Tryz.prog 396 [.lst 1 (l.map brow),.sc f] (.i (idxF p 0 l)):=by
 refine Pure.w c396 λR F=>?_;unfold s396 r396;(repeat' (first|(with_reducible (refine ae (λh=>?_) λh=>?_)<;>(try simp only[DZ]at h))|simp only[EV,seval,nR,D.yes,D.le0,D.lt',D.get,D.row,M]|simp only[EV,seval,nR,J]|simp only[EV,seval,nR]|(refine ak D () ?_ (a0 _ _))|(refine ap (l) (λi r (c:Unit)=>idxF p 0 l=idxF p i r) (λi c=>[(0,.lst 1 (l.map brow)),(1,.sc f),(7,.i l.length),(8,.i i)]) (λ_ _=>[]) () (by rfl) (a0 _ _) (by omega) (λi x r c E D M=>?_) (λc E J=>?_))|(refine aP (I _ D.mem) ?_)));(all_goals(first|(refine RET.eq F ?_;first|(simp only[idxF,E,EVC,decide_true,decide_false];done)|(simp_all[idxF];done))|(simp_all[idxF];done)))
def f366 (f:Value) (p:UInt8->Bool) (l:List UInt8) (F:l.length<9000000000000000000) (E:∀x∈l,fT G Tryz.prog f [.int .u8 x.toNat] (.bool (p x))):Pure G Tryz.prog 366 [.lst 1 (l.map brow),.sc f] (.bool (l.any p)):=by
 refine Pure.w c366 λR D=>?_;unfold s366 r366;(repeat' (first|(with_reducible refine ab (f396 G f p l F E) ?_)|simp only[EV,seval]));(all_goals(((refine RET.eq D ?_;((simp_all[eE];done))))))
def f364 (f:Value) (p:List UInt8->Bool) (l:List (List UInt8)) (N:l.length<9000000000000000000) (I:∀x∈l,fT G Tryz.prog f [.str x] (.bool (p x))):Pure G Tryz.prog 364 [.lst 1 (l.map srow),.sc f] (.i (idxF p 0 l)):=by
 refine Pure.w c364 λR F=>?_;unfold s364 r364;(repeat' (first|(with_reducible (refine ae (λh=>?_) λh=>?_)<;>(try simp only[DZ]at h))|simp only[EV,seval,D.yes,D.le0,D.lt',D.get,D.row,M]|simp only[EV,seval,J]|simp only[EV,seval]|(refine ak D () ?_ (a0 _ _))|(refine ap (l) (λi r (c:Unit)=>idxF p 0 l=idxF p i r) (λi c=>[(0,.lst 1 (l.map srow)),(1,.sc f),(7,.i l.length),(8,.i i)]) (λ_ _=>[]) () (by rfl) (a0 _ _) (by omega) (λi x r c E D M=>?_) (λc E J=>?_))|(refine aP (I _ D.mem) ?_)));(all_goals(first|(refine RET.eq F ?_;first|(simp only[idxF,E,EVC,decide_true,decide_false];done)|(simp_all[idxF];done))|(simp_all[idxF];done)))
def f331 (f:Value) (p:List UInt8->Bool) (l:List (List UInt8)) (F:l.length<9000000000000000000) (E:∀x∈l,fT G Tryz.prog f [.str x] (.bool (p x))):Pure G Tryz.prog 331 [.lst 1 (l.map srow),.sc f] (.bool (l.any p)):=by
 refine Pure.w c331 λR D=>?_;unfold s331 r331;(repeat' (first|(with_reducible refine ab (f364 G f p l F E) ?_)|simp only[EV,seval]));(all_goals(((refine RET.eq D ?_;((simp_all[eE];done))))))
def f346 (f:Value) (p:Wd->Bool) (l:List Wd) (N:l.length<9000000000000000000) (I:∀x∈l,fT G Tryz.prog f [.agg x.cs] (.bool (p x))):Pure G Tryz.prog 346 [.lst 4 (l.map Wd.cs),.sc f] (.i (idxF p 0 l)):=by
 refine Pure.w c346 λR F=>?_;unfold s346 r346;(repeat' (first|(with_reducible (refine ae (λh=>?_) λh=>?_)<;>(try simp only[DZ]at h))|simp only[EV,seval,D.yes,D.le0,D.lt',D.get,D.row,M]|simp only[EV,seval,J]|simp only[EV,seval]|(refine ak D () ?_ (a0 _ _))|(refine ap (l) (λi r (c:Unit)=>idxF p 0 l=idxF p i r) (λi c=>[(0,.lst 4 (l.map Wd.cs)),(1,.sc f),(7,.i l.length),(8,.i i)]) (λ_ _=>[]) () (by rfl) (a0 _ _) (by omega) (λi x r c E D M=>?_) (λc E J=>?_))|(refine aP (I _ D.mem) ?_)));(all_goals(first|(refine RET.eq F ?_;first|(simp only[idxF,E,EVC,decide_true,decide_false];done)|(simp_all[idxF];done))|(simp_all[idxF];done)))
def f297 (f:Value) (p:Wd->Bool) (l:List Wd) (F:l.length<9000000000000000000) (E:∀x∈l,fT G Tryz.prog f [.agg x.cs] (.bool (p x))):Pure G Tryz.prog 297 [.lst 4 (l.map Wd.cs),.sc f] (.bool (l.any p)):=by
 refine Pure.w c297 λR D=>?_;unfold s297 r297;(repeat' (first|(with_reducible refine ab (f346 G f p l F E) ?_)|simp only[EV,seval]));(all_goals(((refine RET.eq D ?_;((simp_all[eE];done))))))
def f329 (l:List Int) (k:Int) (M:l.length<9000000000000000000):Pure G Tryz.prog 329 [.lst 1 (l.map irow),.i k] (.i (idxF (λx=>decide (k=x)) 0 l)):=by
 refine Pure.w c329 λR F=>?_;unfold s329 r329;(repeat' (first|(with_reducible (refine ae (λh=>?_) λh=>?_)<;>(try simp only[DZ]at h))|simp only[EV,seval,ob,D.yes,D.le0,D.lt',D.get,D.row,J]|simp only[EV,seval,ob,I]|simp only[EV,seval,ob]|(refine ak D () ?_ (a0 _ _))|(refine ap (l) (λi r (c:Unit)=>idxF (λx=>decide (k=x)) 0 l=idxF (λx=>decide (k=x)) i r) (λi c=>[(0,.lst 1 (l.map irow)),(1,.i k),(7,.i l.length),(8,.i i)]) (λ_ _=>[]) () (by rfl) (a0 _ _) (by omega) (λi x r c E D J=>?_) (λc E I=>?_))));(all_goals(first|(refine RET.eq F ?_;first|(simp only[idxF,E,EVC,decide_true,decide_false];done)|(simp_all[idxF];done))|(simp_all[idxF];done)))
def f265 (l:List Int) (k:Int) (E:l.length<9000000000000000000):Pure G Tryz.prog 265 [.lst 1 (l.map irow),.i k] (.bool (l.any λx=>decide (k=x))):=by
 refine Pure.w c265 λR D=>?_;unfold s265 r265;(repeat' (first|(with_reducible refine ab (f329 G l k E) ?_)|simp only[EV,seval]));(all_goals(((refine RET.eq D ?_;((simp_all[eE];done))))))
def f333 (s:List UInt8):Pure G Tryz.prog 333 [.str s] (.bool (bJ s)):=by
 refine Pure.w c333 λR D=>?_;unfold s333 r333;(repeat' (first|(with_reducible (refine ai (λh=>?_) λh=>?_)<;>(try simp only[DZ]at h))|(with_reducible refine ab (f366 G _ (λc=>!okCh c) s (by omega) (λx _=>(f365 G x).v)) ?_)|simp only[EV,seval,mG,gZ]|(refine oq (l:=s) (elem:=5) rfl (by omega) (by kernel_rfl) (by kernel_rfl) (by kernel_rfl) ?_)))
 all_goals(try have E:(1:Int)<=s.length:=by have:0<s.length:=length_pos_iff.2 (by assumption);omega)
 (all_goals(first|(refine RET.eq D ?_;(refine congrArg AV.bool (Bool.eq_iff_iff.2 ?_);simp only[bJ,gZ,EVB]at*;omega))|(refine RET.eq D ?_;((simp_all[bJ,gZ];done)))))
end
def appX_oneF {e:TypeId} {sz bytes:Nat} {σ:Store} {g:Option Nat} {rows ys:List (List AV)} {K:AV->Store->Prop} (κ:Store) (N:∀b,g=some b->σ.get b=some (.tok e (rows.length*sz))) (I:Fits (rows.length+ys.length) bytes)
  (D:SubN κ (σ.erase g)) (O:∀E,(∀b,E=some b->b∉κ.keys)->K (.own E e sz (rows++ys)) (κ++tokS E e ((rows++ys).length*sz))):appX e sz bytes σ g rows ys K:=by
 refine⟨N,I,λE _ J=>⟨κ++tokS E e ((rows++ys).length*sz),⟨?_,?_⟩,O E (λb I T=>J b I (cK D.1 T))⟩⟩
 ·intro p F
  rcases mem_append.1 F with F|F
  ·exact mem_append.2 (.inr (D.1 p F))
  ·exact mem_append.2 (.inl F)
 ·intro M
  rw[aD]at M ⊢;obtain⟨Y,Z,n3⟩:=nodup_append.1 M;exact nodup_append.2 ⟨D.2 Z,Y,λx V y X e=>n3 y X x (cK D.1 V) e.symm⟩
def fb {e:TypeId} {sz bytes:Nat} {σ:Store} {g:Option Nat} {rows ys:List (List AV)} {K:AV->Store->Prop} (κ:Store) (I:∀b,g=some b->σ.get b=some (.tok e (rows.length*sz))) (F:(rows.length+ys.length)*bytes<=140737488355328)
  (E:SubN κ (σ.erase g)) (J:∀D,(∀b,D=some b->b∉κ.keys)->K (.own D e sz (rows++ys)) (κ++tokS D e ((rows++ys).length*sz))):appX e sz bytes σ g rows ys K:=appX_oneF κ I (.inl F) E J
def dC {e:TypeId} {sz bytes n m m':Nat} {τ:Store} {g:Option Nat} {rows:List (List AV)} {cs:List AV} {K:AV->Store->Prop} {b k1:Nat} (I:∀d,g=some d->τ.get d=some (.tok e m)) (Y:rows.length=n) (V:m=n*sz) (F:m'=(n+1)*sz) (T:cs.length=sz)
  (M:b∉τ.keys) (X:(n+1)*bytes<=140737488355328) (O:∀D,K (.own D e sz (rows++[cs])) (tokS D e m')):
  ∃E:List (List AV),E.length=1/\(∀r∈E,r.length=sz)/\E.flatten=cs/\appX e sz bytes ((b,.tok e k1)::τ) g rows E K:=by
 subst V F Y
 refine⟨[cs],rfl,by simpa using T,by simp,fb [] (λd N=>?_) (by simpa using X) (SubN.nil _) (λD _=>by simpa using O D)⟩
 have J:=I d N
 have:¬b=d:=by
  rintro rfl;exact M (mem_map.2 ⟨_,rb J,rfl⟩)
 simp only[Store.get,if_neg this]
 exact J
def Weak.sub {G:Glob} {env:Env} {σ σ':Store} (D:SubN σ' σ):Weak G env σ env σ':=λρ w tmps F E=>⟨F.subN D,ra D.1 w,λj=>Rep.ev (ra D.1 w) _ _ (E j)⟩
def bL {g:Option Nat} {e:TypeId} {k:Nat}:∀d,g=some d->(tokS g e k).get d=some (.tok e k):=by
 rintro d rfl;simp[tokS,Store.get]
def bP {g:Option Nat} {e:TypeId} {k c:Nat} {y:AObj} (D:c∉(tokS g e k).keys):∀d,g=some d->Store.get ((c,y)::tokS g e k) d=some (.tok e k):=by
 rintro d rfl
 have:¬c=d:=by rintro rfl;exact D (by simp[tokS,Store.keys])
 simp[tokS,Store.get,this]
def mC {g:Option Nat} {e:TypeId} {k c c2:Nat} {y J:AObj} (I:c∉(tokS g e k).keys) (D:c2∉Store.keys ((c,y)::tokS g e k)):∀d,g=some d->Store.get ((c2,J)::(c,y)::tokS g e k) d=some (.tok e k):=by
 rintro d rfl
 have E:¬c=d:=by rintro rfl;exact I (by simp[tokS,Store.keys])
 have F:¬c2=d:=by rintro rfl;exact D (by simp[tokS,Store.keys])
 simp[tokS,Store.get,E,F]
section
variable (G:Glob)
def f345 (s:List UInt8):Pure G Tryz.prog 345 [.str s] (.bool (!bJ s)):=by
 refine Pure.w c345 λR D=>?_;unfold s345 r345;(repeat' (first|(with_reducible refine ab (f333 G _) ?_)|simp only[EV,seval]));(all_goals((exact RET.eq D rfl)))
def f295 (l:List (List UInt8)) (E:l.length<9000000000000000000):Pure G Tryz.prog 295 [.lst 1 (l.map srow)] (.bool (dN l)):=by
 refine Pure.w c295 λR D=>?_;unfold s295 r295;(repeat' (first|(with_reducible (refine ai (λh=>?_) λh=>?_)<;>(try simp only[DZ]at h))|(with_reducible refine ab (f331 G _ (λc=>!bJ c) l E (λx _=>(f345 G x).v)) ?_)|simp only[EV,seval,gZ]));(all_goals(first|(refine RET.eq D ?_;(refine congrArg AV.bool (Bool.eq_iff_iff.2 ?_);simp only[dN,gZ,EVB]at*;omega))|(refine RET.eq D ?_;((simp_all[dN,gZ];done)))))
def f140 (l:List (List UInt8)) (M:l.length<9000000000000000000):Pure G Tryz.prog 140 [.lst 1 (l.map srow)] (.bool (dN l)):=by
 refine Pure.w c140 λR F=>?_;unfold s140 r140;(repeat' (first|(with_reducible (refine ae (λh=>?_) λh=>?_)<;>(try simp only[DZ]at h))|(with_reducible refine ab (f261 G _) ?_)|simp only[EV,seval,E.yes,E.le0,E.lt',E.get,E.row,J]|simp only[EV,seval,I]|simp only[EV,seval]|(refine ak E () ?_ (a0 _ _))|(refine ap (l) (λi r (c:Unit)=>l.all bJ=r.all bJ) (λi c=>[(0,.lst 1 (l.map srow)),(3,.i i)]) (λ_ _=>[]) () (by rfl) (a0 _ _) (by omega) (λi x r c D E J=>?_) (λc D I=>?_))));(all_goals(first|(refine RET.eq F ?_;(refine congrArg AV.bool (Bool.eq_iff_iff.2 ?_);simp only[dN,EVB]at*;omega))|(refine RET.eq F ?_;((simp only[dN,D,h,EVC,decide_true,decide_false];done)))|(rw[D];simp only[dN,h,EVC,decide_true,decide_false];done)))
def f392 (s:List UInt8) (M:s.length<9000000000000000000):Pure G Tryz.prog 392 [.str s] (.bool (bJ s)):=by
 refine Pure.w c392 λR F=>?_;unfold s392 r392;(repeat' (first|(with_reducible (first|refine ae (λh=>?_) λh=>?_|refine ai (λh=>?_) λh=>?_)<;>(try simp only[DZ]at h))|simp only[EV,seval,D.yes,D.le0,D.lt',D.get,D.row,J]|simp only[EV,seval,I]|simp only[EV,seval]|(refine ak D () ?_ (a0 _ _))|(refine ap (s) (λi r (c:Unit)=>s.all okCh=r.all okCh) (λi c=>[(0,.str s),(3,.i i)]) (λ_ _=>[]) () (by rfl) (a0 _ _) (by omega) (λi x r c E D J=>?_) (λc E I=>?_))));(all_goals(first|(refine RET.eq F ?_;(refine congrArg AV.bool (Bool.eq_iff_iff.2 ?_);simp only[bJ,okCh,EVB]at*;omega))|(refine RET.eq F ?_;first|(simp only[bJ,okCh,E,h,EVC,decide_true,decide_false];done)|(simp_all[bJ,okCh];omega))|(simp_all[bJ,okCh];done)))
def f78 (l:List (List UInt8)) (n:Int) (E:l.length<9000000000000000000):Pure G Tryz.prog 78 [.lst 1 (l.map srow),.i n] (.bool (dN l&&decide (n<=(l.length:Int)))):=by
 refine Pure.w c78 λR D=>?_;unfold s78 r78;(repeat' (first|(with_reducible (refine ai (λh=>?_) λh=>?_)<;>(try simp only[DZ]at h))|(with_reducible refine ab (f140 G _ E) ?_)|simp only[EV,seval]));(all_goals(((refine RET.eq D ?_;((simp_all[];done))))))
def f235 (l:List (List UInt8)) (n:Int) (E:l.length<9000000000000000000):Pure G Tryz.prog 235 [.lst 1 (l.map srow),.i n] (.bool (dN l&&decide (n<=(l.length:Int)))):=by
 refine Pure.w c235 λR D=>?_;unfold s235 r235;(repeat' (first|(with_reducible (refine ai (λh=>?_) λh=>?_)<;>(try simp only[DZ]at h))|(with_reducible refine ab (f295 G _ E) ?_)|simp only[EV,seval]));(all_goals(((refine RET.eq D ?_;((simp_all[];done))))))
def wdOk (w:Wd):Bool:=bJ w.text
def aX (l:List Wd):Bool:=decide ((l.length:Int)<=256)&&l.all wdOk
def f368 (l:List Wd) (X:l.length<1000000):Pure G Tryz.prog 368 [.lst 4 (l.map Wd.cs)] (.lst 1 ((l.map Wd.text).map srow)):=by
 refine Pure.w c368 λR N=>?_;unfold s368 r368;(repeat' (first|simp only[EV,seval,D.yes,D.le0,D.lt',D.get,D.row,V]|simp only[EV,seval,O]|simp only[EV,seval]|(with_reducible intro I E;(try(have F:=E;simp only[EVK]at F;(have T:=F))))|(refine⟨[],rfl,(by simp),rfl,?_⟩)|(refine ap (ι:=Option Nat) (l) (λi r c=>True) (λi c=>[(0,.lst 4 (l.map Wd.cs)),(3,.own c 9 1 ((l.take i).map (λw=>[AV.str w.text]))),(4,.i i)]) (λi c=>tokS c 9 (i)) (some I) (by trivial) (a0 _ _) (by omega) (λi x r c J D V=>?_) (λc J O=>?_))|(refine dC (n:=i) (m':=(i+1)) (by exact bL) (by simp;have:=D.lt;omega) (by omega) (by omega) rfl (by assumption) (by have:=D.lt;omega) (λM=>?_))|(refine ak D M ?_ (by simp only[D.take,map_append,map_cons,map_nil];exact a0 _ _))));(all_goals(((refine N _ _ (Or.inl (Or.inr ⟨rfl,?_⟩));simp[kQ,Function.comp_def];done))))
end
def oi (l:List Wd):(l.map Wd.text).all bJ=l.all wdOk:=by simp only[all_map];rfl
def g9 (l:List Wd):dN (l.map Wd.text)=aX l:=by unfold dN aX;rw[oi,length_map]
def fM (c:UInt8):Bool:=decide ((48:Int)<=c.toNat)&&decide ((c.toNat:Int)<=57)
def isUp (c:UInt8):Bool:=decide ((65:Int)<=c.toNat)&&decide ((c.toNat:Int)<=90)
def jU (c:UInt8):Bool:=decide ((97:Int)<=c.toNat)&&decide ((c.toNat:Int)<=122)
def eB (c:UInt8):Bool:=jU c||(fM c||decide ((c.toNat:Int)=45))
def d8 (s:List UInt8):Bool:=decide ((1:Int)<=s.length)&&(decide ((s.length:Int)<=16)&&(jU (s.getD 0 0)&&s.all eB))
def digN:List UInt8->Nat
 |[]=>0
 |c::s=>if fM c then digN s+1 else 0
def kK:∀s:List UInt8,digN s<=s.length
 |[]=>Nat.le_refl _
 |c::s=>by unfold digN;have:=kK s;split<;>simp<;>omega
def bA (s:List UInt8):Bool:=decide ((1:Int)<=digN s)&&(decide ((digN s:Int)<=4)&&(!decide (((s.getD 0 0).toNat:Int)=48)&&(decide (((s.length-digN s:Nat):Int)<=3)&&(s.drop (digN s)).all isUp)))
def fd (i:Nat) (s:Stp):Bool:=(decide (i=0)&&(decide (s.kind=0)&&decide (s.label=[])))||(decide (1<=s.kind)&&(decide (s.kind<=7)&&bA s.label))
def cv:Nat->List Stp->Bool
 |_,[]=>true
 |i,s::l=>fd i s&&cv (i+1) l
def cI (p:List Stp):Bool:=decide ((p.length:Int)<=9)&&cv 0 p
def jN (s:Sta):Bool:=
 if s.kind=1 then inR s.day 0 1048576&&decide (s.event=[])else if s.kind=3 then decide (s.day=0)&&d8 s.event else if s.kind=0\/s.kind=2 then decide (s.day=0)&&decide (s.event=[])else false
section
variable (G:Glob)
def f337 (l:List Wd) (E:l.length<1000000):Pure G Tryz.prog 337 [.lst 4 (l.map Wd.cs)] (.bool (aX l)):=by
 refine Pure.w c337 λR D=>?_;unfold s337 r337;(repeat' (first|(with_reducible (refine ai (λh=>?_) λh=>?_)<;>(try simp only[DZ]at h))|(with_reducible first|refine ab (f368 G _ E) ?_|refine ab (f140 G (l.map Wd.text) (by simp;omega)) ?_)|simp only[EV,seval,g9]));(all_goals(first|(exact RET.eq D rfl)|(refine RET.eq D ?_;(refine congrArg AV.bool (Bool.eq_iff_iff.2 ?_);simp only[aX,EVB]at*;omega))))
def f360 (l:List Wd) (N:l.length<1000000) (J:∀w∈l,w.text.length<1000000000000000000):Pure G Tryz.prog 360 [.lst 4 (l.map Wd.cs)] (.bool (aX l)):=by
 refine Pure.w c360 λR F=>?_;unfold s360 r360;(repeat' (first|(with_reducible (refine ae (λh=>?_) λh=>?_)<;>(try simp only[DZ]at h))|(with_reducible refine ab (f392 G _ (by have:=J _ E.mem;omega)) ?_)|simp only[EV,seval,E.yes,E.le0,E.lt',E.get,E.row,M]|simp only[EV,seval,I]|simp only[EV,seval]|(refine ak E () ?_ (a0 _ _))|(refine ap (l) (λi r (c:Unit)=>l.all wdOk=r.all wdOk) (λi c=>[(0,.lst 4 (l.map Wd.cs)),(3,.i i)]) (λ_ _=>[]) () (by rfl) (a0 _ _) (by omega) (λi x r c D E M=>?_) (λc D I=>?_))));(all_goals(first|(refine RET.eq F ?_;first|(simp only[aX,wdOk,D,h,EVC,decide_true,decide_false];done)|(simp only[aX,wdOk,D,EVC,decide_true,decide_false];done))|(rw[D];simp only[aX,wdOk,h,EVC,decide_true,decide_false];done)))
def f375 (l:List Wd) (X:l.length<1000000):Pure G Tryz.prog 375 [.lst 4 (l.map Wd.cs)] (.bool (aX l)):=by
 refine Pure.w c375 λR J=>?_;unfold s375 r375;(repeat' (first|(with_reducible (refine ai (λh=>?_) λh=>?_)<;>(try simp only[DZ]at h))|simp only[EV,seval,g9,D.yes,D.le0,D.lt',D.get,D.row,V]|simp only[EV,seval,g9,O]|simp only[EV,seval,g9]|(with_reducible intro M E;(try(have F:=E;simp only[EVK]at F;(have T:=F))))|(refine ap (ι:=Option Nat) (l) (λi r c=>True) (λi c=>[(0,.lst 4 (l.map Wd.cs)),(3,.own c 9 1 ((l.take i).map (λw=>[AV.str w.text]))),(6,.lst 4 (l.map Wd.cs)),(7,.i l.length),(8,.i i)]) (λi c=>tokS c 9 (i)) (none) (by trivial) (Weak.of (by simp[cZ,Env.get,AVle,aT]) (SubN.refl _)) (by omega) (λi x r c I D V=>?_) (λc I O=>?_))|(refine dC (n:=i) (m':=(i+1)) (by exact bP (by assumption)) (by simp;have:=D.lt;omega) (by omega) (by omega) rfl (by assumption) (by have:=D.lt;omega) (λN=>?_))|(refine ak D N ?_ (by simp only[D.take,map_append,map_cons,map_nil];exact a0 _ _))|(refine aS (f295 G (l.map Wd.text) (by simp;omega)) ⟨.inl (.inr ⟨rfl,by simp[Function.comp_def,kQ]⟩),trivial⟩ ?_)));(all_goals(first|(exact RET.eq J rfl)|(refine RET.eq J ?_;(refine congrArg AV.bool (Bool.eq_iff_iff.2 ?_);simp only[aX,EVB]at*;omega))))
def f74 (s:List UInt8):Pure G Tryz.prog 74 [.str s] (.bool (d8 s)):=by
 refine Pure.w c74 λR F=>?_;unfold s74 r74;(repeat' (first|(with_reducible (first|refine ae (λh=>?_) λh=>?_|refine ai (λh=>?_) λh=>?_)<;>(try simp only[DZ]at h))|(with_reducible refine AI (by omega) ?_)|simp only[EV,seval,D.yes,D.le0,D.lt',D.get,D.row,J]|simp only[EV,seval,I]|simp only[EV,seval]|(refine ak D () ?_ (a0 _ _))|(refine ap (s) (λi r (c:Unit)=>s.all eB=r.all eB) (λi c=>[(0,.str s),(3,.i i)]) (λ_ _=>[]) () (by rfl) (a0 _ _) (by omega) (λi x r c E D J=>?_) (λc E I=>?_))|(exfalso;omega)));(all_goals(first|(refine RET.eq F ?_;(refine congrArg AV.bool (Bool.eq_iff_iff.2 ?_);simp only[d8,eB,jU,fM,EVB]at*;omega))|(refine RET.eq F ?_;first|(simp_all[d8,eB,jU,fM];done)|(simp_all[d8,eB,jU,fM];omega))|(rw[E];simp only[d8,eB,jU,fM,h,EVC,decide_true,decide_false];done)|(simp_all[d8,eB,jU,fM];done)))
def f141 (s:List UInt8) (M:s.length<1000000000000000000):Pure G Tryz.prog 141 [.str s] (.i (digN s)):=by
 refine Pure.w c141 λR F=>?_;unfold s141 r141;(repeat' (first|(with_reducible (first|refine ae (λh=>?_) λh=>?_|refine ai (λh=>?_) λh=>?_)<;>(try simp only[DZ]at h))|simp only[EV,seval,E.yes,E.le0,E.lt',E.get,E.row,J]|simp only[EV,seval,I]|simp only[EV,seval]|(refine ak E () ?_ (a0 _ _))|(refine ap (s) (λi r (c:Unit)=>digN s=i+digN r) (λi c=>[(0,.str s),(3,.i i)]) (λ_ _=>[]) () (by((simp;done))) (a0 _ _) (by omega) (λi x r c D E J=>?_) (λc D I=>?_))))
 ·have e:digN s=i+1+digN r:=by
   rw[D,digN,if_pos (by simp[fM];omega)];omega
  exact e
 ·have e:digN s=i:=by rw[D,digN,if_neg (by simp[fM];omega)];rfl
  exact RET.eq F (by rw[e])
 ·have e:digN s=i:=by rw[D,digN,if_neg (by simp[fM];omega)];rfl
  exact RET.eq F (by rw[e])
 ·exact RET.eq F (by rw[D];simp[digN])
def f75 (s:Sta):Pure G Tryz.prog 75 [.agg [.i s.kind,.i s.day,.str s.event]] (.bool (jN s)):=by
 refine Pure.w c75 λR D=>?_;unfold s75 r75;(repeat' (first|(with_reducible (first|refine ae (λh=>?_) λh=>?_|refine ai (λh=>?_) λh=>?_)<;>(try simp only[DZ]at h))|(with_reducible first|refine ab (f71 G _ _ _) ?_|refine ab (f74 G _) ?_)|simp only[EV,seval]|(exfalso;omega)));(all_goals(((refine RET.eq D ?_;((simp_all[jN];done))))))
end
end Go.Av
