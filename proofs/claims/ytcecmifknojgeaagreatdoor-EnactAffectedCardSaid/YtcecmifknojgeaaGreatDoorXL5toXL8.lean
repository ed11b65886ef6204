/-
  LINT, 5: lists that are compared, searched.
-/
import Derived.Test.YtcecmifknojgeaaGreatDoorXC3toXL4
namespace Go.Av
open Go Go.RowKit Go.Proofs List
set_option linter.unusedSimpArgs false
set_option linter.unusedVariables false
theorem cr {α:Type} [DecidableEq α] {a b:List α} {i:Nat} {x:α} {r:List α} (hok:a.length=b.length/\decide (a=b)=decide (x::r=b.drop i)) (hx:Rest a i x r):
  ∃y r',Rest b i y r'/\b.drop (i+1)=r'/\decide (a=b)=decide (x::r=y::r'):=by
 have h1:=hx.lt
 cases hd:b.drop i with
 |nil=>
  have:=congrArg List.length hd
  simp at this
  omega
 |cons y r'=>exact⟨y,r',ii hd,(ii hd).next,by rw[hok.2,hd]⟩
section
variable (G:Glob)
theorem f191 (a b:List (List UInt8)) (ha:a.length<9000000000000000000):Pure G Tryz.prog 191 [.lst 1 (a.map srow),.lst 1 (b.map srow)] (.bool (decide (a=b))):=by
 refine Pure.w c191 λR hR=>?_
 unfold s191 r191
 by_cases hl:a.length=b.length
 ·have e0:decide ((a.length:Int)≠(b.length:Int))=false:=by simp[hl]
  (repeat' (first|(with_reducible (refine ae (λh=>?_) (λh=>?_))<;>(try simp only[Da,Db,Dc,Dw,De,Df,Dg,Dh]at h))|(with_reducible refine AI (by omega) ?_)|simp only[EVz,seval,↓reduceIte,EV6,EV7,e0,hx.yes,hx.le0,hx.lt',hx.get,hx.row,hw,hy.row,hy.lt']|simp only[EVz,seval,↓reduceIte,EV6,EV7,e0,hn]|simp only[EVz,seval,↓reduceIte,EV6,EV7,e0]|(refine af hx () ?_ (Weak.rfl' _ _))|(refine Zq (a) (λi r (c:Unit)=>a.length=b.length/\decide (a=b)=decide (r=b.drop i)) (λi c=>[(0,.lst 1 (a.map srow)),(1,.lst 1 (b.map srow)),(5,.int .i64 i)]) (λ_ _=>[]) () (by((simp[*];done))) (Weak.rfl' _ _) (by omega) (λi x r c hok hx hw=>?_) (λc hok hn=>?_)<;>(try(obtain⟨y,r2,hy,hyn,hok⟩:=cr hok hx;skip)))|fail))
  (all_goals(first|(refine RET.eq hR ?_;((simp_all[hl];done)))|(simp_all[hl];done)))
 ·have e0:decide ((a.length:Int)≠(b.length:Int))=true:=by simp;omega
  have e1:decide (a=b)=false:=by simp;rintro rfl;exact hl rfl
  rw[e1]at hR
  (repeat' (simp only[EVz,seval,↓reduceIte,EV6,EV7,e0]))
  (all_goals((exact RET.eq hR rfl)))
theorem f190 (a b:List Stp) (ha:a.length<9000000000000000000):Pure G Tryz.prog 190 [.lst 2 (a.map Stp.cs),.lst 2 (b.map Stp.cs)] (.bool (decide (a=b))):=by
 refine Pure.w c190 λR hR=>?_
 unfold s190 r190
 by_cases hl:a.length=b.length
 ·have e0:decide ((a.length:Int)≠(b.length:Int))=false:=by simp[hl]
  (repeat' (first|(with_reducible (refine ae (λh=>?_) (λh=>?_))<;>(try simp only[Da,Db,Dc,Dw,De,Df,Dg,Dh]at h))|(with_reducible refine AI (by omega) ?_)|simp only[EVz,seval,↓reduceIte,EV6,EV7,e0,hx.yes,hx.le0,hx.lt',hx.get,hx.row,hw,hy.row,hy.lt']|simp only[EVz,seval,↓reduceIte,EV6,EV7,e0,hn]|simp only[EVz,seval,↓reduceIte,EV6,EV7,e0]|(refine af hx () ?_ (Weak.rfl' _ _))|(refine Zq (a) (λi r (c:Unit)=>a.length=b.length/\decide (a=b)=decide (r=b.drop i)) (λi c=>[(0,.lst 2 (a.map Stp.cs)),(1,.lst 2 (b.map Stp.cs)),(5,.int .i64 i)]) (λ_ _=>[]) () (by((simp[*];done))) (Weak.rfl' _ _) (by omega) (λi x r c hok hx hw=>?_) (λc hok hn=>?_)<;>(try(obtain⟨y,r2,hy,hyn,hok⟩:=cr hok hx;(cases x;cases y))))|fail))
  (all_goals(first|(refine RET.eq hR ?_;first|(simp_all[hl];done)|grind)|(simp_all[hl];done)))
 ·have e0:decide ((a.length:Int)≠(b.length:Int))=true:=by simp;omega
  have e1:decide (a=b)=false:=by simp;rintro rfl;exact hl rfl
  rw[e1]at hR
  (repeat' (simp only[EVz,seval,↓reduceIte,EV6,EV7,e0]))
  (all_goals((exact RET.eq hR rfl)))
theorem f221 (a b:List Wd) (ha:a.length<9000000000000000000):Pure G Tryz.prog 221 [.lst 4 (a.map Wd.cs),.lst 4 (b.map Wd.cs)] (.bool (decide (a=b))):=by
 refine Pure.w c221 λR hR=>?_
 unfold s221 r221
 by_cases hl:a.length=b.length
 ·have e0:decide ((a.length:Int)≠(b.length:Int))=false:=by simp[hl]
  (repeat' (first|(with_reducible (refine ae (λh=>?_) (λh=>?_))<;>(try simp only[Da,Db,Dc,Dw,De,Df,Dg,Dh]at h))|(with_reducible refine AI (by omega) ?_)|simp only[EVz,seval,↓reduceIte,EV6,EV7,e0,hx.yes,hx.le0,hx.lt',hx.get,hx.row,hw,hy.row,hy.lt']|simp only[EVz,seval,↓reduceIte,EV6,EV7,e0,hn]|simp only[EVz,seval,↓reduceIte,EV6,EV7,e0]|(refine af hx () ?_ (Weak.rfl' _ _))|(refine Zq (a) (λi r (c:Unit)=>a.length=b.length/\decide (a=b)=decide (r=b.drop i)) (λi c=>[(0,.lst 4 (a.map Wd.cs)),(1,.lst 4 (b.map Wd.cs)),(5,.int .i64 i)]) (λ_ _=>[]) () (by((simp[*];done))) (Weak.rfl' _ _) (by omega) (λi x r c hok hx hw=>?_) (λc hok hn=>?_)<;>(try(obtain⟨y,r2,hy,hyn,hok⟩:=cr hok hx;(cases x;cases y))))|fail))
  (all_goals(first|(refine RET.eq hR ?_;first|(simp_all[hl];done)|grind)|(simp_all[hl];done)))
 ·have e0:decide ((a.length:Int)≠(b.length:Int))=true:=by simp;omega
  have e1:decide (a=b)=false:=by simp;rintro rfl;exact hl rfl
  rw[e1]at hR
  (repeat' (simp only[EVz,seval,↓reduceIte,EV6,EV7,e0]))
  (all_goals((exact RET.eq hR rfl)))
theorem f134 (a b:List (List UInt8)) (ha:a.length<9000000000000000000):Pure G Tryz.prog 134 [.lst 1 (a.map srow),.lst 1 (b.map srow)] (.bool (decide (a=b))):=by
 refine Pure.w c134 λR hR=>?_
 unfold s134 r134
 by_cases hl:a.length=b.length
 ·have e0:decide ((a.length:Int)≠(b.length:Int))=false:=by simp[hl]
  (repeat' (first|(with_reducible (refine ae (λh=>?_) (λh=>?_))<;>(try simp only[Da,Db,Dc,Dw,De,Df,Dg,Dh]at h))|(with_reducible refine AI (by omega) ?_)|simp only[EVz,seval,↓reduceIte,EV6,EV7,e0,hx.yes,hx.le0,hx.lt',hx.get,hx.row,hw,hy.row,hy.lt']|simp only[EVz,seval,↓reduceIte,EV6,EV7,e0,hn]|simp only[EVz,seval,↓reduceIte,EV6,EV7,e0]|(refine af hx () ?_ (Weak.rfl' _ _))|(refine Zq (a) (λi r (c:Unit)=>a.length=b.length/\decide (a=b)=decide (r=b.drop i)) (λi c=>[(0,.lst 1 (a.map srow)),(1,.lst 1 (b.map srow)),(12,.int .i64 a.length),(13,.int .i64 i)]) (λ_ _=>[]) () (by((simp[*];done))) (Weak.rfl' _ _) (by omega) (λi x r c hok hx hw=>?_) (λc hok hn=>?_)<;>(try(obtain⟨y,r2,hy,hyn,hok⟩:=cr hok hx;skip)))|fail))
  (all_goals(first|(refine RET.eq hR ?_;((simp_all[hl];done)))|(simp_all[hl];done)))
 ·have e0:decide ((a.length:Int)≠(b.length:Int))=true:=by simp;omega
  have e1:decide (a=b)=false:=by simp;rintro rfl;exact hl rfl
  rw[e1]at hR
  (repeat' (simp only[EVz,seval,↓reduceIte,EV6,EV7,e0]))
  (all_goals((exact RET.eq hR rfl)))
theorem f133 (a b:List Stp) (ha:a.length<9000000000000000000):Pure G Tryz.prog 133 [.lst 2 (a.map Stp.cs),.lst 2 (b.map Stp.cs)] (.bool (decide (a=b))):=by
 refine Pure.w c133 λR hR=>?_
 unfold s133 r133
 by_cases hl:a.length=b.length
 ·have e0:decide ((a.length:Int)≠(b.length:Int))=false:=by simp[hl]
  (repeat' (first|(with_reducible (refine ae (λh=>?_) (λh=>?_))<;>(try simp only[Da,Db,Dc,Dw,De,Df,Dg,Dh]at h))|(with_reducible refine AI (by omega) ?_)|simp only[EVz,seval,↓reduceIte,EV6,EV7,e0,hx.yes,hx.le0,hx.lt',hx.get,hx.row,hw,hy.row,hy.lt']|simp only[EVz,seval,↓reduceIte,EV6,EV7,e0,hn]|simp only[EVz,seval,↓reduceIte,EV6,EV7,e0]|(refine af hx () ?_ (Weak.rfl' _ _))|(refine Zq (a) (λi r (c:Unit)=>a.length=b.length/\decide (a=b)=decide (r=b.drop i)) (λi c=>[(0,.lst 2 (a.map Stp.cs)),(1,.lst 2 (b.map Stp.cs)),(12,.int .i64 a.length),(13,.int .i64 i)]) (λ_ _=>[]) () (by((simp[*];done))) (Weak.rfl' _ _) (by omega) (λi x r c hok hx hw=>?_) (λc hok hn=>?_)<;>(try(obtain⟨y,r2,hy,hyn,hok⟩:=cr hok hx;(cases x;cases y))))|fail))
  (all_goals(first|(refine RET.eq hR ?_;first|(simp_all[hl];done)|grind)|(simp_all[hl];done)))
 ·have e0:decide ((a.length:Int)≠(b.length:Int))=true:=by simp;omega
  have e1:decide (a=b)=false:=by simp;rintro rfl;exact hl rfl
  rw[e1]at hR
  (repeat' (simp only[EVz,seval,↓reduceIte,EV6,EV7,e0]))
  (all_goals((exact RET.eq hR rfl)))
theorem f46 (a b:List Wd) (ha:a.length<9000000000000000000):Pure G Tryz.prog 46 [.lst 4 (a.map Wd.cs),.lst 4 (b.map Wd.cs)] (.bool (decide (a=b))):=by
 refine Pure.w c46 λR hR=>?_
 unfold s46 r46
 by_cases hl:a.length=b.length
 ·have e0:decide ((a.length:Int)≠(b.length:Int))=false:=by simp[hl]
  (repeat' (first|(with_reducible (refine ae (λh=>?_) (λh=>?_))<;>(try simp only[Da,Db,Dc,Dw,De,Df,Dg,Dh]at h))|(with_reducible refine AI (by omega) ?_)|simp only[EVz,seval,↓reduceIte,EV6,EV7,e0,hx.yes,hx.le0,hx.lt',hx.get,hx.row,hw,hy.row,hy.lt']|simp only[EVz,seval,↓reduceIte,EV6,EV7,e0,hn]|simp only[EVz,seval,↓reduceIte,EV6,EV7,e0]|(refine af hx () ?_ (Weak.rfl' _ _))|(refine Zq (a) (λi r (c:Unit)=>a.length=b.length/\decide (a=b)=decide (r=b.drop i)) (λi c=>[(0,.lst 4 (a.map Wd.cs)),(1,.lst 4 (b.map Wd.cs)),(12,.int .i64 a.length),(13,.int .i64 i)]) (λ_ _=>[]) () (by((simp[*];done))) (Weak.rfl' _ _) (by omega) (λi x r c hok hx hw=>?_) (λc hok hn=>?_)<;>(try(obtain⟨y,r2,hy,hyn,hok⟩:=cr hok hx;(cases x;cases y))))|fail))
  (all_goals(first|(refine RET.eq hR ?_;first|(simp_all[hl];done)|grind)|(simp_all[hl];done)))
 ·have e0:decide ((a.length:Int)≠(b.length:Int))=true:=by simp;omega
  have e1:decide (a=b)=false:=by simp;rintro rfl;exact hl rfl
  rw[e1]at hR
  (repeat' (simp only[EVz,seval,↓reduceIte,EV6,EV7,e0]))
  (all_goals((exact RET.eq hR rfl)))
end
def idxF {α:Type} (p:α->Bool):Nat->List α->Int
 |_,[]=>-1
 |i,x::r=>if p x then (i:Int)else idxF p (i+1) r
theorem eE {α:Type} (p:α->Bool):∀(l:List α) (i:Nat),decide (0<=idxF p i l)=l.any p
 |[],i=>rfl
 |x::r,i=>by
  unfold idxF
  cases h:p x with
  |true=>simp[h]
  |false=>simp[h];simpa using eE p r (i+1)
def dU (l:List (List UInt8)):Bool:=decide ((l.length:Int)<=256)&&l.all bQ
def irow (n:Int):List AV:=[.int .i64 n]
theorem nq (n:Int):irow n=[.int .i64 n]:=(rfl)
def brow (c:UInt8):List AV:=[.int .u8 c.toNat]
theorem lN (l:List UInt8):ey l=l.map brow:=rfl
theorem mM (c:UInt8):brow c=[.int .u8 c.toNat]:=(rfl)
theorem ib {α:Type} (p:α->Bool) (l:List α):(!l.any λx=>!p x)=l.all p:=by
 induction l with
 |nil=>rfl
 |cons x r ih=>simp[←ih]
section
variable (G:Glob)
theorem f232 (c:UInt8):Pure G Tryz.prog 232 [.int .u8 c.toNat] (.bool (!okCh c)):=by
 refine Pure.w c232 λR hR=>?_
 unfold s232 r232
 (repeat' (first|(with_reducible (refine ag (λh=>?_) (λh=>?_))<;>(try simp only[Da,Db,Dc,Dw,De,Df,Dg,Dh]at h))|simp only[EVz,seval,↓reduceIte,EV6,EV7]|fail))
 (all_goals(((refine RET.eq hR ?_;(refine congrArg AV.bool (Bool.eq_iff_iff.2 ?_);simp only[okCh,EVB]at*;omega)))))
theorem f258 (f:Value) (p:UInt8->Bool) (l:List UInt8) (hl:l.length<9000000000000000000) (hf:∀x∈l,fL G Tryz.prog f [.int .u8 x.toNat] (.bool (p x))):Pure G Tryz.prog 258 [.lst 1 (l.map brow),.sc f] (.int .i64 (idxF p 0 l)):=by
 refine Pure.w c258 λR hR=>?_
 unfold s258 r258
 (repeat' (first|(with_reducible (refine ae (λh=>?_) (λh=>?_))<;>(try simp only[Da,Db,Dc,Dw,De,Df,Dg,Dh]at h))|simp only[EVz,seval,↓reduceIte,EV6,EV7,mM,hx.yes,hx.le0,hx.lt',hx.get,hx.row,hw]|simp only[EVz,seval,↓reduceIte,EV6,EV7,mM,hn]|simp only[EVz,seval,↓reduceIte,EV6,EV7,mM]|(refine af hx () ?_ (Weak.rfl' _ _))|(refine Zq (l) (λi r (c:Unit)=>idxF p 0 l=idxF p i r) (λi c=>[(0,.lst 1 (l.map brow)),(1,.sc f),(7,.int .i64 l.length),(8,.int .i64 i)]) (λ_ _=>[]) () (by rfl) (Weak.rfl' _ _) (by omega) (λi x r c hok hx hw=>?_) (λc hok hn=>?_))|(refine aK (hf _ hx.mem) ?_)|fail))
 (all_goals(first|(refine RET.eq hR ?_;first|(simp only[idxF,hok,EVC,decide_true,decide_false];done)|(simp_all[idxF];done))|(simp_all[idxF];done)))
theorem f233 (f:Value) (p:UInt8->Bool) (l:List UInt8) (hl:l.length<9000000000000000000) (hf:∀x∈l,fL G Tryz.prog f [.int .u8 x.toNat] (.bool (p x))):Pure G Tryz.prog 233 [.lst 1 (l.map brow),.sc f] (.bool (l.any p)):=by
 refine Pure.w c233 λR hR=>?_
 unfold s233 r233
 (repeat' (first|(with_reducible refine ab (f258 G f p l hl hf) ?_)|simp only[EVz,seval,↓reduceIte,EV6,EV7]|fail))
 (all_goals(((refine RET.eq hR ?_;((simp_all[eE];done))))))
theorem f231 (f:Value) (p:List UInt8->Bool) (l:List (List UInt8)) (hl:l.length<9000000000000000000) (hf:∀x∈l,fL G Tryz.prog f [.str x] (.bool (p x))):Pure G Tryz.prog 231 [.lst 1 (l.map srow),.sc f] (.int .i64 (idxF p 0 l)):=by
 refine Pure.w c231 λR hR=>?_
 unfold s231 r231
 (repeat' (first|(with_reducible (refine ae (λh=>?_) (λh=>?_))<;>(try simp only[Da,Db,Dc,Dw,De,Df,Dg,Dh]at h))|simp only[EVz,seval,↓reduceIte,EV6,EV7,hx.yes,hx.le0,hx.lt',hx.get,hx.row,hw]|simp only[EVz,seval,↓reduceIte,EV6,EV7,hn]|simp only[EVz,seval,↓reduceIte,EV6,EV7]|(refine af hx () ?_ (Weak.rfl' _ _))|(refine Zq (l) (λi r (c:Unit)=>idxF p 0 l=idxF p i r) (λi c=>[(0,.lst 1 (l.map srow)),(1,.sc f),(7,.int .i64 l.length),(8,.int .i64 i)]) (λ_ _=>[]) () (by rfl) (Weak.rfl' _ _) (by omega) (λi x r c hok hx hw=>?_) (λc hok hn=>?_))|(refine aK (hf _ hx.mem) ?_)|fail))
 (all_goals(first|(refine RET.eq hR ?_;first|(simp only[idxF,hok,EVC,decide_true,decide_false];done)|(simp_all[idxF];done))|(simp_all[idxF];done)))
theorem f205 (f:Value) (p:List UInt8->Bool) (l:List (List UInt8)) (hl:l.length<9000000000000000000) (hf:∀x∈l,fL G Tryz.prog f [.str x] (.bool (p x))):Pure G Tryz.prog 205 [.lst 1 (l.map srow),.sc f] (.bool (l.any p)):=by
 refine Pure.w c205 λR hR=>?_
 unfold s205 r205
 (repeat' (first|(with_reducible refine ab (f231 G f p l hl hf) ?_)|simp only[EVz,seval,↓reduceIte,EV6,EV7]|fail))
 (all_goals(((refine RET.eq hR ?_;((simp_all[eE];done))))))
theorem f249 (f:Value) (p:Wd->Bool) (l:List Wd) (hl:l.length<9000000000000000000) (hf:∀x∈l,fL G Tryz.prog f [.agg x.cs] (.bool (p x))):Pure G Tryz.prog 249 [.lst 4 (l.map Wd.cs),.sc f] (.int .i64 (idxF p 0 l)):=by
 refine Pure.w c249 λR hR=>?_
 unfold s249 r249
 (repeat' (first|(with_reducible (refine ae (λh=>?_) (λh=>?_))<;>(try simp only[Da,Db,Dc,Dw,De,Df,Dg,Dh]at h))|simp only[EVz,seval,↓reduceIte,EV6,EV7,hx.yes,hx.le0,hx.lt',hx.get,hx.row,hw]|simp only[EVz,seval,↓reduceIte,EV6,EV7,hn]|simp only[EVz,seval,↓reduceIte,EV6,EV7]|(refine af hx () ?_ (Weak.rfl' _ _))|(refine Zq (l) (λi r (c:Unit)=>idxF p 0 l=idxF p i r) (λi c=>[(0,.lst 4 (l.map Wd.cs)),(1,.sc f),(7,.int .i64 l.length),(8,.int .i64 i)]) (λ_ _=>[]) () (by rfl) (Weak.rfl' _ _) (by omega) (λi x r c hok hx hw=>?_) (λc hok hn=>?_))|(refine aK (hf _ hx.mem) ?_)|fail))
 (all_goals(first|(refine RET.eq hR ?_;first|(simp only[idxF,hok,EVC,decide_true,decide_false];done)|(simp_all[idxF];done))|(simp_all[idxF];done)))
theorem f216 (f:Value) (p:Wd->Bool) (l:List Wd) (hl:l.length<9000000000000000000) (hf:∀x∈l,fL G Tryz.prog f [.agg x.cs] (.bool (p x))):Pure G Tryz.prog 216 [.lst 4 (l.map Wd.cs),.sc f] (.bool (l.any p)):=by
 refine Pure.w c216 λR hR=>?_
 unfold s216 r216
 (repeat' (first|(with_reducible refine ab (f249 G f p l hl hf) ?_)|simp only[EVz,seval,↓reduceIte,EV6,EV7]|fail))
 (all_goals(((refine RET.eq hR ?_;((simp_all[eE];done))))))
theorem f208 (l:List Int) (k:Int) (hl:l.length<9000000000000000000):Pure G Tryz.prog 208 [.lst 1 (l.map irow),.int .i64 k] (.int .i64 (idxF (λx=>decide (k=x)) 0 l)):=by
 refine Pure.w c208 λR hR=>?_
 unfold s208 r208
 (repeat' (first|(with_reducible (refine ae (λh=>?_) (λh=>?_))<;>(try simp only[Da,Db,Dc,Dw,De,Df,Dg,Dh]at h))|simp only[EVz,seval,↓reduceIte,EV6,EV7,nq,hx.yes,hx.le0,hx.lt',hx.get,hx.row,hw]|simp only[EVz,seval,↓reduceIte,EV6,EV7,nq,hn]|simp only[EVz,seval,↓reduceIte,EV6,EV7,nq]|(refine af hx () ?_ (Weak.rfl' _ _))|(refine Zq (l) (λi r (c:Unit)=>idxF (λx=>decide (k=x)) 0 l=idxF (λx=>decide (k=x)) i r) (λi c=>[(0,.lst 1 (l.map irow)),(1,.int .i64 k),(7,.int .i64 l.length),(8,.int .i64 i)]) (λ_ _=>[]) () (by rfl) (Weak.rfl' _ _) (by omega) (λi x r c hok hx hw=>?_) (λc hok hn=>?_))|fail))
 (all_goals(first|(refine RET.eq hR ?_;first|(simp only[idxF,hok,EVC,decide_true,decide_false];done)|(simp_all[idxF];done))|(simp_all[idxF];done)))
theorem f159 (l:List Int) (k:Int) (hl:l.length<9000000000000000000):Pure G Tryz.prog 159 [.lst 1 (l.map irow),.int .i64 k] (.bool (l.any λx=>decide (k=x))):=by
 refine Pure.w c159 λR hR=>?_
 unfold s159 r159
 (repeat' (first|(with_reducible refine ab (f208 G l k hl) ?_)|simp only[EVz,seval,↓reduceIte,EV6,EV7]|fail))
 (all_goals(((refine RET.eq hR ?_;((simp_all[eE];done))))))
theorem f207 (s:List UInt8):Pure G Tryz.prog 207 [.str s] (.bool (bQ s)):=by
 refine Pure.w c207 λR hR=>?_
 unfold s207 r207
 (repeat' (first|(with_reducible (refine ag (λh=>?_) (λh=>?_))<;>(try simp only[Da,Db,Dc,Dw,De,Df,Dg,Dh]at h))|(with_reducible refine ab (f233 G _ (λc=>!okCh c) s (by omega) (λx _=>(f232 G x).v)) ?_)|simp only[EVz,seval,↓reduceIte,EV6,EV7,lN,ib]|(refine mX (l:=s) (elem:=5) rfl (by omega) (by kernel_rfl) (by kernel_rfl) (by kernel_rfl) ?_)|fail))
 all_goals(try have h1:(1:Int)<=s.length:=by have:0<s.length:=length_pos_iff.2 (by assumption);omega)
 (all_goals(first|(refine RET.eq hR ?_;(refine congrArg AV.bool (Bool.eq_iff_iff.2 ?_);simp only[bQ,ib,EVB]at*;omega))|(refine RET.eq hR ?_;((simp_all[bQ,ib];done)))))
end
theorem mo {e:TypeId} {sz bytes:Nat} {σ:Store} {g:Option Nat} {rows ys:List (List AV)} {K:AV->Store->Prop} (κ:Store) (hg:∀b,g=some b->σ.get b=some (.tok e (rows.length*sz))) (hb:Fits (rows.length+ys.length) bytes)
  (hκ:SubN κ (σ.erase g)) (hk:∀g',(∀b,g'=some b->b∉κ.keys)->K (.own g' e sz (rows++ys)) (κ++tokS g' e ((rows++ys).length*sz))):appX e sz bytes σ g rows ys K:=by
 refine⟨hg,hb,λg' _ hg'=>⟨κ++tokS g' e ((rows++ys).length*sz),⟨?_,?_⟩,hk g' (λb hb hm=>hg' b hb (cM hκ.1 hm))⟩⟩
 ·intro p hp
  rcases mem_append.1 hp with hp|hp
  ·exact mem_append.2 (.inr (hκ.1 p hp))
  ·exact mem_append.2 (.inl hp)
 ·intro hn
  rw[aA]at hn ⊢
  obtain⟨n1,n2,n3⟩:=nodup_append.1 hn
  exact nodup_append.2 ⟨hκ.2 n2,n1,λx hx y hy e=>n3 y hy x (cM hκ.1 hx) e.symm⟩
theorem fR {e:TypeId} {sz bytes:Nat} {σ:Store} {g:Option Nat} {rows ys:List (List AV)} {K:AV->Store->Prop} (κ:Store) (hg:∀b,g=some b->σ.get b=some (.tok e (rows.length*sz))) (hb:(rows.length+ys.length)*bytes<=140737488355328)
  (hκ:SubN κ (σ.erase g)) (hk:∀g',(∀b,g'=some b->b∉κ.keys)->K (.own g' e sz (rows++ys)) (κ++tokS g' e ((rows++ys).length*sz))):appX e sz bytes σ g rows ys K:=mo κ hg (.inl hb) hκ hk
theorem cV {e:TypeId} {sz bytes n m m':Nat} {τ:Store} {g:Option Nat} {rows:List (List AV)} {cs:List AV} {K:AV->Store->Prop} {b k1:Nat} (hτ:∀d,g=some d->τ.get d=some (.tok e m)) (hr:rows.length=n) (hm:m=n*sz) (hm':m'=(n+1)*sz) (hl:cs.length=sz)
  (hb:b∉τ.keys) (hn:(n+1)*bytes<=140737488355328) (hk:∀g',K (.own g' e sz (rows++[cs])) (tokS g' e m')):
  ∃rs:List (List AV),rs.length=1/\(∀r∈rs,r.length=sz)/\rs.flatten=cs/\appX e sz bytes ((b,.tok e k1)::τ) g rows rs K:=by
 subst hm hm' hr
 refine⟨[cs],rfl,by simpa using hl,by simp,fR [] (λd hd=>?_) (by simpa using hn) (SubN.nil _) (λg' _=>by simpa using hk g')⟩
 have h1:=hτ d hd
 have:¬b=d:=by
  rintro rfl
  exact hb (mem_map.2 ⟨_,Store.get_mem h1,rfl⟩)
 simp only[Store.get,if_neg this]
 exact h1
theorem app_rowF {e:TypeId} {sz bytes n m m':Nat} {τ:Store} {g:Option Nat} {rows:List (List AV)} {cs:List AV} {K:AV->Store->Prop} {b k1:Nat} (hτ:∀d,g=some d->τ.get d=some (.tok e m)) (hr:rows.length=n) (hm:m=n*sz) (hm':m'=(n+1)*sz) (hl:cs.length=sz)
  (hb:b∉τ.keys) (hn:Fits (n+1) bytes) (hk:∀g',K (.own g' e sz (rows++[cs])) (tokS g' e m')):
  ∃rs:List (List AV),rs.length=1/\(∀r∈rs,r.length=sz)/\rs.flatten=cs/\appX e sz bytes ((b,.tok e k1)::τ) g rows rs K:=by
 subst hm hm' hr
 refine⟨[cs],rfl,by simpa using hl,by simp,mo [] (λd hd=>?_) (by simpa using hn) (SubN.nil _) (λg' _=>by simpa using hk g')⟩
 have h1:=hτ d hd
 have:¬b=d:=by
  rintro rfl
  exact hb (mem_map.2 ⟨_,Store.get_mem h1,rfl⟩)
 simp only[Store.get,if_neg this]
 exact h1
theorem Weak.sub {G:Glob} {env:Env} {σ σ':Store} (hs:SubN σ' σ):Weak G env σ env σ':=λρ w tmps hS hE=>⟨hS.subN hs,Ev.of_sub hs.1 w,λj=>Rep.ev (Ev.of_sub hs.1 w) _ _ (hE j)⟩
theorem bI {g:Option Nat} {e:TypeId} {k:Nat}:∀d,g=some d->(tokS g e k).get d=some (.tok e k):=by
 rintro d rfl;simp[tokS,Store.get]
theorem bT {g:Option Nat} {e:TypeId} {k c:Nat} {y:AObj} (hc:c∉(tokS g e k).keys):∀d,g=some d->Store.get ((c,y)::tokS g e k) d=some (.tok e k):=by
 rintro d rfl
 have:¬c=d:=by rintro rfl;exact hc (by simp[tokS,Store.keys])
 simp[tokS,Store.get,this]
section
variable (G:Glob)
theorem f206 (s:List UInt8):Pure G Tryz.prog 206 [.str s] (.bool (!bQ s)):=by
 refine Pure.w c206 λR hR=>?_
 unfold s206 r206
 (repeat' (first|(with_reducible refine ab (f207 G _) ?_)|simp only[EVz,seval,↓reduceIte,EV6,EV7]|fail))
 (all_goals((exact RET.eq hR rfl)))
theorem f158 (l:List (List UInt8)) (hl:l.length<9000000000000000000):Pure G Tryz.prog 158 [.lst 1 (l.map srow)] (.bool (dU l)):=by
 refine Pure.w c158 λR hR=>?_
 unfold s158 r158
 (repeat' (first|(with_reducible (refine ag (λh=>?_) (λh=>?_))<;>(try simp only[Da,Db,Dc,Dw,De,Df,Dg,Dh]at h))|(with_reducible refine ab (f205 G _ (λc=>!bQ c) l hl (λx _=>(f206 G x).v)) ?_)|simp only[EVz,seval,↓reduceIte,EV6,EV7,ib]|fail))
 (all_goals(first|(refine RET.eq hR ?_;(refine congrArg AV.bool (Bool.eq_iff_iff.2 ?_);simp only[dU,ib,EVB]at*;omega))|(refine RET.eq hR ?_;((simp_all[dU,ib];done)))))
theorem f198 (l:List (List UInt8)) (hl:l.length<9000000000000000000):Pure G Tryz.prog 198 [.lst 1 (l.map srow)] (.bool (dU l)):=by
 refine Pure.w c198 λR hR=>?_
 unfold s198 r198
 (repeat' (first|(with_reducible (refine ae (λh=>?_) (λh=>?_))<;>(try simp only[Da,Db,Dc,Dw,De,Df,Dg,Dh]at h))|(with_reducible refine ab (f229 G _) ?_)|simp only[EVz,seval,↓reduceIte,EV6,EV7,hx.yes,hx.le0,hx.lt',hx.get,hx.row,hw]|simp only[EVz,seval,↓reduceIte,EV6,EV7,hn]|simp only[EVz,seval,↓reduceIte,EV6,EV7]|(refine af hx () ?_ (Weak.rfl' _ _))|(refine Zq (l) (λi r (c:Unit)=>l.all bQ=r.all bQ) (λi c=>[(0,.lst 1 (l.map srow)),(3,.int .i64 i)]) (λ_ _=>[]) () (by rfl) (Weak.rfl' _ _) (by omega) (λi x r c hok hx hw=>?_) (λc hok hn=>?_))|fail))
 (all_goals(first|(refine RET.eq hR ?_;(refine congrArg AV.bool (Bool.eq_iff_iff.2 ?_);simp only[dU,EVB]at*;omega))|(refine RET.eq hR ?_;((simp only[dU,hok,h,EVC,decide_true,decide_false];done)))|(rw[hok];simp only[dU,h,EVC,decide_true,decide_false];done)))
theorem f278 (s:List UInt8) (hs:s.length<9000000000000000000):Pure G Tryz.prog 278 [.str s] (.bool (bQ s)):=by
 refine Pure.w c278 λR hR=>?_
 unfold s278 r278
 (repeat' (first|(with_reducible (first|refine ae (λh=>?_) (λh=>?_)|refine ag (λh=>?_) (λh=>?_))<;>(try simp only[Da,Db,Dc,Dw,De,Df,Dg,Dh]at h))|simp only[EVz,seval,↓reduceIte,EV6,EV7,hx.yes,hx.le0,hx.lt',hx.get,hx.row,hw]|simp only[EVz,seval,↓reduceIte,EV6,EV7,hn]|simp only[EVz,seval,↓reduceIte,EV6,EV7]|(refine af hx () ?_ (Weak.rfl' _ _))|(refine Zq (s) (λi r (c:Unit)=>s.all okCh=r.all okCh) (λi c=>[(0,.str s),(3,.int .i64 i)]) (λ_ _=>[]) () (by rfl) (Weak.rfl' _ _) (by omega) (λi x r c hok hx hw=>?_) (λc hok hn=>?_))|fail))
 (all_goals(first|(refine RET.eq hR ?_;(refine congrArg AV.bool (Bool.eq_iff_iff.2 ?_);simp only[bQ,okCh,EVB]at*;omega))|(refine RET.eq hR ?_;first|(simp only[bQ,okCh,hok,h,EVC,decide_true,decide_false];done)|(simp_all[bQ,okCh];omega))|(simp_all[bQ,okCh];done)))
theorem f145 (l:List (List UInt8)) (n:Int) (hl:l.length<9000000000000000000):Pure G Tryz.prog 145 [.lst 1 (l.map srow),.int .i64 n] (.bool (dU l&&decide (n<=(l.length:Int)))):=by
 refine Pure.w c145 λR hR=>?_
 unfold s145 r145
 (repeat' (first|(with_reducible (refine ag (λh=>?_) (λh=>?_))<;>(try simp only[Da,Db,Dc,Dw,De,Df,Dg,Dh]at h))|(with_reducible refine ab (f198 G _ hl) ?_)|simp only[EVz,seval,↓reduceIte,EV6,EV7]|fail))
 (all_goals(((refine RET.eq hR ?_;((simp_all[];done))))))
theorem f115 (l:List (List UInt8)) (n:Int) (hl:l.length<9000000000000000000):Pure G Tryz.prog 115 [.lst 1 (l.map srow),.int .i64 n] (.bool (dU l&&decide (n<=(l.length:Int)))):=by
 refine Pure.w c115 λR hR=>?_
 unfold s115 r115
 (repeat' (first|(with_reducible (refine ag (λh=>?_) (λh=>?_))<;>(try simp only[Da,Db,Dc,Dw,De,Df,Dg,Dh]at h))|(with_reducible refine ab (f158 G _ hl) ?_)|simp only[EVz,seval,↓reduceIte,EV6,EV7]|fail))
 (all_goals(((refine RET.eq hR ?_;((simp_all[];done))))))
def wdOk (w:Wd):Bool:=bQ w.text
def aS (l:List Wd):Bool:=decide ((l.length:Int)<=256)&&l.all wdOk
theorem f279 (l:List Wd) (hl:l.length<1000000):Pure G Tryz.prog 279 [.lst 4 (l.map Wd.cs)] (.lst 1 ((l.map Wd.text).map srow)):=by
 refine Pure.w c279 λR hR=>?_
 unfold s279 r279
 (repeat' (first|simp only[EVz,seval,↓reduceIte,EV6,EV7,hx.yes,hx.le0,hx.lt',hx.get,hx.row,hw]|simp only[EVz,seval,↓reduceIte,EV6,EV7,hn]|simp only[EVz,seval,↓reduceIte,EV6,EV7]|(with_reducible intro blk hblk;(try(have hnx:=hblk;simp only[EVK]at hnx;(have hne:=hnx))))|(refine⟨[],rfl,(by simp),rfl,?_⟩)|(refine Zq (ι:=Option Nat) (l) (λi r c=>True) (λi c=>[(0,.lst 4 (l.map Wd.cs)),(3,.own c 9 1 ((l.take i).map (λw=>[AV.str w.text]))),(4,.int .i64 i)]) (λi c=>tokS c 9 (i)) (some blk) (by trivial) (Weak.rfl' _ _) (by omega) (λi x r c hok hx hw=>?_) (λc hok hn=>?_))|(refine cV (n:=i) (m':=(i+1)) (by exact bI) (by simp;have:=hx.lt;omega) (by omega) (by omega) rfl (by assumption) (by have:=hx.lt;omega) (λgn=>?_))|(refine af hx gn ?_ (by simp only[hx.take,map_append,map_cons,map_nil];exact Weak.rfl' _ _))|fail))
 (all_goals(((refine hR _ _ (Or.inl (Or.inr ⟨rfl,?_⟩));simp[kf,Function.comp_def];done))))
end
theorem nc (l:List Wd):(l.map Wd.text).all bQ=l.all wdOk:=by simp only[all_map];rfl
theorem ia (l:List Wd):dU (l.map Wd.text)=aS l:=by unfold dU aS;rw[nc,length_map]
def fI (c:UInt8):Bool:=decide ((48:Int)<=c.toNat)&&decide ((c.toNat:Int)<=57)
def isUp (c:UInt8):Bool:=decide ((65:Int)<=c.toNat)&&decide ((c.toNat:Int)<=90)
def je (c:UInt8):Bool:=decide ((97:Int)<=c.toNat)&&decide ((c.toNat:Int)<=122)
def eB (c:UInt8):Bool:=je c||(fI c||decide ((c.toNat:Int)=45))
def d9 (s:List UInt8):Bool:=decide ((1:Int)<=s.length)&&(decide ((s.length:Int)<=16)&&(je (s.getD 0 0)&&s.all eB))
def digN:List UInt8->Nat
 |[]=>0
 |c::s=>if fI c then digN s+1 else 0
theorem kh:∀s:List UInt8,digN s<=s.length
 |[]=>Nat.le_refl _
 |c::s=>by unfold digN;have:=kh s;split<;>simp<;>omega
def bC (s:List UInt8):Bool:=decide ((1:Int)<=digN s)&&(decide ((digN s:Int)<=4)&&(!decide (((s.getD 0 0).toNat:Int)=48)&&(decide (((s.length-digN s:Nat):Int)<=3)&&(s.drop (digN s)).all isUp)))
def fd (i:Nat) (s:Stp):Bool:=(decide (i=0)&&(decide (s.kind=0)&&decide (s.label=[])))||(decide (1<=s.kind)&&(decide (s.kind<=7)&&bC s.label))
def co:Nat->List Stp->Bool
 |_,[]=>true
 |i,s::l=>fd i s&&co (i+1) l
def cC (p:List Stp):Bool:=decide ((p.length:Int)<=9)&&co 0 p
def jv (s:Sta):Bool:=
 if s.kind=1 then inR s.day 0 1048576&&decide (s.event=[])else if s.kind=3 then decide (s.day=0)&&d9 s.event else if s.kind=0\/s.kind=2 then decide (s.day=0)&&decide (s.event=[])else false
section
variable (G:Glob)
theorem f271 (l:List Wd) (hl:l.length<1000000):Pure G Tryz.prog 271 [.lst 4 (l.map Wd.cs)] (.bool (aS l)):=by
 refine Pure.w c271 λR hR=>?_
 unfold s271 r271
 (repeat' (first|(with_reducible (refine ag (λh=>?_) (λh=>?_))<;>(try simp only[Da,Db,Dc,Dw,De,Df,Dg,Dh]at h))|(with_reducible first|refine ab (f279 G _ hl) ?_|refine ab (f198 G (l.map Wd.text) (by simp;omega)) ?_)|simp only[EVz,seval,↓reduceIte,EV6,EV7,ia]|fail))
 (all_goals(first|(exact RET.eq hR rfl)|(refine RET.eq hR ?_;(refine congrArg AV.bool (Bool.eq_iff_iff.2 ?_);simp only[aS,EVB]at*;omega))))
theorem f268 (l:List Wd) (hl:l.length<1000000) (ht:∀w∈l,w.text.length<1000000000000000000):Pure G Tryz.prog 268 [.lst 4 (l.map Wd.cs)] (.bool (aS l)):=by
 refine Pure.w c268 λR hR=>?_
 unfold s268 r268
 (repeat' (first|(with_reducible (refine ae (λh=>?_) (λh=>?_))<;>(try simp only[Da,Db,Dc,Dw,De,Df,Dg,Dh]at h))|(with_reducible refine ab (f278 G _ (by have:=ht _ hx.mem;omega)) ?_)|simp only[EVz,seval,↓reduceIte,EV6,EV7,hx.yes,hx.le0,hx.lt',hx.get,hx.row,hw]|simp only[EVz,seval,↓reduceIte,EV6,EV7,hn]|simp only[EVz,seval,↓reduceIte,EV6,EV7]|(refine af hx () ?_ (Weak.rfl' _ _))|(refine Zq (l) (λi r (c:Unit)=>l.all wdOk=r.all wdOk) (λi c=>[(0,.lst 4 (l.map Wd.cs)),(3,.int .i64 i)]) (λ_ _=>[]) () (by rfl) (Weak.rfl' _ _) (by omega) (λi x r c hok hx hw=>?_) (λc hok hn=>?_))|fail))
 (all_goals(first|(refine RET.eq hR ?_;first|(simp only[aS,wdOk,hok,h,EVC,decide_true,decide_false];done)|(simp only[aS,wdOk,hok,EVC,decide_true,decide_false];done))|(rw[hok];simp only[aS,wdOk,h,EVC,decide_true,decide_false];done)))
theorem f85 (l:List Wd) (hl:l.length<1000000):Pure G Tryz.prog 85 [.lst 4 (l.map Wd.cs)] (.bool (aS l)):=by
 refine Pure.w c85 λR hR=>?_
 unfold s85 r85
 (repeat' (first|(with_reducible (refine ag (λh=>?_) (λh=>?_))<;>(try simp only[Da,Db,Dc,Dw,De,Df,Dg,Dh]at h))|simp only[EVz,seval,↓reduceIte,EV6,EV7,ia,hx.yes,hx.le0,hx.lt',hx.get,hx.row,hw]|simp only[EVz,seval,↓reduceIte,EV6,EV7,ia,hn]|simp only[EVz,seval,↓reduceIte,EV6,EV7,ia]|(with_reducible intro blk hblk;(try(have hnx:=hblk;simp only[EVK]at hnx;(have hne:=hnx))))|(refine Zq (ι:=Option Nat) (l) (λi r c=>True) (λi c=>[(0,.lst 4 (l.map Wd.cs)),(3,.own c 9 1 ((l.take i).map (λw=>[AV.str w.text]))),(6,.lst 4 (l.map Wd.cs)),(7,.int .i64 l.length),(8,.int .i64 i)]) (λi c=>tokS c 9 (i)) (none) (by trivial) (Weak.of (by simp[cQ,Env.get,AVle,aP]) (SubN.refl _)) (by omega) (λi x r c hok hx hw=>?_) (λc hok hn=>?_))|(refine cV (n:=i) (m':=(i+1)) (by exact bT (by assumption)) (by simp;have:=hx.lt;omega) (by omega) (by omega) rfl (by assumption) (by have:=hx.lt;omega) (λgn=>?_))|(refine af hx gn ?_ (by simp only[hx.take,map_append,map_cons,map_nil];exact Weak.rfl' _ _))|(refine aC (f158 G (l.map Wd.text) (by simp;omega)) ⟨.inl (.inr ⟨rfl,by simp[Function.comp_def,kf]⟩),trivial⟩ ?_)|fail))
 (all_goals(first|(exact RET.eq hR rfl)|(refine RET.eq hR ?_;(refine congrArg AV.bool (Bool.eq_iff_iff.2 ?_);simp only[aS,EVB]at*;omega))))
theorem f141 (s:List UInt8):Pure G Tryz.prog 141 [.str s] (.bool (d9 s)):=by
 refine Pure.w c141 λR hR=>?_
 unfold s141 r141
 (repeat' (first|(with_reducible (first|refine ae (λh=>?_) (λh=>?_)|refine ag (λh=>?_) (λh=>?_))<;>(try simp only[Da,Db,Dc,Dw,De,Df,Dg,Dh]at h))|(with_reducible refine AI (by omega) ?_)|simp only[EVz,seval,↓reduceIte,EV6,EV7,hx.yes,hx.le0,hx.lt',hx.get,hx.row,hw]|simp only[EVz,seval,↓reduceIte,EV6,EV7,hn]|simp only[EVz,seval,↓reduceIte,EV6,EV7]|(refine af hx () ?_ (Weak.rfl' _ _))|(refine Zq (s) (λi r (c:Unit)=>s.all eB=r.all eB) (λi c=>[(0,.str s),(3,.int .i64 i)]) (λ_ _=>[]) () (by rfl) (Weak.rfl' _ _) (by omega) (λi x r c hok hx hw=>?_) (λc hok hn=>?_))|(exfalso;omega)|fail))
 (all_goals(first|(refine RET.eq hR ?_;(refine congrArg AV.bool (Bool.eq_iff_iff.2 ?_);simp only[d9,eB,je,fI,EVB]at*;omega))|(refine RET.eq hR ?_;first|(simp_all[d9,eB,je,fI];done)|(simp_all[d9,eB,je,fI];omega))|(rw[hok];simp only[d9,eB,je,fI,h,EVC,decide_true,decide_false];done)|(simp_all[d9,eB,je,fI];done)))
theorem f199 (s:List UInt8) (hs:s.length<1000000000000000000):Pure G Tryz.prog 199 [.str s] (.int .i64 (digN s)):=by
 refine Pure.w c199 λR hR=>?_
 unfold s199 r199
 (repeat' (first|(with_reducible (first|refine ae (λh=>?_) (λh=>?_)|refine ag (λh=>?_) (λh=>?_))<;>(try simp only[Da,Db,Dc,Dw,De,Df,Dg,Dh]at h))|simp only[EVz,seval,↓reduceIte,EV6,EV7,hx.yes,hx.le0,hx.lt',hx.get,hx.row,hw]|simp only[EVz,seval,↓reduceIte,EV6,EV7,hn]|simp only[EVz,seval,↓reduceIte,EV6,EV7]|(refine af hx () ?_ (Weak.rfl' _ _))|(refine Zq (s) (λi r (c:Unit)=>digN s=i+digN r) (λi c=>[(0,.str s),(3,.int .i64 i)]) (λ_ _=>[]) () (by((simp;done))) (Weak.rfl' _ _) (by omega) (λi x r c hok hx hw=>?_) (λc hok hn=>?_))|fail))
 ·have e:digN s=i+1+digN r:=by
   rw[hok,digN,if_pos (by simp[fI];omega)]
   omega
  exact e
 ·have e:digN s=i:=by rw[hok,digN,if_neg (by simp[fI];omega)];rfl
  exact RET.eq hR (by rw[e])
 ·have e:digN s=i:=by rw[hok,digN,if_neg (by simp[fI];omega)];rfl
  exact RET.eq hR (by rw[e])
 ·exact RET.eq hR (by rw[hok];simp[digN])
theorem f142 (s:Sta):Pure G Tryz.prog 142 [.agg [.int .i64 s.kind,.int .i64 s.day,.str s.event]] (.bool (jv s)):=by
 refine Pure.w c142 λR hR=>?_
 unfold s142 r142
 (repeat' (first|(with_reducible (first|refine ae (λh=>?_) (λh=>?_)|refine ag (λh=>?_) (λh=>?_))<;>(try simp only[Da,Db,Dc,Dw,De,Df,Dg,Dh]at h))|(with_reducible first|refine ab (f137 G _ _ _) ?_|refine ab (f141 G _) ?_)|simp only[EVz,seval,↓reduceIte,EV6,EV7]|(exfalso;omega)|fail))
 (all_goals(((refine RET.eq hR ?_;((simp_all[jv];done))))))
end
end Go.Av
