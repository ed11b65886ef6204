/-
  LINT, 5: lists that are compared, searched.
-/
import Derived.Test.YtnoakpkjccigoaaGreatDoorXC3toXL4
namespace Go.Av
open Go Go.RowKit Go.Proofs List
set_option linter.unusedSimpArgs false
set_option linter.unusedVariables false
theorem dv {α:Type} [DecidableEq α] {a b:List α} {i:Nat} {x:α} {r:List α} (hok:a.length=b.length/\decide (a=b)=decide (x::r=b.drop i)) (hx:Rest a i x r):
  ∃y r',Rest b i y r'/\b.drop (i+1)=r'/\decide (a=b)=decide (x::r=y::r'):=by
 have h1:=hx.lt
 cases hd:b.drop i with
 |nil=>
  have:=congrArg List.length hd
  simp at this
  omega
 |cons y r'=>exact⟨y,r',gk hd,(gk hd).next,by rw[hok.2,hd]⟩
section
variable (G:Glob)
theorem f42 (a b:List Wd) (ha:a.length<9000000000000000000):Pure G Tryz.prog 42 [.lst 4 (a.map Wd.cs),.lst 4 (b.map Wd.cs)] (.bool (decide (a=b))):=by
 refine Pure.w c42 λR hR=>?_
 unfold s42 r42
 by_cases hl:a.length=b.length
 ·have e0:decide ((a.length:Int)≠(b.length:Int))=false:=by simp[hl]
  (repeat' (first|(with_reducible (refine ab (λh=>?_) (λh=>?_))<;>(try simp only[Da,Db,Dc,Dw,De,Df,Dg,Dh]at h))|(with_reducible refine AI (by omega) ?_)|simp only[EVz,seval,↓reduceIte,EV6,EV7,e0,hx.yes,hx.le0,hx.lt',hx.get,hx.row,hw,hy.row,hy.lt']|simp only[EVz,seval,↓reduceIte,EV6,EV7,e0,hn]|simp only[EVz,seval,↓reduceIte,EV6,EV7,e0]|(refine ap hx () ?_ (Weak.rfl' _ _))|(refine ay (a) (λi r (c:Unit)=>a.length=b.length/\decide (a=b)=decide (r=b.drop i)) (λi c=>[(0,.lst 4 (a.map Wd.cs)),(1,.lst 4 (b.map Wd.cs)),(5,.int .i64 i)]) (λ_ _=>[]) () (by((simp[*];done))) (Weak.rfl' _ _) (by omega) (λi x r c hok hx hw=>?_) (λc hok hn=>?_)<;>(try(obtain⟨y,r2,hy,hyn,hok⟩:=dv hok hx;(cases x;cases y))))|fail))
  (all_goals(first|(refine RET.eq hR ?_;first|(simp_all[hl];done)|grind)|(simp_all[hl];done)))
 ·have e0:decide ((a.length:Int)≠(b.length:Int))=true:=by simp;omega
  have e1:decide (a=b)=false:=by simp;rintro rfl;exact hl rfl
  rw[e1]at hR
  (repeat' (simp only[EVz,seval,↓reduceIte,EV6,EV7,e0]))
  (all_goals((exact RET.eq hR rfl)))
theorem f192 (a b:List (List UInt8)) (ha:a.length<9000000000000000000):Pure G Tryz.prog 192 [.lst 1 (a.map srow),.lst 1 (b.map srow)] (.bool (decide (a=b))):=by
 refine Pure.w c192 λR hR=>?_
 unfold s192 r192
 by_cases hl:a.length=b.length
 ·have e0:decide ((a.length:Int)≠(b.length:Int))=false:=by simp[hl]
  (repeat' (first|(with_reducible (refine ab (λh=>?_) (λh=>?_))<;>(try simp only[Da,Db,Dc,Dw,De,Df,Dg,Dh]at h))|(with_reducible refine AI (by omega) ?_)|simp only[EVz,seval,↓reduceIte,EV6,EV7,e0,hx.yes,hx.le0,hx.lt',hx.get,hx.row,hw,hy.row,hy.lt']|simp only[EVz,seval,↓reduceIte,EV6,EV7,e0,hn]|simp only[EVz,seval,↓reduceIte,EV6,EV7,e0]|(refine ap hx () ?_ (Weak.rfl' _ _))|(refine ay (a) (λi r (c:Unit)=>a.length=b.length/\decide (a=b)=decide (r=b.drop i)) (λi c=>[(0,.lst 1 (a.map srow)),(1,.lst 1 (b.map srow)),(12,.int .i64 a.length),(13,.int .i64 i)]) (λ_ _=>[]) () (by((simp[*];done))) (Weak.rfl' _ _) (by omega) (λi x r c hok hx hw=>?_) (λc hok hn=>?_)<;>(try(obtain⟨y,r2,hy,hyn,hok⟩:=dv hok hx;skip)))|fail))
  (all_goals(first|(refine RET.eq hR ?_;((simp_all[hl];done)))|(simp_all[hl];done)))
 ·have e0:decide ((a.length:Int)≠(b.length:Int))=true:=by simp;omega
  have e1:decide (a=b)=false:=by simp;rintro rfl;exact hl rfl
  rw[e1]at hR
  (repeat' (simp only[EVz,seval,↓reduceIte,EV6,EV7,e0]))
  (all_goals((exact RET.eq hR rfl)))
theorem f191 (a b:List Stp) (ha:a.length<9000000000000000000):Pure G Tryz.prog 191 [.lst 2 (a.map Stp.cs),.lst 2 (b.map Stp.cs)] (.bool (decide (a=b))):=by
 refine Pure.w c191 λR hR=>?_
 unfold s191 r191
 by_cases hl:a.length=b.length
 ·have e0:decide ((a.length:Int)≠(b.length:Int))=false:=by simp[hl]
  (repeat' (first|(with_reducible (refine ab (λh=>?_) (λh=>?_))<;>(try simp only[Da,Db,Dc,Dw,De,Df,Dg,Dh]at h))|(with_reducible refine AI (by omega) ?_)|simp only[EVz,seval,↓reduceIte,EV6,EV7,e0,hx.yes,hx.le0,hx.lt',hx.get,hx.row,hw,hy.row,hy.lt']|simp only[EVz,seval,↓reduceIte,EV6,EV7,e0,hn]|simp only[EVz,seval,↓reduceIte,EV6,EV7,e0]|(refine ap hx () ?_ (Weak.rfl' _ _))|(refine ay (a) (λi r (c:Unit)=>a.length=b.length/\decide (a=b)=decide (r=b.drop i)) (λi c=>[(0,.lst 2 (a.map Stp.cs)),(1,.lst 2 (b.map Stp.cs)),(12,.int .i64 a.length),(13,.int .i64 i)]) (λ_ _=>[]) () (by((simp[*];done))) (Weak.rfl' _ _) (by omega) (λi x r c hok hx hw=>?_) (λc hok hn=>?_)<;>(try(obtain⟨y,r2,hy,hyn,hok⟩:=dv hok hx;(cases x;cases y))))|fail))
  (all_goals(first|(refine RET.eq hR ?_;first|(simp_all[hl];done)|grind)|(simp_all[hl];done)))
 ·have e0:decide ((a.length:Int)≠(b.length:Int))=true:=by simp;omega
  have e1:decide (a=b)=false:=by simp;rintro rfl;exact hl rfl
  rw[e1]at hR
  (repeat' (simp only[EVz,seval,↓reduceIte,EV6,EV7,e0]))
  (all_goals((exact RET.eq hR rfl)))
theorem f257 (a b:List Wd) (ha:a.length<9000000000000000000):Pure G Tryz.prog 257 [.lst 4 (a.map Wd.cs),.lst 4 (b.map Wd.cs)] (.bool (decide (a=b))):=by
 refine Pure.w c257 λR hR=>?_
 unfold s257 r257
 by_cases hl:a.length=b.length
 ·have e0:decide ((a.length:Int)≠(b.length:Int))=false:=by simp[hl]
  (repeat' (first|(with_reducible (refine ab (λh=>?_) (λh=>?_))<;>(try simp only[Da,Db,Dc,Dw,De,Df,Dg,Dh]at h))|(with_reducible refine AI (by omega) ?_)|simp only[EVz,seval,↓reduceIte,EV6,EV7,e0,hx.yes,hx.le0,hx.lt',hx.get,hx.row,hw,hy.row,hy.lt']|simp only[EVz,seval,↓reduceIte,EV6,EV7,e0,hn]|simp only[EVz,seval,↓reduceIte,EV6,EV7,e0]|(refine ap hx () ?_ (Weak.rfl' _ _))|(refine ay (a) (λi r (c:Unit)=>a.length=b.length/\decide (a=b)=decide (r=b.drop i)) (λi c=>[(0,.lst 4 (a.map Wd.cs)),(1,.lst 4 (b.map Wd.cs)),(12,.int .i64 a.length),(13,.int .i64 i)]) (λ_ _=>[]) () (by((simp[*];done))) (Weak.rfl' _ _) (by omega) (λi x r c hok hx hw=>?_) (λc hok hn=>?_)<;>(try(obtain⟨y,r2,hy,hyn,hok⟩:=dv hok hx;(cases x;cases y))))|fail))
  (all_goals(first|(refine RET.eq hR ?_;first|(simp_all[hl];done)|grind)|(simp_all[hl];done)))
 ·have e0:decide ((a.length:Int)≠(b.length:Int))=true:=by simp;omega
  have e1:decide (a=b)=false:=by simp;rintro rfl;exact hl rfl
  rw[e1]at hR
  (repeat' (simp only[EVz,seval,↓reduceIte,EV6,EV7,e0]))
  (all_goals((exact RET.eq hR rfl)))
end
def idxF {α:Type} (p:α->Bool):Nat->List α->Int
 |_,[]=>-1
 |i,x::r=>if p x then (i:Int)else idxF p (i+1) r
theorem d7 {α:Type} (p:α->Bool):∀(l:List α) (i:Nat),decide (0<=idxF p i l)=l.any p
 |[],i=>rfl
 |x::r,i=>by
  unfold idxF
  cases h:p x with
  |true=>simp[h]
  |false=>simp[h];simpa using d7 p r (i+1)
def dq (l:List (List UInt8)):Bool:=decide ((l.length:Int)<=256)&&l.all bf
def irow (n:Int):List AV:=[.int .i64 n]
theorem mo (n:Int):irow n=[.int .i64 n]:=(rfl)
def brow (c:UInt8):List AV:=[.int .u8 c.toNat]
theorem li (l:List UInt8):dQ l=l.map brow:=rfl
theorem mM (c:UInt8):brow c=[.int .u8 c.toNat]:=(rfl)
theorem gw {α:Type} (p:α->Bool) (l:List α):(!l.any λx=>!p x)=l.all p:=by
 induction l with
 |nil=>rfl
 |cons x r ih=>simp[←ih]
section
variable (G:Glob)
theorem f296 (c:UInt8):Pure G Tryz.prog 296 [.int .u8 c.toNat] (.bool (!okCh c)):=by
 refine Pure.w c296 λR hR=>?_
 unfold s296 r296
 (repeat' (first|(with_reducible (refine ai (λh=>?_) (λh=>?_))<;>(try simp only[Da,Db,Dc,Dw,De,Df,Dg,Dh]at h))|simp only[EVz,seval,↓reduceIte,EV6,EV7]|fail))
 (all_goals(((refine RET.eq hR ?_;(refine congrArg AV.bool (Bool.eq_iff_iff.2 ?_);simp only[okCh,EVB]at*;omega)))))
theorem f318 (f:Value) (p:UInt8->Bool) (l:List UInt8) (hl:l.length<9000000000000000000) (hf:∀x∈l,eZ G Tryz.prog f [.int .u8 x.toNat] (.bool (p x))):Pure G Tryz.prog 318 [.lst 1 (l.map brow),.sc f] (.int .i64 (idxF p 0 l)):=by
 refine Pure.w c318 λR hR=>?_
 unfold s318 r318
 (repeat' (first|(with_reducible (refine ab (λh=>?_) (λh=>?_))<;>(try simp only[Da,Db,Dc,Dw,De,Df,Dg,Dh]at h))|simp only[EVz,seval,↓reduceIte,EV6,EV7,mM,hx.yes,hx.le0,hx.lt',hx.get,hx.row,hw]|simp only[EVz,seval,↓reduceIte,EV6,EV7,mM,hn]|simp only[EVz,seval,↓reduceIte,EV6,EV7,mM]|(refine ap hx () ?_ (Weak.rfl' _ _))|(refine ay (l) (λi r (c:Unit)=>idxF p 0 l=idxF p i r) (λi c=>[(0,.lst 1 (l.map brow)),(1,.sc f),(7,.int .i64 l.length),(8,.int .i64 i)]) (λ_ _=>[]) () (by rfl) (Weak.rfl' _ _) (by omega) (λi x r c hok hx hw=>?_) (λc hok hn=>?_))|(refine aI (hf _ hx.mem) ?_)|fail))
 (all_goals(first|(refine RET.eq hR ?_;first|(simp only[idxF,hok,EVC,decide_true,decide_false];done)|(simp_all[idxF];done))|(simp_all[idxF];done)))
theorem f297 (f:Value) (p:UInt8->Bool) (l:List UInt8) (hl:l.length<9000000000000000000) (hf:∀x∈l,eZ G Tryz.prog f [.int .u8 x.toNat] (.bool (p x))):Pure G Tryz.prog 297 [.lst 1 (l.map brow),.sc f] (.bool (l.any p)):=by
 refine Pure.w c297 λR hR=>?_
 unfold s297 r297
 (repeat' (first|(with_reducible refine aa (f318 G f p l hl hf) ?_)|simp only[EVz,seval,↓reduceIte,EV6,EV7]|fail))
 (all_goals(((refine RET.eq hR ?_;((simp_all[d7];done))))))
theorem f295 (f:Value) (p:List UInt8->Bool) (l:List (List UInt8)) (hl:l.length<9000000000000000000) (hf:∀x∈l,eZ G Tryz.prog f [.str x] (.bool (p x))):Pure G Tryz.prog 295 [.lst 1 (l.map srow),.sc f] (.int .i64 (idxF p 0 l)):=by
 refine Pure.w c295 λR hR=>?_
 unfold s295 r295
 (repeat' (first|(with_reducible (refine ab (λh=>?_) (λh=>?_))<;>(try simp only[Da,Db,Dc,Dw,De,Df,Dg,Dh]at h))|simp only[EVz,seval,↓reduceIte,EV6,EV7,hx.yes,hx.le0,hx.lt',hx.get,hx.row,hw]|simp only[EVz,seval,↓reduceIte,EV6,EV7,hn]|simp only[EVz,seval,↓reduceIte,EV6,EV7]|(refine ap hx () ?_ (Weak.rfl' _ _))|(refine ay (l) (λi r (c:Unit)=>idxF p 0 l=idxF p i r) (λi c=>[(0,.lst 1 (l.map srow)),(1,.sc f),(7,.int .i64 l.length),(8,.int .i64 i)]) (λ_ _=>[]) () (by rfl) (Weak.rfl' _ _) (by omega) (λi x r c hok hx hw=>?_) (λc hok hn=>?_))|(refine aI (hf _ hx.mem) ?_)|fail))
 (all_goals(first|(refine RET.eq hR ?_;first|(simp only[idxF,hok,EVC,decide_true,decide_false];done)|(simp_all[idxF];done))|(simp_all[idxF];done)))
theorem f269 (f:Value) (p:List UInt8->Bool) (l:List (List UInt8)) (hl:l.length<9000000000000000000) (hf:∀x∈l,eZ G Tryz.prog f [.str x] (.bool (p x))):Pure G Tryz.prog 269 [.lst 1 (l.map srow),.sc f] (.bool (l.any p)):=by
 refine Pure.w c269 λR hR=>?_
 unfold s269 r269
 (repeat' (first|(with_reducible refine aa (f295 G f p l hl hf) ?_)|simp only[EVz,seval,↓reduceIte,EV6,EV7]|fail))
 (all_goals(((refine RET.eq hR ?_;((simp_all[d7];done))))))
theorem f272 (f:Value) (p:Wd->Bool) (l:List Wd) (hl:l.length<9000000000000000000) (hf:∀x∈l,eZ G Tryz.prog f [.agg x.cs] (.bool (p x))):Pure G Tryz.prog 272 [.lst 4 (l.map Wd.cs),.sc f] (.int .i64 (idxF p 0 l)):=by
 refine Pure.w c272 λR hR=>?_
 unfold s272 r272
 (repeat' (first|(with_reducible (refine ab (λh=>?_) (λh=>?_))<;>(try simp only[Da,Db,Dc,Dw,De,Df,Dg,Dh]at h))|simp only[EVz,seval,↓reduceIte,EV6,EV7,hx.yes,hx.le0,hx.lt',hx.get,hx.row,hw]|simp only[EVz,seval,↓reduceIte,EV6,EV7,hn]|simp only[EVz,seval,↓reduceIte,EV6,EV7]|(refine ap hx () ?_ (Weak.rfl' _ _))|(refine ay (l) (λi r (c:Unit)=>idxF p 0 l=idxF p i r) (λi c=>[(0,.lst 4 (l.map Wd.cs)),(1,.sc f),(7,.int .i64 l.length),(8,.int .i64 i)]) (λ_ _=>[]) () (by rfl) (Weak.rfl' _ _) (by omega) (λi x r c hok hx hw=>?_) (λc hok hn=>?_))|(refine aI (hf _ hx.mem) ?_)|fail))
 (all_goals(first|(refine RET.eq hR ?_;first|(simp only[idxF,hok,EVC,decide_true,decide_false];done)|(simp_all[idxF];done))|(simp_all[idxF];done)))
theorem f225 (f:Value) (p:Wd->Bool) (l:List Wd) (hl:l.length<9000000000000000000) (hf:∀x∈l,eZ G Tryz.prog f [.agg x.cs] (.bool (p x))):Pure G Tryz.prog 225 [.lst 4 (l.map Wd.cs),.sc f] (.bool (l.any p)):=by
 refine Pure.w c225 λR hR=>?_
 unfold s225 r225
 (repeat' (first|(with_reducible refine aa (f272 G f p l hl hf) ?_)|simp only[EVz,seval,↓reduceIte,EV6,EV7]|fail))
 (all_goals(((refine RET.eq hR ?_;((simp_all[d7];done))))))
theorem f266 (l:List Int) (k:Int) (hl:l.length<9000000000000000000):Pure G Tryz.prog 266 [.lst 1 (l.map irow),.int .i64 k] (.int .i64 (idxF (λx=>decide (k=x)) 0 l)):=by
 refine Pure.w c266 λR hR=>?_
 unfold s266 r266
 (repeat' (first|(with_reducible (refine ab (λh=>?_) (λh=>?_))<;>(try simp only[Da,Db,Dc,Dw,De,Df,Dg,Dh]at h))|simp only[EVz,seval,↓reduceIte,EV6,EV7,mo,hx.yes,hx.le0,hx.lt',hx.get,hx.row,hw]|simp only[EVz,seval,↓reduceIte,EV6,EV7,mo,hn]|simp only[EVz,seval,↓reduceIte,EV6,EV7,mo]|(refine ap hx () ?_ (Weak.rfl' _ _))|(refine ay (l) (λi r (c:Unit)=>idxF (λx=>decide (k=x)) 0 l=idxF (λx=>decide (k=x)) i r) (λi c=>[(0,.lst 1 (l.map irow)),(1,.int .i64 k),(7,.int .i64 l.length),(8,.int .i64 i)]) (λ_ _=>[]) () (by rfl) (Weak.rfl' _ _) (by omega) (λi x r c hok hx hw=>?_) (λc hok hn=>?_))|fail))
 (all_goals(first|(refine RET.eq hR ?_;first|(simp only[idxF,hok,EVC,decide_true,decide_false];done)|(simp_all[idxF];done))|(simp_all[idxF];done)))
theorem f213 (l:List Int) (k:Int) (hl:l.length<9000000000000000000):Pure G Tryz.prog 213 [.lst 1 (l.map irow),.int .i64 k] (.bool (l.any λx=>decide (k=x))):=by
 refine Pure.w c213 λR hR=>?_
 unfold s213 r213
 (repeat' (first|(with_reducible refine aa (f266 G l k hl) ?_)|simp only[EVz,seval,↓reduceIte,EV6,EV7]|fail))
 (all_goals(((refine RET.eq hR ?_;((simp_all[d7];done))))))
theorem f271 (s:List UInt8):Pure G Tryz.prog 271 [.str s] (.bool (bf s)):=by
 refine Pure.w c271 λR hR=>?_
 unfold s271 r271
 (repeat' (first|(with_reducible (refine ai (λh=>?_) (λh=>?_))<;>(try simp only[Da,Db,Dc,Dw,De,Df,Dg,Dh]at h))|(with_reducible refine aa (f297 G _ (λc=>!okCh c) s (by omega) (λx _=>(f296 G x).v)) ?_)|simp only[EVz,seval,↓reduceIte,EV6,EV7,li,gw]|(refine mL (l:=s) (elem:=5) rfl (by omega) (by kernel_rfl) (by kernel_rfl) (by kernel_rfl) ?_)|fail))
 all_goals(try have h1:(1:Int)<=s.length:=by have:0<s.length:=length_pos_iff.2 (by assumption);omega)
 (all_goals(first|(refine RET.eq hR ?_;(refine congrArg AV.bool (Bool.eq_iff_iff.2 ?_);simp only[bf,gw,EVB]at*;omega))|(refine RET.eq hR ?_;((simp_all[bf,gw];done)))))
end
theorem appX_oneF {e:TypeId} {sz bytes:Nat} {σ:Store} {g:Option Nat} {rows ys:List (List AV)} {K:AV->Store->Prop} (κ:Store) (hg:∀b,g=some b->σ.get b=some (.tok e (rows.length*sz))) (hb:Fits (rows.length+ys.length) bytes)
  (hκ:SubN κ (σ.erase g)) (hk:∀g',(∀b,g'=some b->b∉κ.keys)->K (.own g' e sz (rows++ys)) (κ++tokS g' e ((rows++ys).length*sz))):appX e sz bytes σ g rows ys K:=by
 refine⟨hg,hb,λg' _ hg'=>⟨κ++tokS g' e ((rows++ys).length*sz),⟨?_,?_⟩,hk g' (λb hb hm=>hg' b hb (ct hκ.1 hm))⟩⟩
 ·intro p hp
  rcases mem_append.1 hp with hp|hp
  ·exact mem_append.2 (.inr (hκ.1 p hp))
  ·exact mem_append.2 (.inl hp)
 ·intro hn
  rw[az]at hn ⊢
  obtain⟨n1,n2,n3⟩:=nodup_append.1 hn
  exact nodup_append.2 ⟨hκ.2 n2,n1,λx hx y hy e=>n3 y hy x (ct hκ.1 hx) e.symm⟩
theorem fM {e:TypeId} {sz bytes:Nat} {σ:Store} {g:Option Nat} {rows ys:List (List AV)} {K:AV->Store->Prop} (κ:Store) (hg:∀b,g=some b->σ.get b=some (.tok e (rows.length*sz))) (hb:(rows.length+ys.length)*bytes<=140737488355328)
  (hκ:SubN κ (σ.erase g)) (hk:∀g',(∀b,g'=some b->b∉κ.keys)->K (.own g' e sz (rows++ys)) (κ++tokS g' e ((rows++ys).length*sz))):appX e sz bytes σ g rows ys K:=appX_oneF κ hg (.inl hb) hκ hk
theorem gi {e:TypeId} {sz bytes n m m':Nat} {τ:Store} {g:Option Nat} {rows:List (List AV)} {cs:List AV} {K:AV->Store->Prop} {b k1:Nat} (hτ:∀d,g=some d->τ.get d=some (.tok e m)) (hr:rows.length=n) (hm:m=n*sz) (hm':m'=(n+1)*sz) (hl:cs.length=sz)
  (hb:b∉τ.keys) (hn:(n+1)*bytes<=140737488355328) (hk:∀g',K (.own g' e sz (rows++[cs])) (tokS g' e m')):
  ∃rs:List (List AV),rs.length=1/\(∀r∈rs,r.length=sz)/\rs.flatten=cs/\appX e sz bytes ((b,.tok e k1)::τ) g rows rs K:=by
 subst hm hm' hr
 refine⟨[cs],rfl,by simpa using hl,by simp,fM [] (λd hd=>?_) (by simpa using hn) (SubN.nil _) (λg' _=>by simpa using hk g')⟩
 have h1:=hτ d hd
 have:¬b=d:=by
  rintro rfl
  exact hb (mem_map.2 ⟨_,Store.get_mem h1,rfl⟩)
 simp only[Store.get,if_neg this]
 exact h1
theorem Weak.sub {G:Glob} {env:Env} {σ σ':Store} (hs:SubN σ' σ):Weak G env σ env σ':=λρ w tmps hS hE=>⟨hS.subN hs,Ev.of_sub hs.1 w,λj=>Rep.ev (Ev.of_sub hs.1 w) _ _ (hE j)⟩
theorem iR {g:Option Nat} {e:TypeId} {k:Nat}:∀d,g=some d->(tokS g e k).get d=some (.tok e k):=by
 rintro d rfl;simp[tokS,Store.get]
theorem d5 {g:Option Nat} {e:TypeId} {k c:Nat} {y:AObj} (hc:c∉(tokS g e k).keys):∀d,g=some d->Store.get ((c,y)::tokS g e k) d=some (.tok e k):=by
 rintro d rfl
 have:¬c=d:=by rintro rfl;exact hc (by simp[tokS,Store.keys])
 simp[tokS,Store.get,this]
theorem lk {g:Option Nat} {e:TypeId} {k c c2:Nat} {y y2:AObj} (hc:c∉(tokS g e k).keys) (hc2:c2∉Store.keys ((c,y)::tokS g e k)):∀d,g=some d->Store.get ((c2,y2)::(c,y)::tokS g e k) d=some (.tok e k):=by
 rintro d rfl
 have h1:¬c=d:=by rintro rfl;exact hc (by simp[tokS,Store.keys])
 have h2:¬c2=d:=by rintro rfl;exact hc2 (by simp[tokS,Store.keys])
 simp[tokS,Store.get,h1,h2]
section
variable (G:Glob)
theorem f270 (s:List UInt8):Pure G Tryz.prog 270 [.str s] (.bool (!bf s)):=by
 refine Pure.w c270 λR hR=>?_
 unfold s270 r270
 (repeat' (first|(with_reducible refine aa (f271 G _) ?_)|simp only[EVz,seval,↓reduceIte,EV6,EV7]|fail))
 (all_goals((exact RET.eq hR rfl)))
theorem f223 (l:List (List UInt8)) (hl:l.length<9000000000000000000):Pure G Tryz.prog 223 [.lst 1 (l.map srow)] (.bool (dq l)):=by
 refine Pure.w c223 λR hR=>?_
 unfold s223 r223
 (repeat' (first|(with_reducible (refine ai (λh=>?_) (λh=>?_))<;>(try simp only[Da,Db,Dc,Dw,De,Df,Dg,Dh]at h))|(with_reducible refine aa (f269 G _ (λc=>!bf c) l hl (λx _=>(f270 G x).v)) ?_)|simp only[EVz,seval,↓reduceIte,EV6,EV7,gw]|fail))
 (all_goals(first|(refine RET.eq hR ?_;(refine congrArg AV.bool (Bool.eq_iff_iff.2 ?_);simp only[dq,gw,EVB]at*;omega))|(refine RET.eq hR ?_;((simp_all[dq,gw];done)))))
theorem f316 (l:List (List UInt8)) (hl:l.length<9000000000000000000):Pure G Tryz.prog 316 [.lst 1 (l.map srow)] (.bool (dq l)):=by
 refine Pure.w c316 λR hR=>?_
 unfold s316 r316
 (repeat' (first|(with_reducible (refine ab (λh=>?_) (λh=>?_))<;>(try simp only[Da,Db,Dc,Dw,De,Df,Dg,Dh]at h))|(with_reducible refine aa (f81 G _) ?_)|simp only[EVz,seval,↓reduceIte,EV6,EV7,hx.yes,hx.le0,hx.lt',hx.get,hx.row,hw]|simp only[EVz,seval,↓reduceIte,EV6,EV7,hn]|simp only[EVz,seval,↓reduceIte,EV6,EV7]|(refine ap hx () ?_ (Weak.rfl' _ _))|(refine ay (l) (λi r (c:Unit)=>l.all bf=r.all bf) (λi c=>[(0,.lst 1 (l.map srow)),(3,.int .i64 i)]) (λ_ _=>[]) () (by rfl) (Weak.rfl' _ _) (by omega) (λi x r c hok hx hw=>?_) (λc hok hn=>?_))|fail))
 (all_goals(first|(refine RET.eq hR ?_;(refine congrArg AV.bool (Bool.eq_iff_iff.2 ?_);simp only[dq,EVB]at*;omega))|(refine RET.eq hR ?_;((simp only[dq,hok,h,EVC,decide_true,decide_false];done)))|(rw[hok];simp only[dq,h,EVC,decide_true,decide_false];done)))
theorem f173 (l:List (List UInt8)) (n:Int) (hl:l.length<9000000000000000000):Pure G Tryz.prog 173 [.lst 1 (l.map srow),.int .i64 n] (.bool (dq l&&decide (n<=(l.length:Int)))):=by
 refine Pure.w c173 λR hR=>?_
 unfold s173 r173
 (repeat' (first|(with_reducible (refine ai (λh=>?_) (λh=>?_))<;>(try simp only[Da,Db,Dc,Dw,De,Df,Dg,Dh]at h))|(with_reducible refine aa (f223 G _ hl) ?_)|simp only[EVz,seval,↓reduceIte,EV6,EV7]|fail))
 (all_goals(((refine RET.eq hR ?_;((simp_all[];done))))))
def wdOk (w:Wd):Bool:=bf w.text
def aU (l:List Wd):Bool:=decide ((l.length:Int)<=256)&&l.all wdOk
theorem f317 (l:List Wd) (hl:l.length<1000000):Pure G Tryz.prog 317 [.lst 4 (l.map Wd.cs)] (.lst 1 ((l.map Wd.text).map srow)):=by
 refine Pure.w c317 λR hR=>?_
 unfold s317 r317
 (repeat' (first|simp only[EVz,seval,↓reduceIte,EV6,EV7,hx.yes,hx.le0,hx.lt',hx.get,hx.row,hw]|simp only[EVz,seval,↓reduceIte,EV6,EV7,hn]|simp only[EVz,seval,↓reduceIte,EV6,EV7]|(with_reducible intro blk hblk;(try(have hnx:=hblk;simp only[EVK]at hnx;(have hne:=hnx))))|(refine⟨[],rfl,(by simp),rfl,?_⟩)|(refine ay (ι:=Option Nat) (l) (λi r c=>True) (λi c=>[(0,.lst 4 (l.map Wd.cs)),(3,.own c 9 1 ((l.take i).map (λw=>[AV.str w.text]))),(4,.int .i64 i)]) (λi c=>tokS c 9 (i)) (some blk) (by trivial) (Weak.rfl' _ _) (by omega) (λi x r c hok hx hw=>?_) (λc hok hn=>?_))|(refine gi (n:=i) (m':=(i+1)) (by exact iR) (by simp;have:=hx.lt;omega) (by omega) (by omega) rfl (by assumption) (by have:=hx.lt;omega) (λgn=>?_))|(refine ap hx gn ?_ (by simp only[hx.take,map_append,map_cons,map_nil];exact Weak.rfl' _ _))|fail))
 (all_goals(((refine hR _ _ (Or.inl (Or.inr ⟨rfl,?_⟩));simp[mc,Function.comp_def];done))))
end
theorem mP (l:List Wd):(l.map Wd.text).all bf=l.all wdOk:=by simp only[all_map];rfl
theorem gQ (l:List Wd):dq (l.map Wd.text)=aU l:=by unfold dq aU;rw[mP,length_map]
def jC (c:UInt8):Bool:=decide ((48:Int)<=c.toNat)&&decide ((c.toNat:Int)<=57)
def isUp (c:UInt8):Bool:=decide ((65:Int)<=c.toNat)&&decide ((c.toNat:Int)<=90)
def isLow (c:UInt8):Bool:=decide ((97:Int)<=c.toNat)&&decide ((c.toNat:Int)<=122)
def kt (c:UInt8):Bool:=isLow c||(jC c||decide ((c.toNat:Int)=45))
def ii (s:List UInt8):Bool:=decide ((1:Int)<=s.length)&&(decide ((s.length:Int)<=16)&&(isLow (s.getD 0 0)&&s.all kt))
def digN:List UInt8->Nat
 |[]=>0
 |c::s=>if jC c then digN s+1 else 0
theorem jO:∀s:List UInt8,digN s<=s.length
 |[]=>Nat.le_refl _
 |c::s=>by unfold digN;have:=jO s;split<;>simp<;>omega
def br (s:List UInt8):Bool:=decide ((1:Int)<=digN s)&&(decide ((digN s:Int)<=4)&&(!decide (((s.getD 0 0).toNat:Int)=48)&&(decide (((s.length-digN s:Nat):Int)<=3)&&(s.drop (digN s)).all isUp)))
def i8 (i:Nat) (s:Stp):Bool:=(decide (i=0)&&(decide (s.kind=0)&&decide (s.label=[])))||(decide (1<=s.kind)&&(decide (s.kind<=7)&&br s.label))
def d8:Nat->List Stp->Bool
 |_,[]=>true
 |i,s::l=>i8 i s&&d8 (i+1) l
def dU (p:List Stp):Bool:=decide ((p.length:Int)<=9)&&d8 0 p
def mJ (s:Sta):Bool:=
 if s.kind=1 then inR s.day 0 1048576&&decide (s.event=[])else if s.kind=3 then decide (s.day=0)&&ii s.event else if s.kind=0\/s.kind=2 then decide (s.day=0)&&decide (s.event=[])else false
section
variable (G:Glob)
theorem f291 (l:List Wd) (hl:l.length<1000000):Pure G Tryz.prog 291 [.lst 4 (l.map Wd.cs)] (.bool (aU l)):=by
 refine Pure.w c291 λR hR=>?_
 unfold s291 r291
 (repeat' (first|(with_reducible (refine ai (λh=>?_) (λh=>?_))<;>(try simp only[Da,Db,Dc,Dw,De,Df,Dg,Dh]at h))|(with_reducible first|refine aa (f317 G _ hl) ?_|refine aa (f316 G (l.map Wd.text) (by simp;omega)) ?_)|simp only[EVz,seval,↓reduceIte,EV6,EV7,gQ]|fail))
 (all_goals(first|(exact RET.eq hR rfl)|(refine RET.eq hR ?_;(refine congrArg AV.bool (Bool.eq_iff_iff.2 ?_);simp only[aU,EVB]at*;omega))))
theorem f293 (l:List Wd) (hl:l.length<1000000):Pure G Tryz.prog 293 [.lst 4 (l.map Wd.cs)] (.bool (aU l)):=by
 refine Pure.w c293 λR hR=>?_
 unfold s293 r293
 (repeat' (first|(with_reducible (refine ai (λh=>?_) (λh=>?_))<;>(try simp only[Da,Db,Dc,Dw,De,Df,Dg,Dh]at h))|simp only[EVz,seval,↓reduceIte,EV6,EV7,gQ,hx.yes,hx.le0,hx.lt',hx.get,hx.row,hw]|simp only[EVz,seval,↓reduceIte,EV6,EV7,gQ,hn]|simp only[EVz,seval,↓reduceIte,EV6,EV7,gQ]|(with_reducible intro blk hblk;(try(have hnx:=hblk;simp only[EVK]at hnx;(have hne:=hnx))))|(refine ay (ι:=Option Nat) (l) (λi r c=>True) (λi c=>[(0,.lst 4 (l.map Wd.cs)),(3,.own c 9 1 ((l.take i).map (λw=>[AV.str w.text]))),(6,.lst 4 (l.map Wd.cs)),(7,.int .i64 l.length),(8,.int .i64 i)]) (λi c=>tokS c 9 (i)) (none) (by trivial) (Weak.of (by simp[eJ,Env.get,AVle,aR]) (SubN.refl _)) (by omega) (λi x r c hok hx hw=>?_) (λc hok hn=>?_))|(refine gi (n:=i) (m':=(i+1)) (by exact d5 (by assumption)) (by simp;have:=hx.lt;omega) (by omega) (by omega) rfl (by assumption) (by have:=hx.lt;omega) (λgn=>?_))|(refine ap hx gn ?_ (by simp only[hx.take,map_append,map_cons,map_nil];exact Weak.rfl' _ _))|(refine aE (f223 G (l.map Wd.text) (by simp;omega)) ⟨.inl (.inr ⟨rfl,by simp[Function.comp_def,mc]⟩),trivial⟩ ?_)|fail))
 (all_goals(first|(exact RET.eq hR rfl)|(refine RET.eq hR ?_;(refine congrArg AV.bool (Bool.eq_iff_iff.2 ?_);simp only[aU,EVB]at*;omega))))
theorem f142 (s:List UInt8) (hs:s.length<1000000000000000000):Pure G Tryz.prog 142 [.str s] (.int .i64 (digN s)):=by
 refine Pure.w c142 λR hR=>?_
 unfold s142 r142
 (repeat' (first|(with_reducible (first|refine ab (λh=>?_) (λh=>?_)|refine ai (λh=>?_) (λh=>?_))<;>(try simp only[Da,Db,Dc,Dw,De,Df,Dg,Dh]at h))|simp only[EVz,seval,↓reduceIte,EV6,EV7,hx.yes,hx.le0,hx.lt',hx.get,hx.row,hw]|simp only[EVz,seval,↓reduceIte,EV6,EV7,hn]|simp only[EVz,seval,↓reduceIte,EV6,EV7]|(refine ap hx () ?_ (Weak.rfl' _ _))|(refine ay (s) (λi r (c:Unit)=>digN s=i+digN r) (λi c=>[(0,.str s),(3,.int .i64 i)]) (λ_ _=>[]) () (by((simp;done))) (Weak.rfl' _ _) (by omega) (λi x r c hok hx hw=>?_) (λc hok hn=>?_))|fail))
 ·have e:digN s=i+1+digN r:=by
   rw[hok,digN,if_pos (by simp[jC];omega)]
   omega
  exact e
 ·have e:digN s=i:=by rw[hok,digN,if_neg (by simp[jC];omega)];rfl
  exact RET.eq hR (by rw[e])
 ·have e:digN s=i:=by rw[hok,digN,if_neg (by simp[jC];omega)];rfl
  exact RET.eq hR (by rw[e])
 ·exact RET.eq hR (by rw[hok];simp[digN])
end
end Go.Av
