/-
  LINT, 5: lists that are compared, searched.
-/
import Derived.Test.YtepngejmjdgccaaGreatDoorXC3toXL4
namespace Go.Av
open Go Go.RowKit Go.Proofs
set_option linter.unusedSimpArgs false
set_option linter.unusedVariables false
theorem pair_more {α:Type} [DecidableEq α] {a b:List α} {i:Nat} {x:α} {r:List α} (hok:a.length=b.length/\decide (a=b)=decide (x::r=b.drop i)) (hx:Rest a i x r):
  ∃y r',Rest b i y r'/\b.drop (i+1)=r'/\decide (a=b)=decide (x::r=y::r'):=by
 have h1:=hx.lt
 cases hd:b.drop i with
 |nil=>
  have:=congrArg List.length hd
  simp at this
  omega
 |cons y r'=>exact⟨y,r',left_cons hd,(left_cons hd).next,by rw[hok.2,hd]⟩
section
variable (G:Glob)
theorem f23 (a b:List (List UInt8)) (ha:a.length<9000000000000000000):Pure G Tryz.prog 23 [.lst 1 (a.map srow),.lst 1 (b.map srow)] (.bool (decide (a=b))):=by
 refine Pure.w c23 λR hR=>?_
 unfold s23 r23
 by_cases hl:a.length=b.length
 ·have e0:decide ((a.length:Int)≠(b.length:Int))=false:=by simp[hl]
  (repeat' (first|(with_reducible (refine split_case (λh=>?_) (λh=>?_))<;>(try simp only[Da,Db,Dc,Dw,De,Df,Dg,Dh]at h))|(with_reducible refine And.intro (by omega) ?_)|simp only[EVz,seval,↓reduceIte,EV6,EV7,e0,hx.yes,hx.le0,hx.lt',hx.get,hx.row,hw,hy.row,hy.lt']|simp only[EVz,seval,↓reduceIte,EV6,EV7,e0,hn]|simp only[EVz,seval,↓reduceIte,EV6,EV7,e0]|(refine LK_next hx () ?_ (Weak.rfl' _ _))|(refine W_list (a) (λi r (c:Unit)=>a.length=b.length/\decide (a=b)=decide (r=b.drop i)) (λi c=>[(0,.lst 1 (a.map srow)),(1,.lst 1 (b.map srow)),(5,.int .i64 i)]) (λ_ _=>[]) () (by((simp[*];done))) (Weak.rfl' _ _) (by omega) (λi x r c hok hx hw=>?_) (λc hok hn=>?_)<;>(try(obtain⟨y,r2,hy,hyn,hok⟩:=pair_more hok hx;skip)))))
  (all_goals(first|(refine RET.eq hR ?_;((simp_all[hl];done)))|(simp_all[hl];done)))
 ·have e0:decide ((a.length:Int)≠(b.length:Int))=true:=by simp;omega
  have e1:decide (a=b)=false:=by simp;rintro rfl;exact hl rfl
  rw[e1]at hR
  (repeat' (simp only[EVz,seval,↓reduceIte,EV6,EV7,e0]))
  (all_goals((exact RET.eq hR rfl)))
theorem f22 (a b:List Stp) (ha:a.length<9000000000000000000):Pure G Tryz.prog 22 [.lst 2 (a.map Stp.cs),.lst 2 (b.map Stp.cs)] (.bool (decide (a=b))):=by
 refine Pure.w c22 λR hR=>?_
 unfold s22 r22
 by_cases hl:a.length=b.length
 ·have e0:decide ((a.length:Int)≠(b.length:Int))=false:=by simp[hl]
  (repeat' (first|(with_reducible (refine split_case (λh=>?_) (λh=>?_))<;>(try simp only[Da,Db,Dc,Dw,De,Df,Dg,Dh]at h))|(with_reducible refine And.intro (by omega) ?_)|simp only[EVz,seval,↓reduceIte,EV6,EV7,e0,hx.yes,hx.le0,hx.lt',hx.get,hx.row,hw,hy.row,hy.lt']|simp only[EVz,seval,↓reduceIte,EV6,EV7,e0,hn]|simp only[EVz,seval,↓reduceIte,EV6,EV7,e0]|(refine LK_next hx () ?_ (Weak.rfl' _ _))|(refine W_list (a) (λi r (c:Unit)=>a.length=b.length/\decide (a=b)=decide (r=b.drop i)) (λi c=>[(0,.lst 2 (a.map Stp.cs)),(1,.lst 2 (b.map Stp.cs)),(5,.int .i64 i)]) (λ_ _=>[]) () (by((simp[*];done))) (Weak.rfl' _ _) (by omega) (λi x r c hok hx hw=>?_) (λc hok hn=>?_)<;>(try(obtain⟨y,r2,hy,hyn,hok⟩:=pair_more hok hx;(cases x;cases y))))))
  (all_goals(first|(refine RET.eq hR ?_;first|(simp_all[hl];done)|grind)|(simp_all[hl];done)))
 ·have e0:decide ((a.length:Int)≠(b.length:Int))=true:=by simp;omega
  have e1:decide (a=b)=false:=by simp;rintro rfl;exact hl rfl
  rw[e1]at hR
  (repeat' (simp only[EVz,seval,↓reduceIte,EV6,EV7,e0]))
  (all_goals((exact RET.eq hR rfl)))
theorem f49 (a b:List Wd) (ha:a.length<9000000000000000000):Pure G Tryz.prog 49 [.lst 4 (a.map Wd.cs),.lst 4 (b.map Wd.cs)] (.bool (decide (a=b))):=by
 refine Pure.w c49 λR hR=>?_
 unfold s49 r49
 by_cases hl:a.length=b.length
 ·have e0:decide ((a.length:Int)≠(b.length:Int))=false:=by simp[hl]
  (repeat' (first|(with_reducible (refine split_case (λh=>?_) (λh=>?_))<;>(try simp only[Da,Db,Dc,Dw,De,Df,Dg,Dh]at h))|(with_reducible refine And.intro (by omega) ?_)|simp only[EVz,seval,↓reduceIte,EV6,EV7,e0,hx.yes,hx.le0,hx.lt',hx.get,hx.row,hw,hy.row,hy.lt']|simp only[EVz,seval,↓reduceIte,EV6,EV7,e0,hn]|simp only[EVz,seval,↓reduceIte,EV6,EV7,e0]|(refine LK_next hx () ?_ (Weak.rfl' _ _))|(refine W_list (a) (λi r (c:Unit)=>a.length=b.length/\decide (a=b)=decide (r=b.drop i)) (λi c=>[(0,.lst 4 (a.map Wd.cs)),(1,.lst 4 (b.map Wd.cs)),(5,.int .i64 i)]) (λ_ _=>[]) () (by((simp[*];done))) (Weak.rfl' _ _) (by omega) (λi x r c hok hx hw=>?_) (λc hok hn=>?_)<;>(try(obtain⟨y,r2,hy,hyn,hok⟩:=pair_more hok hx;(cases x;cases y))))))
  (all_goals(first|(refine RET.eq hR ?_;first|(simp_all[hl];done)|grind)|(simp_all[hl];done)))
 ·have e0:decide ((a.length:Int)≠(b.length:Int))=true:=by simp;omega
  have e1:decide (a=b)=false:=by simp;rintro rfl;exact hl rfl
  rw[e1]at hR
  (repeat' (simp only[EVz,seval,↓reduceIte,EV6,EV7,e0]))
  (all_goals((exact RET.eq hR rfl)))
theorem f19 (a b:List (List UInt8)) (ha:a.length<9000000000000000000):Pure G Tryz.prog 19 [.lst 1 (a.map srow),.lst 1 (b.map srow)] (.bool (decide (a=b))):=by
 refine Pure.w c19 λR hR=>?_
 unfold s19 r19
 by_cases hl:a.length=b.length
 ·have e0:decide ((a.length:Int)≠(b.length:Int))=false:=by simp[hl]
  (repeat' (first|(with_reducible (refine split_case (λh=>?_) (λh=>?_))<;>(try simp only[Da,Db,Dc,Dw,De,Df,Dg,Dh]at h))|(with_reducible refine And.intro (by omega) ?_)|simp only[EVz,seval,↓reduceIte,EV6,EV7,e0,hx.yes,hx.le0,hx.lt',hx.get,hx.row,hw,hy.row,hy.lt']|simp only[EVz,seval,↓reduceIte,EV6,EV7,e0,hn]|simp only[EVz,seval,↓reduceIte,EV6,EV7,e0]|(refine LK_next hx () ?_ (Weak.rfl' _ _))|(refine W_list (a) (λi r (c:Unit)=>a.length=b.length/\decide (a=b)=decide (r=b.drop i)) (λi c=>[(0,.lst 1 (a.map srow)),(1,.lst 1 (b.map srow)),(12,.int .i64 a.length),(13,.int .i64 i)]) (λ_ _=>[]) () (by((simp[*];done))) (Weak.rfl' _ _) (by omega) (λi x r c hok hx hw=>?_) (λc hok hn=>?_)<;>(try(obtain⟨y,r2,hy,hyn,hok⟩:=pair_more hok hx;skip)))))
  (all_goals(first|(refine RET.eq hR ?_;((simp_all[hl];done)))|(simp_all[hl];done)))
 ·have e0:decide ((a.length:Int)≠(b.length:Int))=true:=by simp;omega
  have e1:decide (a=b)=false:=by simp;rintro rfl;exact hl rfl
  rw[e1]at hR
  (repeat' (simp only[EVz,seval,↓reduceIte,EV6,EV7,e0]))
  (all_goals((exact RET.eq hR rfl)))
theorem f18 (a b:List Stp) (ha:a.length<9000000000000000000):Pure G Tryz.prog 18 [.lst 2 (a.map Stp.cs),.lst 2 (b.map Stp.cs)] (.bool (decide (a=b))):=by
 refine Pure.w c18 λR hR=>?_
 unfold s18 r18
 by_cases hl:a.length=b.length
 ·have e0:decide ((a.length:Int)≠(b.length:Int))=false:=by simp[hl]
  (repeat' (first|(with_reducible (refine split_case (λh=>?_) (λh=>?_))<;>(try simp only[Da,Db,Dc,Dw,De,Df,Dg,Dh]at h))|(with_reducible refine And.intro (by omega) ?_)|simp only[EVz,seval,↓reduceIte,EV6,EV7,e0,hx.yes,hx.le0,hx.lt',hx.get,hx.row,hw,hy.row,hy.lt']|simp only[EVz,seval,↓reduceIte,EV6,EV7,e0,hn]|simp only[EVz,seval,↓reduceIte,EV6,EV7,e0]|(refine LK_next hx () ?_ (Weak.rfl' _ _))|(refine W_list (a) (λi r (c:Unit)=>a.length=b.length/\decide (a=b)=decide (r=b.drop i)) (λi c=>[(0,.lst 2 (a.map Stp.cs)),(1,.lst 2 (b.map Stp.cs)),(12,.int .i64 a.length),(13,.int .i64 i)]) (λ_ _=>[]) () (by((simp[*];done))) (Weak.rfl' _ _) (by omega) (λi x r c hok hx hw=>?_) (λc hok hn=>?_)<;>(try(obtain⟨y,r2,hy,hyn,hok⟩:=pair_more hok hx;(cases x;cases y))))))
  (all_goals(first|(refine RET.eq hR ?_;first|(simp_all[hl];done)|grind)|(simp_all[hl];done)))
 ·have e0:decide ((a.length:Int)≠(b.length:Int))=true:=by simp;omega
  have e1:decide (a=b)=false:=by simp;rintro rfl;exact hl rfl
  rw[e1]at hR
  (repeat' (simp only[EVz,seval,↓reduceIte,EV6,EV7,e0]))
  (all_goals((exact RET.eq hR rfl)))
theorem f47 (a b:List Wd) (ha:a.length<9000000000000000000):Pure G Tryz.prog 47 [.lst 4 (a.map Wd.cs),.lst 4 (b.map Wd.cs)] (.bool (decide (a=b))):=by
 refine Pure.w c47 λR hR=>?_
 unfold s47 r47
 by_cases hl:a.length=b.length
 ·have e0:decide ((a.length:Int)≠(b.length:Int))=false:=by simp[hl]
  (repeat' (first|(with_reducible (refine split_case (λh=>?_) (λh=>?_))<;>(try simp only[Da,Db,Dc,Dw,De,Df,Dg,Dh]at h))|(with_reducible refine And.intro (by omega) ?_)|simp only[EVz,seval,↓reduceIte,EV6,EV7,e0,hx.yes,hx.le0,hx.lt',hx.get,hx.row,hw,hy.row,hy.lt']|simp only[EVz,seval,↓reduceIte,EV6,EV7,e0,hn]|simp only[EVz,seval,↓reduceIte,EV6,EV7,e0]|(refine LK_next hx () ?_ (Weak.rfl' _ _))|(refine W_list (a) (λi r (c:Unit)=>a.length=b.length/\decide (a=b)=decide (r=b.drop i)) (λi c=>[(0,.lst 4 (a.map Wd.cs)),(1,.lst 4 (b.map Wd.cs)),(12,.int .i64 a.length),(13,.int .i64 i)]) (λ_ _=>[]) () (by((simp[*];done))) (Weak.rfl' _ _) (by omega) (λi x r c hok hx hw=>?_) (λc hok hn=>?_)<;>(try(obtain⟨y,r2,hy,hyn,hok⟩:=pair_more hok hx;(cases x;cases y))))))
  (all_goals(first|(refine RET.eq hR ?_;first|(simp_all[hl];done)|grind)|(simp_all[hl];done)))
 ·have e0:decide ((a.length:Int)≠(b.length:Int))=true:=by simp;omega
  have e1:decide (a=b)=false:=by simp;rintro rfl;exact hl rfl
  rw[e1]at hR
  (repeat' (simp only[EVz,seval,↓reduceIte,EV6,EV7,e0]))
  (all_goals((exact RET.eq hR rfl)))
end
def idxF {α:Type} (p:α->Bool):Nat->List α->Int
 |_,[]=>-1
 |i,x::r=>if p x then (i:Int)else idxF p (i+1) r
theorem idxF_ge {α:Type} (p:α->Bool):∀(l:List α) (i:Nat),decide (0<=idxF p i l)=l.any p
 |[],i=>rfl
 |x::r,i=>by
  unfold idxF
  cases h:p x with
  |true=>simp[h]
  |false=>simp[h];simpa using idxF_ge p r (i+1)
def seqOk (l:List (List UInt8)):Bool:=decide ((l.length:Int)<=256)&&l.all wordOk
def irow (n:Int):List AV:=[.int .i64 n]
section
variable (G:Glob)
end
theorem appX_oneF {e:TypeId} {sz bytes:Nat} {σ:Store} {g:Option Nat} {rows ys:List (List AV)} {K:AV->Store->Prop} (κ:Store) (hg:∀b,g=some b->σ.get b=some (.tok e (rows.length*sz))) (hb:Fits (rows.length+ys.length) bytes)
  (hκ:SubN κ (σ.erase g)) (hk:∀g',(∀b,g'=some b->b∉κ.keys)->K (.own g' e sz (rows++ys)) (κ++tokS g' e ((rows++ys).length*sz))):appX e sz bytes σ g rows ys K:=by
 refine⟨hg,hb,λg' _ hg'=>⟨κ++tokS g' e ((rows++ys).length*sz),⟨?_,?_⟩,hk g' (λb hb hm=>hg' b hb (keys_sub hκ.1 hm))⟩⟩
 ·intro p hp
  rcases List.mem_append.1 hp with hp|hp
  ·exact List.mem_append.2 (.inr (hκ.1 p hp))
  ·exact List.mem_append.2 (.inl hp)
 ·intro hn
  rw[keys_append]at hn ⊢
  obtain⟨n1,n2,n3⟩:=List.nodup_append.1 hn
  exact List.nodup_append.2 ⟨hκ.2 n2,n1,λx hx y hy e=>n3 y hy x (keys_sub hκ.1 hx) e.symm⟩
theorem appX_one {e:TypeId} {sz bytes:Nat} {σ:Store} {g:Option Nat} {rows ys:List (List AV)} {K:AV->Store->Prop} (κ:Store) (hg:∀b,g=some b->σ.get b=some (.tok e (rows.length*sz))) (hb:(rows.length+ys.length)*bytes<=140737488355328)
  (hκ:SubN κ (σ.erase g)) (hk:∀g',(∀b,g'=some b->b∉κ.keys)->K (.own g' e sz (rows++ys)) (κ++tokS g' e ((rows++ys).length*sz))):appX e sz bytes σ g rows ys K:=appX_oneF κ hg (.inl hb) hκ hk
theorem app_row {e:TypeId} {sz bytes n m m':Nat} {τ:Store} {g:Option Nat} {rows:List (List AV)} {cs:List AV} {K:AV->Store->Prop} {b k1:Nat} (hτ:∀d,g=some d->τ.get d=some (.tok e m)) (hr:rows.length=n) (hm:m=n*sz) (hm':m'=(n+1)*sz) (hl:cs.length=sz)
  (hb:b∉τ.keys) (hn:(n+1)*bytes<=140737488355328) (hk:∀g',K (.own g' e sz (rows++[cs])) (tokS g' e m')):
  ∃rs:List (List AV),rs.length=1/\(∀r∈rs,r.length=sz)/\rs.flatten=cs/\appX e sz bytes ((b,.tok e k1)::τ) g rows rs K:=by
 subst hm hm' hr
 refine⟨[cs],rfl,by simpa using hl,by simp,appX_one [] (λd hd=>?_) (by simpa using hn) (SubN.nil _) (λg' _=>by simpa using hk g')⟩
 have h1:=hτ d hd
 have:¬b=d:=by
  rintro rfl
  exact hb (List.mem_map.2 ⟨_,Store.get_mem h1,rfl⟩)
 simp only[Store.get,if_neg this]
 exact h1
theorem Weak.sub {G:Glob} {env:Env} {σ σ':Store} (hs:SubN σ' σ):Weak G env σ env σ':=λρ w tmps hS hE=>⟨hS.subN hs,Ev.of_sub hs.1 w,λj=>Rep.ev (Ev.of_sub hs.1 w) _ _ (hE j)⟩
theorem tok_get {g:Option Nat} {e:TypeId} {k:Nat}:∀d,g=some d->(tokS g e k).get d=some (.tok e k):=by
 rintro d rfl;simp[tokS,Store.get]
section
variable (G:Glob)
theorem f55 (l:List (List UInt8)) (hl:l.length<9000000000000000000):Pure G Tryz.prog 55 [.lst 1 (l.map srow)] (.bool (seqOk l)):=by
 refine Pure.w c55 λR hR=>?_
 unfold s55 r55
 (repeat' (first|(with_reducible (refine split_case (λh=>?_) (λh=>?_))<;>(try simp only[Da,Db,Dc,Dw,De,Df,Dg,Dh]at h))|(with_reducible refine CALL_pure (f85 G _) ?_)|simp only[EVz,seval,↓reduceIte,EV6,EV7,hx.yes,hx.le0,hx.lt',hx.get,hx.row,hw]|simp only[EVz,seval,↓reduceIte,EV6,EV7,hn]|simp only[EVz,seval,↓reduceIte,EV6,EV7]|(refine LK_next hx () ?_ (Weak.rfl' _ _))|(refine W_list (l) (λi r (c:Unit)=>l.all wordOk=r.all wordOk) (λi c=>[(0,.lst 1 (l.map srow)),(3,.int .i64 i)]) (λ_ _=>[]) () (by rfl) (Weak.rfl' _ _) (by omega) (λi x r c hok hx hw=>?_) (λc hok hn=>?_))))
 (all_goals(first|(refine RET.eq hR ?_;(refine congrArg AV.bool (Bool.eq_iff_iff.2 ?_);simp only[seqOk,EVB]at*;omega))|(refine RET.eq hR ?_;((simp only[seqOk,hok,h,EVC,decide_true,decide_false];done)))|(rw[hok];simp only[seqOk,h,EVC,decide_true,decide_false];done)))
theorem f222 (s:List UInt8) (hs:s.length<9000000000000000000):Pure G Tryz.prog 222 [.str s] (.bool (wordOk s)):=by
 refine Pure.w c222 λR hR=>?_
 unfold s222 r222
 (repeat' (first|(with_reducible (first|refine split_case (λh=>?_) (λh=>?_)|refine gd_case (λh=>?_) (λh=>?_))<;>(try simp only[Da,Db,Dc,Dw,De,Df,Dg,Dh]at h))|simp only[EVz,seval,↓reduceIte,EV6,EV7,hx.yes,hx.le0,hx.lt',hx.get,hx.row,hw]|simp only[EVz,seval,↓reduceIte,EV6,EV7,hn]|simp only[EVz,seval,↓reduceIte,EV6,EV7]|(refine LK_next hx () ?_ (Weak.rfl' _ _))|(refine W_list (s) (λi r (c:Unit)=>s.all okCh=r.all okCh) (λi c=>[(0,.str s),(3,.int .i64 i)]) (λ_ _=>[]) () (by rfl) (Weak.rfl' _ _) (by omega) (λi x r c hok hx hw=>?_) (λc hok hn=>?_))))
 (all_goals(first|(refine RET.eq hR ?_;(refine congrArg AV.bool (Bool.eq_iff_iff.2 ?_);simp only[wordOk,okCh,EVB]at*;omega))|(refine RET.eq hR ?_;first|(simp only[wordOk,okCh,hok,h,EVC,decide_true,decide_false];done)|(simp_all[wordOk,okCh];omega))|(simp_all[wordOk,okCh];done)))
theorem f31 (l:List (List UInt8)) (n:Int) (hl:l.length<9000000000000000000):Pure G Tryz.prog 31 [.lst 1 (l.map srow),.int .i64 n] (.bool (seqOk l&&decide (n<=(l.length:Int)))):=by
 refine Pure.w c31 λR hR=>?_
 unfold s31 r31
 (repeat' (first|(with_reducible (refine gd_case (λh=>?_) (λh=>?_))<;>(try simp only[Da,Db,Dc,Dw,De,Df,Dg,Dh]at h))|(with_reducible refine CALL_pure (f55 G _ hl) ?_)|simp only[EVz,seval,↓reduceIte,EV6,EV7]))
 (all_goals(((refine RET.eq hR ?_;((simp_all[];done))))))
def wdOk (w:Wd):Bool:=wordOk w.text
def rowOk (l:List Wd):Bool:=decide ((l.length:Int)<=256)&&l.all wdOk
theorem f223 (l:List Wd) (hl:l.length<1000000):Pure G Tryz.prog 223 [.lst 4 (l.map Wd.cs)] (.lst 1 ((l.map Wd.text).map srow)):=by
 refine Pure.w c223 λR hR=>?_
 unfold s223 r223
 (repeat' (first|simp only[EVz,seval,↓reduceIte,EV6,EV7,hx.yes,hx.le0,hx.lt',hx.get,hx.row,hw]|simp only[EVz,seval,↓reduceIte,EV6,EV7,hn]|simp only[EVz,seval,↓reduceIte,EV6,EV7]|(with_reducible intro blk hblk;(try(have hnx:=hblk;simp only[EVK]at hnx;(have hne:=hnx))))|(refine⟨[],rfl,(by simp),rfl,?_⟩)|(refine W_list (ι:=Option Nat) (l) (λi r c=>True) (λi c=>[(0,.lst 4 (l.map Wd.cs)),(3,.own c 9 1 ((l.take i).map (λw=>[AV.str w.text]))),(4,.int .i64 i)]) (λi c=>tokS c 9 (i)) (some blk) (by trivial) (Weak.rfl' _ _) (by omega) (λi x r c hok hx hw=>?_) (λc hok hn=>?_))|(refine app_row (n:=i) (m':=(i+1)) (by exact tok_get) (by simp;have:=hx.lt;omega) (by omega) (by omega) rfl (by assumption) (by have:=hx.lt;omega) (λgn=>?_))|(refine LK_next hx gn ?_ (by simp only[hx.take,List.map_append,List.map_cons,List.map_nil];exact Weak.rfl' _ _))))
 (all_goals(((refine hR _ _ (Or.inl (Or.inr ⟨rfl,?_⟩));simp[srow_eq,Function.comp_def];done))))
end
theorem all_map_text (l:List Wd):(l.map Wd.text).all wordOk=l.all wdOk:=by simp only[List.all_map];rfl
theorem seq_texts (l:List Wd):seqOk (l.map Wd.text)=rowOk l:=by unfold seqOk rowOk;rw[all_map_text,List.length_map]
def isDig (c:UInt8):Bool:=decide ((48:Int)<=c.toNat)&&decide ((c.toNat:Int)<=57)
def isUp (c:UInt8):Bool:=decide ((65:Int)<=c.toNat)&&decide ((c.toNat:Int)<=90)
def isLow (c:UInt8):Bool:=decide ((97:Int)<=c.toNat)&&decide ((c.toNat:Int)<=122)
def nameCh (c:UInt8):Bool:=isLow c||(isDig c||decide ((c.toNat:Int)=45))
def nameOk (s:List UInt8):Bool:=decide ((1:Int)<=s.length)&&(decide ((s.length:Int)<=16)&&(isLow (s.getD 0 0)&&s.all nameCh))
def digN:List UInt8->Nat
 |[]=>0
 |c::s=>if isDig c then digN s+1 else 0
theorem digN_le:∀s:List UInt8,digN s<=s.length
 |[]=>Nat.le_refl _
 |c::s=>by unfold digN;have:=digN_le s;split<;>simp<;>omega
def labelOk (s:List UInt8):Bool:=decide ((1:Int)<=digN s)&&(decide ((digN s:Int)<=4)&&(!decide (((s.getD 0 0).toNat:Int)=48)&&(decide (((s.length-digN s:Nat):Int)<=3)&&(s.drop (digN s)).all isUp)))
def stepOk (i:Nat) (s:Stp):Bool:=(decide (i=0)&&(decide (s.kind=0)&&decide (s.label=[])))||(decide (1<=s.kind)&&(decide (s.kind<=7)&&labelOk s.label))
def stepsOk:Nat->List Stp->Bool
 |_,[]=>true
 |i,s::l=>stepOk i s&&stepsOk (i+1) l
def addrOk (p:List Stp):Bool:=decide ((p.length:Int)<=9)&&stepsOk 0 p
def startOk (s:Sta):Bool:=
 if s.kind=1 then inR s.day 0 1048576&&decide (s.event=[])else if s.kind=3 then decide (s.day=0)&&nameOk s.event else if s.kind=0\/s.kind=2 then decide (s.day=0)&&decide (s.event=[])else false
section
variable (G:Glob)
theorem f181 (l:List Wd) (hl:l.length<1000000):Pure G Tryz.prog 181 [.lst 4 (l.map Wd.cs)] (.bool (rowOk l)):=by
 refine Pure.w c181 λR hR=>?_
 unfold s181 r181
 (repeat' (first|(with_reducible (refine gd_case (λh=>?_) (λh=>?_))<;>(try simp only[Da,Db,Dc,Dw,De,Df,Dg,Dh]at h))|(with_reducible refine CALL_pure (f223 G _ hl) ?_)|(with_reducible refine CALL_pure (f55 G (l.map Wd.text) (by simp;omega)) ?_)|simp only[EVz,seval,↓reduceIte,EV6,EV7,seq_texts]))
 (all_goals(first|(exact RET.eq hR rfl)|(refine RET.eq hR ?_;(refine congrArg AV.bool (Bool.eq_iff_iff.2 ?_);simp only[rowOk,EVB]at*;omega))))
theorem f179 (l:List Wd) (hl:l.length<1000000) (ht:∀w∈l,w.text.length<1000000000000000000):Pure G Tryz.prog 179 [.lst 4 (l.map Wd.cs)] (.bool (rowOk l)):=by
 refine Pure.w c179 λR hR=>?_
 unfold s179 r179
 (repeat' (first|(with_reducible (refine split_case (λh=>?_) (λh=>?_))<;>(try simp only[Da,Db,Dc,Dw,De,Df,Dg,Dh]at h))|(with_reducible refine CALL_pure (f222 G _ (by have:=ht _ hx.mem;omega)) ?_)|simp only[EVz,seval,↓reduceIte,EV6,EV7,hx.yes,hx.le0,hx.lt',hx.get,hx.row,hw]|simp only[EVz,seval,↓reduceIte,EV6,EV7,hn]|simp only[EVz,seval,↓reduceIte,EV6,EV7]|(refine LK_next hx () ?_ (Weak.rfl' _ _))|(refine W_list (l) (λi r (c:Unit)=>l.all wdOk=r.all wdOk) (λi c=>[(0,.lst 4 (l.map Wd.cs)),(3,.int .i64 i)]) (λ_ _=>[]) () (by rfl) (Weak.rfl' _ _) (by omega) (λi x r c hok hx hw=>?_) (λc hok hn=>?_))))
 (all_goals(first|(refine RET.eq hR ?_;first|(simp only[rowOk,wdOk,hok,h,EVC,decide_true,decide_false];done)|(simp only[rowOk,wdOk,hok,EVC,decide_true,decide_false];done))|(rw[hok];simp only[rowOk,wdOk,h,EVC,decide_true,decide_false];done)))
theorem f27 (s:List UInt8):Pure G Tryz.prog 27 [.str s] (.bool (nameOk s)):=by
 refine Pure.w c27 λR hR=>?_
 unfold s27 r27
 (repeat' (first|(with_reducible (first|refine split_case (λh=>?_) (λh=>?_)|refine gd_case (λh=>?_) (λh=>?_))<;>(try simp only[Da,Db,Dc,Dw,De,Df,Dg,Dh]at h))|(with_reducible refine And.intro (by omega) ?_)|simp only[EVz,seval,↓reduceIte,EV6,EV7,hx.yes,hx.le0,hx.lt',hx.get,hx.row,hw]|simp only[EVz,seval,↓reduceIte,EV6,EV7,hn]|simp only[EVz,seval,↓reduceIte,EV6,EV7]|(refine LK_next hx () ?_ (Weak.rfl' _ _))|(refine W_list (s) (λi r (c:Unit)=>s.all nameCh=r.all nameCh) (λi c=>[(0,.str s),(3,.int .i64 i)]) (λ_ _=>[]) () (by rfl) (Weak.rfl' _ _) (by omega) (λi x r c hok hx hw=>?_) (λc hok hn=>?_))|(exfalso;omega)))
 (all_goals(first|(refine RET.eq hR ?_;(refine congrArg AV.bool (Bool.eq_iff_iff.2 ?_);simp only[nameOk,nameCh,isLow,isDig,EVB]at*;omega))|(refine RET.eq hR ?_;first|(simp_all[nameOk,nameCh,isLow,isDig];done)|(simp_all[nameOk,nameCh,isLow,isDig];omega))|(rw[hok];simp only[nameOk,nameCh,isLow,isDig,h,EVC,decide_true,decide_false];done)|(simp_all[nameOk,nameCh,isLow,isDig];done)))
theorem f56 (s:List UInt8) (hs:s.length<1000000000000000000):Pure G Tryz.prog 56 [.str s] (.int .i64 (digN s)):=by
 refine Pure.w c56 λR hR=>?_
 unfold s56 r56
 (repeat' (first|(with_reducible (first|refine split_case (λh=>?_) (λh=>?_)|refine gd_case (λh=>?_) (λh=>?_))<;>(try simp only[Da,Db,Dc,Dw,De,Df,Dg,Dh]at h))|simp only[EVz,seval,↓reduceIte,EV6,EV7,hx.yes,hx.le0,hx.lt',hx.get,hx.row,hw]|simp only[EVz,seval,↓reduceIte,EV6,EV7,hn]|simp only[EVz,seval,↓reduceIte,EV6,EV7]|(refine LK_next hx () ?_ (Weak.rfl' _ _))|(refine W_list (s) (λi r (c:Unit)=>digN s=i+digN r) (λi c=>[(0,.str s),(3,.int .i64 i)]) (λ_ _=>[]) () (by((simp;done))) (Weak.rfl' _ _) (by omega) (λi x r c hok hx hw=>?_) (λc hok hn=>?_))))
 ·have e:digN s=i+1+digN r:=by
   rw[hok,digN,if_pos (by simp[isDig];omega)]
   omega
  exact e
 ·have e:digN s=i:=by rw[hok,digN,if_neg (by simp[isDig];omega)];rfl
  exact RET.eq hR (by rw[e])
 ·have e:digN s=i:=by rw[hok,digN,if_neg (by simp[isDig];omega)];rfl
  exact RET.eq hR (by rw[e])
 ·exact RET.eq hR (by rw[hok];simp[digN])
theorem f28 (s:Sta):Pure G Tryz.prog 28 [.agg [.int .i64 s.kind,.int .i64 s.day,.str s.event]] (.bool (startOk s)):=by
 refine Pure.w c28 λR hR=>?_
 unfold s28 r28
 (repeat' (first|(with_reducible (first|refine split_case (λh=>?_) (λh=>?_)|refine gd_case (λh=>?_) (λh=>?_))<;>(try simp only[Da,Db,Dc,Dw,De,Df,Dg,Dh]at h))|(with_reducible refine CALL_pure (f6 G _ _ _) ?_)|(with_reducible refine CALL_pure (f27 G _) ?_)|simp only[EVz,seval,↓reduceIte,EV6,EV7]|(exfalso;omega)))
 (all_goals(((refine RET.eq hR ?_;((simp_all[startOk];done))))))
end
end Go.Av
