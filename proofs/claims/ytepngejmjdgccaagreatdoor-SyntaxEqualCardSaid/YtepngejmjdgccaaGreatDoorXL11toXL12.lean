/-
  LINT, 11: trees: size, depth, number.
-/
import Derived.Test.YtepngejmjdgccaaGreatDoorXL9toXL10
import Derived.Lib.MinMax
namespace Go.Av
open Go Go.RowKit Go.Proofs
set_option linter.unusedSimpArgs false
set_option linter.unusedVariables false
mutual
def U.size:U->Int->Int->Int
 |⟨_,_,_,_,_,ks⟩,d,m=>if 20<d then m+1 else U.sizes ks d m 1
def U.sizes:List U->Int->Int->Int->Int
 |[],_,_,n=>n
 |u::us,d,m,n=>if n<=m then U.sizes us d m (n+U.size u (d+1) (m-n))else n
end
theorem U.size_eq (u:U) (d m:Int):u.size d m=if 20<d then m+1 else U.sizes u.kids d m 1:=by cases u;rw[U.size]
theorem U.size_ok:∀(u:U) (d m:Int),0<=m->1<=u.size d m/\u.size d m<=m+1/\(u.size d m<=m->d<=20/\(u.flat.length:Int)=u.size d m):=by
 refine U.ind λu ih d m hm=>?_
 rw[U.size_eq]
 split
 ·exact⟨by omega,by omega,by omega⟩
 ·rename_i hd
  have key:∀(us:List U) (n:Int),(∀k∈us,k∈u.kids)->1<=n->n<=m+1->n<=U.sizes us d m n/\U.sizes us d m n<=m+1/\(U.sizes us d m n<=m->n+((U.flats us).length:Int)=U.sizes us d m n):=by
   intro us
   induction us with
   |nil=>intro n _ h1 h2;simp[U.sizes,U.flats];omega
   |cons k us ihu=>
    intro n hk h1 h2
    rw[U.sizes]
    split
    ·rename_i hn
     obtain⟨a1,a2,a3⟩:=ih k (hk k (by simp)) (d+1) (m-n) (by omega)
     obtain⟨b1,b2,b3⟩:=ihu (n+k.size (d+1) (m-n)) (λq hq=>hk q (by simp[hq])) (by omega) (by omega)
     refine⟨by omega,b2,λh=>?_⟩
     have c1:=(a3 (by omega)).2
     have c2:=b3 h
     rw[U.flats,List.length_append]
     omega
    ·exact⟨by omega,by omega,by omega⟩
  obtain⟨k1,k2,k3⟩:=key u.kids 1 (λ_ h=>h) (by omega) (by omega)
  refine⟨by omega,k2,λh=>⟨by omega,?_⟩⟩
  have:=k3 h
  rw[U.flat_eq,List.length_cons]
  omega
def shortW (l:List Wd):Bool:=(l.all λw=>decide ((w.text.length:Int)<=100))&&decide ((l.length:Int)<=300)
mutual
def U.shorts:U->Bool
 |⟨_,_,l,h,w,ks⟩=>decide ((l.length:Int)<=30)&&(shortW h&&(shortW w&&U.shortss ks))
def U.shortss:List U->Bool
 |[]=>true
 |u::us=>U.shorts u&&U.shortss us
end
theorem U.shorts_eq (u:U):u.shorts=(decide ((u.label.length:Int)<=30)&&(shortW u.head&&(shortW u.words&&U.shortss u.kids))):=by cases u;rw[U.shorts]
def U.few (u:U) (m:Int):Bool:=decide (u.size 0 m<=m)&&u.shorts
section
variable {G:Glob} {P:Program}
theorem RAW_max {a b:Int} {i j:Nat} {t t':TypeId} {env:Env} {σ:Store} {K:AV->Store->Prop} (hi:env.get i= .int .i64 a) (hj:env.get j= .int .i64 b) (hk:K (.int .i64 (max a b)) σ):
  RAW G P (.call (.mk (.builtin .max) #[.tmp i,.tmp j] #[t,t'])) env σ K ⟨⟩:=by
 refine RAW_quiet _ (λρ w ac op ho hS hE=>?_) hk
 have h1:=hE i
 have h2:=hE j
 rw[hi]at h1
 rw[hj]at h2
 simp only[Rep]at h1 h2
 refine⟨.int .i64 (max a b),?_,by simp only[Rep]⟩
 have e1:ac.eval (.tmp i)= .int .i64 a:=h1
 have e2:ac.eval (.tmp j)= .int .i64 b:=h2
 simp[execOp,ho,resolve,invoke,builtin,e1,e2,Lib.run_max_ints]
end
mutual
def U.fit:U->Prop
 |⟨_,_,l,h,w,ks⟩=>l.length<1000000000000000000/\(h.length<1000000000000000000/\∀x∈h,x.text.length<1000000000000000000)/\(w.length<1000000000000000000/\∀x∈w,x.text.length<1000000000000000000)/\ks.length<1000000000000000000/\U.fits ks
def U.fits:List U->Prop
 |[]=>True
 |u::us=>U.fit u/\U.fits us
end
theorem U.fits_iff:∀{us:List U},U.fits us↔∀k∈us,k.fit
 |[]=>by simp[U.fits]
 |u::us=>by simp[U.fits,U.fits_iff (us:=us)]
theorem U.fit_eq (u:U):u.fit↔u.label.length<1000000000000000000/\(u.head.length<1000000000000000000/\∀x∈u.head,x.text.length<1000000000000000000)/\(u.words.length<1000000000000000000/\∀x∈u.words,x.text.length<1000000000000000000)/\u.kids.length<1000000000000000000/\∀k∈u.kids,k.fit:=by
 cases u
 rw[U.fit,U.fits_iff]
section
variable (G:Glob)
theorem f45:∀(u:U) (d m:Int),u.fit->0<=d->d<=1000->0<=m->m<=1000000->Pure G Tryz.prog 45 [.agg u.cs,.int .i64 d,.int .i64 m] (.int .i64 (u.size d m)):=by
 refine U.ind λu ih d m hfit hd0 hd1 hm0 hm1=>?_
 have hf:=(U.fit_eq u).1 hfit
 have hkl:=hf.2.2.2.1
 refine Pure.w c45 λR hR=>?_
 unfold s45 r45
 have hwm:IntKind.i64.wrap (m+1)=m+1:=wrap_i64 (by omega) (by omega)
 have hwd:IntKind.i64.wrap (d+1)=d+1:=wrap_i64 (by omega) (by omega)
 rw[U.size_eq]at hR
 (repeat' (first|(with_reducible (refine split_case (λh=>?_) (λh=>?_))<;>(try simp only[Da,Db,Dc,Dw,De,Df,Dg,Dh]at h))|(with_reducible refine CALL_pure (ih x hx.mem (d+1) (m-c) (hf.2.2.2.2 x hx.mem) (by omega) (by omega) (by omega) (by omega)) ?_)|simp only[EVz,seval,↓reduceIte,EV6,EV7,hwm,hwd,hx.yes,hx.le0,hx.lt',hx.get,hx.row,hw,hwc]|simp only[EVz,seval,↓reduceIte,EV6,EV7,hwm,hwd,hn]|simp only[EVz,seval,↓reduceIte,EV6,EV7,hwm,hwd]|(refine W_list (ι:=Int) (u.kids) (λi r c=>U.sizes u.kids d m 1=U.sizes r d m c/\1<=c/\c<=m+1) (λi c=>[(1,.int .i64 d),(2,.int .i64 m),(3,.ref u.cs),(7,.int .i64 c),(8,.int .i64 i)]) (λ_ _=>[]) (1) (by((simp;omega))) (Weak.rfl' _ _) (by omega) (λi x r c hok hx hw=>?_) (λc hok hn=>?_)<;>(try(have hwc:IntKind.i64.wrap (m-c)=m-c:=wrap_i64 (by omega) (by omega))))|(refine LK_next hx _ ?_ (Weak.rfl' _ _))))
 ·exact RET.eq hR (by rw[if_pos h])
 ·obtain⟨a1,a2,a3⟩:=U.size_ok x (d+1) (m-c) (by omega)
  have e:IntKind.i64.wrap (c+x.size (d+1) (m-c))=c+x.size (d+1) (m-c):=wrap_i64 (by omega) (by omega)
  rw[e]
  refine⟨?_,by omega,by omega⟩
  rw[hok.1,U.sizes,if_pos h]
 ·exact RET.eq hR (by rw[if_neg (by omega),hok.1,U.sizes,if_neg (by omega)])
 ·exact RET.eq hR (by rw[if_neg (by omega),hok.1,U.sizes])
theorem f76 (l:List Wd) (hl:l.length<1000000000000000000):Pure G Tryz.prog 76 [.lst 4 (l.map Wd.cs)] (.bool (shortW l)):=by
 refine Pure.w c76 λR hR=>?_
 unfold s76 r76
 (repeat' (first|(with_reducible (refine split_case (λh=>?_) (λh=>?_))<;>(try simp only[Da,Db,Dc,Dw,De,Df,Dg,Dh]at h))|simp only[EVz,seval,↓reduceIte,EV6,EV7,hx.yes,hx.le0,hx.lt',hx.get,hx.row,hw]|simp only[EVz,seval,↓reduceIte,EV6,EV7,hn]|simp only[EVz,seval,↓reduceIte,EV6,EV7]|(refine LK_next hx () ?_ (Weak.rfl' _ _))|(refine W_list (l) (λi r (c:Unit)=>(l.all λw=>decide ((w.text.length:Int)<=100))=r.all λw=>decide ((w.text.length:Int)<=100)) (λi c=>[(0,.lst 4 (l.map Wd.cs)),(3,.int .i64 i)]) (λ_ _=>[]) () (by rfl) (Weak.rfl' _ _) (by omega) (λi x r c hok hx hw=>?_) (λc hok hn=>?_))))
 (all_goals(first|(refine RET.eq hR ?_;first|(simp only[shortW,hok,EVC,decide_true,decide_false];done)|(simp_all[shortW];omega))|(rw[hok];simp only[shortW,h,EVC,decide_true,decide_false];done)))
theorem f46:∀(u:U),u.fit->Pure G Tryz.prog 46 [.agg u.cs] (.bool u.shorts):=by
 refine U.ind λu ih hfit=>?_
 have hf:=(U.fit_eq u).1 hfit
 have hkl:=hf.2.2.2.1
 refine Pure.w c46 λR hR=>?_
 unfold s46 r46
 rw[U.shorts_eq]at hR
 (repeat' (first|(with_reducible (first|refine split_case (λh=>?_) (λh=>?_)|refine gd_case (λh=>?_) (λh=>?_))<;>(try simp only[Da,Db,Dc,Dw,De,Df,Dg,Dh]at h))|(with_reducible refine CALL_pure (f76 G _ hf.2.1.1) ?_)|(with_reducible refine CALL_pure (f76 G _ hf.2.2.1.1) ?_)|(with_reducible refine CALL_pure (ih x hx.mem (hf.2.2.2.2 x hx.mem)) ?_)|simp only[EVz,seval,↓reduceIte,EV6,EV7,hx.yes,hx.le0,hx.lt',hx.get,hx.row,hw]|simp only[EVz,seval,↓reduceIte,EV6,EV7,hn]|simp only[EVz,seval,↓reduceIte,EV6,EV7]|(refine LK_next hx () ?_ (Weak.rfl' _ _))|(refine W_list (u.kids) (λi r (c:Unit)=>U.shortss u.kids=U.shortss r) (λi c=>[(1,.ref u.cs),(3,.int .i64 i)]) (λ_ _=>[]) () (by rfl) (Weak.rfl' _ _) (by omega) (λi x r c hok hx hw=>?_) (λc hok hn=>?_))))
 (all_goals(first|(refine RET.eq hR ?_;(refine congrArg AV.bool (Bool.eq_iff_iff.2 ?_);simp only[U.shortss,EVB]at*;omega))|(refine RET.eq hR ?_;first|(simp only[U.shortss,hok,h,EVC,decide_true,decide_false];done)|(simp_all[U.shortss];done))|(rw[hok];simp only[U.shortss,h,EVC,decide_true,decide_false];done)))
theorem f17 (u:U) (m:Int) (hfit:u.fit) (hm0:0<=m) (hm:m<=1000000):Pure G Tryz.prog 17 [.agg u.cs,.int .i64 m] (.bool (u.few m)):=by
 refine Pure.w c17 λR hR=>?_
 unfold s17 r17
 (repeat' (first|(with_reducible (refine gd_case (λh=>?_) (λh=>?_))<;>(try simp only[Da,Db,Dc,Dw,De,Df,Dg,Dh]at h))|(with_reducible refine CALL_pure (f45 G u 0 m hfit (by omega) (by omega) hm0 hm) ?_)|(with_reducible refine CALL_pure (f46 G u hfit) ?_)|simp only[EVz,seval,↓reduceIte,EV6,EV7]))
 (all_goals(first|(refine RET.eq hR ?_;(refine congrArg AV.bool (Bool.eq_iff_iff.2 ?_);simp only[U.few,EVB]at*;omega))|(refine RET.eq hR ?_;((simp_all[U.few];done)))))
def U.Tame (u:U):Prop:=u.fit/\u.flat.length<1000000
theorem U.flats_mem {us:List U} {k:U} (h:k∈us):k.flat.length<=(U.flats us).length:=by
 induction us with
 |nil=>cases h
 |cons a us ih=>
  rw[U.flats,List.length_append]
  rcases List.mem_cons.1 h with rfl|h
  ·omega
  ·have:=ih h;omega
theorem U.flat_pos (u:U):1<=u.flat.length:=by rw[U.flat_eq];simp
theorem U.flats_len (us:List U):us.length<=(U.flats us).length:=by
 induction us with
 |nil=>simp
 |cons a us ih=>rw[U.flats,List.length_append,List.length_cons];have:=a.flat_pos;omega
theorem U.Tame.kid {u k:U} (h:u.Tame) (hk:k∈u.kids):k.Tame:=by
 refine⟨((U.fit_eq u).1 h.1).2.2.2.2 k hk,?_⟩
 have:=U.flats_mem hk
 have h2:=h.2
 rw[U.flat_eq,List.length_cons]at h2
 omega
theorem U.Tame.kids {u:U} (h:u.Tame):u.kids.length<1000000:=by
 have:=U.flats_len u.kids
 have h2:=h.2
 rw[U.flat_eq,List.length_cons]at h2
 omega
def U.cnt (u:U):Int:=u.flat.length
def U.cnts (us:List U):Int:=(U.flats us).length
theorem U.cnt_eq (u:U):u.cnt=1+U.cnts u.kids:=by unfold U.cnt U.cnts;rw[U.flat_eq,List.length_cons];omega
theorem U.cnts_cons (u:U) (us:List U):U.cnts (u::us)=u.cnt+U.cnts us:=by unfold U.cnt U.cnts;rw[U.flats,List.length_append];omega
theorem U.cnts_nil:U.cnts []=0:=rfl
theorem U.cnts_ge (us:List U):0<=U.cnts us:=by unfold U.cnts;omega
theorem U.cnt_ge (u:U):1<=u.cnt:=by have:=u.flat_pos;unfold U.cnt;omega
theorem f82:∀(u:U),u.Tame->Pure G Tryz.prog 82 [.agg u.cs] (.int .i64 u.cnt):=by
 refine U.ind λu ih ht=>?_
 have hkl:=ht.kids
 have hc:=ht.2
 have hce:(u.flat.length:Int)=u.cnt:=rfl
 refine Pure.w c82 λR hR=>?_
 unfold s82 r82
 rw[U.cnt_eq]at hR hce
 (repeat' (first|(with_reducible refine CALL_pure (ih x hx.mem (ht.kid hx.mem)) ?_)|simp only[EVz,seval,↓reduceIte,EV6,EV7,hx.yes,hx.le0,hx.lt',hx.get,hx.row,hw]|simp only[EVz,seval,↓reduceIte,EV6,EV7,hn]|simp only[EVz,seval,↓reduceIte,EV6,EV7]|(refine W_list (ι:=Int) (u.kids) (λi r c=>1+U.cnts u.kids=c+U.cnts r/\1<=c) (λi c=>[(1,.ref u.cs),(3,.int .i64 c),(4,.int .i64 i)]) (λ_ _=>[]) (1) (by((simp;done))) (Weak.rfl' _ _) (by omega) (λi x r c hok hx hw=>?_) (λc hok hn=>?_))|(refine LK_next hx _ ?_ (Weak.rfl' _ _))))
 ·rw[U.cnts_cons]at hok
  have:=U.cnt_ge x
  have:=U.cnts_ge r
  rw[wrap_i64 (by omega) (by omega)]
  omega
 ·exact RET.eq hR (by rw[hok.1,U.cnts_nil];simp)
theorem f78:∀(u:U),u.Tame->Pure G Tryz.prog 78 [.agg u.cs] (.int .i64 u.cnt):=by
 refine U.ind λu ih ht=>?_
 have hkl:=ht.kids
 have hc:=ht.2
 have hce:(u.flat.length:Int)=u.cnt:=rfl
 refine Pure.w c78 λR hR=>?_
 unfold s78 r78
 rw[U.cnt_eq]at hR hce
 (repeat' (first|(with_reducible refine CALL_pure (ih x hx.mem (ht.kid hx.mem)) ?_)|simp only[EVz,seval,↓reduceIte,EV6,EV7,hx.yes,hx.le0,hx.lt',hx.get,hx.row,hw]|simp only[EVz,seval,↓reduceIte,EV6,EV7,hn]|simp only[EVz,seval,↓reduceIte,EV6,EV7]|(refine W_list (ι:=Int) (u.kids) (λi r c=>1+U.cnts u.kids=c+U.cnts r/\1<=c) (λi c=>[(1,.ref u.cs),(3,.int .i64 c),(4,.int .i64 i)]) (λ_ _=>[]) (1) (by((simp;done))) (Weak.rfl' _ _) (by omega) (λi x r c hok hx hw=>?_) (λc hok hn=>?_))|(refine LK_next hx _ ?_ (Weak.rfl' _ _))))
 ·rw[U.cnts_cons]at hok
  have:=U.cnt_ge x
  have:=U.cnts_ge r
  rw[wrap_i64 (by omega) (by omega)]
  omega
 ·exact RET.eq hR (by rw[hok.1,U.cnts_nil];simp)
def U.dep (u:U):Int:=u.deep
def U.deps (us:List U):Int:=U.deeps us
theorem U.dep_eq (u:U):u.dep=U.deps u.kids:=by unfold U.dep U.deps;rw[U.deep_eq]
theorem U.deps_cons (u:U) (us:List U):U.deps (u::us)=max (1+u.dep) (U.deps us):=by unfold U.dep U.deps;rw[U.deeps];omega
theorem U.deps_nil:U.deps []=0:=rfl
theorem U.dep_ge (u:U):0<=u.dep:=by unfold U.dep;omega
theorem U.dep_cnt:∀u:U,u.dep<u.cnt:=by
 refine U.ind λu ih=>?_
 rw[U.dep_eq,U.cnt_eq]
 have key:∀us:List U,(∀k∈us,k.dep<k.cnt)->U.deps us<=U.cnts us:=by
  intro us
  induction us with
  |nil=>intro _;simp[U.deps_nil,U.cnts_nil]
  |cons a us iha=>
   intro h
   have h1:=h a (by simp)
   have h2:=iha λk hk=>h k (by simp[hk])
   rw[U.deps_cons,U.cnts_cons]
   have:=U.cnts_ge us
   have:=U.cnt_ge a
   omega
 have:=key u.kids ih
 omega
theorem f81:∀(u:U),u.Tame->Pure G Tryz.prog 81 [.agg u.cs] (.int .i64 u.dep):=by
 refine U.ind λu ih ht=>?_
 have hkl:=ht.kids
 have hd0:0<=U.deps u.kids:=by rw[←U.dep_eq];exact u.dep_ge
 refine Pure.w c81 λR hR=>?_
 unfold s81 r81
 rw[U.dep_eq]at hR
 (repeat' (first|(with_reducible refine CALL_pure (ih x hx.mem (ht.kid hx.mem)) ?_)|simp only[EVz,seval,↓reduceIte,EV6,EV7,hx.yes,hx.le0,hx.lt',hx.get,hx.row,hw,hwx]|simp only[EVz,seval,↓reduceIte,EV6,EV7,hn]|simp only[EVz,seval,↓reduceIte,EV6,EV7]|(refine W_list (ι:=Int) (u.kids) (λi r c=>U.deps u.kids=max c (U.deps r)/\0<=c) (λi c=>[(1,.ref u.cs),(3,.int .i64 c),(4,.int .i64 i)]) (λ_ _=>[]) (0) (by((simp;omega))) (Weak.rfl' _ _) (by omega) (λi x r c hok hx hw=>?_) (λc hok hn=>?_)<;>(try(have hwx:IntKind.i64.wrap (1+x.dep)=1+x.dep:=wrap_i64 (by have:=x.dep_ge;omega) (by have h1:=x.dep_cnt;have h2:=(ht.kid hx.mem).2;have h3:(x.flat.length:Int)=x.cnt:=rfl;omega))))|(refine LK_next hx _ ?_ (Weak.rfl' _ _))|(refine RAW_max rfl rfl ?_)))
 ·rw[U.deps_cons]at hok;omega
 ·exact RET.eq hR (by rw[hok.1,U.deps_nil,Int.max_eq_left hok.2])
end
theorem idd_dec (a b:Idd):decide (a=b)=(decide (a.act=b.act)&&(decide (a.item=b.item)&&decide (a.n=b.n))):=by
 cases a;cases b
 rw[Bool.eq_iff_iff];simp
theorem U.dec (a b:U):decide (a=b)=((decide (a.id.act=b.id.act)&&(decide (a.id.item=b.id.item)&&decide (a.id.n=b.id.n)))&&(decide (a.kind=b.kind)&&(decide (a.label=b.label)&&(decide (a.head=b.head)&&(decide (a.words=b.words)&&decide (a.kids=b.kids)))))):=by
 rw[←idd_dec]
 cases a;cases b
 rw[Bool.eq_iff_iff];simp
theorem dec_len {α:Type} [DecidableEq α] {a b:List α} (h:a.length≠b.length):decide (a=b)=false:=by
 simp;rintro rfl;exact h rfl
theorem U.fit.kid {u k:U} (h:u.fit) (hk:k∈u.kids):k.fit:=((U.fit_eq u).1 h).2.2.2.2 k hk
section
variable (G:Glob)
theorem f24:∀(a:U),a.fit->∀b:U,Pure G Tryz.prog 24 [.agg a.cs,.agg b.cs] (.bool (decide (a=b))):=by
 refine U.ind λa ih hfit b=>?_
 have hf:=(U.fit_eq a).1 hfit
 have hkl:=hf.2.2.2.1
 refine Pure.w c24 λR hR=>?_
 unfold s24 r24
 rw[U.dec]at hR
 by_cases hl:a.kids.length=b.kids.length
 ·have e0:decide ((a.kids.length:Int)≠(b.kids.length:Int))=false:=by simp[hl]
  (repeat' (first|(with_reducible (first|refine split_case (λh=>?_) (λh=>?_)|refine gd_case (λh=>?_) (λh=>?_))<;>(try simp only[Da,Db,Dc,Dw,De,Df,Dg,Dh]at h))|(with_reducible refine And.intro (by omega) ?_)|(with_reducible refine CALL_pure (f49 G _ _ (by omega)) ?_)|(with_reducible refine CALL_pure (ih x hx.mem (hfit.kid hx.mem) y) ?_)|simp only[EVz,seval,↓reduceIte,EV6,EV7,e0,hx.yes,hx.le0,hx.lt',hx.get,hx.row,hw,hy.row,hy.lt']|simp only[EVz,seval,↓reduceIte,EV6,EV7,e0,hn]|simp only[EVz,seval,↓reduceIte,EV6,EV7,e0]|(with_reducible refine both_case ?_ ?_)|(with_reducible refine same_case ?_)|(refine LK_next hx () ?_ (Weak.rfl' _ _))|(refine W_list (a.kids) (λi r (c:Unit)=>a.kids.length=b.kids.length/\decide (a.kids=b.kids)=decide (r=b.kids.drop i)) (λi c=>[(2,.ref a.cs),(3,.ref b.cs),(5,.int .i64 i)]) (λ_ _=>[]) () (by((simp[*];done))) (Weak.rfl' _ _) (by omega) (λi x r c hok hx hw=>?_) (λc hok hn=>?_)<;>(try(obtain⟨y,r2,hy,hyn,hok⟩:=pair_more hok hx)))))
  (all_goals(first|(refine RET.eq hR ?_;(refine congrArg AV.bool (Bool.eq_iff_iff.2 ?_);simp only[hl,EVB]at*;omega))|(refine RET.eq hR ?_;((simp_all[hl];done)))|(simp_all[hl];done)))
 ·have e0:decide ((a.kids.length:Int)≠(b.kids.length:Int))=true:=by simp;omega
  rw[dec_len hl]at hR
  (repeat' (first|(with_reducible (refine gd_case (λh=>?_) (λh=>?_))<;>(try simp only[Da,Db,Dc,Dw,De,Df,Dg,Dh]at h))|(with_reducible refine CALL_pure (f49 G _ _ (by omega)) ?_)|simp only[EVz,seval,↓reduceIte,EV6,EV7,e0]))
  (all_goals(first|(refine RET.eq hR ?_;(refine congrArg AV.bool (Bool.eq_iff_iff.2 ?_);simp only[EVB]at*;omega))|(refine RET.eq hR ?_;((simp_all[];done)))))
theorem f48 (f:Value) (a b:List U) (ha:a.length<9000000000000000000) (hf:∀x∈a,∀y,VPure G Tryz.prog f [.agg x.cs,.agg y.cs] (.bool (decide (x=y)))):
  Pure G Tryz.prog 48 [.lst 8 (a.map U.cs),.lst 8 (b.map U.cs),.sc f] (.bool (decide (a=b))):=by
 refine Pure.w c48 λR hR=>?_
 unfold s48 r48
 by_cases hl:a.length=b.length
 ·have e0:decide ((a.length:Int)≠(b.length:Int))=false:=by simp[hl]
  (repeat' (first|(with_reducible (refine split_case (λh=>?_) (λh=>?_))<;>(try simp only[Da,Db,Dc,Dw,De,Df,Dg,Dh]at h))|(with_reducible refine And.intro (by omega) ?_)|simp only[EVz,seval,↓reduceIte,EV6,EV7,e0,hx.yes,hx.le0,hx.lt',hx.get,hx.row,hw,hy.row,hy.lt',hne]|simp only[EVz,seval,↓reduceIte,EV6,EV7,e0,hx.yes,hx.le0,hx.lt',hx.get,hx.row,hw,hy.row,hy.lt']|simp only[EVz,seval,↓reduceIte,EV6,EV7,e0,hn]|simp only[EVz,seval,↓reduceIte,EV6,EV7,e0]|(with_reducible intro blk hblk;(try(have hnx:=hblk;simp only[EVK]at hnx;first|(have hne:=And.intro hnx hne)|(have hne:=hnx))))|(refine LK_next hx () ?_ (Weak.sub (SubN.nil _)))|(refine CALL_vpure (hf _ hx.mem y) ?_)|(refine W_list (a) (λi r (c:Unit)=>a.length=b.length/\decide (a=b)=decide (r=b.drop i)) (λi c=>[(1,.lst 8 (b.map U.cs)),(2,.sc f),(15,.lst 8 (a.map U.cs)),(16,.int .i64 a.length),(17,.int .i64 i)]) (λ_ _=>[]) () (by((simp[*];done))) (Weak.rfl' _ _) (by omega) (λi x r c hok hx hw=>?_) (λc hok hn=>?_)<;>(try(obtain⟨y,r2,hy,hyn,hok⟩:=pair_more hok hx)))))
  (all_goals(first|(refine RET.eq hR ?_;((simp_all[hl];done)))|(simp_all[hl];done)))
 ·have e0:decide ((a.length:Int)≠(b.length:Int))=true:=by simp;omega
  rw[dec_len hl]at hR
  (repeat' (simp only[EVz,seval,↓reduceIte,EV6,EV7,e0]))
  (all_goals((exact RET.eq hR rfl)))
theorem f20:∀(a:U),a.fit->∀b:U,Pure G Tryz.prog 20 [.agg a.cs,.agg b.cs] (.bool (decide (a=b))):=by
 refine U.ind λa ih hfit b=>?_
 have hf:=(U.fit_eq a).1 hfit
 have hkl:=hf.2.2.2.1
 refine Pure.w c20 λR hR=>?_
 unfold s20 r20
 rw[U.dec]at hR
 (repeat' (first|(with_reducible (refine gd_case (λh=>?_) (λh=>?_))<;>(try simp only[Da,Db,Dc,Dw,De,Df,Dg,Dh]at h))|(with_reducible refine CALL_pure (f47 G _ _ (by omega)) ?_)|(with_reducible refine CALL_pure (f48 G _ _ _ (by omega) (λx hx y=>(ih x hx (hfit.kid hx) y).v)) ?_)|simp only[EVz,seval,↓reduceIte,EV6,EV7]))
 (all_goals(first|(refine RET.eq hR ?_;(refine congrArg AV.bool (Bool.eq_iff_iff.2 ?_);simp only[EVB]at*;omega))|(refine RET.eq hR ?_;((simp_all[];done)))))
end
end Go.Av
