/-
  SYNTAX, plain law 0: numerals; texts cut at a sign.
-/
import Derived.Test.YtepngejmjdgccaaGreatDoorXGlobtoXDat
import Derived.Lib.ItoaLen
import Derived.Test.YtepngejmjdgccaaGreatDoorXFrStoXOpI
namespace Go.Av
open Go Go.RowKit
set_option linter.unusedSimpArgs false
set_option linter.unusedVariables false
theorem itoa_small {n:Int} (h0:0<=n) (h1:n<10):Lib.itoa n=[UInt8.ofNat (48+n.toNat)]:=by
 unfold Lib.itoa
 rw[if_neg (by omega),Lib.decDigits_one (by omega)]
theorem itoa_big {n:Int} (h0:10<=n):Lib.itoa n=Lib.itoa (n.tdiv 10)++[UInt8.ofNat (48+(n.tmod 10).toNat)]:=by
 obtain⟨m,rfl⟩:∃m:Nat,n=m:=⟨n.toNat,by omega⟩
 have e1:((m:Int).tdiv 10)=((m / 10:Nat):Int):=by rw[Int.tdiv_eq_ediv_of_nonneg (by omega)];omega
 have e2:((m:Int).tmod 10)=((m % 10:Nat):Int):=by rw[Int.tmod_eq_emod_of_nonneg (by omega)];omega
 rw[e1,e2]
 unfold Lib.itoa
 rw[if_neg (by omega),if_neg (by omega),Int.toNat_natCast,Int.toNat_natCast,Int.toNat_natCast,Lib.decDigits,dif_neg (by omega)]
theorem itN_lt {n:Nat} (h:n<10):Lib.itoa (n:Int)=[UInt8.ofNat (48+n)]:=by
 have:=itoa_small (n:=(n:Int)) (by omega) (by omega)
 simpa using this
theorem itN_ge {n:Nat} (h:10<=n):Lib.itoa (n:Int)=Lib.itoa ((n / 10:Nat):Int)++[UInt8.ofNat (48+n % 10)]:=by
 have:=itoa_big (n:=(n:Int)) (by omega)
 have e1:((n:Int).tdiv 10)=((n / 10:Nat):Int):=by rw[Int.tdiv_eq_ediv_of_nonneg (by omega)];omega
 have e2:((n:Int).tmod 10)=((n % 10:Nat):Int):=by rw[Int.tmod_eq_emod_of_nonneg (by omega)];omega
 rw[this,e1,e2,Int.toNat_natCast]
theorem itN_ne (n:Nat):Lib.itoa (n:Int)≠[]:=by
 by_cases h:n<10
 ·rw[itN_lt h];simp
 ·rw[itN_ge (by omega)];simp
theorem ofNat_dig {n:Nat} (h:n<10):(UInt8.ofNat (48+n)).toNat=48+n:=by
 rw[UInt8.toNat_ofNat'];omega
theorem itN_dig:∀(n:Nat),∀c∈Lib.itoa (n:Int),48<=c.toNat/\c.toNat<=57:=by
 intro n
 induction n using Nat.strongRecOn with
 |ind n ih=>
  intro c hc
  by_cases h:n<10
  ·rw[itN_lt h]at hc
   simp only[List.mem_singleton]at hc
   subst hc
   rw[ofNat_dig h];omega
  ·rw[itN_ge (by omega)]at hc
   rcases List.mem_append.1 hc with hc|hc
   ·exact ih (n / 10) (by omega) c hc
   ·simp only[List.mem_singleton]at hc
    subst hc
    rw[ofNat_dig (Nat.mod_lt n (by omega))];omega
theorem itN_inj:∀n m:Nat,Lib.itoa (n:Int)=Lib.itoa (m:Int)->n=m:=by
 intro n
 induction n using Nat.strongRecOn with
 |ind n ih=>
  intro m h
  by_cases h1:n<10<;>by_cases h2:m<10
  ·rw[itN_lt h1,itN_lt h2]at h
   have:=congrArg UInt8.toNat (List.cons.inj h).1
   rw[ofNat_dig h1,ofNat_dig h2]at this;omega
  ·rw[itN_lt h1,itN_ge (by omega)]at h
   have h3:=congrArg List.length h
   have h4:=List.length_pos_iff.2 (itN_ne (m / 10))
   simp only[List.length_append,List.length_cons,List.length_nil]at h3;omega
  ·rw[itN_lt h2,itN_ge (by omega)]at h
   have h3:=congrArg List.length h
   have h4:=List.length_pos_iff.2 (itN_ne (n / 10))
   simp only[List.length_append,List.length_cons,List.length_nil]at h3;omega
  ·rw[itN_ge (by omega),itN_ge (n:=m) (by omega)]at h
   obtain⟨h3,h4⟩:=List.append_inj' h rfl
   have e:=ih (n / 10) (by omega) _ h3
   have:=congrArg UInt8.toNat (List.cons.inj h4).1
   rw[ofNat_dig (Nat.mod_lt _ (by omega)),ofNat_dig (Nat.mod_lt _ (by omega))]at this
   omega
theorem itoa_inj {n m:Int} (hn:0<=n) (hm:0<=m) (h:Lib.itoa n=Lib.itoa m):n=m:=by
 obtain⟨a,rfl⟩:=Int.eq_ofNat_of_zero_le hn
 obtain⟨b,rfl⟩:=Int.eq_ofNat_of_zero_le hm
 rw[itN_inj _ _ h]
theorem cutP (P:UInt8->Prop):∀{x y s t:List UInt8},(∀c∈x,P c)->(∀c∈y,P c)->(∀c,s.head?=some c->¬P c)->(∀c,t.head?=some c->¬P c)->x++s=y++t->x=y/\s=t
 |[],[],s,t,_,_,_,_,h=>⟨rfl,h⟩
 |[],c::y,s,t,_,hy,hs,_,h=>absurd (hy c (by simp)) (hs c (by rw[List.nil_append]at h;rw[h];rfl))
 |c::x,[],s,t,hx,_,_,ht,h=>absurd (hx c (by simp)) (ht c (by rw[List.nil_append]at h;rw[←h];rfl))
 |c::x,d::y,s,t,hx,hy,hs,ht,h=>by
  simp only[List.cons_append,List.cons.injEq]at h
  obtain⟨rfl,h⟩:=h
  obtain⟨h1,h2⟩:=cutP P (λe he=>hx e (by simp[he])) (λe he=>hy e (by simp[he])) hs ht h
  exact⟨by rw[h1],h2⟩
def Sp (s:List UInt8):Prop:=∀c,s.head?=some c->c=32
theorem Sp.nil:Sp []:=λc h=>by cases h
theorem Sp.cons {s:List UInt8}:Sp (32::s):=λc h=>by cases h;rfl
theorem Sp.app {s t:List UInt8} (hs:Sp s) (ht:Sp t):Sp (s++t):=by
 cases s with
 |nil=>exact ht
 |cons a s=>exact hs
theorem wcut {x y s t:List UInt8} (hx:32∉x) (hy:32∉y) (hs:Sp s) (ht:Sp t) (h:x++s=y++t):x=y/\s=t:=
 cutP (· ≠32) (λc hc e=>hx (e ▸ hc)) (λc hc e=>hy (e ▸ hc)) (λc hc hn=>hn (hs c hc)) (λc hc hn=>hn (ht c hc)) h
theorem itoa_nosp {n:Int} (hn:0<=n):32∉Lib.itoa n:=by
 obtain⟨a,rfl⟩:=Int.eq_ofNat_of_zero_le hn
 intro h
 have:=itN_dig a _ h
 simp at this
theorem ncut {n m:Int} {s t:List UInt8} (hn:0<=n) (hm:0<=m) (hs:Sp s) (ht:Sp t) (h:Lib.itoa n++s=Lib.itoa m++t):n=m/\s=t:=by
 obtain⟨h1,h2⟩:=wcut (itoa_nosp hn) (itoa_nosp hm) hs ht h
 exact⟨itoa_inj hn hm h1,h2⟩
/-! ### quoted texts -/
def escQ (c:UInt8):List UInt8:=if c=34\/c=92 then [92,c]else [c]
def quoT (s:List UInt8):List UInt8:=34::(s.flatMap escQ++[34])
theorem quo_key:∀{x y s t:List UInt8},x.flatMap escQ++34::s=y.flatMap escQ++34::t->x=y/\s=t
 |[],[],s,t,h=>by simpa using h
 |[],d::y,s,t,h=>by
  exfalso
  simp only[List.flatMap_nil,List.nil_append,List.flatMap_cons,escQ]at h
  split at h
  ·simp at h
  ·rename_i hd
   simp only[List.cons_append,List.nil_append,List.cons.injEq]at h
   exact hd (.inl h.1.symm)
 |c::x,[],s,t,h=>by
  exfalso
  simp only[List.flatMap_nil,List.nil_append,List.flatMap_cons,escQ]at h
  split at h
  ·simp at h
  ·rename_i hd
   simp only[List.cons_append,List.nil_append,List.cons.injEq]at h
   exact hd (.inl h.1)
 |c::x,d::y,s,t,h=>by
  simp only[List.flatMap_cons,List.append_assoc,escQ]at h
  split at h<;>split at h
  ·simp only[List.cons_append,List.nil_append,List.cons.injEq,true_and]at h
   obtain⟨h1,h2⟩:=quo_key (x:=x) (y:=y) h.2
   exact⟨by rw[h.1,h1],h2⟩
  ·rename_i hd
   simp only[List.cons_append,List.nil_append,List.cons.injEq]at h
   exact absurd (.inr h.1.symm) hd
  ·rename_i hc _
   simp only[List.cons_append,List.nil_append,List.cons.injEq]at h
   exact absurd (.inr h.1) hc
  ·simp only[List.cons_append,List.nil_append,List.cons.injEq]at h
   obtain⟨h1,h2⟩:=quo_key (x:=x) (y:=y) h.2
   exact⟨by rw[h.1,h1],h2⟩
theorem quo_cut {x y s t:List UInt8} (h:quoT x++s=quoT y++t):x=y/\s=t:=by
 unfold quoT at h
 simp only[List.cons_append,List.append_assoc,List.nil_append,List.cons.injEq,true_and]at h
 exact quo_key h
/-! ### rows of words -/
def flatS (l:List (List UInt8)):List UInt8:=l.flatMap (32:: ·)
def joinT:List (List UInt8)->List UInt8
 |[]=>[]
 |w::l=>w++flatS l
theorem flatS_sp:∀l:List (List UInt8),Sp (flatS l)
 |[]=>Sp.nil
 |_::_=>Sp.cons
theorem flatS_inj:∀{l m:List (List UInt8)},(∀w∈l,32∉w)->(∀w∈m,32∉w)->flatS l=flatS m->l=m
 |[],[],_,_,_=>rfl
 |[],_::_,_,_,h=>by simp[flatS]at h
 |_::_,[],_,_,h=>by simp[flatS]at h
 |w::l,v::m,hl,hm,h=>by
  simp only[flatS,List.flatMap_cons,List.cons_append,List.cons.injEq,true_and]at h
  obtain⟨h1,h2⟩:=wcut (hl w (by simp)) (hm v (by simp)) (flatS_sp l) (flatS_sp m) h
  rw[h1,flatS_inj (λw hw=>hl w (by simp[hw])) (λw hw=>hm w (by simp[hw])) h2]
theorem join_inj {l m:List (List UInt8)} (hl:∀w∈l,32∉w/\w≠[]) (hm:∀w∈m,32∉w/\w≠[]) (h:joinT l=joinT m):l=m:=by
 cases l with
 |nil=>
  cases m with
  |nil=>rfl
  |cons v m=>exact absurd (List.append_eq_nil_iff.1 h.symm).1 (hm v (by simp)).2
 |cons w l=>
  cases m with
  |nil=>exact absurd (List.append_eq_nil_iff.1 h).1 (hl w (by simp)).2
  |cons v m=>
   obtain⟨h1,h2⟩:=wcut (hl w (by simp)).1 (hm v (by simp)).1 (flatS_sp l) (flatS_sp m) h
   rw[h1,flatS_inj (λw hw=>(hl w (by simp[hw])).1) (λw hw=>(hm w (by simp[hw])).1) h2]
end Go.Av
namespace Go.Av
open Go Go.RowKit Go.Proofs
set_option linter.unusedSimpArgs false
set_option linter.unusedVariables false
theorem Itm.ext' {a b:Itm} (h1:a.kind=b.kind) (h2:a.at_=b.at_) (h3:a.to_=b.to_) (h4:a.wh=b.wh) (h5:a.nth=b.nth) (h6:a.unit=b.unit) (h7:a.old=b.old) (h8:a.new=b.new) (h9:a.label=b.label) (h10:a.for_=b.for_)
  (h11:a.start=b.start) (h12:a.act=b.act) (h13:a.item=b.item) (h14:a.day=b.day) (h15:a.event=b.event) (h16:a.by_=b.by_):a=b:=by
 cases a;cases b;simp_all
theorem sta_eq {a b:Sta} (h:(decide (a.kind=b.kind)&&(decide (a.day=b.day)&&(decide (a.event=b.event)&&true)))=true):a=b:=by
 cases a;cases b;simp_all
theorem sta_ne {a b:Sta} (h:(decide (a.kind=b.kind)&&(decide (a.day=b.day)&&(decide (a.event=b.event)&&true)))=false):a≠b:=by
 rintro rfl;simp at h
section
variable (G:Glob)
set_option maxHeartbeats 4000000 in
theorem f12:∀(a:Itm),a.fit->∀b:Itm,Pure G Tryz.prog 12 [.agg a.cs,.agg b.cs] (.bool (decide (a=b))):=by
 refine Itm.ind λa ih hfit b=>?_
 obtain⟨h1,h2,h3,h4,h5,h6,h7⟩:=(Itm.fit_eq a).1 hfit
 refine Pure.w c12 λR hR=>?_
 unfold s12 r12
 (repeat' (first|(with_reducible (first|refine split_case (λh=>?_) (λh=>?_)|refine gd_case (λh=>?_) (λh=>?_))<;>(try simp only[Da,Db,Dc,Dw,De,Df,Dg,Dh]at h))|(with_reducible refine And.intro (by omega) ?_)|(with_reducible refine CALL_pure (f22 G _ _ (by omega)) ?_)|(with_reducible refine CALL_pure (f24 G a.unit h3 b.unit) ?_)|(with_reducible refine CALL_pure (f23 G _ _ (by omega)) ?_)|(with_reducible refine CALL_pure (ih x hx.mem (h7 x hx.mem) y) ?_)|simp only[EVz,seval,↓reduceIte,EV6,EV7,U.cs_fold,hx.yes,hx.le0,hx.lt',hx.get,hx.row,hw,hy.row,hy.lt']|simp only[EVz,seval,↓reduceIte,EV6,EV7,U.cs_fold,hn]|simp only[EVz,seval,↓reduceIte,EV6,EV7,U.cs_fold]|(with_reducible refine both_case ?_ ?_)|(with_reducible refine same_case ?_)|(refine LK_next hx () ?_ (Weak.rfl' _ _))|(refine W_list a.by_ (λi r (c:Unit)=>a.by_.length=b.by_.length/\decide (a.by_=b.by_)=decide (r=b.by_.drop i)) (λi c=>[(2,.ref a.cs),(3,.ref b.cs),(5,.int .i64 i)]) (λ_ _=>[]) () ⟨by omega,by simp⟩ (Weak.rfl' _ _) (by omega) (λi x r c hok hx hw=>?_) (λc hok hn=>?_)<;>(try(obtain⟨y,r2,hy,hyn,hok⟩:=pair_more hok hx)))))
 all_goals first
  |(refine RET.eq hR (congrArg AV.bool (Eq.symm (decide_eq_false ?_)));rintro rfl;exact absurd rfl h)
  |(refine RET.eq hR (congrArg AV.bool (Eq.symm (decide_eq_false ?_)));rintro rfl;simp at h;done)
  |skip
 all_goals first
  |(have hbn:decide (a.by_=b.by_)=false:=by rw[hok];simp[h]
    refine RET.eq hR (congrArg AV.bool (Eq.symm (decide_eq_false ?_)));rintro rfl;simp at hbn;done)
  |(rw[hok,hyn,h];simp;done)
  |(rw[hok,hyn];simp[h];done)
  |(have hby:a.by_=b.by_:=by have:=hok.2;rw[hok.1,List.drop_length]at this;simpa using this
    refine RET.eq hR (congrArg AV.bool (Eq.symm (decide_eq_true ?_)))
    exact Itm.ext' (Classical.not_not.1 (by assumption)) (by assumption) (by assumption) (Classical.not_not.1 (by assumption)) (Classical.not_not.1 (by assumption)) (by assumption) (by assumption) (by assumption) (Classical.not_not.1 (by assumption)) (Classical.not_not.1 (by assumption))
     (sta_eq (by assumption)) (Classical.not_not.1 (by assumption)) (Classical.not_not.1 (by assumption)) (Classical.not_not.1 (by assumption)) (Classical.not_not.1 (by assumption)) hby)
  |trace_state
end
def Itm.just (x:Itm):Itm:=
 if x.kind=0 then {iz with wh:=x.wh,unit:=x.unit}else if x.kind=2\/x.kind=3 then {iz with old:=x.old,new:=x.new,nth:=x.nth}else if x.kind=4 then {iz with new:=x.new}else
 if x.kind=5 then {iz with label:=x.label}else if x.kind=6 then {iz with to_:=x.to_,wh:=x.wh}else if x.kind=7\/x.kind=8\/x.kind=9 then {iz with act:=x.act,item:=x.item,day:=x.day}else
 if x.kind=10 then {iz with event:=x.event,day:=x.day}else if x.kind=11 then {iz with act:=x.act,item:=x.item,by_:=x.by_}else iz
def Itm.told (x:Itm):Itm:=if x.kind<=6 then {x.just with kind:=x.kind,at_:=x.at_,for_:=x.for_,start:=x.start}else {x.just with kind:=x.kind}
section
variable (G:Glob)
set_option maxHeartbeats 4000000 in
theorem f25 (x:Itm) (h0:0<=x.kind) (h11:x.kind<=11):Pure G Tryz.prog 25 [.agg x.cs] (.agg x.told.cs):=by
 refine Pure.w c25 λR hR=>?_
 unfold s25 r25
 have hk:x.kind=0\/x.kind=1\/x.kind=2\/x.kind=3\/x.kind=4\/x.kind=5\/x.kind=6\/x.kind=7\/x.kind=8\/x.kind=9\/x.kind=10\/x.kind=11:=by omega
 rcases hk with hk|hk|hk|hk|hk|hk|hk|hk|hk|hk|hk|hk
 all_goals
  (repeat' (first|simp only[EVz,seval,↓reduceIte,EV6,EV7,hk,hne]|simp only[EVz,seval,↓reduceIte,EV6,EV7,hk]|(with_reducible intro blk hblk;(try(have hnx:=hblk;simp only[EVK]at hnx;first|(have hne:=And.intro hnx hne)|(have hne:=hnx))))))
  refine hR _ _ (Or.inr ?_)
  rw[Itm.cs_eq]
  simp[AVleL,AVle1,Itm.told,Itm.just,iz,hk]
end
structure Itm.Short1 (x:Itm):Prop where
 fit:x.fit
 unit:x.unit.Short
 at_:x.at_.length<1000000
 to_:x.to_.length<1000000
 atl:∀s∈x.at_,s.label.length<1000000000000000000
 tol:∀s∈x.to_,s.label.length<1000000000000000000
 old:x.old.length<1000000
 new:x.new.length<1000000
 label:x.label.length<1000000000000000000
 for_:x.for_.length<1000000000000000000
 start:x.start.event.length<1000000000000000000
 event:x.event.length<1000000000000000000
mutual
def Itm.Shorts:Itm->Prop
 |⟨k,a,t,wh,n,u,o,w,l,f,s,ac,it,d,e,b⟩=>Itm.Short1 ⟨k,a,t,wh,n,u,o,w,l,f,s,ac,it,d,e,b⟩/\Itm.Shortss b
def Itm.Shortss:List Itm->Prop
 |[]=>True
 |x::l=>Itm.Shorts x/\Itm.Shortss l
end
theorem Itm.Shortss_iff:∀{us:List Itm},Itm.Shortss us↔∀k∈us,k.Shorts
 |[]=>by simp[Itm.Shortss]
 |u::us=>by simp[Itm.Shortss,Itm.Shortss_iff (us:=us)]
theorem Itm.Shorts_eq (x:Itm):x.Shorts↔x.Short1/\∀k∈x.by_,k.Shorts:=by
 cases x
 rw[Itm.Shorts,Itm.Shortss_iff]
def okRow (l:List (List UInt8)) (n:Int):Bool:=seqOk l&&decide (n<=(l.length:Int))
def Itm.own (x:Itm) (y:Bool):Bool:=
 if x.kind=0 then inR x.wh 0 3&&(bareOk x.unit&&(decide (x.unit.kind≠0)&&decide ((textOf x.unit).2=0)))
 else if x.kind=2 then okRow x.old 1&&(okRow x.new 0&&inR x.nth 0 256)
 else if x.kind=3 then okRow x.old 0&&(okRow x.new 1&&(inR x.nth 0 256&&(decide (0<(x.old.length:Int))||decide (x.nth=0))))
 else if x.kind=4 then okRow x.new 0
 else if x.kind=5 then labelOk x.label
 else if x.kind=6 then inR x.wh 0 3&&addrOk x.to_
 else if x.kind=7\/x.kind=8\/x.kind=9 then inR x.act 1 1048576&&(inR x.item (-1) 31&&inR x.day 0 1048576)
 else if x.kind=10 then nameOk x.event&&inR x.day 0 1048576
 else if x.kind=11 then inR x.act 1 1048576&&(inR x.item 0 31&&y)
 else true
def Itm.pre (x:Itm):Bool:=(inR x.kind 0 11&&decide (x=x.told))&&(decide (6<x.kind)||(addrOk x.at_&&((decide (x.for_=[])||nameOk x.for_)&&startOk x.start)))
mutual
def Itm.may:Itm->Bool
 |⟨k,a,t,wh,n,u,o,w,l,f,s,ac,it,d,e,b⟩=>Itm.pre ⟨k,a,t,wh,n,u,o,w,l,f,s,ac,it,d,e,b⟩&&Itm.own ⟨k,a,t,wh,n,u,o,w,l,f,s,ac,it,d,e,b⟩ (Itm.mayOne b)
def Itm.mayOne:List Itm->Bool
 |[]=>false
 |x::l=>(l.isEmpty&&inR x.kind 0 6)&&Itm.may x
end
theorem Itm.may_eq (x:Itm):x.may=(x.pre&&x.own (Itm.mayOne x.by_)):=by cases x;rw[Itm.may]
theorem Itm.mayOne_cons (x:Itm) (l:List Itm):Itm.mayOne (x::l)=((l.isEmpty&&inR x.kind 0 6)&&x.may):=by rw[Itm.mayOne]
section
variable (G:Glob)
set_option maxHeartbeats 8000000 in
theorem f13:∀(x:Itm),x.Shorts->Pure G Tryz.prog 13 [.agg x.cs] (.bool x.may):=by
 refine Itm.ind λx ih hs=>?_
 obtain⟨q,hby⟩:=(Itm.Shorts_eq x).1 hs
 refine Pure.w c13 λR hR=>?_
 unfold s13 r13
 rw[Itm.may_eq]at hR
 have hIn:=λn lo hi=>f6 G n lo hi
 by_cases hk:0<=x.kind/\x.kind<=11
 ·have hT:=f25 G x hk.1 hk.2
  have hS:=f12 G x q.fit x.told
  have hkk:x.kind=0\/x.kind=1\/x.kind=2\/x.kind=3\/x.kind=4\/x.kind=5\/x.kind=6\/x.kind=7\/x.kind=8\/x.kind=9\/x.kind=10\/x.kind=11:=by omega
  unfold Itm.pre at hR
  generalize decide (x=x.told)=e at*
  have hrow:∀l:List (List UInt8),l.length<1000000->∀n,Pure G Tryz.prog 31 [.lst 1 (l.map srow),.int .i64 n] (.bool (okRow l n)):=λl hl n=>f31 G l n (by omega)
  have hro:=hrow _ q.old
  have hrn:=hrow _ q.new
  rcases hkk with hk|hk|hk|hk|hk|hk|hk|hk|hk|hk|hk|hk
  all_goals (try (have hne11 : x.kind ≠ 11 := by omega
                  (repeat' (first | (with_reducible (first | refine split_case (fun h => ?_) (fun h => ?_) | refine gd_case (fun h => ?_) (fun h => ?_)) <;> (try simp only [Da, Db, Dc, Dw, De, Df, Dg, Dh] at h)) | (with_reducible refine CALL_pure (hIn _ _ _) ?_) | (with_reducible refine CALL_pure (hT) ?_) | (with_reducible refine CALL_pure (hS) ?_) | (with_reducible refine CALL_pure (hro _) ?_) | (with_reducible refine CALL_pure (hrn _) ?_) | (with_reducible refine CALL_pure (f26 G _ q.at_ q.atl) ?_) | (with_reducible refine CALL_pure (f26 G _ q.to_ q.tol) ?_) | (with_reducible refine CALL_pure (f27 G _) ?_) | (with_reducible refine CALL_pure (f28 G _) ?_) | (with_reducible refine CALL_pure (f29 G x.unit q.unit) ?_) | (with_reducible refine CALL_pure (f30 G x.unit q.unit) ?_) | (with_reducible refine CALL_pure (f32 G _ q.label) ?_) | simp only [EVz, seval, ↓reduceIte, EV6, EV7, hk, U.cs_fold, inR]))
                  all_goals (try (first
                    | exact absurd h (by decide)
                    | (refine RET.eq hR (congrArg AV.bool ?_); simp [Itm.own, inR, *]; done)
                    | (have hf : x.for_ = [] := Classical.not_not.1 (by assumption)
                       refine RET.eq hR (congrArg AV.bool ?_); simp [Itm.own, inR, hf, *]; done)
                    | (refine RET.eq hR (congrArg AV.bool ?_); simp_all [Itm.own, inR]; done)
                    | (refine RET.eq hR (congrArg AV.bool ?_); simp_all [Itm.own, inR]; omega)))))
  have hR2:=hR
  rw[show x.own (Itm.mayOne x.by_)=(inR x.act 1 1048576&&(inR x.item 0 31&&Itm.mayOne x.by_))by unfold Itm.own;simp[hk]]at hR
  rcases hb:x.by_ with _|⟨y,_|⟨z,l⟩⟩
  ·rw[hb,Itm.mayOne]at hR
   (repeat' (first|(with_reducible (first|refine split_case (λh=>?_) (λh=>?_)|refine gd_case (λh=>?_) (λh=>?_))<;>(try simp only[Da,Db,Dc,Dw,De,Df,Dg,Dh]at h))|(with_reducible refine CALL_pure (hIn _ _ _) ?_)|(with_reducible refine CALL_pure (hT) ?_)|(with_reducible refine CALL_pure (hS) ?_)|simp only[EVz,seval,↓reduceIte,EV6,EV7,hk,U.cs_fold,inR,hb,List.map_nil,List.length_nil]))
   all_goals(refine RET.eq hR (congrArg AV.bool ?_);simp[inR, *];done)
  ·rw[hb,Itm.mayOne_cons]at hR
   have hy:=ih y (by rw[hb];simp) (hby y (by rw[hb];simp))
   (repeat' (first|(with_reducible (first|refine split_case (λh=>?_) (λh=>?_)|refine gd_case (λh=>?_) (λh=>?_))<;>(try simp only[Da,Db,Dc,Dw,De,Df,Dg,Dh]at h))|(with_reducible refine CALL_pure (hIn _ _ _) ?_)|(with_reducible refine CALL_pure (hT) ?_)|(with_reducible refine CALL_pure (hS) ?_)|(with_reducible refine CALL_pure (hy) ?_)|simp only[EVz,seval,↓reduceIte,EV6,EV7,hk,U.cs_fold,hb,List.map_cons,List.map_nil,List.length_nil,List.length_cons,List.getD_cons_zero]))
   all_goals(try(refine RET.eq hR (congrArg AV.bool ?_);simp_all[inR];done))
   all_goals(refine RET.eq hR (congrArg AV.bool ?_);simp[*];done)
  ·rw[hb,Itm.mayOne_cons]at hR
   (repeat' (first|(with_reducible (first|refine split_case (λh=>?_) (λh=>?_)|refine gd_case (λh=>?_) (λh=>?_))<;>(try simp only[Da,Db,Dc,Dw,De,Df,Dg,Dh]at h))|(with_reducible refine And.intro (by omega) ?_)|(with_reducible refine CALL_pure (hIn _ _ _) ?_)|(with_reducible refine CALL_pure (hT) ?_)|(with_reducible refine CALL_pure (hS) ?_)|simp only[EVz,seval,↓reduceIte,EV6,EV7,hk,U.cs_fold,hb,List.map_cons,List.length_cons]|(exfalso;omega)))
   all_goals(try(refine RET.eq hR (congrArg AV.bool ?_);simp_all[inR];done))
   all_goals trace_state
 ·have hno:inR x.kind 0 11=false:=by unfold inR;simp;omega
  unfold Itm.pre at hR
  rw[hno]at hR
  (repeat' (first|(with_reducible refine CALL_pure (hIn _ _ _) ?_)|simp only[EVz,seval,↓reduceIte,EV6,EV7,hno]))
  all_goals(refine RET.eq hR (congrArg AV.bool ?_);simp;done)
end
end Go.Av
