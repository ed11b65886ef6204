/-
  ENACT, 1: paths in trees, in plain Lean: the way to the first unit with an ID; a unit changed, a unit put in another's place; parents.
-/
import Derived.Test.YtnoakpkjccigoaaGreatDoorXL13toXFrE
namespace Go.Av
open Go Go.RowKit Go.Proofs List
set_option linter.unusedSimpArgs false
set_option linter.unusedVariables false
theorem U.idss_nil:U.idss []=[]:=by unfold U.idss;rw[U.flats];rfl
theorem U.idss_app (a b:List U):U.idss (a++b)=U.idss a++U.idss b:=by
 induction a with
 |nil=>rw[U.idss_nil];rfl
 |cons x a ih=>rw[cons_append,U.idss_cons,U.idss_cons,ih,append_assoc]
def orW:List U->List U->List U
 |[],q=>q
 |x::p,_=>x::p
def fL (u:U):List U->List U
 |[]=>[]
 |x::p=>u::x::p
theorem orW_nil {p q:List U}:orW p q=[]↔p=[]/\q=[]:=by cases p<;>simp[orW]
theorem l9 {u:U} {p:List U}:fL u p=[]↔p=[]:=by cases p<;>simp[fL]
theorem n9 {u:U} {p:List U} (h:p≠[]):fL u p=u::p:=by cases p<;>simp_all[fL]
theorem orW_ne {p q:List U} (h:p≠[]):orW p q=p:=by cases p<;>simp_all[orW]
mutual
def U.way (i:Idd):U->List U
 |⟨d,k,l,h,w,ks⟩=>if d=i then [⟨d,k,l,h,w,ks⟩]else fL ⟨d,k,l,h,w,ks⟩ (U.ways i ks)
def U.ways (i:Idd):List U->List U
 |[]=>[]
 |u::us=>orW (U.way i u) (U.ways i us)
end
theorem U.way_eq (i:Idd) (u:U):U.way i u=if u.id=i then [u]else fL u (U.ways i u.kids):=by cases u;rw[U.way]
theorem U.ways_nil (i:Idd):U.ways i []=[]:=by rw[U.ways]
theorem U.ways_cons (i:Idd) (u:U) (us:List U):U.ways i (u::us)=orW (U.way i u) (U.ways i us):=by rw[U.ways]
theorem kE {i:Idd} {us:List U} (h:∀k∈us,(U.way i k=[]↔i∉k.ids)):U.ways i us=[]↔i∉U.idss us:=by
 induction us with
 |nil=>rw[U.ways_nil,U.idss_nil];simp
 |cons u us ih=>
  rw[U.ways_cons,U.idss_cons,orW_nil,mem_append,h u (by simp),ih λk hk=>h k (by simp[hk])]
  simp[not_or]
theorem cO {i:Idd}:∀u:U,U.way i u=[]↔i∉u.ids:=by
 refine U.ind λu ih=>?_
 rw[U.way_eq,U.ids_eq,mem_cons]
 by_cases h:u.id=i
 ·simp[h]
 ·rw[if_neg h,l9,kE ih]
  simp[Ne.symm h]
theorem iC {i:Idd} (us:List U):U.ways i us=[]↔i∉U.idss us:=kE λk _=>cO k
theorem cq {i:Idd} {u:U}:U.way i u≠[]↔i∈u.ids:=by rw[Ne,cO];simp
structure Split (i:Idd) (us a:List U) (k:U) (b:List U):Prop where
 eq:us=a++k::b
 mem:i∈k.ids
 left:i∉U.idss a
 right:i∉U.idss b
 nd:k.ids.Nodup
theorem eo {i:Idd} {us:List U} (hn:(U.idss us).Nodup) (hi:i∈U.idss us):∃a k b,Split i us a k b:=by
 induction us with
 |nil=>rw[U.idss_nil]at hi;cases hi
 |cons u us ih=>
  rw[U.idss_cons]at hn hi
  obtain⟨n1,n2,n3⟩:=nodup_append.1 hn
  by_cases h:i∈u.ids
  ·exact⟨[],u,us,rfl,h,by rw[U.idss_nil];simp,λhr=>n3 i h i hr rfl,n1⟩
  ·obtain⟨a,k,b,e,h1,h2,h3,h4⟩:=ih n2 ((mem_append.1 hi).resolve_left h)
   refine⟨u::a,k,b,by rw[e];rfl,h1,?_,h3,h4⟩
   rw[U.idss_cons,mem_append,not_or]
   exact⟨h,h2⟩
theorem U.nd_kids {u:U} (h:u.ids.Nodup):(U.idss u.kids).Nodup/\u.id∉U.idss u.kids:=by
 rw[U.ids_eq,nodup_cons]at h
 exact⟨h.2,h.1⟩
theorem U.wayInd {i:Idd} {p:U->Prop} (h0:∀u,u.ids.Nodup->u.id=i->p u)
  (h1:∀u a k b,u.ids.Nodup->u.id≠i->Split i u.kids a k b->p k->p u) (u:U) (hn:u.ids.Nodup) (hi:i∈u.ids):p u:=by
 revert hn hi
 refine U.ind (p:=λu=>u.ids.Nodup->i∈u.ids->p u) (λu ih hn hi=>?_) u
 by_cases h:u.id=i
 ·exact h0 u hn h
 ·rw[U.ids_eq,mem_cons]at hi
  obtain⟨a,k,b,s⟩:=eo (U.nd_kids hn).1 (hi.resolve_left (Ne.symm h))
  exact h1 u a k b hn h s (ih k (by rw[s.eq];simp) s.nd s.mem)
theorem fU (i:Idd) (a b:List U):U.ways i (a++b)=orW (U.ways i a) (U.ways i b):=by
 induction a with
 |nil=>rw[U.ways_nil];rfl
 |cons x a ih=>
  rw[cons_append,U.ways_cons,U.ways_cons,ih]
  cases U.way i x<;>simp[orW]
theorem Split.ways {i:Idd} {us a b:List U} {k:U} (s:Split i us a k b):U.ways i us=U.way i k:=by
 rw[s.eq,fU,(iC a).2 s.left,U.ways_cons]
 show orW (U.way i k) _=_
 rw[orW_ne (cq.2 s.mem)]
theorem Split.way {i:Idd} {u:U} {a b:List U} {k:U} (hu:u.id≠i) (s:Split i u.kids a k b):U.way i u=u::U.way i k:=by
 rw[U.way_eq,if_neg hu,s.ways,n9 (cq.2 s.mem)]
theorem aN {i:Idd} {u:U} (h:u.id=i):U.way i u=[u]:=by rw[U.way_eq,if_pos h]
/-! ### a unit changed -/
mutual
def U.wth (i:Idd) (f:U->U):U->U
 |⟨d,k,l,h,w,ks⟩=>if d=i then f ⟨d,k,l,h,w,ks⟩else ⟨d,k,l,h,w,U.wths i f ks⟩
def U.wths (i:Idd) (f:U->U):List U->List U
 |[]=>[]
 |u::us=>if U.way i u=[]then u::U.wths i f us else U.wth i f u::us
end
theorem U.wth_eq (i:Idd) (f:U->U) (u:U):U.wth i f u=if u.id=i then f u else {u with kids:=U.wths i f u.kids}:=by cases u;rw[U.wth]
theorem U.wths_nil (i:Idd) (f:U->U):U.wths i f []=[]:=by rw[U.wths]
theorem U.wths_cons (i:Idd) (f:U->U) (u:U) (us:List U):U.wths i f (u::us)=if U.way i u=[]then u::U.wths i f us else U.wth i f u::us:=by rw[U.wths]
theorem wths_no {i:Idd} {f:U->U}:∀{us:List U},i∉U.idss us->U.wths i f us=us
 |[],_=>U.wths_nil i f
 |u::us,h=>by
  rw[U.idss_cons,mem_append,not_or]at h
  rw[U.wths_cons,if_pos ((cO u).2 h.1),wths_no h.2]
theorem wth_no {i:Idd} {f:U->U} {u:U} (h:i∉u.ids):U.wth i f u=u:=by
 rw[U.ids_eq,mem_cons,not_or]at h
 rw[U.wth_eq,if_neg (Ne.symm h.1),wths_no h.2]
 cases u;rfl
theorem m8 {i:Idd} {f:U->U} {a b:List U} (h:i∉U.idss a):U.wths i f (a++b)=a++U.wths i f b:=by
 induction a with
 |nil=>rfl
 |cons x a ih=>
  rw[U.idss_cons,mem_append,not_or]at h
  rw[cons_append,U.wths_cons,if_pos ((cO x).2 h.1),ih h.2]
  rfl
theorem Split.wths {i:Idd} {f:U->U} {us a b:List U} {k:U} (s:Split i us a k b):U.wths i f us=a++U.wth i f k::b:=by
 rw[s.eq,m8 s.left,U.wths_cons,if_neg (cq.2 s.mem)]
theorem Split.wth {i:Idd} {f:U->U} {u:U} {a b:List U} {k:U} (hu:u.id≠i) (s:Split i u.kids a k b):U.wth i f u={u with kids:=a++U.wth i f k::b}:=by
 rw[U.wth_eq,if_neg hu,s.wths]
theorem bA {i:Idd} {f:U->U} {u:U} (h:u.id=i):U.wth i f u=f u:=by rw[U.wth_eq,if_pos h]
/-! ### parents -/
def cf {α:Type} (p:α->Bool):List α->Option Nat
 |[]=>none
 |x::l=>if p x then some 0 else (cf p l).map (· +1)
theorem eO {α:Type} {p:α->Bool} {a b:List α} {k:α} (ha:∀x∈a,p x=false) (hk:p k=true):cf p (a++k::b)=some a.length:=by
 induction a with
 |nil=>simp[cf,hk]
 |cons x a ih=>
  rw[cons_append,cf,ha x (by simp),ih λy hy=>ha y (by simp[hy])]
  simp
theorem ld {α:Type} {p:α->Bool} {a:List α} (ha:∀x∈a,p x=false):cf p a=none:=by
 induction a with
 |nil=>rfl
 |cons x a ih=>rw[cf,ha x (by simp),ih λy hy=>ha y (by simp[hy])];rfl
mutual
def U.par (i:Idd):U->Option (U×Nat×Nat)
 |⟨d,k,l,h,w,ks⟩=>match cf (λk=>decide (k.id=i)) ks with
  |some j=>some (⟨d,k,l,h,w,ks⟩,0,j)
  |none=>U.pars i ks
def U.pars (i:Idd):List U->Option (U×Nat×Nat)
 |[]=>none
 |u::us=>match U.par i u with
  |some (p,d,j)=>some (p,d+1,j)
  |none=>U.pars i us
end
theorem U.par_eq (i:Idd) (u:U):U.par i u=match cf (λk=>decide (k.id=i)) u.kids with
  |some j=>some (u,0,j)
  |none=>U.pars i u.kids:=by cases u;rw[U.par]
theorem U.pars_nil (i:Idd):U.pars i []=none:=by rw[U.pars]
theorem U.pars_cons (i:Idd) (u:U) (us:List U):U.pars i (u::us)=match U.par i u with
  |some (p,d,j)=>some (p,d+1,j)
  |none=>U.pars i us:=by rw[U.pars]
theorem de {i:Idd} {us:List U} {k:U} (hk:k∈us) (h:i∈k.ids):i∈U.idss us:=by
 induction us with
 |nil=>cases hk
 |cons u us ih=>
  rw[U.idss_cons,mem_append]
  rcases mem_cons.1 hk with rfl|hk
  ·exact .inl h
  ·exact .inr (ih hk)
theorem cR (u:U):u.id∈u.ids:=by rw[U.ids_eq];simp
theorem eX {i:Idd} {us:List U} (h:i∉U.idss us):∀x∈us,decide (x.id=i)=false:=λx hx=>by
 refine decide_eq_false λe=>h (de hx ?_)
 rw[←e];exact cR x
theorem o8 {i:Idd} {us:List U} (h:∀k∈us,i∉k.ids->U.par i k=none) (hi:i∉U.idss us):U.pars i us=none:=by
 induction us with
 |nil=>rw[U.pars_nil]
 |cons u us ih=>
  rw[U.idss_cons,mem_append,not_or]at hi
  rw[U.pars_cons,h u (by simp) hi.1]
  exact ih (λk hk=>h k (by simp[hk])) hi.2
theorem par_no {i:Idd}:∀u:U,i∉U.idss u.kids->U.par i u=none:=by
 refine U.ind λu ih h=>?_
 rw[U.par_eq,ld (eX h)]
 refine o8 (λk hk hi=>ih k hk λhm=>hi ?_) h
 rw[U.ids_eq];exact mem_cons_of_mem _ hm
theorem pars_app {i:Idd} {a b:List U} (h:i∉U.idss a):U.pars i (a++b)=U.pars i b:=by
 induction a with
 |nil=>rfl
 |cons x a ih=>
  rw[U.idss_cons,mem_append,not_or]at h
  rw[cons_append,U.pars_cons,par_no x λhm=>h.1 (by rw[U.ids_eq];exact mem_cons_of_mem _ hm)]
  exact ih h.2
def aF (i:Idd) (u:U):Option (U×Nat×Nat):=match (U.way i u).reverse with
 |_::p::r=>some (p,r.length,(cf (λk=>!(U.way i k).isEmpty) p.kids).getD 0)
 |_=>none
theorem Split.no_way {i:Idd} {us a b:List U} {k:U} (s:Split i us a k b):cf (λk=>!(U.way i k).isEmpty) us=some a.length:=by
 rw[s.eq]
 refine eO (λx hx=>?_) ?_
 ·rw[(cO x).2 λh=>s.left (de hx h)];rfl
 ·have:=cq.2 s.mem
  cases h:U.way i k with
  |nil=>exact absurd h this
  |cons _ _=>rfl
theorem par_way {i:Idd} (u:U) (hn:u.ids.Nodup) (hi:i∈u.ids):U.par i u=aF i u:=by
 refine U.wayInd (i:=i) (p:=λu=>U.par i u=aF i u) ?_ ?_ u hn hi
 ·intro u hn h
  have:=(U.nd_kids hn).2
  rw[h]at this
  unfold aF
  rw[aN h,par_no u this]
  rfl
 ·intro u a k b _ h s ih
  unfold aF at ih ⊢
  rw[s.way h,U.par_eq]
  by_cases hk:k.id=i
  ·have e:cf (λk=>decide (k.id=i)) u.kids=some a.length:=by
    rw[s.eq]
    exact eO (eX s.left) (decide_eq_true hk)
   have e2:=s.no_way
   rw[e,aN hk]
   simp[e2]
  ·have e:cf (λk=>decide (k.id=i)) u.kids=none:=by
    rw[s.eq]
    refine ld λx hx=>?_
    rcases mem_append.1 hx with hx|hx
    ·exact eX s.left x hx
    ·rcases mem_cons.1 hx with rfl|hx
     ·exact decide_eq_false hk
     ·exact eX s.right x hx
   have hkn:i∈U.idss k.kids:=by
    have:=s.mem
    rw[U.ids_eq,mem_cons]at this
    exact this.resolve_left (Ne.symm hk)
   obtain⟨a2,k2,b2,s2⟩:=eo (U.nd_kids s.nd).1 hkn
   rw[e]
   simp only
   rw[s.eq,pars_app s.left,U.pars_cons,ih,s2.way hk]
   have hne:U.way i k2≠[]:=cq.2 s2.mem
   obtain⟨l,y,hl⟩:∃l y,U.way i k2=l++[y]:=⟨_,_,(dropLast_concat_getLast hne).symm⟩
   rw[hl]
   simp only[reverse_cons,reverse_append,reverse_nil,nil_append,cons_append,append_assoc]
   cases hr:l.reverse<;>simp
theorem Split.other {i q:Idd} {us a b:List U} {k:U} (s:Split i us a k b) (hn:(U.idss us).Nodup) (hq:q∈k.ids):Split q us a k b:=by
 refine⟨s.eq,hq,?_,?_,s.nd⟩
 ·intro h
  rw[s.eq,U.idss_app,U.idss_cons]at hn
  exact(nodup_append.1 hn).2.2 q h q (mem_append.2 (.inl hq)) rfl
 ·intro h
  rw[s.eq,U.idss_app,U.idss_cons]at hn
  exact(nodup_append.1 (nodup_append.1 hn).2.1).2.2 q hq q h rfl
theorem Split.ne {i q:Idd} {u k:U} {a b:List U} (hn:u.ids.Nodup) (s:Split i u.kids a k b) (hq:q∈k.ids):u.id≠q:=λe=>by
 refine(U.nd_kids hn).2 ?_
 rw[e,s.eq,U.idss_app,U.idss_cons]
 exact mem_append.2 (.inr (mem_append.2 (.inl hq)))
theorem cB {i:Idd} {u:U} (h:u.id=i):aF i u=none:=by unfold aF;rw[aN h];rfl
theorem g7 {i:Idd} {u k:U} {a b:List U} (h:u.id≠i) (s:Split i u.kids a k b) (hk:k.id=i):aF i u=some (u,0,a.length):=by
 unfold aF
 rw[s.way h,aN hk]
 simp[s.no_way]
theorem fO {i:Idd} {u k:U} {a b:List U} (h:u.id≠i) (s:Split i u.kids a k b) (hk:k.id≠i):aF i u=(aF i k).map λq=>(q.1,q.2.1+1,q.2.2):=by
 have hkn:i∈U.idss k.kids:=by
  have:=s.mem
  rw[U.ids_eq,mem_cons]at this
  exact this.resolve_left (Ne.symm hk)
 obtain⟨a2,k2,b2,s2⟩:=eo (U.nd_kids s.nd).1 hkn
 unfold aF
 rw[s.way h,s2.way hk]
 have hne:U.way i k2≠[]:=cq.2 s2.mem
 obtain⟨l,y,hl⟩:∃l y,U.way i k2=l++[y]:=⟨_,_,(dropLast_concat_getLast hne).symm⟩
 rw[hl]
 simp only[reverse_cons,reverse_append,reverse_nil,nil_append,cons_append,append_assoc]
 cases hr:l.reverse<;>simp
structure Par (i:Idd) (u p:U) (d j:Nat):Prop where
 path:U.way i u=U.way p.id u++[(U.way i u).getLastD p]
 deep:(U.way p.id u).length=d+1
 last:(U.way p.id u).getLast?=some p
 mem:p.id∈u.ids
 ne:u.id≠i
 nd:p.ids.Nodup
 split:∃a k b,Split i p.kids a k b/\k.id=i/\j=a.length/\(U.way i u).getLast?=some k
theorem et {i:Idd} (u:U) (hn:u.ids.Nodup) (hi:i∈u.ids):∀{p d j},aF i u=some (p,d,j)->Par i u p d j:=by
 refine U.wayInd (i:=i) (p:=λu=>∀{p d j},aF i u=some (p,d,j)->Par i u p d j) ?_ ?_ u hn hi
 ·intro u _ h p d j e
  rw[cB h]at e;cases e
 ·intro u a k b hn h s ih p d j e
  by_cases hk:k.id=i
  ·rw[g7 h s hk]at e
   injection e with e
   injection e with e1 e2
   injection e2 with e2 e3
   subst e1 e2 e3
   have hw:U.way i u=[u,k]:=by rw[s.way h,aN hk]
   refine⟨?_,?_,?_,cR u,h,hn,a,k,b,s,hk,rfl,?_⟩
   ·rw[hw,aN rfl];rfl
   ·rw[aN rfl];rfl
   ·rw[aN rfl];rfl
   ·rw[hw];rfl
  ·rw[fO h s hk]at e
   obtain⟨⟨p',d',j'⟩,e',e2⟩:=Option.map_eq_some_iff.1 e
   injection e2 with e1 e2
   injection e2 with e2 e3
   subst e1 e2 e3
   obtain⟨h1,h2,h3,h4,h5,h6,a',k',b',s',hk',hj,hl⟩:=ih e'
   have sp:=s.other (U.nd_kids hn).1 h4
   have hu:=Split.ne hn s h4
   have hwne:U.way i k≠[]:=cq.2 s.mem
   have hpne:U.way p'.id k≠[]:=cq.2 h4
   refine⟨?_,?_,?_,?_,h,h6,a',k',b',s',hk',hj,?_⟩
   ·rw[s.way h,sp.way hu,h1]
    simp[getLastD_cons,getLast?_cons]
   ·rw[sp.way hu,length_cons,h2]
   ·rw[sp.way hu,getLast?_cons,h3];rfl
   ·rw[U.ids_eq]
    refine mem_cons_of_mem _ ?_
    rw[s.eq,U.idss_app,U.idss_cons]
    exact mem_append.2 (.inr (mem_append.2 (.inl h4)))
   ·rw[s.way h,getLast?_cons,hl];rfl
/-! ### a way in a tree of which one unit was changed -/
theorem orW_map (g:U->U) (p q:List U):(orW p q).map g=orW (p.map g) (q.map g):=by cases p<;>simp[orW]
theorem lL (g:U->U) (u:U) (p:List U):(fL u p).map g=fL (g u) (p.map g):=by cases p<;>simp[fL]
theorem jp {t:Idd} {us:List U} (h:∀k∈us,∀v∈U.way t k,∀q∈v.ids,q∈k.ids):∀v∈U.ways t us,∀q∈v.ids,q∈U.idss us:=by
 induction us with
 |nil=>intro v hv;rw[U.ways_nil]at hv;cases hv
 |cons u us ih=>
  intro v hv q hq
  rw[U.ways_cons]at hv
  rw[U.idss_cons,mem_append]
  cases hw:U.way t u with
  |nil=>
   rw[hw]at hv
   exact .inr (ih (λk hk=>h k (by simp[hk])) v hv q hq)
  |cons x l=>
   rw[hw]at hv
   exact .inl (h u (by simp) v (by rw[hw];exact hv) q hq)
theorem jU {t:Idd}:∀u:U,∀v∈U.way t u,∀q∈v.ids,q∈u.ids:=by
 refine U.ind λu ih v hv q hq=>?_
 rw[U.way_eq]at hv
 split at hv
 ·simp only[mem_singleton]at hv;subst hv;exact hq
 ·cases hw:U.ways t u.kids with
  |nil=>rw[hw]at hv;cases hv
  |cons x l=>
   rw[hw]at hv
   rcases mem_cons.1 hv with rfl|hv
   ·exact hq
   ·rw[U.ids_eq]
    exact mem_cons_of_mem _ (jp ih v (by rw[hw];exact hv) q hq)
theorem map_no {j t:Idd} {f:U->U} {us:List U} (h:j∉U.idss us):(U.ways t us).map (U.wth j f)=U.ways t us:=by
 conv=>rhs;rw[←map_id (U.ways t us)]
 refine map_congr_left λv hv=>?_
 exact wth_no λhq=>h (jp (λk _=>jU k) v hv j hq)
theorem map_no1 {j t:Idd} {f:U->U} {u:U} (h:j∉u.ids):(U.way t u).map (U.wth j f)=U.way t u:=by
 conv=>rhs;rw[←map_id (U.way t u)]
 refine map_congr_left λv hv=>?_
 exact wth_no λhq=>h (jU u v hv j hq)
theorem iI {us:List U} {k y:U} (hk:k∈us) (hy:y∈k.flat):y∈U.flats us:=by
 induction us with
 |nil=>cases hk
 |cons u us ih=>
  rw[U.flats,mem_append]
  rcases mem_cons.1 hk with rfl|hk
  ·exact .inl hy
  ·exact .inr (ih hk)
theorem mz {j t:Idd} {f:U->U} {us:List U} (hn:(U.idss us).Nodup) (h:∀k∈us,k.ids.Nodup->U.way t (U.wth j f k)=(U.way t k).map (U.wth j f)):U.ways t (U.wths j f us)=(U.ways t us).map (U.wth j f):=by
 induction us with
 |nil=>rw[U.wths_nil,U.ways_nil];rfl
 |cons u us ih=>
  rw[U.idss_cons]at hn
  obtain⟨n1,n2,n3⟩:=nodup_append.1 hn
  rw[U.wths_cons,U.ways_cons,orW_map]
  split
  ·rename_i hw
   rw[U.ways_cons,ih n2 λk hk=>h k (by simp[hk]),map_no1 ((cO u).1 hw)]
  ·rename_i hw
   have hj:=cq.1 hw
   rw[U.ways_cons,h u (by simp) n1,map_no λhm=>n3 j hj j hm rfl]
theorem jN {j t:Idd} {f:U->U}:∀u:U,u.ids.Nodup->(∀y∈u.flat,y.id=j->(f y).id=y.id/\U.ways t (f y).kids=U.ways t y.kids)->U.way t (U.wth j f u)=(U.way t u).map (U.wth j f):=by
 refine U.ind λu ih hn hf=>?_
 obtain⟨n1,n2⟩:=U.nd_kids hn
 by_cases hj:u.id=j
 ·obtain⟨f1,f2⟩:=hf u (by rw[U.flat_eq];simp) hj
  rw[bA hj,U.way_eq,U.way_eq,f1]
  split
  ·simp[bA hj]
  ·rw[f2,lL,bA hj,map_no (by rw[←hj];exact n2)]
 ·rw[U.wth_eq,if_neg hj,U.way_eq,U.way_eq]
  simp only
  split
  ·simp only[map_cons,map_nil]
   rw[U.wth_eq,if_neg hj]
  ·rw[lL,mz n1 λk hk hnk=>ih k hk hnk λy hy=>hf y (by rw[U.flat_eq];exact mem_cons_of_mem _ (iI hk hy))]
   rw[U.wth_eq,if_neg hj]
theorem mI {j:Idd} {f g:U->U} (u:U) (hn:u.ids.Nodup) (hi:j∈u.ids) (hf:∀y,y.id=j->(f y).id=j):U.wth j g (U.wth j f u)=U.wth j (λy=>g (f y)) u:=by
 refine U.wayInd (i:=j) (p:=λu=>U.wth j g (U.wth j f u)=U.wth j (λy=>g (f y)) u) ?_ ?_ u hn hi
 ·intro u _ h
  rw[bA h,bA (hf u h),bA h]
 ·intro u a k b hn h s ih
  have hne:U.way j (U.wth j f k)≠[]:=by
   have:∀k:U,k.ids.Nodup->j∈k.ids->U.way j (U.wth j f k)≠[]:=by
    intro k hn hi
    refine U.wayInd (i:=j) (p:=λu=>U.way j (U.wth j f u)≠[]) ?_ ?_ k hn hi
    ·intro u _ h
     rw[bA h,aN (hf u h)];simp
    ·intro u a k b hn h s ih
     rw[s.wth h,U.way_eq]
     simp only
     rw[if_neg h,Ne,l9,fU,(iC a).2 s.left,U.ways_cons]
     show ¬orW (U.way j (U.wth j f k)) _=[]
     rw[orW_nil]
     exact λe=>ih e.1
   exact this k s.nd s.mem
  rw[s.wth h,U.wth_eq]
  simp only
  rw[if_neg h,m8 s.left,U.wths_cons,if_neg hne,ih,s.wth h]
structure Dd where
 act:Int
 item:Int
 day:Int
 it:Itm
def noU:U:=⟨⟨0,0,0⟩,0,[],[],[],[]⟩
def fnd (i:Idd) (u:U):U:=(U.way i u).getLastD noU
def aX (a b:Int):List (List UInt8)->Int->List Wd
 |[],_=>[]
 |s::l,m=>⟨s,a,b,m⟩::aX a b l (m+1)
mutual
def U.stamp (a b:Int):U->Int->Int->U×Int×Int
 |⟨_,k,l,h,w,ks⟩,n,m=>
  (⟨⟨a,b,n⟩,k,l,aX a b (h.map Wd.text) m,aX a b (w.map Wd.text) (m+h.length),(U.stamps a b ks (n+1) (m+h.length+w.length)).1⟩,(U.stamps a b ks (n+1) (m+h.length+w.length)).2)
def U.stamps (a b:Int):List U->Int->Int->List U×Int×Int
 |[],n,m=>([],n,m)
 |u::us,n,m=>((U.stamp a b u n m).1::(U.stamps a b us (U.stamp a b u n m).2.1 (U.stamp a b u n m).2.2).1,(U.stamps a b us (U.stamp a b u n m).2.1 (U.stamp a b u n m).2.2).2)
end
def cz (u:U) (a b:Int):U:=(U.stamp a b u 1 0).1
def insAt (l:List U) (k:Nat) (x:U):List U:=l.take k++x::l.drop k
def delAt (l:List U) (k:Nat):List U:=l.take k++l.drop (k+1)
def taken (l:List U) (k:Int) (s:List UInt8):Bool:=l.any λx=>decide (x.kind=k)&&decide (x.label=s)
def dR (p:U) (l:List U) (x:U):Int:=if nests p.kind x.kind=false then 9 else if taken l x.kind x.label then 10 else 0
/-! ### the program -/
def spot (u:U) (i:Idd) (wh:Int):Option (Idd×Nat):=
 if wh=0 then some (i,0)else if wh=1 then some (i,(fnd i u).kids.length)else (aF i u).map λq=>(q.1.id,if wh=2 then q.2.2+1 else q.2.2)
def insP (u:U) (i:Idd) (d:Dd):U×Int:=match spot u i d.it.wh with
 |none=>(u,9)
 |some (q,k)=>
  if dR (fnd q u) (fnd q u).kids (cz d.it.unit d.act d.item)≠0 then (u,dR (fnd q u) (fnd q u).kids (cz d.it.unit d.act d.item))
  else if 64<=(fnd q u).kids.length\/8<(U.way q u).length+(cz d.it.unit d.act d.item).dep\/1024<u.cnt+(cz d.it.unit d.act d.item).cnt then (u,6)
  else if (cz d.it.unit d.act d.item).ids.any (λy=>decide (y∈u.ids))then (u,5)
  else (U.wth q (λy=>{y with kids:=insAt y.kids k (cz d.it.unit d.act d.item)}) u,0)
/-! ### the document -/
def parR (i:Idd) (u:U):U×Nat×Nat:=(U.par i u).getD (noU,0,0)
theorem aB {i:Idd} {u y:U} (h:(U.way i u).getLast?=some y):fnd i u=y:=by unfold fnd;rw[getLastD_eq_getLast?,h];rfl
theorem cS {i:Idd} (u:U) (hn:u.ids.Nodup) (hi:i∈u.ids):(fnd i u).id=i/\(U.way i u).getLast?=some (fnd i u):=by
 refine U.wayInd (i:=i) (p:=λu=>(fnd i u).id=i/\(U.way i u).getLast?=some (fnd i u)) ?_ ?_ u hn hi
 ·intro u _ h
  have:fnd i u=u:=aB (by rw[aN h];rfl)
  rw[this]
  exact⟨h,by rw[aN h];rfl⟩
 ·intro u a k b _ h s ih
  have:(U.way i u).getLast?=some (fnd i k):=by rw[s.way h,getLast?_cons,ih.2];rfl
  rw[aB this]
  exact⟨ih.1,this⟩
theorem bt {i:Idd} {u:U} (hn:u.ids.Nodup) (hi:i∈u.ids) (hne:u.id≠i):∃p d j,aF i u=some (p,d,j)/\parR i u=(p,d,j)/\Par i u p d j:=by
 have:∃q,aF i u=some q:=by
  rw[U.ids_eq,mem_cons]at hi
  obtain⟨a,k,b,s⟩:=eo (U.nd_kids hn).1 (hi.resolve_left (Ne.symm hne))
  have hl:U.way i k≠[]:=cq.2 s.mem
  unfold aF
  rw[s.way hne]
  cases hr:(U.way i k).reverse with
  |nil=>exact absurd (by simpa using hr) hl
  |cons x l=>
   rw[reverse_cons,hr]
   cases l<;>simp
 obtain⟨⟨p,d,j⟩,e⟩:=this
 exact⟨p,d,j,e,by unfold parR;rw[par_way u hn hi,e];rfl,et u hn hi e⟩
theorem Par.fnd {i:Idd} {u p:U} {d j:Nat} (h:Par i u p d j):fnd p.id u=p:=aB h.last
theorem gH {i:Idd} {u:U} (hi:i∈u.ids):1<=(U.way i u).length:=by
 have:=cq.2 hi
 cases h:U.way i u with
 |nil=>exact absurd h this
 |cons _ _=>simp
def without (i:Idd) (u:U):U:=match aF i u with
 |some (p,_,j)=>U.wth p.id (λy=>{y with kids:=delAt y.kids j}) u
 |none=>u
def besides (wh:Int):Bool:=decide (wh=2\/wh=3)
def under (u:U) (i t:Idd):Bool:=decide (t≠i)&&(U.way t u).dropLast.any λy=>decide (y.id=i)
def dY (u:U) (i t:Idd) (wh:Int):Option (Idd×Nat):=match aF i u with
 |none=>none
 |some (own,_,j)=>
  if under u i t=true\/t=i/\besides wh=false then none
  else if t=i then some (own.id,j)
  else (spot u t wh).map λq=>(q.1,if q.1=own.id/\j<q.2 then q.2-1 else q.2)
def movP (u:U) (i t:Idd) (d:Dd):U×Int:=match dY u i t d.it.wh with
 |none=>(u,9)
 |some (q,k)=>
  if dR (fnd q (without i u)) (fnd q (without i u)).kids (fnd i u)≠0 then (u,dR (fnd q (without i u)) (fnd q (without i u)).kids (fnd i u))
  else if (q≠(parR i u).1.id/\64<=(fnd q (without i u)).kids.length)\/8<(U.way q (without i u)).length+(fnd i u).dep then (u,6)
  else (U.wth q (λy=>{y with kids:=insAt y.kids k (fnd i u)}) (without i u),0)
theorem bO {a b:List U} {k:U}:delAt (a++k::b) a.length=a++b:=by
 unfold delAt
 rw[take_left' rfl,←singleton_append,←append_assoc,drop_left' (by simp)]
theorem n8 {a b:List U} {k:U}:insAt (a++b) a.length k=a++k::b:=by
 unfold insAt
 rw[take_left' rfl,drop_left' rfl]
theorem nJ {t:Idd} {a b:List U} {k:U} (h:t∉k.ids):U.ways t (a++b)=U.ways t (a++k::b):=by
 rw[fU,fU,U.ways_cons,(cO k).2 h]
 rfl
theorem map_one {α β:Type} {f:α->β}:∀{l:List α},(l.map f).Nodup->∀{x y},x∈l->y∈l->f x=f y->x=y
 |[],_,_,_,hx,_,_=>by cases hx
 |a::l,hn,x,y,hx,hy,e=>by
  rw[map_cons,nodup_cons]at hn
  rcases mem_cons.1 hx with rfl|hx'<;>rcases mem_cons.1 hy with rfl|hy'
  ·rfl
  ·exact absurd (mem_map.2 ⟨y,hy',e.symm⟩) hn.1
  ·exact absurd (mem_map.2 ⟨x,hx',e⟩) hn.1
  ·exact map_one hn.2 hx' hy' e
theorem same_id {u x y:U} (hn:u.ids.Nodup) (hx:x∈u.flat) (hy:y∈u.flat) (h:x.id=y.id):x=y:=map_one hn hx hy h
theorem aP {i:Idd} (u:U) (hn:u.ids.Nodup) (hi:i∈u.ids):fnd i u∈u.flat:=by
 refine U.wayInd (i:=i) (p:=λu=>fnd i u∈u.flat) ?_ ?_ u hn hi
 ·intro u _ h
  rw[aB (y:=u) (by rw[aN h];rfl),U.flat_eq];simp
 ·intro u a k b _ h s ih
  have:fnd i u=fnd i k:=by unfold fnd;rw[s.way h];have:=gH s.mem;cases hk:U.way i k<;>simp_all[getLastD_cons]
  rw[this,U.flat_eq]
  exact mem_cons_of_mem _ (iI (by rw[s.eq];simp) ih)
theorem fnd_here {u y:U} (hn:u.ids.Nodup) (hy:y∈u.flat):fnd y.id u=y:=by
 have hm:y.id∈u.ids:=mem_map.2 ⟨y,hy,rfl⟩
 exact same_id hn (aP u hn hm) hy (cS u hn hm).1
theorem Split.mem_ids {i q:Idd} {u k:U} {a b:List U} (s:Split i u.kids a k b) (hq:q∈k.ids):q∈u.ids:=by
 rw[U.ids_eq,s.eq,U.idss_app,U.idss_cons]
 exact mem_cons_of_mem _ (mem_append.2 (.inr (mem_append.2 (.inl hq))))
theorem Split.fnd {i q:Idd} {u k:U} {a b:List U} (hn:u.ids.Nodup) (s:Split i u.kids a k b) (hq:q∈k.ids):fnd q u=fnd q k:=by
 have sq:=s.other (U.nd_kids hn).1 hq
 exact aB (by rw[sq.way (Split.ne hn s hq),getLast?_cons,(cS k s.nd hq).2];rfl)
theorem mK {i q:Idd} {u:U} (hn:u.ids.Nodup) (hi:i∈u.ids) (hq:q∈(fnd i u).ids):q∈u.ids:=by
 have:=(cS u hn hi).2
 exact jU u _ (mem_of_getLast? this) q hq
theorem fnd_nd {i:Idd} (u:U) (hn:u.ids.Nodup) (hi:i∈u.ids):(fnd i u).ids.Nodup:=by
 refine U.wayInd (i:=i) (p:=λu=>(fnd i u).ids.Nodup) ?_ ?_ u hn hi
 ·intro u hn h
  rw[aB (y:=u) (by rw[aN h];rfl)];exact hn
 ·intro u a k b hn _ s ih
  rw[s.fnd hn s.mem];exact ih
theorem eI {i t:Idd} (u:U) (hn:u.ids.Nodup) (ht:t∈u.ids) (hi:i∈u.ids):(∃y∈U.way t u,y.id=i)↔t∈(fnd i u).ids:=by
 revert hi
 refine U.wayInd (i:=t) (p:=λu=>i∈u.ids->((∃y∈U.way t u,y.id=i)↔t∈(fnd i u).ids)) ?_ ?_ u hn ht
 ·intro u hn h hi
  rw[aN h]
  constructor
  ·rintro⟨y,hy,e⟩
   simp only[mem_singleton]at hy
   subst hy
   rw[aB (y:=y) (by rw[aN e];rfl),←h]
   exact cR y
  ·intro hm
   refine⟨u,by simp,?_⟩
   apply Classical.byContradiction
   intro hne
   rw[U.ids_eq,mem_cons]at hi
   obtain⟨a,k,b,s⟩:=eo (U.nd_kids hn).1 (hi.resolve_left (Ne.symm hne))
   rw[s.fnd hn s.mem]at hm
   exact Split.ne hn s (mK s.nd s.mem hm) h
 ·intro u a k b hn h s ih hi
  rw[s.way h]
  by_cases hu:u.id=i
  ·rw[aB (y:=u) (by rw[aN hu];rfl)]
   exact⟨λ_=>s.mem_ids s.mem,λ_=>⟨u,by simp,hu⟩⟩
  ·by_cases hik:i∈k.ids
   ·rw[s.fnd hn hik,←ih hik]
    constructor
    ·rintro⟨y,hy,e⟩
     rcases mem_cons.1 hy with rfl|hy
     ·exact absurd e hu
     ·exact⟨y,hy,e⟩
    ·rintro⟨y,hy,e⟩
     exact⟨y,mem_cons_of_mem _ hy,e⟩
   ·constructor
    ·rintro⟨y,hy,e⟩
     rcases mem_cons.1 hy with rfl|hy
     ·exact absurd e hu
     ·exact absurd (jU k y hy i (by rw[←e];exact cR y)) hik
    ·intro hm
     exfalso
     rw[U.ids_eq,mem_cons]at hi
     obtain⟨a',k',b',s'⟩:=eo (U.nd_kids hn).1 (hi.resolve_left (Ne.symm hu))
     rw[s'.fnd hn s'.mem]at hm
     have st:=s'.other (U.nd_kids hn).1 (mK s'.nd s'.mem hm)
     have hk:k∈a'++k'::b':=by rw[←s'.eq,s.eq];simp
     rcases mem_append.1 hk with hk|hk
     ·exact st.left (de hk s.mem)
     ·rcases mem_cons.1 hk with rfl|hk
      ·exact hik s'.mem
      ·exact st.right (de hk s.mem)
theorem way_last {t:Idd} (u:U) (hn:u.ids.Nodup) (ht:t∈u.ids):U.way t u=(U.way t u).dropLast++[fnd t u]:=by
 have h:=(cS u hn ht).2
 have hne:U.way t u≠[]:=cq.2 ht
 rw[getLast?_eq_some_getLast hne]at h
 injection h with h
 conv=>lhs;rw[←dropLast_concat_getLast hne,h]
theorem gl {i t:Idd} (u:U) (hn:u.ids.Nodup) (ht:t∈u.ids) (hi:i∈u.ids):under u i t=true↔t≠i/\t∈(fnd i u).ids:=by
 unfold under
 rw[Bool.and_eq_true,decide_eq_true_eq,any_eq_true,←eI u hn ht hi]
 refine and_congr_right λhne=>?_
 constructor
 ·rintro⟨y,hy,e⟩
  exact⟨y,dropLast_subset _ hy,by simpa using e⟩
 ·rintro⟨y,hy,e⟩
  rw[way_last u hn ht]at hy
  rcases mem_append.1 hy with hy|hy
  ·exact⟨y,hy,by simpa using e⟩
  ·simp only[mem_singleton]at hy
   subst hy
   exact absurd ((cS u hn ht).1.symm.trans e) hne
/-! ### a tree of which one unit's child was taken -/
section
variable {u own x:U} {i:Idd} {d:Nat} {a b:List U}
theorem node_eq {u own:U} (hn:u.ids.Nodup) (ho:fnd own.id u=own) (hm:own.id∈u.ids) {y:U} (hy:y∈u.flat) (e:y.id=own.id):y=own:=by
 rw[←ho]
 exact same_id hn hy (aP u hn hm) (by rw[ho];exact e)
theorem way_out {t:Idd} (hn:u.ids.Nodup) (hp:Par i u own d a.length) (hk:own.kids=a++x::b) (ht:t∉x.ids):
  U.way t (U.wth own.id (λy=>{y with kids:=delAt y.kids a.length}) u)=(U.way t u).map (U.wth own.id λy=>{y with kids:=delAt y.kids a.length}):=
 jN u hn λy hy e=>by
  have e2:=node_eq hn hp.fnd hp.mem hy e
  subst e2
  refine⟨rfl,?_⟩
  simp only
  rw[hk,bO,nJ ht]
theorem eM {β:Type} {j:Idd} {f:U->U} (key:U->β) (h1:∀y,key (f y)=key y) (h2:∀y ks,key {y with kids:=ks}=key y) (y:U):key (U.wth j f y)=key y:=by
 rw[U.wth_eq]
 split
 ·exact h1 y
 ·exact h2 y _
theorem kz {j:Idd} {f:U->U} (u:U) (hn:u.ids.Nodup) (hi:j∈u.ids) (hf:f (Go.Av.fnd j u)=Go.Av.fnd j u):U.wth j f u=u:=by
 revert hf
 refine U.wayInd (i:=j) (p:=λu=>f (Go.Av.fnd j u)=Go.Av.fnd j u->U.wth j f u=u) ?_ ?_ u hn hi
 ·intro u _ h hf
  have:Go.Av.fnd j u=u:=aB (by rw[aN h];rfl)
  rw[bA h];rw[this]at hf;exact hf
 ·intro u a k b hn h s ih hf
  rw[s.fnd hn s.mem]at hf
  rw[s.wth h,ih hf,←s.eq]
  cases u;rfl
end
structure Goal (u:U) (t:Idd) (wh:Int) (P:U) (dp k:Nat):Prop where
 mem:P.id∈u.ids
 here:fnd P.id u=P
 deep:(U.way P.id u).length=dp+1
 spot:Go.Av.spot u t wh=some (P.id,k)
 ref:(if besides wh then (parR t u).1 else fnd t u)=P/\(if besides wh then (parR t u).2.1 else (U.way t u).length-1)=dp
 out:∀i,i∈u.ids->t∉(fnd i u).ids->P.id∉(fnd i u).ids
 pos:(wh=0/\k=0)\/(wh=1/\k=P.kids.length)\/((wh=2\/wh=3)/\∃j a y b,P.kids=a++y::b/\y.id=t/\j=a.length/\t∉U.idss a/\k=j+(if wh=2 then 1 else 0))
theorem jP {u:U} (hn:u.ids.Nodup) {t:Idd} (ht:t∈u.ids) {wh:Int} (h0:0<=wh) (h3:wh<=3) (hne:¬(besides wh=true/\t=u.id)):∃P dp k,Goal u t wh P dp k:=by
 have hh:(wh=0\/wh=1)\/(wh=2\/wh=3):=by omega
 rcases hh with hh|hh
 ·have hb:besides wh=false:=decide_eq_false (by omega)
  have hi:=cS u hn ht
  have hw:=gH ht
  refine⟨fnd t u,(U.way t u).length-1,if wh=0 then 0 else (fnd t u).kids.length,?_,?_,?_,?_,?_,?_,?_⟩
  ·rw[hi.1];exact ht
  ·rw[hi.1]
  ·rw[hi.1];omega
  ·unfold spot
   rw[hi.1]
   rcases hh with rfl|rfl<;>simp
  ·rw[hb];simp
  ·intro i hi2 h
   rw[hi.1];exact h
  ·rcases hh with rfl|rfl<;>simp
 ·have hb:besides wh=true:=decide_eq_true hh
  have hne2:u.id≠t:=λe=>hne ⟨hb,e.symm⟩
  obtain⟨p,d,j,e1,e2,e3⟩:=bt hn ht hne2
  obtain⟨a,k,b,s,hk,hj,hl⟩:=e3.split
  refine⟨p,d,if wh=2 then j+1 else j,e3.mem,e3.fnd,e3.deep,?_,?_,?_,?_⟩
  ·unfold spot
   rw[e1]
   rcases hh with rfl|rfl<;>simp
  ·rw[hb,e2];simp
  ·intro i hi h hm
   apply h
   have hpi:=(eI u hn e3.mem hi).2 hm
   rw[←eI u hn ht hi]
   obtain⟨y,hy,e⟩:=hpi
   exact⟨y,by rw[e3.path];exact mem_append.2 (.inl hy),e⟩
  ·refine .inr (.inr ⟨hh,j,a,k,b,s.eq,hk,hj,s.left,?_⟩)
   rcases hh with rfl|rfl<;>simp
theorem idss_del {t:Idd} {a:List U} {j:Nat} (h:t∉U.idss a):t∉U.idss (delAt a j):=by
 unfold delAt
 rw[U.idss_app,mem_append,not_or]
 have e1:U.idss a=U.idss (a.take j)++U.idss (a.drop j):=by rw[←U.idss_app,take_append_drop]
 have e2:U.idss a=U.idss (a.take (j+1))++U.idss (a.drop (j+1)):=by rw[←U.idss_app,take_append_drop]
 exact⟨λhm=>h (by rw[e1];exact mem_append.2 (.inl hm)),λhm=>h (by rw[e2];exact mem_append.2 (.inr hm))⟩
end Go.Av
