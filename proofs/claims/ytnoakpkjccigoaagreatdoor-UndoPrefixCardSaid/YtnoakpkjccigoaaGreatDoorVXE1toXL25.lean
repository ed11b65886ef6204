/-
  ENACT, 1: paths in trees, in plain Lean: the way to the first unit with an ID; a unit changed, a unit put in another's place; parents.
-/
import Derived.Test.YtnoakpkjccigoaaGreatDoorVXL9toXL13
import Derived.Test.YtnoakpkjccigoaaGreatDoorVXL18toXOpI
namespace Go.Av
open Go Go.RowKit Go.Proofs List
set_option linter.unusedSimpArgs false
set_option linter.unusedVariables false
theorem U.idss_nil:U.idss []=[]:=by unfold U.idss;rw[U.flats];rfl
theorem U.idss_app (a b:List U):U.idss (a++b)=U.idss a++U.idss b:=by
 induction a with
 |nil=>rw[U.idss_nil];rfl
 |cons x a ih=>rw[cons_append,U.idss_cons,U.idss_cons,ih,append_assoc]
def orW:List U->List U->List U
 |[],q=>q
 |x::p,_=>x::p
def fL (u:U):List U->List U
 |[]=>[]
 |x::p=>u::x::p
theorem orW_nil {p q:List U}:orW p q=[]↔p=[]/\q=[]:=by cases p<;>simp[orW]
theorem l9 {u:U} {p:List U}:fL u p=[]↔p=[]:=by cases p<;>simp[fL]
theorem n9 {u:U} {p:List U} (h:p≠[]):fL u p=u::p:=by cases p<;>simp_all[fL]
theorem orW_ne {p q:List U} (h:p≠[]):orW p q=p:=by cases p<;>simp_all[orW]
mutual
def U.way (i:Idd):U->List U
 |⟨d,k,l,h,w,ks⟩=>if d=i then [⟨d,k,l,h,w,ks⟩]else fL ⟨d,k,l,h,w,ks⟩ (U.ways i ks)
def U.ways (i:Idd):List U->List U
 |[]=>[]
 |u::us=>orW (U.way i u) (U.ways i us)
end
theorem U.way_eq (i:Idd) (u:U):U.way i u=if u.id=i then [u]else fL u (U.ways i u.kids):=by cases u;rw[U.way]
theorem U.ways_nil (i:Idd):U.ways i []=[]:=by rw[U.ways]
theorem U.ways_cons (i:Idd) (u:U) (us:List U):U.ways i (u::us)=orW (U.way i u) (U.ways i us):=by rw[U.ways]
theorem kE {i:Idd} {us:List U} (h:∀k∈us,(U.way i k=[]↔i∉k.ids)):U.ways i us=[]↔i∉U.idss us:=by
 induction us with
 |nil=>rw[U.ways_nil,U.idss_nil];simp
 |cons u us ih=>
  rw[U.ways_cons,U.idss_cons,orW_nil,mem_append,h u (by simp),ih λk D=>h k (by simp[D])]
  simp[not_or]
theorem cO {i:Idd}:∀u:U,U.way i u=[]↔i∉u.ids:=by
 refine U.ind λu ih=>?_
 rw[U.way_eq,U.ids_eq,mem_cons]
 by_cases h:u.id=i
 ·simp[h]
 ·rw[if_neg h,l9,kE ih]
  simp[Ne.symm h]
theorem iC {i:Idd} (us:List U):U.ways i us=[]↔i∉U.idss us:=kE λk _=>cO k
theorem cq {i:Idd} {u:U}:U.way i u≠[]↔i∈u.ids:=by rw[Ne,cO];simp
structure Split (i:Idd) (us a:List U) (k:U) (b:List U):Prop where
 eq:us=a++k::b
 mem:i∈k.ids
 left:i∉U.idss a
 right:i∉U.idss b
 nd:k.ids.Nodup
theorem eo {i:Idd} {us:List U} (D:(U.idss us).Nodup) (hi:i∈U.idss us):∃a k b,Split i us a k b:=by
 induction us with
 |nil=>rw[U.idss_nil]at hi;cases hi
 |cons u us ih=>
  rw[U.idss_cons]at D hi
  obtain⟨N,O,T⟩:=nodup_append.1 D
  by_cases h:i∈u.ids
  ·exact⟨[],u,us,rfl,h,by rw[U.idss_nil];simp,λM=>T i h i M rfl,N⟩
  ·obtain⟨a,k,b,e,E,F,I,J⟩:=ih O ((mem_append.1 hi).resolve_left h)
   refine⟨u::a,k,b,by rw[e];rfl,E,?_,I,J⟩
   rw[U.idss_cons,mem_append,not_or]
   exact⟨h,F⟩
theorem U.nd_kids {u:U} (h:u.ids.Nodup):(U.idss u.kids).Nodup/\u.id∉U.idss u.kids:=by
 rw[U.ids_eq,nodup_cons]at h
 exact⟨h.2,h.1⟩
theorem U.wayInd {i:Idd} {p:U->Prop} (E:∀u,u.ids.Nodup->u.id=i->p u)
  (F:∀u a k b,u.ids.Nodup->u.id≠i->Split i u.kids a k b->p k->p u) (u:U) (D:u.ids.Nodup) (hi:i∈u.ids):p u:=by
 revert D hi
 refine U.ind (p:=λu=>u.ids.Nodup->i∈u.ids->p u) (λu ih D hi=>?_) u
 by_cases h:u.id=i
 ·exact E u D h
 ·rw[U.ids_eq,mem_cons]at hi
  obtain⟨a,k,b,s⟩:=eo (U.nd_kids D).1 (hi.resolve_left (Ne.symm h))
  exact F u a k b D h s (ih k (by rw[s.eq];simp) s.nd s.mem)
theorem fU (i:Idd) (a b:List U):U.ways i (a++b)=orW (U.ways i a) (U.ways i b):=by
 induction a with
 |nil=>rw[U.ways_nil];rfl
 |cons x a ih=>
  rw[cons_append,U.ways_cons,U.ways_cons,ih]
  cases U.way i x<;>simp[orW]
theorem Split.ways {i:Idd} {us a b:List U} {k:U} (s:Split i us a k b):U.ways i us=U.way i k:=by
 rw[s.eq,fU,(iC a).2 s.left,U.ways_cons]
 show orW (U.way i k) _=_
 rw[orW_ne (cq.2 s.mem)]
theorem Split.way {i:Idd} {u:U} {a b:List U} {k:U} (D:u.id≠i) (s:Split i u.kids a k b):U.way i u=u::U.way i k:=by
 rw[U.way_eq,if_neg D,s.ways,n9 (cq.2 s.mem)]
theorem aN {i:Idd} {u:U} (h:u.id=i):U.way i u=[u]:=by rw[U.way_eq,if_pos h]
/-! ### a unit changed -/
mutual
def U.wth (i:Idd) (f:U->U):U->U
 |⟨d,k,l,h,w,ks⟩=>if d=i then f ⟨d,k,l,h,w,ks⟩else ⟨d,k,l,h,w,U.wths i f ks⟩
def U.wths (i:Idd) (f:U->U):List U->List U
 |[]=>[]
 |u::us=>if U.way i u=[]then u::U.wths i f us else U.wth i f u::us
end
theorem U.wth_eq (i:Idd) (f:U->U) (u:U):U.wth i f u=if u.id=i then f u else {u with kids:=U.wths i f u.kids}:=by cases u;rw[U.wth]
theorem U.wths_nil (i:Idd) (f:U->U):U.wths i f []=[]:=by rw[U.wths]
theorem U.wths_cons (i:Idd) (f:U->U) (u:U) (us:List U):U.wths i f (u::us)=if U.way i u=[]then u::U.wths i f us else U.wth i f u::us:=by rw[U.wths]
theorem wths_no {i:Idd} {f:U->U}:∀{us:List U},i∉U.idss us->U.wths i f us=us
 |[],_=>U.wths_nil i f
 |u::us,h=>by
  rw[U.idss_cons,mem_append,not_or]at h
  rw[U.wths_cons,if_pos ((cO u).2 h.1),wths_no h.2]
theorem wth_no {i:Idd} {f:U->U} {u:U} (h:i∉u.ids):U.wth i f u=u:=by
 rw[U.ids_eq,mem_cons,not_or]at h
 rw[U.wth_eq,if_neg (Ne.symm h.1),wths_no h.2]
 cases u;rfl
theorem m8 {i:Idd} {f:U->U} {a b:List U} (h:i∉U.idss a):U.wths i f (a++b)=a++U.wths i f b:=by
 induction a with
 |nil=>rfl
 |cons x a ih=>
  rw[U.idss_cons,mem_append,not_or]at h
  rw[cons_append,U.wths_cons,if_pos ((cO x).2 h.1),ih h.2]
  rfl
theorem Split.wths {i:Idd} {f:U->U} {us a b:List U} {k:U} (s:Split i us a k b):U.wths i f us=a++U.wth i f k::b:=by
 rw[s.eq,m8 s.left,U.wths_cons,if_neg (cq.2 s.mem)]
theorem Split.wth {i:Idd} {f:U->U} {u:U} {a b:List U} {k:U} (D:u.id≠i) (s:Split i u.kids a k b):U.wth i f u={u with kids:=a++U.wth i f k::b}:=by
 rw[U.wth_eq,if_neg D,s.wths]
theorem bA {i:Idd} {f:U->U} {u:U} (h:u.id=i):U.wth i f u=f u:=by rw[U.wth_eq,if_pos h]
/-! ### parents -/
def cf {α:Type} (p:α->Bool):List α->Option Nat
 |[]=>none
 |x::l=>if p x then some 0 else (cf p l).map (· +1)
theorem eO {α:Type} {p:α->Bool} {a b:List α} {k:α} (D:∀x∈a,p x=false) (E:p k=true):cf p (a++k::b)=some a.length:=by
 induction a with
 |nil=>simp[cf,E]
 |cons x a ih=>
  rw[cons_append,cf,D x (by simp),ih λy F=>D y (by simp[F])]
  simp
theorem ld {α:Type} {p:α->Bool} {a:List α} (D:∀x∈a,p x=false):cf p a=none:=by
 induction a with
 |nil=>rfl
 |cons x a ih=>rw[cf,D x (by simp),ih λy E=>D y (by simp[E])];rfl
mutual
def U.par (i:Idd):U->Option (U×Nat×Nat)
 |⟨d,k,l,h,w,ks⟩=>match cf (λk=>decide (k.id=i)) ks with
  |some j=>some (⟨d,k,l,h,w,ks⟩,0,j)
  |none=>U.pars i ks
def U.pars (i:Idd):List U->Option (U×Nat×Nat)
 |[]=>none
 |u::us=>match U.par i u with
  |some (p,d,j)=>some (p,d+1,j)
  |none=>U.pars i us
end
theorem U.par_eq (i:Idd) (u:U):U.par i u=match cf (λk=>decide (k.id=i)) u.kids with
  |some j=>some (u,0,j)
  |none=>U.pars i u.kids:=by cases u;rw[U.par]
theorem U.pars_nil (i:Idd):U.pars i []=none:=by rw[U.pars]
theorem U.pars_cons (i:Idd) (u:U) (us:List U):U.pars i (u::us)=match U.par i u with
  |some (p,d,j)=>some (p,d+1,j)
  |none=>U.pars i us:=by rw[U.pars]
theorem de {i:Idd} {us:List U} {k:U} (D:k∈us) (h:i∈k.ids):i∈U.idss us:=by
 induction us with
 |nil=>cases D
 |cons u us ih=>
  rw[U.idss_cons,mem_append]
  rcases mem_cons.1 D with rfl|D
  ·exact .inl h
  ·exact .inr (ih D)
theorem cR (u:U):u.id∈u.ids:=by rw[U.ids_eq];simp
theorem eX {i:Idd} {us:List U} (h:i∉U.idss us):∀x∈us,decide (x.id=i)=false:=λx D=>by
 refine decide_eq_false λe=>h (de D ?_)
 rw[←e];exact cR x
theorem o8 {i:Idd} {us:List U} (h:∀k∈us,i∉k.ids->U.par i k=none) (hi:i∉U.idss us):U.pars i us=none:=by
 induction us with
 |nil=>rw[U.pars_nil]
 |cons u us ih=>
  rw[U.idss_cons,mem_append,not_or]at hi
  rw[U.pars_cons,h u (by simp) hi.1]
  exact ih (λk D=>h k (by simp[D])) hi.2
theorem par_no {i:Idd}:∀u:U,i∉U.idss u.kids->U.par i u=none:=by
 refine U.ind λu ih h=>?_
 rw[U.par_eq,ld (eX h)]
 refine o8 (λk D hi=>ih k D λE=>hi ?_) h
 rw[U.ids_eq];exact mem_cons_of_mem _ E
theorem pars_app {i:Idd} {a b:List U} (h:i∉U.idss a):U.pars i (a++b)=U.pars i b:=by
 induction a with
 |nil=>rfl
 |cons x a ih=>
  rw[U.idss_cons,mem_append,not_or]at h
  rw[cons_append,U.pars_cons,par_no x λD=>h.1 (by rw[U.ids_eq];exact mem_cons_of_mem _ D)]
  exact ih h.2
def aF (i:Idd) (u:U):Option (U×Nat×Nat):=match (U.way i u).reverse with
 |_::p::r=>some (p,r.length,(cf (λk=>!(U.way i k).isEmpty) p.kids).getD 0)
 |_=>none
theorem Split.no_way {i:Idd} {us a b:List U} {k:U} (s:Split i us a k b):cf (λk=>!(U.way i k).isEmpty) us=some a.length:=by
 rw[s.eq]
 refine eO (λx D=>?_) ?_
 ·rw[(cO x).2 λh=>s.left (de D h)];rfl
 ·have:=cq.2 s.mem
  cases h:U.way i k with
  |nil=>exact absurd h this
  |cons _ _=>rfl
theorem par_way {i:Idd} (u:U) (I:u.ids.Nodup) (hi:i∈u.ids):U.par i u=aF i u:=by
 refine U.wayInd (i:=i) (p:=λu=>U.par i u=aF i u) ?_ ?_ u I hi
 ·intro u I h
  have:=(U.nd_kids I).2
  rw[h]at this
  unfold aF
  rw[aN h,par_no u this]
  rfl
 ·intro u a k b _ h s ih
  unfold aF at ih ⊢
  rw[s.way h,U.par_eq]
  by_cases E:k.id=i
  ·have e:cf (λk=>decide (k.id=i)) u.kids=some a.length:=by
    rw[s.eq]
    exact eO (eX s.left) (decide_eq_true E)
   have N:=s.no_way
   rw[e,aN E]
   simp[N]
  ·have e:cf (λk=>decide (k.id=i)) u.kids=none:=by
    rw[s.eq]
    refine ld λx D=>?_
    rcases mem_append.1 D with D|D
    ·exact eX s.left x D
    ·rcases mem_cons.1 D with rfl|D
     ·exact decide_eq_false E
     ·exact eX s.right x D
   have F:i∈U.idss k.kids:=by
    have:=s.mem
    rw[U.ids_eq,mem_cons]at this
    exact this.resolve_left (Ne.symm E)
   obtain⟨T,M,V,s2⟩:=eo (U.nd_kids s.nd).1 F
   rw[e]
   simp only
   rw[s.eq,pars_app s.left,U.pars_cons,ih,s2.way E]
   have J:U.way i M≠[]:=cq.2 s2.mem
   obtain⟨l,y,O⟩:∃l y,U.way i M=l++[y]:=⟨_,_,(dropLast_concat_getLast J).symm⟩
   rw[O]
   simp only[reverse_cons,reverse_append,reverse_nil,nil_append,cons_append,append_assoc]
   cases X:l.reverse<;>simp
theorem Split.other {i q:Idd} {us a b:List U} {k:U} (s:Split i us a k b) (D:(U.idss us).Nodup) (E:q∈k.ids):Split q us a k b:=by
 refine⟨s.eq,E,?_,?_,s.nd⟩
 ·intro h
  rw[s.eq,U.idss_app,U.idss_cons]at D
  exact(nodup_append.1 D).2.2 q h q (mem_append.2 (.inl E)) rfl
 ·intro h
  rw[s.eq,U.idss_app,U.idss_cons]at D
  exact(nodup_append.1 (nodup_append.1 D).2.1).2.2 q E q h rfl
theorem Split.ne {i q:Idd} {u k:U} {a b:List U} (D:u.ids.Nodup) (s:Split i u.kids a k b) (E:q∈k.ids):u.id≠q:=λe=>by
 refine(U.nd_kids D).2 ?_
 rw[e,s.eq,U.idss_app,U.idss_cons]
 exact mem_append.2 (.inr (mem_append.2 (.inl E)))
theorem cB {i:Idd} {u:U} (h:u.id=i):aF i u=none:=by unfold aF;rw[aN h];rfl
theorem g7 {i:Idd} {u k:U} {a b:List U} (h:u.id≠i) (s:Split i u.kids a k b) (D:k.id=i):aF i u=some (u,0,a.length):=by
 unfold aF
 rw[s.way h,aN D]
 simp[s.no_way]
theorem fO {i:Idd} {u k:U} {a b:List U} (h:u.id≠i) (s:Split i u.kids a k b) (F:k.id≠i):aF i u=(aF i k).map λq=>(q.1,q.2.1+1,q.2.2):=by
 have D:i∈U.idss k.kids:=by
  have:=s.mem
  rw[U.ids_eq,mem_cons]at this
  exact this.resolve_left (Ne.symm F)
 obtain⟨M,I,N,s2⟩:=eo (U.nd_kids s.nd).1 D
 unfold aF
 rw[s.way h,s2.way F]
 have E:U.way i I≠[]:=cq.2 s2.mem
 obtain⟨l,y,J⟩:∃l y,U.way i I=l++[y]:=⟨_,_,(dropLast_concat_getLast E).symm⟩
 rw[J]
 simp only[reverse_cons,reverse_append,reverse_nil,nil_append,cons_append,append_assoc]
 cases O:l.reverse<;>simp
structure Par (i:Idd) (u p:U) (d j:Nat):Prop where
 path:U.way i u=U.way p.id u++[(U.way i u).getLastD p]
 deep:(U.way p.id u).length=d+1
 last:(U.way p.id u).getLast?=some p
 mem:p.id∈u.ids
 ne:u.id≠i
 nd:p.ids.Nodup
 split:∃a k b,Split i p.kids a k b/\k.id=i/\j=a.length/\(U.way i u).getLast?=some k
theorem et {i:Idd} (u:U) (E:u.ids.Nodup) (hi:i∈u.ids):∀{p d j},aF i u=some (p,d,j)->Par i u p d j:=by
 refine U.wayInd (i:=i) (p:=λu=>∀{p d j},aF i u=some (p,d,j)->Par i u p d j) ?_ ?_ u E hi
 ·intro u _ h p d j e
  rw[cB h]at e;cases e
 ·intro u a k b E h s ih p d j e
  by_cases I:k.id=i
  ·rw[g7 h s I]at e
   injection e with e
   injection e with e1 D
   injection D with D e3
   subst e1 D e3
   have T:U.way i u=[u,k]:=by rw[s.way h,aN I]
   refine⟨?_,?_,?_,cR u,h,E,a,k,b,s,I,rfl,?_⟩
   ·rw[T,aN rfl];rfl
   ·rw[aN rfl];rfl
   ·rw[aN rfl];rfl
   ·rw[T];rfl
  ·rw[fO h s I]at e
   obtain⟨⟨p',d',j'⟩,e',D⟩:=Option.map_eq_some_iff.1 e
   injection D with e1 D
   injection D with D e3
   subst e1 D e3
   obtain⟨Z,h2,h3,F,h5,h6,X,k',Y,s',J,hj,hl⟩:=ih e'
   have N:=s.other (U.nd_kids E).1 F
   have M:=Split.ne E s F
   have V:U.way i k≠[]:=cq.2 s.mem
   have O:U.way p'.id k≠[]:=cq.2 F
   refine⟨?_,?_,?_,?_,h,h6,X,k',Y,s',J,hj,?_⟩
   ·rw[s.way h,N.way M,Z]
    simp[getLastD_cons,getLast?_cons]
   ·rw[N.way M,length_cons,h2]
   ·rw[N.way M,getLast?_cons,h3];rfl
   ·rw[U.ids_eq]
    refine mem_cons_of_mem _ ?_
    rw[s.eq,U.idss_app,U.idss_cons]
    exact mem_append.2 (.inr (mem_append.2 (.inl F)))
   ·rw[s.way h,getLast?_cons,hl];rfl
/-! ### a way in a tree of which one unit was changed -/
theorem orW_map (g:U->U) (p q:List U):(orW p q).map g=orW (p.map g) (q.map g):=by cases p<;>simp[orW]
theorem lL (g:U->U) (u:U) (p:List U):(fL u p).map g=fL (g u) (p.map g):=by cases p<;>simp[fL]
theorem jp {t:Idd} {us:List U} (h:∀k∈us,∀v∈U.way t k,∀q∈v.ids,q∈k.ids):∀v∈U.ways t us,∀q∈v.ids,q∈U.idss us:=by
 induction us with
 |nil=>intro v D;rw[U.ways_nil]at D;cases D
 |cons u us ih=>
  intro v D q F
  rw[U.ways_cons]at D
  rw[U.idss_cons,mem_append]
  cases E:U.way t u with
  |nil=>
   rw[E]at D
   exact .inr (ih (λk I=>h k (by simp[I])) v D q F)
  |cons x l=>
   rw[E]at D
   exact .inl (h u (by simp) v (by rw[E];exact D) q F)
theorem jU {t:Idd}:∀u:U,∀v∈U.way t u,∀q∈v.ids,q∈u.ids:=by
 refine U.ind λu ih v D q E=>?_
 rw[U.way_eq]at D
 split at D
 ·simp only[mem_singleton]at D;subst D;exact E
 ·cases F:U.ways t u.kids with
  |nil=>rw[F]at D;cases D
  |cons x l=>
   rw[F]at D
   rcases mem_cons.1 D with rfl|D
   ·exact E
   ·rw[U.ids_eq]
    exact mem_cons_of_mem _ (jp ih v (by rw[F];exact D) q E)
theorem map_no {j t:Idd} {f:U->U} {us:List U} (h:j∉U.idss us):(U.ways t us).map (U.wth j f)=U.ways t us:=by
 conv=>rhs;rw[←map_id (U.ways t us)]
 refine map_congr_left λv E=>?_
 exact wth_no λD=>h (jp (λk _=>jU k) v E j D)
theorem map_no1 {j t:Idd} {f:U->U} {u:U} (h:j∉u.ids):(U.way t u).map (U.wth j f)=U.way t u:=by
 conv=>rhs;rw[←map_id (U.way t u)]
 refine map_congr_left λv E=>?_
 exact wth_no λD=>h (jU u v E j D)
theorem iI {us:List U} {k y:U} (D:k∈us) (E:y∈k.flat):y∈U.flats us:=by
 induction us with
 |nil=>cases D
 |cons u us ih=>
  rw[U.flats,mem_append]
  rcases mem_cons.1 D with rfl|D
  ·exact .inl E
  ·exact .inr (ih D)
theorem mz {j t:Idd} {f:U->U} {us:List U} (E:(U.idss us).Nodup) (h:∀k∈us,k.ids.Nodup->U.way t (U.wth j f k)=(U.way t k).map (U.wth j f)):U.ways t (U.wths j f us)=(U.ways t us).map (U.wth j f):=by
 induction us with
 |nil=>rw[U.wths_nil,U.ways_nil];rfl
 |cons u us ih=>
  rw[U.idss_cons]at E
  obtain⟨M,N,O⟩:=nodup_append.1 E
  rw[U.wths_cons,U.ways_cons,orW_map]
  split
  ·rename_i D
   rw[U.ways_cons,ih N λk I=>h k (by simp[I]),map_no1 ((cO u).1 D)]
  ·rename_i D
   have F:=cq.1 D
   rw[U.ways_cons,h u (by simp) M,map_no λJ=>O j F j J rfl]
theorem jN {j t:Idd} {f:U->U}:∀u:U,u.ids.Nodup->(∀y∈u.flat,y.id=j->(f y).id=y.id/\U.ways t (f y).kids=U.ways t y.kids)->U.way t (U.wth j f u)=(U.way t u).map (U.wth j f):=by
 refine U.ind λu ih J F=>?_
 obtain⟨N,O⟩:=U.nd_kids J
 by_cases D:u.id=j
 ·obtain⟨f1,f2⟩:=F u (by rw[U.flat_eq];simp) D
  rw[bA D,U.way_eq,U.way_eq,f1]
  split
  ·simp[bA D]
  ·rw[f2,lL,bA D,map_no (by rw[←D];exact O)]
 ·rw[U.wth_eq,if_neg D,U.way_eq,U.way_eq]
  simp only
  split
  ·simp only[map_cons,map_nil]
   rw[U.wth_eq,if_neg D]
  ·rw[lL,mz N λk I E=>ih k I E λy M=>F y (by rw[U.flat_eq];exact mem_cons_of_mem _ (iI I M))]
   rw[U.wth_eq,if_neg D]
theorem mI {j:Idd} {f g:U->U} (u:U) (D:u.ids.Nodup) (hi:j∈u.ids) (F:∀y,y.id=j->(f y).id=j):U.wth j g (U.wth j f u)=U.wth j (λy=>g (f y)) u:=by
 refine U.wayInd (i:=j) (p:=λu=>U.wth j g (U.wth j f u)=U.wth j (λy=>g (f y)) u) ?_ ?_ u D hi
 ·intro u _ h
  rw[bA h,bA (F u h),bA h]
 ·intro u a k b D h s ih
  have E:U.way j (U.wth j f k)≠[]:=by
   have:∀k:U,k.ids.Nodup->j∈k.ids->U.way j (U.wth j f k)≠[]:=by
    intro k D hi
    refine U.wayInd (i:=j) (p:=λu=>U.way j (U.wth j f u)≠[]) ?_ ?_ k D hi
    ·intro u _ h
     rw[bA h,aN (F u h)];simp
    ·intro u a k b D h s ih
     rw[s.wth h,U.way_eq]
     simp only
     rw[if_neg h,Ne,l9,fU,(iC a).2 s.left,U.ways_cons]
     show ¬orW (U.way j (U.wth j f k)) _=[]
     rw[orW_nil]
     exact λe=>ih e.1
   exact this k s.nd s.mem
  rw[s.wth h,U.wth_eq]
  simp only
  rw[if_neg h,m8 s.left,U.wths_cons,if_neg E,ih,s.wth h]
structure Dd where
 act:Int
 item:Int
 day:Int
 it:Itm
def noU:U:=⟨⟨0,0,0⟩,0,[],[],[],[]⟩
def fnd (i:Idd) (u:U):U:=(U.way i u).getLastD noU
def aX (a b:Int):List (List UInt8)->Int->List Wd
 |[],_=>[]
 |s::l,m=>⟨s,a,b,m⟩::aX a b l (m+1)
mutual
def U.stamp (a b:Int):U->Int->Int->U×Int×Int
 |⟨_,k,l,h,w,ks⟩,n,m=>
  (⟨⟨a,b,n⟩,k,l,aX a b (h.map Wd.text) m,aX a b (w.map Wd.text) (m+h.length),(U.stamps a b ks (n+1) (m+h.length+w.length)).1⟩,(U.stamps a b ks (n+1) (m+h.length+w.length)).2)
def U.stamps (a b:Int):List U->Int->Int->List U×Int×Int
 |[],n,m=>([],n,m)
 |u::us,n,m=>((U.stamp a b u n m).1::(U.stamps a b us (U.stamp a b u n m).2.1 (U.stamp a b u n m).2.2).1,(U.stamps a b us (U.stamp a b u n m).2.1 (U.stamp a b u n m).2.2).2)
end
def cz (u:U) (a b:Int):U:=(U.stamp a b u 1 0).1
def insAt (l:List U) (k:Nat) (x:U):List U:=l.take k++x::l.drop k
def delAt (l:List U) (k:Nat):List U:=l.take k++l.drop (k+1)
def taken (l:List U) (k:Int) (s:List UInt8):Bool:=l.any λx=>decide (x.kind=k)&&decide (x.label=s)
def dR (p:U) (l:List U) (x:U):Int:=if nests p.kind x.kind=false then 9 else if taken l x.kind x.label then 10 else 0
/-! ### the program -/
def spot (u:U) (i:Idd) (wh:Int):Option (Idd×Nat):=
 if wh=0 then some (i,0)else if wh=1 then some (i,(fnd i u).kids.length)else (aF i u).map λq=>(q.1.id,if wh=2 then q.2.2+1 else q.2.2)
def insP (u:U) (i:Idd) (d:Dd):U×Int:=match spot u i d.it.wh with
 |none=>(u,9)
 |some (q,k)=>
  if dR (fnd q u) (fnd q u).kids (cz d.it.unit d.act d.item)≠0 then (u,dR (fnd q u) (fnd q u).kids (cz d.it.unit d.act d.item))
  else if 64<=(fnd q u).kids.length\/8<(U.way q u).length+(cz d.it.unit d.act d.item).dep\/1024<u.cnt+(cz d.it.unit d.act d.item).cnt then (u,6)
  else if (cz d.it.unit d.act d.item).ids.any (λy=>decide (y∈u.ids))then (u,5)
  else (U.wth q (λy=>{y with kids:=insAt y.kids k (cz d.it.unit d.act d.item)}) u,0)
/-! ### the document -/
def parR (i:Idd) (u:U):U×Nat×Nat:=(U.par i u).getD (noU,0,0)
theorem aB {i:Idd} {u y:U} (h:(U.way i u).getLast?=some y):fnd i u=y:=by unfold fnd;rw[getLastD_eq_getLast?,h];rfl
theorem cS {i:Idd} (u:U) (D:u.ids.Nodup) (hi:i∈u.ids):(fnd i u).id=i/\(U.way i u).getLast?=some (fnd i u):=by
 refine U.wayInd (i:=i) (p:=λu=>(fnd i u).id=i/\(U.way i u).getLast?=some (fnd i u)) ?_ ?_ u D hi
 ·intro u _ h
  have:fnd i u=u:=aB (by rw[aN h];rfl)
  rw[this]
  exact⟨h,by rw[aN h];rfl⟩
 ·intro u a k b _ h s ih
  have:(U.way i u).getLast?=some (fnd i k):=by rw[s.way h,getLast?_cons,ih.2];rfl
  rw[aB this]
  exact⟨ih.1,this⟩
theorem bt {i:Idd} {u:U} (E:u.ids.Nodup) (hi:i∈u.ids) (D:u.id≠i):∃p d j,aF i u=some (p,d,j)/\parR i u=(p,d,j)/\Par i u p d j:=by
 have:∃q,aF i u=some q:=by
  rw[U.ids_eq,mem_cons]at hi
  obtain⟨a,k,b,s⟩:=eo (U.nd_kids E).1 (hi.resolve_left (Ne.symm D))
  have I:U.way i k≠[]:=cq.2 s.mem
  unfold aF
  rw[s.way D]
  cases F:(U.way i k).reverse with
  |nil=>exact absurd (by simpa using F) I
  |cons x l=>
   rw[reverse_cons,F]
   cases l<;>simp
 obtain⟨⟨p,d,j⟩,e⟩:=this
 exact⟨p,d,j,e,by unfold parR;rw[par_way u E hi,e];rfl,et u E hi e⟩
theorem Par.fnd {i:Idd} {u p:U} {d j:Nat} (h:Par i u p d j):fnd p.id u=p:=aB h.last
theorem gH {i:Idd} {u:U} (hi:i∈u.ids):1<=(U.way i u).length:=by
 have:=cq.2 hi
 cases h:U.way i u with
 |nil=>exact absurd h this
 |cons _ _=>simp
def without (i:Idd) (u:U):U:=match aF i u with
 |some (p,_,j)=>U.wth p.id (λy=>{y with kids:=delAt y.kids j}) u
 |none=>u
def besides (wh:Int):Bool:=decide (wh=2\/wh=3)
def under (u:U) (i t:Idd):Bool:=decide (t≠i)&&(U.way t u).dropLast.any λy=>decide (y.id=i)
def dY (u:U) (i t:Idd) (wh:Int):Option (Idd×Nat):=match aF i u with
 |none=>none
 |some (own,_,j)=>
  if under u i t=true\/t=i/\besides wh=false then none
  else if t=i then some (own.id,j)
  else (spot u t wh).map λq=>(q.1,if q.1=own.id/\j<q.2 then q.2-1 else q.2)
def movP (u:U) (i t:Idd) (d:Dd):U×Int:=match dY u i t d.it.wh with
 |none=>(u,9)
 |some (q,k)=>
  if dR (fnd q (without i u)) (fnd q (without i u)).kids (fnd i u)≠0 then (u,dR (fnd q (without i u)) (fnd q (without i u)).kids (fnd i u))
  else if (q≠(parR i u).1.id/\64<=(fnd q (without i u)).kids.length)\/8<(U.way q (without i u)).length+(fnd i u).dep then (u,6)
  else (U.wth q (λy=>{y with kids:=insAt y.kids k (fnd i u)}) (without i u),0)
theorem bO {a b:List U} {k:U}:delAt (a++k::b) a.length=a++b:=by
 unfold delAt
 rw[take_left' rfl,←singleton_append,←append_assoc,drop_left' (by simp)]
theorem n8 {a b:List U} {k:U}:insAt (a++b) a.length k=a++k::b:=by
 unfold insAt
 rw[take_left' rfl,drop_left' rfl]
theorem nJ {t:Idd} {a b:List U} {k:U} (h:t∉k.ids):U.ways t (a++b)=U.ways t (a++k::b):=by
 rw[fU,fU,U.ways_cons,(cO k).2 h]
 rfl
theorem map_one {α β:Type} {f:α->β}:∀{l:List α},(l.map f).Nodup->∀{x y},x∈l->y∈l->f x=f y->x=y
 |[],_,_,_,hx,_,_=>by cases hx
 |a::l,hn,x,y,hx,hy,e=>by
  rw[map_cons,nodup_cons]at hn
  rcases mem_cons.1 hx with rfl|hx'<;>rcases mem_cons.1 hy with rfl|hy'
  ·rfl
  ·exact absurd (mem_map.2 ⟨y,hy',e.symm⟩) hn.1
  ·exact absurd (mem_map.2 ⟨x,hx',e⟩) hn.1
  ·exact map_one hn.2 hx' hy' e
theorem qv {u x y:U} (D:u.ids.Nodup) (E:x∈u.flat) (F:y∈u.flat) (h:x.id=y.id):x=y:=map_one D E F h
theorem aP {i:Idd} (u:U) (D:u.ids.Nodup) (hi:i∈u.ids):fnd i u∈u.flat:=by
 refine U.wayInd (i:=i) (p:=λu=>fnd i u∈u.flat) ?_ ?_ u D hi
 ·intro u _ h
  rw[aB (y:=u) (by rw[aN h];rfl),U.flat_eq];simp
 ·intro u a k b _ h s ih
  have:fnd i u=fnd i k:=by unfold fnd;rw[s.way h];have:=gH s.mem;cases E:U.way i k<;>simp_all[getLastD_cons]
  rw[this,U.flat_eq]
  exact mem_cons_of_mem _ (iI (by rw[s.eq];simp) ih)
theorem qD {u y:U} (D:u.ids.Nodup) (F:y∈u.flat):fnd y.id u=y:=by
 have E:y.id∈u.ids:=mem_map.2 ⟨y,F,rfl⟩
 exact qv D (aP u D E) F (cS u D E).1
theorem Split.mem_ids {i q:Idd} {u k:U} {a b:List U} (s:Split i u.kids a k b) (D:q∈k.ids):q∈u.ids:=by
 rw[U.ids_eq,s.eq,U.idss_app,U.idss_cons]
 exact mem_cons_of_mem _ (mem_append.2 (.inr (mem_append.2 (.inl D))))
theorem Split.fnd {i q:Idd} {u k:U} {a b:List U} (E:u.ids.Nodup) (s:Split i u.kids a k b) (D:q∈k.ids):fnd q u=fnd q k:=by
 have F:=s.other (U.nd_kids E).1 D
 exact aB (by rw[F.way (Split.ne E s D),getLast?_cons,(cS k s.nd D).2];rfl)
theorem mK {i q:Idd} {u:U} (D:u.ids.Nodup) (hi:i∈u.ids) (E:q∈(fnd i u).ids):q∈u.ids:=by
 have:=(cS u D hi).2
 exact jU u _ (mem_of_getLast? this) q E
theorem fnd_nd {i:Idd} (u:U) (D:u.ids.Nodup) (hi:i∈u.ids):(fnd i u).ids.Nodup:=by
 refine U.wayInd (i:=i) (p:=λu=>(fnd i u).ids.Nodup) ?_ ?_ u D hi
 ·intro u D h
  rw[aB (y:=u) (by rw[aN h];rfl)];exact D
 ·intro u a k b D _ s ih
  rw[s.fnd D s.mem];exact ih
theorem eI {i t:Idd} (u:U) (E:u.ids.Nodup) (X:t∈u.ids) (hi:i∈u.ids):(∃y∈U.way t u,y.id=i)↔t∈(fnd i u).ids:=by
 revert hi
 refine U.wayInd (i:=t) (p:=λu=>i∈u.ids->((∃y∈U.way t u,y.id=i)↔t∈(fnd i u).ids)) ?_ ?_ u E X
 ·intro u E h hi
  rw[aN h]
  constructor
  ·rintro⟨y,D,e⟩
   simp only[mem_singleton]at D
   subst D
   rw[aB (y:=y) (by rw[aN e];rfl),←h]
   exact cR y
  ·intro M
   refine⟨u,by simp,?_⟩
   apply Classical.byContradiction
   intro O
   rw[U.ids_eq,mem_cons]at hi
   obtain⟨a,k,b,s⟩:=eo (U.nd_kids E).1 (hi.resolve_left (Ne.symm O))
   rw[s.fnd E s.mem]at M
   exact Split.ne E s (mK s.nd s.mem M) h
 ·intro u a k b E h s ih hi
  rw[s.way h]
  by_cases N:u.id=i
  ·rw[aB (y:=u) (by rw[aN N];rfl)]
   exact⟨λ_=>s.mem_ids s.mem,λ_=>⟨u,by simp,N⟩⟩
  ·by_cases F:i∈k.ids
   ·rw[s.fnd E F,←ih F]
    constructor
    ·rintro⟨y,D,e⟩
     rcases mem_cons.1 D with rfl|D
     ·exact absurd e N
     ·exact⟨y,D,e⟩
    ·rintro⟨y,D,e⟩
     exact⟨y,mem_cons_of_mem _ D,e⟩
   ·constructor
    ·rintro⟨y,D,e⟩
     rcases mem_cons.1 D with rfl|D
     ·exact absurd e N
     ·exact absurd (jU k y D i (by rw[←e];exact cR y)) F
    ·intro M
     exfalso
     rw[U.ids_eq,mem_cons]at hi
     obtain⟨T,Y,V,J⟩:=eo (U.nd_kids E).1 (hi.resolve_left (Ne.symm N))
     rw[J.fnd E J.mem]at M
     have st:=J.other (U.nd_kids E).1 (mK J.nd J.mem M)
     have I:k∈T++Y::V:=by rw[←J.eq,s.eq];simp
     rcases mem_append.1 I with I|I
     ·exact st.left (de I s.mem)
     ·rcases mem_cons.1 I with rfl|I
      ·exact F J.mem
      ·exact st.right (de I s.mem)
theorem way_last {t:Idd} (u:U) (F:u.ids.Nodup) (E:t∈u.ids):U.way t u=(U.way t u).dropLast++[fnd t u]:=by
 have h:=(cS u F E).2
 have D:U.way t u≠[]:=cq.2 E
 rw[getLast?_eq_some_getLast D]at h
 injection h with h
 conv=>lhs;rw[←dropLast_concat_getLast D,h]
theorem gl {i t:Idd} (u:U) (E:u.ids.Nodup) (I:t∈u.ids) (hi:i∈u.ids):under u i t=true↔t≠i/\t∈(fnd i u).ids:=by
 unfold under
 rw[Bool.and_eq_true,decide_eq_true_eq,any_eq_true,←eI u E I hi]
 refine and_congr_right λF=>?_
 constructor
 ·rintro⟨y,D,e⟩
  exact⟨y,dropLast_subset _ D,by simpa using e⟩
 ·rintro⟨y,D,e⟩
  rw[way_last u E I]at D
  rcases mem_append.1 D with D|D
  ·exact⟨y,D,by simpa using e⟩
  ·simp only[mem_singleton]at D
   subst D
   exact absurd ((cS u E I).1.symm.trans e) F
/-! ### a tree of which one unit's child was taken -/
section
variable {u own x:U} {i:Idd} {d:Nat} {a b:List U}
theorem node_eq {u own:U} (D:u.ids.Nodup) (E:fnd own.id u=own) (F:own.id∈u.ids) {y:U} (I:y∈u.flat) (e:y.id=own.id):y=own:=by
 rw[←E]
 exact qv D I (aP u D F) (by rw[E];exact e)
theorem way_out {t:Idd} (D:u.ids.Nodup) (E:Par i u own d a.length) (I:own.kids=a++x::b) (J:t∉x.ids):
  U.way t (U.wth own.id (λy=>{y with kids:=delAt y.kids a.length}) u)=(U.way t u).map (U.wth own.id λy=>{y with kids:=delAt y.kids a.length}):=
 jN u D λy M e=>by
  have F:=node_eq D E.fnd E.mem M e
  subst F
  refine⟨rfl,?_⟩
  simp only
  rw[I,bO,nJ J]
theorem eM {β:Type} {j:Idd} {f:U->U} (key:U->β) (D:∀y,key (f y)=key y) (E:∀y ks,key {y with kids:=ks}=key y) (y:U):key (U.wth j f y)=key y:=by
 rw[U.wth_eq]
 split
 ·exact D y
 ·exact E y _
theorem kz {j:Idd} {f:U->U} (u:U) (E:u.ids.Nodup) (hi:j∈u.ids) (D:f (Go.Av.fnd j u)=Go.Av.fnd j u):U.wth j f u=u:=by
 revert D
 refine U.wayInd (i:=j) (p:=λu=>f (Go.Av.fnd j u)=Go.Av.fnd j u->U.wth j f u=u) ?_ ?_ u E hi
 ·intro u _ h D
  have:Go.Av.fnd j u=u:=aB (by rw[aN h];rfl)
  rw[bA h];rw[this]at D;exact D
 ·intro u a k b E h s ih D
  rw[s.fnd E s.mem]at D
  rw[s.wth h,ih D,←s.eq]
  cases u;rfl
end
structure Goal (u:U) (t:Idd) (wh:Int) (P:U) (dp k:Nat):Prop where
 mem:P.id∈u.ids
 here:fnd P.id u=P
 deep:(U.way P.id u).length=dp+1
 spot:Go.Av.spot u t wh=some (P.id,k)
 ref:(if besides wh then (parR t u).1 else fnd t u)=P/\(if besides wh then (parR t u).2.1 else (U.way t u).length-1)=dp
 out:∀i,i∈u.ids->t∉(fnd i u).ids->P.id∉(fnd i u).ids
 pos:(wh=0/\k=0)\/(wh=1/\k=P.kids.length)\/((wh=2\/wh=3)/\∃j a y b,P.kids=a++y::b/\y.id=t/\j=a.length/\t∉U.idss a/\k=j+(if wh=2 then 1 else 0))
theorem jP {u:U} (M:u.ids.Nodup) {t:Idd} (I:t∈u.ids) {wh:Int} (h0:0<=wh) (h3:wh<=3) (N:¬(besides wh=true/\t=u.id)):∃P dp k,Goal u t wh P dp k:=by
 have D:(wh=0\/wh=1)\/(wh=2\/wh=3):=by omega
 rcases D with D|D
 ·have J:besides wh=false:=decide_eq_false (by omega)
  have hi:=cS u M I
  have hw:=gH I
  refine⟨fnd t u,(U.way t u).length-1,if wh=0 then 0 else (fnd t u).kids.length,?_,?_,?_,?_,?_,?_,?_⟩
  ·rw[hi.1];exact I
  ·rw[hi.1]
  ·rw[hi.1];omega
  ·unfold spot
   rw[hi.1]
   rcases D with rfl|rfl<;>simp
  ·rw[J];simp
  ·intro i X h
   rw[hi.1];exact h
  ·rcases D with rfl|rfl<;>simp
 ·have J:besides wh=true:=decide_eq_true D
  have F:u.id≠t:=λe=>N ⟨J,e.symm⟩
  obtain⟨p,d,j,T,V,E⟩:=bt M I F
  obtain⟨a,k,b,s,Z,Y,hl⟩:=E.split
  refine⟨p,d,if wh=2 then j+1 else j,E.mem,E.fnd,E.deep,?_,?_,?_,?_⟩
  ·unfold spot
   rw[T]
   rcases D with rfl|rfl<;>simp
  ·rw[J,V];simp
  ·intro i hi h hm
   apply h
   have O:=(eI u M E.mem hi).2 hm
   rw[←eI u M I hi]
   obtain⟨y,hy,e⟩:=O
   exact⟨y,by rw[E.path];exact mem_append.2 (.inl hy),e⟩
  ·refine .inr (.inr ⟨D,j,a,k,b,s.eq,Z,Y,s.left,?_⟩)
   rcases D with rfl|rfl<;>simp
theorem idss_del {t:Idd} {a:List U} {j:Nat} (h:t∉U.idss a):t∉U.idss (delAt a j):=by
 unfold delAt
 rw[U.idss_app,mem_append,not_or]
 have E:U.idss a=U.idss (a.take j)++U.idss (a.drop j):=by rw[←U.idss_app,take_append_drop]
 have F:U.idss a=U.idss (a.take (j+1))++U.idss (a.drop (j+1)):=by rw[←U.idss_app,take_append_drop]
 exact⟨λD=>h (by rw[E];exact mem_append.2 (.inl D)),λD=>h (by rw[F];exact mem_append.2 (.inr D))⟩
theorem cH (a b:Int):∀(l:List (List UInt8)) (m:Int),(aX a b l m).length=l.length
 |[],_=>rfl
 |s::l,m=>by rw[aX,length_cons,cH a b l,length_cons]
theorem lZ (a b:Int):∀(l r:List (List UInt8)) (m:Int),aX a b (l++r) m=aX a b l m++aX a b r (m+l.length)
 |[],r,m=>by simp[aX]
 |s::l,r,m=>by
  rw[cons_append,aX,lZ a b l r,aX,cons_append]
  simp only[length_cons]
  rw[show m+1+(l.length:Int)=m+((l.length+1:Nat):Int)by omega]
/-! ### where a row occurs -/
def occL (row:List (List UInt8)):Nat->Nat->List (List UInt8)->List Nat
 |_,_,[]=>[]
 |k+1,i,_::l=>occL row k (i+1) l
 |0,i,x::l=>if (x::l).take row.length=row then i::occL row (row.length-1) (i+1) l else occL row 0 (i+1) l
theorem rM (row:List (List UInt8)):∀(k i:Nat) (l:List (List UInt8)),occL row k i l=occL row 0 (i+k) (l.drop k)
 |0,i,l=>by simp
 |k+1,i,[]=>by simp[occL]
 |k+1,i,x::l=>by rw[occL,rM row k (i+1) l,drop_succ_cons,show i+1+k=i+(k+1)by omega]
theorem occL_hit {row:List (List UInt8)} {i:Nat} {l:List (List UInt8)} (E:row≠[]) (h:l.take row.length=row):occL row 0 i l=i::occL row 0 (i+row.length) (l.drop row.length):=by
 cases l with
 |nil=>rw[take_nil]at h;exact absurd h.symm E
 |cons x l=>
  have F:1<=row.length:=by cases row<;>simp_all
  rw[occL,if_pos h,rM]
  obtain⟨n,D⟩:∃n,row.length=n+1:=⟨row.length-1,by omega⟩
  rw[D,drop_succ_cons,show i+1+(n+1-1)=i+(n+1)by omega]
  rfl
theorem occL_miss {row:List (List UInt8)} {i:Nat} {l:List (List UInt8)} (h:l.take row.length≠row):occL row 0 i l=occL row 0 (i+1) (l.drop 1):=by
 cases l with
 |nil=>simp[occL]
 |cons x l=>rw[occL,if_neg h];rfl
theorem kk {row:List (List UInt8)}:∀{l:List (List UInt8)} {i:Nat},l.length<row.length->occL row 0 i l=[]
 |[],_,_=>by rw[occL]
 |x::l,i,h=>by
  rw[occL,if_neg,kk (by simp at h;omega)]
  intro e
  have:=congrArg List.length e
  simp at this h
  omega
def Gaps (n len:Nat):Nat->List Nat->Prop
 |_,[]=>True
 |s,p::ps=>s<=p/\p+len<=n/\Gaps n len (p+len) ps
theorem Gaps.from {n len:Nat}:∀{ps:List Nat} {s D:Nat},D<=s->Gaps n len s ps->Gaps n len D ps
 |[],_,_,_,_=>trivial
 |p::ps,s,D,h,⟨h1,h2,h3⟩=>⟨by omega,h2,h3⟩
theorem gB {row:List (List UInt8)} (E:row≠[]):∀(k i:Nat) (l:List (List UInt8)),k<=l.length->Gaps (i+l.length) row.length (i+k) (occL row k i l)
 |_,_,[],_=>by rw[occL];trivial
 |k+1,i,x::l,h=>by
  rw[occL]
  have:=gB E k (i+1) l (by simpa using h)
  rw[show i+(x::l).length=i+1+l.length by simp;omega,show i+(k+1)=i+1+k by omega]
  exact this
 |0,i,x::l,_=>by
  rw[occL]
  have F:1<=row.length:=by cases row<;>simp_all
  split
  ·rename_i e
   have D:row.length<=(x::l).length:=by
    have:=congrArg List.length e
    rw[length_take]at this
    omega
   have:=gB E (row.length-1) (i+1) l (by simp at D;omega)
   refine⟨by omega,by omega,?_⟩
   rw[show i+(x::l).length=i+1+l.length by simp;omega,show i+row.length=i+1+(row.length-1)by omega]
   exact this
  ·have:=gB E 0 (i+1) l (by omega)
   rw[show i+(x::l).length=i+1+l.length by simp;omega]
   exact this.from (by omega)
def occs (w:List Wd) (row:List (List UInt8)):List Nat:=occL row 0 0 (w.map Wd.text)
theorem gM {w:List Wd} {row:List (List UInt8)} (D:row≠[]):Gaps w.length row.length 0 (occs w row):=by
 have:=gB D 0 0 (w.map Wd.text) (by omega)
 simpa[occs]using this
def cF (ps:List Nat) (nth:Int):List Nat:=if nth=0 then ps else match ps[(nth-1).toNat]? with
 |some p=>[p]
 |none=>[]
theorem jY {n len:Nat}:∀{ps:List Nat} {s j:Nat} {p:Nat},Gaps n len s ps->ps[j]? =some p->s<=p/\p+len<=n
 |[],_,_,_,_,h=>by simp at h
 |q::ps,s,0,p,⟨h1,h2,_⟩,h=>by simp at h;subst h;exact⟨h1,h2⟩
 |q::ps,s,j+1,p,⟨h1,h2,h3⟩,h=>by
  have:=jY h3 (by simpa using h)
  omega
theorem eD {n len:Nat} {ps:List Nat} {nth:Int} (h:Gaps n len 0 ps):Gaps n len 0 (cF ps nth):=by
 unfold cF
 split
 ·exact h
 ·split
  ·rename_i p e
   have:=jY h e
   exact⟨by omega,this.2,trivial⟩
  ·trivial
/-! ### words put at places -/
def fJ (w:List Wd) (D:List (List UInt8)) (a b:Int) (E:Nat):Nat->List Nat->Int->List Wd
 |s,[],_=>w.drop s
 |s,p::ps,m=>(w.take p).drop s++(aX a b D m++fJ w D a b E (p+E) ps (m+D.length))
def putL (w:List Wd) (D:List (List UInt8)) (a b:Int) (E:Nat):List Nat->Int->List Wd
 |[],_=>w
 |p::ps,m=>(putL w D a b E ps (m+D.length)).take p++(aX a b D m++(putL w D a b E ps (m+D.length)).drop (p+E))
theorem i6 (w:List Wd) (E:List (List UInt8)) (a b:Int) (D:Nat):∀(ps:List Nat) (s:Nat) (m:Int),Gaps w.length D s ps->putL w E a b D ps m=w.take s++fJ w E a b D s ps m
 |[],s,m,_=>by rw[putL,fJ,take_append_drop]
 |p::ps,s,m,⟨h1,h2,h3⟩=>by
  rw[putL,i6 w E a b D ps (p+D) _ h3,fJ]
  have F:(w.take (p+D)).length=p+D:=by rw[length_take];omega
  rw[take_append_of_le_length (by omega),drop_left' F,take_take,Nat.min_eq_left (by omega)]
  have:w.take p=w.take s++(w.take p).drop s:=by
   conv=>lhs;rw[←take_append_drop s (w.take p),take_take,Nat.min_eq_left h1]
  conv=>lhs;rw[this]
  rw[append_assoc]
def bJ (w:List Wd) (x:Itm) (a b:Int):List Wd×Int:=
 if x.kind=3/\x.old=[]then (if 256<(aX a b x.new 0++w).length then ([],6)else (aX a b x.new 0++w,0))
 else if cF (occs w x.old) x.nth=[]then ([],4)
 else if x.kind=3 then (if 256<(fJ w x.new a b 0 0 ((cF (occs w x.old) x.nth).map (· +x.old.length)) 0).length then ([],6)else (fJ w x.new a b 0 0 ((cF (occs w x.old) x.nth).map (· +x.old.length)) 0,0))
 else (if 256<(fJ w x.new a b x.old.length 0 (cF (occs w x.old) x.nth) 0).length then ([],6)else (fJ w x.new a b x.old.length 0 (cF (occs w x.old) x.nth) 0,0))
theorem ie {n len:Nat}:∀{ps:List Nat} {s:Nat},Gaps n len s ps->Gaps n 0 s (ps.map (· +len))
 |[],_,_=>trivial
 |p::ps,s,⟨h1,h2,h3⟩=>⟨(by show s<=p+len;omega),(by show p+len+0<=n;omega),(ie h3).from (by show p+len+0<=p+len;omega)⟩
theorem Itm.ext' {a b:Itm} (O:a.kind=b.kind) (T:a.at_=b.at_) (V:a.to_=b.to_) (X:a.wh=b.wh) (Y:a.nth=b.nth) (Z:a.unit=b.unit) (h7:a.old=b.old) (h8:a.new=b.new) (h9:a.label=b.label) (D:a.for_=b.for_)
  (E:a.start=b.start) (F:a.act=b.act) (I:a.item=b.item) (J:a.day=b.day) (M:a.event=b.event) (N:a.by_=b.by_):a=b:=by
 cases a;cases b;simp_all
theorem sta_eq {a b:Sta} (h:(decide (a.kind=b.kind)&&(decide (a.day=b.day)&&(decide (a.event=b.event)&&true)))=true):a=b:=by
 cases a;cases b;simp_all
theorem sta_ne {a b:Sta} (h:(decide (a.kind=b.kind)&&(decide (a.day=b.day)&&(decide (a.event=b.event)&&true)))=false):a≠b:=by
 rintro rfl;simp at h
section
variable (G:Glob)
end
def Itm.just (x:Itm):Itm:=
 if x.kind=0 then {iz with wh:=x.wh,unit:=x.unit}else if x.kind=2\/x.kind=3 then {iz with old:=x.old,new:=x.new,nth:=x.nth}else if x.kind=4 then {iz with new:=x.new}else
 if x.kind=5 then {iz with label:=x.label}else if x.kind=6 then {iz with to_:=x.to_,wh:=x.wh}else if x.kind=7\/x.kind=8\/x.kind=9 then {iz with act:=x.act,item:=x.item,day:=x.day}else
 if x.kind=10 then {iz with event:=x.event,day:=x.day}else if x.kind=11 then {iz with act:=x.act,item:=x.item,by_:=x.by_}else iz
def Itm.told (x:Itm):Itm:=if x.kind<=6 then {x.just with kind:=x.kind,at_:=x.at_,for_:=x.for_,start:=x.start}else {x.just with kind:=x.kind}
section
variable (G:Glob)
end
structure Itm.Short1 (x:Itm):Prop where
 fit:x.fit
 unit:x.unit.Short
 at_:x.at_.length<1000000
 to_:x.to_.length<1000000
 atl:∀s∈x.at_,s.label.length<1000000000000000000
 tol:∀s∈x.to_,s.label.length<1000000000000000000
 old:x.old.length<1000000
 new:x.new.length<1000000
 label:x.label.length<1000000000000000000
 for_:x.for_.length<1000000000000000000
 start:x.start.event.length<1000000000000000000
 event:x.event.length<1000000000000000000
mutual
def Itm.Shorts:Itm->Prop
 |⟨k,a,t,wh,n,u,o,w,l,f,s,ac,it,d,e,b⟩=>Itm.Short1 ⟨k,a,t,wh,n,u,o,w,l,f,s,ac,it,d,e,b⟩/\Itm.Shortss b
def Itm.Shortss:List Itm->Prop
 |[]=>True
 |x::l=>Itm.Shorts x/\Itm.Shortss l
end
theorem Itm.Shortss_iff:∀{us:List Itm},Itm.Shortss us↔∀k∈us,k.Shorts
 |[]=>by simp[Itm.Shortss]
 |u::us=>by simp[Itm.Shortss,Itm.Shortss_iff (us:=us)]
theorem Itm.Shorts_eq (x:Itm):x.Shorts↔x.Short1/\∀k∈x.by_,k.Shorts:=by
 cases x
 rw[Itm.Shorts,Itm.Shortss_iff]
def cX (l:List (List UInt8)) (n:Int):Bool:=dq l&&decide (n<=(l.length:Int))
def Itm.own (x:Itm) (y:Bool):Bool:=
 if x.kind=0 then inR x.wh 0 3&&(bareOk x.unit&&(decide (x.unit.kind≠0)&&decide ((textOf x.unit).2=0)))
 else if x.kind=2 then cX x.old 1&&(cX x.new 0&&inR x.nth 0 256)
 else if x.kind=3 then cX x.old 0&&(cX x.new 1&&(inR x.nth 0 256&&(decide (0<(x.old.length:Int))||decide (x.nth=0))))
 else if x.kind=4 then cX x.new 0
 else if x.kind=5 then br x.label
 else if x.kind=6 then inR x.wh 0 3&&dU x.to_
 else if x.kind=7\/x.kind=8\/x.kind=9 then inR x.act 1 1048576&&(inR x.item (-1) 31&&inR x.day 0 1048576)
 else if x.kind=10 then ii x.event&&inR x.day 0 1048576
 else if x.kind=11 then inR x.act 1 1048576&&(inR x.item 0 31&&y)
 else true
def Itm.pre (x:Itm):Bool:=(inR x.kind 0 11&&decide (x=x.told))&&(decide (6<x.kind)||(dU x.at_&&((decide (x.for_=[])||ii x.for_)&&mJ x.start)))
mutual
def Itm.may:Itm->Bool
 |⟨k,a,t,wh,n,u,o,w,l,f,s,ac,it,d,e,b⟩=>Itm.pre ⟨k,a,t,wh,n,u,o,w,l,f,s,ac,it,d,e,b⟩&&Itm.own ⟨k,a,t,wh,n,u,o,w,l,f,s,ac,it,d,e,b⟩ (Itm.mayOne b)
def Itm.mayOne:List Itm->Bool
 |[]=>false
 |x::l=>(l.isEmpty&&inR x.kind 0 6)&&Itm.may x
end
theorem Itm.may_eq (x:Itm):x.may=(x.pre&&x.own (Itm.mayOne x.by_)):=by cases x;rw[Itm.may]
theorem Itm.mayOne_cons (x:Itm) (l:List Itm):Itm.mayOne (x::l)=((l.isEmpty&&inR x.kind 0 6)&&x.may):=by rw[Itm.mayOne]
section
variable (G:Glob)
end
end Go.Av
