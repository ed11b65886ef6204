/-
  ENACT, 1: paths in trees, in plain Lean: the way to the first unit with an ID; a unit changed, a unit put in another's place; parents.
-/
import Derived.Test.YtppjieiiibgagaaGreatDoorQXL13toXL15
set_option linter.all false
namespace Go.Av
open Go Go.RowKit Go.Proofs List
def sm:U.idss []=[]:=by unfold U.idss;rw[U.flats];rfl
def rO (a b:List U):U.idss (a++b)=U.idss a++U.idss b:=by
 induction a with
 |nil=>rw[sm];rfl
 |cons x a ih=>rw[cons_append,hJ,hJ,ih,append_assoc]
def orW:List U->List U->List U
 |[],q=>q
 |x::p,_=>x::p
def gm (u:U):List U->List U
 |[]=>[]
 |x::p=>u::x::p
def orW_nil {p q:List U}:orW p q=[]↔p=[]/\q=[]:=by cases p<;>simp[orW]
def nK {u:U} {p:List U}:gm u p=[]↔p=[]:=by cases p<;>simp[gm]
def consW_ne {u:U} {p:List U} (h:p≠[]):gm u p=u::p:=by cases p<;>simp_all[gm]
def orW_ne {p q:List U} (h:p≠[]):orW p q=p:=by cases p<;>simp_all[orW]
mutual
def U.way (i:Idd):U->List U
 |⟨d,k,l,h,w,ks⟩=>if d=i then [⟨d,k,l,h,w,ks⟩]else gm ⟨d,k,l,h,w,ks⟩ (U.ways i ks)
def U.ways (i:Idd):List U->List U
 |[]=>[]
 |u::us=>orW (U.way i u) (U.ways i us)
end
def sd (i:Idd) (u:U):U.way i u=if u.id=i then [u]else gm u (U.ways i u.kids):=by cases u;rw[U.way]
def sq (i:Idd):U.ways i []=[]:=by rw[U.ways]
def rT (i:Idd) (u:U) (us:List U):U.ways i (u::us)=orW (U.way i u) (U.ways i us):=by rw[U.ways]
def lZ {i:Idd} {us:List U} (h:∀k∈us,(U.way i k=[]↔i∉k.ids)):U.ways i us=[]↔i∉U.idss us:=by
 induction us with
 |nil=>rw[sq,sm];simp
 |cons u us ih=>
  rw[rT,hJ,orW_nil,mem_append,h u (by simp),ih λk D=>h k (by simp[D])];simp[not_or]
def dW {i:Idd}:∀u:U,U.way i u=[]↔i∉u.ids:=by
 refine U.ind λu ih=>?_;rw[sd,rb,mem_cons];by_cases h:u.id=i
 ·simp[h]
 ·rw[if_neg h,nK,lZ ih];simp[Ne.symm h]
def ways_no {i:Idd} (us:List U):U.ways i us=[]↔i∉U.idss us:=lZ λk _=>dW k
def ct {i:Idd} {u:U}:U.way i u≠[]↔i∈u.ids:=by rw[Ne,dW];simp
structure Split (i:Idd) (us a:List U) (k:U) (b:List U):Prop where
 eq:us=a++k::b
 mem:i∈k.ids
 left:i∉U.idss a
 right:i∉U.idss b
 nd:k.ids.Nodup
def ff {i:Idd} {us:List U} (D:(U.idss us).Nodup) (hi:i∈U.idss us):∃a k b,Split i us a k b:=by
 induction us with
 |nil=>rw[sm]at hi;cases hi
 |cons u us ih=>
  rw[hJ]at D hi;obtain⟨N,O,T⟩:=nodup_append.1 D;by_cases h:i∈u.ids
  ·exact⟨[],u,us,rfl,h,by rw[sm];simp,λM=>T i h i M rfl,N⟩
  ·obtain⟨a,k,b,e,E,F,I,J⟩:=ih O ((mem_append.1 hi).resolve_left h);refine⟨u::a,k,b,by rw[e];rfl,E,?_,I,J⟩;rw[hJ,mem_append,not_or];exact⟨h,F⟩
def rU {u:U} (h:u.ids.Nodup):(U.idss u.kids).Nodup/\u.id∉U.idss u.kids:=by
 rw[rb,nodup_cons]at h;exact⟨h.2,h.1⟩
def rY {i:Idd} {p:U->Prop} (E:∀u,u.ids.Nodup->u.id=i->p u)
  (F:∀u a k b,u.ids.Nodup->u.id≠i->Split i u.kids a k b->p k->p u) (u:U) (D:u.ids.Nodup) (hi:i∈u.ids):p u:=by
 revert D hi
 refine U.ind (p:=λu=>u.ids.Nodup->i∈u.ids->p u) (λu ih D hi=>?_) u
 by_cases h:u.id=i
 ·exact E u D h
 ·rw[rb,mem_cons]at hi
  obtain⟨a,k,b,s⟩:=ff (rU D).1 (hi.resolve_left (Ne.symm h));exact F u a k b D h s (ih k (by rw[s.eq];simp) s.nd s.mem)
def j4 (i:Idd) (a b:List U):U.ways i (a++b)=orW (U.ways i a) (U.ways i b):=by
 induction a with
 |nil=>rw[sq];rfl
 |cons x a ih=>
  rw[cons_append,rT,rT,ih]
  cases U.way i x<;>simp[orW]
def Split.ways {i:Idd} {us a b:List U} {k:U} (s:Split i us a k b):U.ways i us=U.way i k:=by
 rw[s.eq,j4,(ways_no a).2 s.left,rT];show orW (U.way i k) _=_;rw[orW_ne (ct.2 s.mem)]
def Split.way {i:Idd} {u:U} {a b:List U} {k:U} (D:u.id≠i) (s:Split i u.kids a k b):U.way i u=u::U.way i k:=by
 rw[sd,if_neg D,s.ways,consW_ne (ct.2 s.mem)]
def aR {i:Idd} {u:U} (h:u.id=i):U.way i u=[u]:=by rw[sd,if_pos h]
/-! ### a unit changed -/
mutual
def U.wth (i:Idd) (f:U->U):U->U
 |⟨d,k,l,h,w,ks⟩=>if d=i then f ⟨d,k,l,h,w,ks⟩else ⟨d,k,l,h,w,U.wths i f ks⟩
def U.wths (i:Idd) (f:U->U):List U->List U
 |[]=>[]
 |u::us=>if U.way i u=[]then u::U.wths i f us else U.wth i f u::us
end
def sh (i:Idd) (f:U->U) (u:U):U.wth i f u=if u.id=i then f u else {u with kids:=U.wths i f u.kids}:=by cases u;rw[U.wth]
def sR (i:Idd) (f:U->U):U.wths i f []=[]:=by rw[U.wths]
def sr (i:Idd) (f:U->U) (u:U) (us:List U):U.wths i f (u::us)=if U.way i u=[]then u::U.wths i f us else U.wth i f u::us:=by rw[U.wths]
def wths_no {i:Idd} {f:U->U}:∀{us:List U},i∉U.idss us->U.wths i f us=us
 |[],_=>sR i f
 |u::us,h=>by
  rw[hJ,mem_append,not_or]at h;rw[sr,if_pos ((dW u).2 h.1),wths_no h.2]
def wth_no {i:Idd} {f:U->U} {u:U} (h:i∉u.ids):U.wth i f u=u:=by
 rw[rb,mem_cons,not_or]at h;rw[sh,if_neg (Ne.symm h.1),wths_no h.2]
 cases u;rfl
def pw {i:Idd} {f:U->U} {a b:List U} (h:i∉U.idss a):U.wths i f (a++b)=a++U.wths i f b:=by
 induction a with
 |nil=>rfl
 |cons x a ih=>
  rw[hJ,mem_append,not_or]at h;rw[cons_append,sr,if_pos ((dW x).2 h.1),ih h.2];rfl
def Split.wths {i:Idd} {f:U->U} {us a b:List U} {k:U} (s:Split i us a k b):U.wths i f us=a++U.wth i f k::b:=by
 rw[s.eq,pw s.left,sr,if_neg (ct.2 s.mem)]
def Split.wth {i:Idd} {f:U->U} {u:U} {a b:List U} {k:U} (D:u.id≠i) (s:Split i u.kids a k b):U.wth i f u={u with kids:=a++U.wth i f k::b}:=by
 rw[sh,if_neg D,s.wths]
def bz {i:Idd} {f:U->U} {u:U} (h:u.id=i):U.wth i f u=f u:=by rw[sh,if_pos h]
mutual
def U.put (x:U):U->U
 |⟨d,k,l,h,w,ks⟩=>if d=x.id then x else ⟨d,k,l,h,w,U.puts x ks⟩
def U.puts (x:U):List U->List U
 |[]=>[]
 |u::us=>U.put x u::U.puts x us
end
def ud (x:U):∀us:List U,U.puts x us=us.map (U.put x)
 |[]=>by rw[U.puts];rfl
 |u::us=>by rw[U.puts,ud x us];rfl
def tm (x u:U):U.put x u=if u.id=x.id then x else {u with kids:=u.kids.map (U.put x)}:=by cases u;rw[U.put,ud]
def put_no {x:U}:∀u:U,x.id∉u.ids->U.put x u=u:=by
 refine U.ind λu ih h=>?_;rw[rb,mem_cons,not_or]at h;rw[tm,if_neg (Ne.symm h.1)]
 have e:u.kids.map (U.put x)=u.kids:=by
  have:∀l:List U,(∀k∈l,k∈u.kids)->x.id∉U.idss l->l.map (U.put x)=l:=by
   intro l
   induction l with
   |nil=>intro _ _;rfl
   |cons a l ihl=>
    intro E D;rw[hJ,mem_append,not_or]at D;rw[map_cons,ih a (E a (by simp)) D.1,ihl (λk F=>E k (by simp[F])) D.2]
  exact this u.kids (λ_ h=>h) h.2
 rw[e]
 cases u;rfl
def puts_no {x:U} {us:List U} (h:x.id∉U.idss us):us.map (U.put x)=us:=by
 induction us with
 |nil=>rfl
 |cons u us ih=>
  rw[hJ,mem_append,not_or]at h;rw[map_cons,put_no u h.1,ih h.2]
def put_wth {x:U} {f:U->U} (u:U) (E:u.ids.Nodup) (hi:x.id∈u.ids) (D:∀y,(U.way x.id u).getLast?=some y->f y=x):U.put x u=U.wth x.id f u:=by
 revert D;refine rY (i:=x.id) (p:=λu=>(∀y,(U.way x.id u).getLast?=some y->f y=x)->U.put x u=U.wth x.id f u) ?_ ?_ u E hi
 ·intro u _ h D;rw[tm,if_pos h,bz h,D u (by rw[aR h];rfl)]
 ·intro u a k b _ h s ih D;rw[tm,if_neg h,s.wth h,s.eq,map_append,map_cons,puts_no s.left,puts_no s.right,ih];intro y F;refine D y ?_;rw[s.way h,getLast?_cons,F];rfl
/-! ### parents -/
def firstAt {α:Type} (p:α->Bool):List α->Option Nat
 |[]=>none
 |x::l=>if p x then some 0 else (firstAt p l).map (· +1)
def gO {α:Type} {p:α->Bool} {a b:List α} {k:α} (D:∀x∈a,p x=false) (E:p k=true):firstAt p (a++k::b)=some a.length:=by
 induction a with
 |nil=>simp[firstAt,E]
 |cons x a ih=>
  rw[cons_append,firstAt,D x (by simp),ih λy F=>D y (by simp[F])];simp
def mR {α:Type} {p:α->Bool} {a:List α} (D:∀x∈a,p x=false):firstAt p a=none:=by
 induction a with
 |nil=>rfl
 |cons x a ih=>rw[firstAt,D x (by simp),ih λy E=>D y (by simp[E])];rfl
mutual
def U.par (i:Idd):U->Option (U×Nat×Nat)
 |⟨d,k,l,h,w,ks⟩=>match firstAt (λk=>decide (k.id=i)) ks with
  |some j=>some (⟨d,k,l,h,w,ks⟩,0,j)
  |none=>U.pars i ks
def U.pars (i:Idd):List U->Option (U×Nat×Nat)
 |[]=>none
 |u::us=>match U.par i u with
  |some (p,d,j)=>some (p,d+1,j)
  |none=>U.pars i us
end
def tp (i:Idd) (u:U):U.par i u=match firstAt (λk=>decide (k.id=i)) u.kids with
  |some j=>some (u,0,j)
  |none=>U.pars i u.kids:=by cases u;rw[U.par]
def tg (i:Idd):U.pars i []=none:=by rw[U.pars]
def sG (i:Idd) (u:U) (us:List U):U.pars i (u::us)=match U.par i u with
  |some (p,d,j)=>some (p,d+1,j)
  |none=>U.pars i us:=by rw[U.pars]
def ju {i:Idd} {us:List U} {k:U} (D:k∈us) (h:i∈k.ids):i∈U.idss us:=by
 induction us with
 |nil=>cases D
 |cons u us ih=>
  rw[hJ,mem_append]
  rcases mem_cons.1 D with rfl|D
  ·exact .inl h
  ·exact .inr (ih D)
def mG (u:U):u.id∈u.ids:=by rw[rb];simp
def ig {i:Idd} {us:List U} (h:i∉U.idss us):∀x∈us,decide (x.id=i)=false:=λx D=>by
 refine decide_eq_false λe=>h (ju D ?_);rw[←e];exact mG x
def rg {i:Idd} {us:List U} (h:∀k∈us,i∉k.ids->U.par i k=none) (hi:i∉U.idss us):U.pars i us=none:=by
 induction us with
 |nil=>rw[tg]
 |cons u us ih=>
  rw[hJ,mem_append,not_or]at hi;rw[sG,h u (by simp) hi.1];exact ih (λk D=>h k (by simp[D])) hi.2
def par_no {i:Idd}:∀u:U,i∉U.idss u.kids->U.par i u=none:=by
 refine U.ind λu ih h=>?_;rw[tp,mR (ig h)];refine rg (λk D hi=>ih k D λE=>hi ?_) h;rw[rb];exact mem_cons_of_mem _ E
def pars_app {i:Idd} {a b:List U} (h:i∉U.idss a):U.pars i (a++b)=U.pars i b:=by
 induction a with
 |nil=>rfl
 |cons x a ih=>
  rw[hJ,mem_append,not_or]at h;rw[cons_append,sG,par_no x λD=>h.1 (by rw[rb];exact mem_cons_of_mem _ D)];exact ih h.2
def aQ (i:Idd) (u:U):Option (U×Nat×Nat):=match (U.way i u).reverse with
 |_::p::r=>some (p,r.length,(firstAt (λk=>!(U.way i k).isEmpty) p.kids).getD 0)
 |_=>none
def Split.no_way {i:Idd} {us a b:List U} {k:U} (s:Split i us a k b):firstAt (λk=>!(U.way i k).isEmpty) us=some a.length:=by
 rw[s.eq];refine gO (λx D=>?_) ?_
 ·rw[(dW x).2 λh=>s.left (ju D h)];rfl
 ·have:=ct.2 s.mem
  cases h:U.way i k with
  |nil=>exact absurd h this
  |cons _ _=>rfl
def eU {i:Idd} (u:U) (I:u.ids.Nodup) (hi:i∈u.ids):U.par i u=aQ i u:=by
 refine rY (i:=i) (p:=λu=>U.par i u=aQ i u) ?_ ?_ u I hi
 ·intro u I h;have:=(rU I).2;rw[h]at this;unfold aQ;rw[aR h,par_no u this];rfl
 ·intro u a k b _ h s ih;unfold aQ at ih ⊢;rw[s.way h,tp];by_cases E:k.id=i
  ·have e:firstAt (λk=>decide (k.id=i)) u.kids=some a.length:=by
    rw[s.eq];exact gO (ig s.left) (decide_eq_true E)
   have N:=s.no_way;rw[e,aR E];simp[N]
  ·have e:firstAt (λk=>decide (k.id=i)) u.kids=none:=by
    rw[s.eq];refine mR λx D=>?_
    rcases mem_append.1 D with D|D
    ·exact ig s.left x D
    ·rcases mem_cons.1 D with rfl|D
     ·exact decide_eq_false E
     ·exact ig s.right x D
   have F:i∈U.idss k.kids:=by
    have:=s.mem;rw[rb,mem_cons]at this;exact this.resolve_left (Ne.symm E)
   obtain⟨T,M,V,s2⟩:=ff (rU s.nd).1 F;rw[e];simp only;rw[s.eq,pars_app s.left,sG,ih,s2.way E];have J:U.way i M≠[]:=ct.2 s2.mem;obtain⟨l,y,O⟩:∃l y,U.way i M=l++[y]:=⟨_,_,(dropLast_concat_getLast J).symm⟩;rw[O];simp only[reverse_cons,reverse_append,reverse_nil,nil_append,cons_append,append_assoc]
   cases X:l.reverse<;>simp
def Split.other {i q:Idd} {us a b:List U} {k:U} (s:Split i us a k b) (D:(U.idss us).Nodup) (E:q∈k.ids):Split q us a k b:=by
 refine⟨s.eq,E,?_,?_,s.nd⟩
 ·intro h;rw[s.eq,rO,hJ]at D;exact(nodup_append.1 D).2.2 q h q (mem_append.2 (.inl E)) rfl
 ·intro h;rw[s.eq,rO,hJ]at D;exact(nodup_append.1 (nodup_append.1 D).2.1).2.2 q E q h rfl
def Split.ne {i q:Idd} {u k:U} {a b:List U} (D:u.ids.Nodup) (s:Split i u.kids a k b) (E:q∈k.ids):u.id≠q:=λe=>by
 refine(rU D).2 ?_;rw[e,s.eq,rO,hJ];exact mem_append.2 (.inr (mem_append.2 (.inl E)))
def cO {i:Idd} {u:U} (h:u.id=i):aQ i u=none:=by unfold aQ;rw[aR h];rfl
def lY {i:Idd} {u k:U} {a b:List U} (h:u.id≠i) (s:Split i u.kids a k b) (D:k.id=i):aQ i u=some (u,0,a.length):=by
 unfold aQ;rw[s.way h,aR D];simp[s.no_way]
def kH {i:Idd} {u k:U} {a b:List U} (h:u.id≠i) (s:Split i u.kids a k b) (F:k.id≠i):aQ i u=(aQ i k).map λq=>(q.1,q.2.1+1,q.2.2):=by
 have D:i∈U.idss k.kids:=by
  have:=s.mem;rw[rb,mem_cons]at this;exact this.resolve_left (Ne.symm F)
 obtain⟨M,I,N,s2⟩:=ff (rU s.nd).1 D;unfold aQ;rw[s.way h,s2.way F];have E:U.way i I≠[]:=ct.2 s2.mem;obtain⟨l,y,J⟩:∃l y,U.way i I=l++[y]:=⟨_,_,(dropLast_concat_getLast E).symm⟩;rw[J];simp only[reverse_cons,reverse_append,reverse_nil,nil_append,cons_append,append_assoc]
 cases O:l.reverse<;>simp
structure Par (i:Idd) (u p:U) (d j:Nat):Prop where
 path:U.way i u=U.way p.id u++[(U.way i u).getLastD p]
 deep:(U.way p.id u).length=d+1
 last:(U.way p.id u).getLast?=some p
 mem:p.id∈u.ids
 ne:u.id≠i
 nd:p.ids.Nodup
 split:∃a k b,Split i p.kids a k b/\k.id=i/\j=a.length/\(U.way i u).getLast?=some k
def fp {i:Idd} (u:U) (E:u.ids.Nodup) (hi:i∈u.ids):∀{p d j},aQ i u=some (p,d,j)->Par i u p d j:=by
 refine rY (i:=i) (p:=λu=>∀{p d j},aQ i u=some (p,d,j)->Par i u p d j) ?_ ?_ u E hi
 ·intro u _ h p d j e
  rw[cO h]at e;cases e
 ·intro u a k b E h s ih p d j e;by_cases I:k.id=i
  ·rw[lY h s I]at e
   injection e with e
   injection e with e1 D
   injection D with D e3
   subst e1 D e3
   have T:U.way i u=[u,k]:=by rw[s.way h,aR I]
   refine⟨?_,?_,?_,mG u,h,E,a,k,b,s,I,rfl,?_⟩
   ·rw[T,aR rfl];rfl
   ·rw[aR rfl];rfl
   ·rw[aR rfl];rfl
   ·rw[T];rfl
  ·rw[kH h s I]at e;obtain⟨⟨p',d',j'⟩,e',D⟩:=Option.map_eq_some_iff.1 e
   injection D with e1 D
   injection D with D e3
   subst e1 D e3;obtain⟨Z,h2,h3,F,h5,h6,X,k',Y,s',J,hj,hl⟩:=ih e';have N:=s.other (rU E).1 F;have M:=Split.ne E s F;have V:U.way i k≠[]:=ct.2 s.mem;have O:U.way p'.id k≠[]:=ct.2 F;refine⟨?_,?_,?_,?_,h,h6,X,k',Y,s',J,hj,?_⟩
   ·rw[s.way h,N.way M,Z];simp[getLastD_cons,getLast?_cons]
   ·rw[N.way M,length_cons,h2]
   ·rw[N.way M,getLast?_cons,h3];rfl
   ·rw[rb];refine mem_cons_of_mem _ ?_;rw[s.eq,rO,hJ];exact mem_append.2 (.inr (mem_append.2 (.inl F)))
   ·rw[s.way h,getLast?_cons,hl];rfl
/-! ### a way in a tree of which one unit was changed -/
def orW_map (g:U->U) (p q:List U):(orW p q).map g=orW (p.map g) (q.map g):=by cases p<;>simp[orW]
def m9 (g:U->U) (u:U) (p:List U):(gm u p).map g=gm (g u) (p.map g):=by cases p<;>simp[gm]
def kE {t:Idd} {us:List U} (h:∀k∈us,∀v∈U.way t k,∀q∈v.ids,q∈k.ids):∀v∈U.ways t us,∀q∈v.ids,q∈U.idss us:=by
 induction us with
 |nil=>intro v D;rw[sq]at D;cases D
 |cons u us ih=>
  intro v D q F;rw[rT]at D;rw[hJ,mem_append]
  cases E:U.way t u with
  |nil=>
   rw[E]at D;exact .inr (ih (λk I=>h k (by simp[I])) v D q F)
  |cons x l=>
   rw[E]at D;exact .inl (h u (by simp) v (by rw[E];exact D) q F)
def k8 {t:Idd}:∀u:U,∀v∈U.way t u,∀q∈v.ids,q∈u.ids:=by
 refine U.ind λu ih v D q E=>?_;rw[sd]at D;split at D
 ·simp only[mem_singleton]at D;subst D;exact E
 ·cases F:U.ways t u.kids with
  |nil=>rw[F]at D;cases D
  |cons x l=>
   rw[F]at D
   rcases mem_cons.1 D with rfl|D
   ·exact E
   ·rw[rb];exact mem_cons_of_mem _ (kE ih v (by rw[F];exact D) q E)
def map_no {j t:Idd} {f:U->U} {us:List U} (h:j∉U.idss us):(U.ways t us).map (U.wth j f)=U.ways t us:=by
 conv=>rhs;rw[←map_id (U.ways t us)]
 refine map_congr_left λv E=>?_;exact wth_no λD=>h (kE (λk _=>k8 k) v E j D)
def map_no1 {j t:Idd} {f:U->U} {u:U} (h:j∉u.ids):(U.way t u).map (U.wth j f)=U.way t u:=by
 conv=>rhs;rw[←map_id (U.way t u)]
 refine map_congr_left λv E=>?_;exact wth_no λD=>h (k8 u v E j D)
def jK {us:List U} {k y:U} (D:k∈us) (E:y∈k.flat):y∈U.flats us:=by
 induction us with
 |nil=>cases D
 |cons u us ih=>
  rw[U.flats,mem_append]
  rcases mem_cons.1 D with rfl|D
  ·exact .inl E
  ·exact .inr (ih D)
def nY {j t:Idd} {f:U->U} {us:List U} (E:(U.idss us).Nodup) (h:∀k∈us,k.ids.Nodup->U.way t (U.wth j f k)=(U.way t k).map (U.wth j f)):U.ways t (U.wths j f us)=(U.ways t us).map (U.wth j f):=by
 induction us with
 |nil=>rw[sR,sq];rfl
 |cons u us ih=>
  rw[hJ]at E;obtain⟨M,N,O⟩:=nodup_append.1 E;rw[sr,rT,orW_map];split
  ·rename_i D;rw[rT,ih N λk I=>h k (by simp[I]),map_no1 ((dW u).1 D)]
  ·rename_i D;have F:=ct.1 D;rw[rT,h u (by simp) M,map_no λJ=>O j F j J rfl]
def way_wth {j t:Idd} {f:U->U}:∀u:U,u.ids.Nodup->(∀y∈u.flat,y.id=j->(f y).id=y.id/\U.ways t (f y).kids=U.ways t y.kids)->U.way t (U.wth j f u)=(U.way t u).map (U.wth j f):=by
 refine U.ind λu ih J F=>?_;obtain⟨N,O⟩:=rU J;by_cases D:u.id=j
 ·obtain⟨f1,f2⟩:=F u (by rw[U.flat_eq];simp) D;rw[bz D,sd,sd,f1];split
  ·simp[bz D]
  ·rw[f2,m9,bz D,map_no (by rw[←D];exact O)]
 ·rw[sh,if_neg D,sd,sd];simp only;split
  ·simp only[map_cons,map_nil];rw[sh,if_neg D]
  ·rw[m9,nY N λk I E=>ih k I E λy M=>F y (by rw[U.flat_eq];exact mem_cons_of_mem _ (jK I M))];rw[sh,if_neg D]
def wth_wth {j:Idd} {f g:U->U} (u:U) (D:u.ids.Nodup) (hi:j∈u.ids) (F:∀y,y.id=j->(f y).id=j):U.wth j g (U.wth j f u)=U.wth j (λy=>g (f y)) u:=by
 refine rY (i:=j) (p:=λu=>U.wth j g (U.wth j f u)=U.wth j (λy=>g (f y)) u) ?_ ?_ u D hi
 ·intro u _ h;rw[bz h,bz (F u h),bz h]
 ·intro u a k b D h s ih
  have E:U.way j (U.wth j f k)≠[]:=by
   have:∀k:U,k.ids.Nodup->j∈k.ids->U.way j (U.wth j f k)≠[]:=by
    intro k D hi;refine rY (i:=j) (p:=λu=>U.way j (U.wth j f u)≠[]) ?_ ?_ k D hi
    ·intro u _ h;rw[bz h,aR (F u h)];simp
    ·intro u a k b D h s ih;rw[s.wth h,sd];simp only;rw[if_neg h,Ne,nK,j4,(ways_no a).2 s.left,rT];show ¬orW (U.way j (U.wth j f k)) _=[];rw[orW_nil];exact λe=>ih e.1
   exact this k s.nd s.mem
  rw[s.wth h,sh];simp only;rw[if_neg h,pw s.left,sr,if_neg E,ih,s.wth h]
structure Dd where
 act:Int
 item:Int
 day:Int
 it:Itm
def noU:U:=⟨⟨0,0,0⟩,0,[],[],[],[]⟩
def fnd (i:Idd) (u:U):U:=(U.way i u).getLastD noU
def aL (a b:Int):List (List UInt8)->Int->List Wd
 |[],_=>[]
 |s::l,m=>⟨s,a,b,m⟩::aL a b l (m+1)
mutual
def U.stamp (a b:Int):U->Int->Int->U×Int×Int
 |⟨_,k,l,h,w,ks⟩,n,m=>
  (⟨⟨a,b,n⟩,k,l,aL a b (h.map Wd.text) m,aL a b (w.map Wd.text) (m+h.length),(U.stamps a b ks (n+1) (m+h.length+w.length)).1⟩,(U.stamps a b ks (n+1) (m+h.length+w.length)).2)
def U.stamps (a b:Int):List U->Int->Int->List U×Int×Int
 |[],n,m=>([],n,m)
 |u::us,n,m=>((U.stamp a b u n m).1::(U.stamps a b us (U.stamp a b u n m).2.1 (U.stamp a b u n m).2.2).1,(U.stamps a b us (U.stamp a b u n m).2.1 (U.stamp a b u n m).2.2).2)
end
def bi (u:U) (a b:Int):U:=(U.stamp a b u 1 0).1
def aX (l:List U) (k:Nat) (x:U):List U:=l.take k++x::l.drop k
def aN (l:List U) (k:Nat):List U:=l.take k++l.drop (k+1)
def cU (l:List U) (k:Int) (s:List UInt8):Bool:=l.any λx=>decide (x.kind=k)&&decide (x.label=s)
def bR (p:U) (l:List U) (x:U):Int:=if nests p.kind x.kind=false then 9 else if cU l x.kind x.label then 10 else 0
/-! ### the program -/
def spot (u:U) (i:Idd) (wh:Int):Option (Idd×Nat):=
 if wh=0 then some (i,0)else if wh=1 then some (i,(fnd i u).kids.length)else (aQ i u).map λq=>(q.1.id,if wh=2 then q.2.2+1 else q.2.2)
def insP (u:U) (i:Idd) (d:Dd):U×Int:=match spot u i d.it.wh with
 |none=>(u,9)
 |some (q,k)=>
  if bR (fnd q u) (fnd q u).kids (bi d.it.unit d.act d.item)≠0 then (u,bR (fnd q u) (fnd q u).kids (bi d.it.unit d.act d.item))
  else if 64<=(fnd q u).kids.length\/8<(U.way q u).length+(bi d.it.unit d.act d.item).dep\/1024<u.cnt+(bi d.it.unit d.act d.item).cnt then (u,6)
  else if (bi d.it.unit d.act d.item).ids.any (λy=>decide (y∈u.ids))then (u,5)
  else (U.wth q (λy=>{y with kids:=aX y.kids k (bi d.it.unit d.act d.item)}) u,0)
/-! ### the document -/
def parR (i:Idd) (u:U):U×Nat×Nat:=(U.par i u).getD (noU,0,0)
def bX (u:U) (i:Idd) (wh:Int):U×Nat×Nat:=
 if wh=2 then ((parR i u).1,(parR i u).2.1,(parR i u).2.2+1)else if wh=3 then parR i u else (fnd i u,(U.way i u).length-1,if wh=0 then 0 else (fnd i u).kids.length)
def insR (u:U) (i:Idd) (d:Dd):U×Int:=
 if (d.it.wh=2\/d.it.wh=3)/\i=u.id then (u,9)
 else if bR (bX u i d.it.wh).1 (bX u i d.it.wh).1.kids (bi d.it.unit d.act d.item)≠0 then (u,bR (bX u i d.it.wh).1 (bX u i d.it.wh).1.kids (bi d.it.unit d.act d.item))
 else if 64<=(bX u i d.it.wh).1.kids.length\/8<(bX u i d.it.wh).2.1+1+(bi d.it.unit d.act d.item).dep\/1024<u.cnt+(bi d.it.unit d.act d.item).cnt then (u,6)
 else if (bi d.it.unit d.act d.item).ids.any (λy=>decide (y∈u.ids))then (u,5)
 else (U.put {(bX u i d.it.wh).1 with kids:=aX (bX u i d.it.wh).1.kids (bX u i d.it.wh).2.2 (bi d.it.unit d.act d.item)} u,0)
def aI {i:Idd} {u y:U} (h:(U.way i u).getLast?=some y):fnd i u=y:=by unfold fnd;rw[getLastD_eq_getLast?,h];rfl
def dH {i:Idd} (u:U) (D:u.ids.Nodup) (hi:i∈u.ids):(fnd i u).id=i/\(U.way i u).getLast?=some (fnd i u):=by
 refine rY (i:=i) (p:=λu=>(fnd i u).id=i/\(U.way i u).getLast?=some (fnd i u)) ?_ ?_ u D hi
 ·intro u _ h;have:fnd i u=u:=aI (by rw[aR h];rfl);rw[this];exact⟨h,by rw[aR h];rfl⟩
 ·intro u a k b _ h s ih
  have:(U.way i u).getLast?=some (fnd i k):=by rw[s.way h,getLast?_cons,ih.2];rfl
  rw[aI this];exact⟨ih.1,this⟩
def fG {i:Idd} (u:U) (I:u.ids.Nodup) (hi:i∈u.ids) (g:List U->List U):U.put {fnd i u with kids:=g (fnd i u).kids} u=U.wth i (λy=>{y with kids:=g y.kids}) u:=by
 obtain⟨J,M⟩:=dH u I hi;obtain⟨X,E⟩:∃X:U,X={fnd i u with kids:=g (fnd i u).kids}:=⟨_,rfl⟩
 have F:X.id=i:=by rw[E];exact J
 have h:=put_wth (x:=X) (f:=λy=>{y with kids:=g y.kids}) u I (by rw[F];exact hi) (λy D=>by
  rw[F,M]at D
  injection D with D
  rw[E,D])
 rw[F,E]at h;exact h
def br {i:Idd} {u:U} (E:u.ids.Nodup) (hi:i∈u.ids) (D:u.id≠i):∃p d j,aQ i u=some (p,d,j)/\parR i u=(p,d,j)/\Par i u p d j:=by
 have:∃q,aQ i u=some q:=by
  rw[rb,mem_cons]at hi;obtain⟨a,k,b,s⟩:=ff (rU E).1 (hi.resolve_left (Ne.symm D));have I:U.way i k≠[]:=ct.2 s.mem;unfold aQ;rw[s.way D]
  cases F:(U.way i k).reverse with
  |nil=>exact absurd (by simpa using F) I
  |cons x l=>
   rw[reverse_cons,F]
   cases l<;>simp
 obtain⟨⟨p,d,j⟩,e⟩:=this;exact⟨p,d,j,e,by unfold parR;rw[eU u E hi,e];rfl,fp u E hi e⟩
def Par.fnd {i:Idd} {u p:U} {d j:Nat} (h:Par i u p d j):fnd p.id u=p:=aI h.last
def eA {i:Idd} {u:U} (hi:i∈u.ids):1<=(U.way i u).length:=by
 have:=ct.2 hi
 cases h:U.way i u with
 |nil=>exact absurd h this
 |cons _ _=>simp
def ins_eq (u:U) (F:u.ids.Nodup) (i:Idd) (hi:i∈u.ids) (d:Dd) (O:0<=d.it.wh) (T:d.it.wh<=3):insR u i d=insP u i d:=by
 have N:d.it.wh=0\/d.it.wh=1\/d.it.wh=2\/d.it.wh=3:=by omega
 have V:=eA hi;unfold insR insP
 rcases N with h|h|h|h
 ·simp only[h,spot,bX,if_true,show ¬((0:Int)=2)by decide,show ¬((0:Int)=3)by decide,if_false,false_or,false_and];rw[fG u F hi λl=>aX l 0 _,show(((U.way i u).length-1:Nat):Int)+1=((U.way i u).length:Int)by omega]
 ·simp only[h,spot,bX,if_true,show ¬((1:Int)=0)by decide,show ¬((1:Int)=2)by decide,show ¬((1:Int)=3)by decide,if_false,false_or,false_and];rw[show(((U.way i u).length-1:Nat):Int)+1=((U.way i u).length:Int)by omega];have e:=fG u F hi λl=>aX l (fnd i u).kids.length (bi d.it.unit d.act d.item);rw[e]
 ·by_cases D:i=u.id
  ·simp only[h,D,spot,cO rfl,if_true,show ¬((2:Int)=0)by decide,show ¬((2:Int)=1)by decide,if_false,true_or,true_and,Option.map_none]
  ·obtain⟨p,I,j,J,M,E⟩:=br F hi (Ne.symm D);simp only[h,D,spot,bX,J,M,if_true,show ¬((2:Int)=0)by decide,show ¬((2:Int)=1)by decide,if_false,and_false,Option.map_some,E.fnd];rw[E.deep];have e:=fG u F E.mem λl=>aX l (j+1) (bi d.it.unit d.act d.item);rw[E.fnd]at e;rw[e,show((I+1:Nat):Int)=(I:Int)+1 by omega]
 ·by_cases D:i=u.id
  ·simp only[h,D,spot,cO rfl,if_true,show ¬((3:Int)=0)by decide,show ¬((3:Int)=1)by decide,show ¬((3:Int)=2)by decide,if_false,or_true,true_and,Option.map_none]
  ·obtain⟨p,I,j,J,M,E⟩:=br F hi (Ne.symm D);simp only[h,D,spot,bX,J,M,if_true,show ¬((3:Int)=0)by decide,show ¬((3:Int)=1)by decide,show ¬((3:Int)=2)by decide,if_false,and_false,Option.map_some,E.fnd];rw[E.deep];have e:=fG u F E.mem λl=>aX l j (bi d.it.unit d.act d.item);rw[E.fnd]at e;rw[e,show((I+1:Nat):Int)=(I:Int)+1 by omega]
def without (i:Idd) (u:U):U:=match aQ i u with
 |some (p,_,j)=>U.wth p.id (λy=>{y with kids:=aN y.kids j}) u
 |none=>u
def besides (wh:Int):Bool:=decide (wh=2\/wh=3)
def kC (u:U) (i t:Idd):Bool:=decide (t≠i)&&(U.way t u).dropLast.any λy=>decide (y.id=i)
def fH (u:U) (i t:Idd) (wh:Int):Option (Idd×Nat):=match aQ i u with
 |none=>none
 |some (own,_,j)=>
  if kC u i t=true\/t=i/\besides wh=false then none
  else if t=i then some (own.id,j)
  else (spot u t wh).map λq=>(q.1,if q.1=own.id/\j<q.2 then q.2-1 else q.2)
def movP (u:U) (i t:Idd) (d:Dd):U×Int:=match fH u i t d.it.wh with
 |none=>(u,9)
 |some (q,k)=>
  if bR (fnd q (without i u)) (fnd q (without i u)).kids (fnd i u)≠0 then (u,bR (fnd q (without i u)) (fnd q (without i u)).kids (fnd i u))
  else if (q≠(parR i u).1.id/\64<=(fnd q (without i u)).kids.length)\/8<(U.way q (without i u)).length+(fnd i u).dep then (u,6)
  else (U.wth q (λy=>{y with kids:=aX y.kids k (fnd i u)}) (without i u),0)
def cN (p old:U) (j:Nat):List U:=if old.id=p.id then aN p.kids j else p.kids
def atR (l:List U) (t:Idd) (wh:Int):Nat:=if wh=0 then 0 else if wh=1 then l.length else (firstAt (λk=>decide (k.id=t)) l).getD 0+(if wh=2 then 1 else 0)
def movR (u:U) (i t:Idd) (d:Dd):U×Int:=
 let x:=fnd i u
 if i=u.id\/besides d.it.wh=true/\t=u.id\/1<(U.way t x).length\/(U.way t x).length=1/\besides d.it.wh=false then (u,9)
 else
  let p:=if besides d.it.wh then (parR t u).1 else fnd t u
  let deep:=if besides d.it.wh then (parR t u).2.1 else (U.way t u).length-1
  let old:=(parR i u).1
  let j:=(parR i u).2.2
  let l:=cN p old j
  if bR p l x≠0 then (u,bR p l x)
  else if 64<=l.length\/8<deep+1+x.dep then (u,6)
  else if t=i then (u,0)
  else
   let E:=U.put {old with kids:=aN old.kids j} u
   let D:=fnd p.id E
   (U.put {D with kids:=aX D.kids (atR D.kids t d.it.wh) x} E,0)
def bM {a b:List U} {k:U}:aN (a++k::b) a.length=a++b:=by
 unfold aN;rw[take_left' rfl,←singleton_append,←append_assoc,drop_left' (by simp)]
def pL {a b:List U} {k:U}:aX (a++b) a.length k=a++k::b:=by
 unfold aX;rw[take_left' rfl,drop_left' rfl]
def ways_del {t:Idd} {a b:List U} {k:U} (h:t∉k.ids):U.ways t (a++b)=U.ways t (a++k::b):=by
 rw[j4,j4,rT,(dW k).2 h];rfl
def map_one {α β:Type} {f:α->β}:∀{l:List α},(l.map f).Nodup->∀{x y},x∈l->y∈l->f x=f y->x=y
 |[],_,_,_,hx,_,_=>by cases hx
 |a::l,hn,x,y,hx,hy,e=>by
  rw[map_cons,nodup_cons]at hn
  rcases mem_cons.1 hx with rfl|hx'<;>rcases mem_cons.1 hy with rfl|hy'
  ·rfl
  ·exact absurd (mem_map.2 ⟨y,hy',e.symm⟩) hn.1
  ·exact absurd (mem_map.2 ⟨x,hx',e⟩) hn.1
  ·exact map_one hn.2 hx' hy' e
def same_id {u x y:U} (D:u.ids.Nodup) (E:x∈u.flat) (F:y∈u.flat) (h:x.id=y.id):x=y:=map_one D E F h
def aU {i:Idd} (u:U) (D:u.ids.Nodup) (hi:i∈u.ids):fnd i u∈u.flat:=by
 refine rY (i:=i) (p:=λu=>fnd i u∈u.flat) ?_ ?_ u D hi
 ·intro u _ h;rw[aI (y:=u) (by rw[aR h];rfl),U.flat_eq];simp
 ·intro u a k b _ h s ih
  have:fnd i u=fnd i k:=by unfold fnd;rw[s.way h];have:=eA s.mem;cases E:U.way i k<;>simp_all[getLastD_cons]
  rw[this,U.flat_eq];exact mem_cons_of_mem _ (jK (by rw[s.eq];simp) ih)
def Split.mem_ids {i q:Idd} {u k:U} {a b:List U} (s:Split i u.kids a k b) (D:q∈k.ids):q∈u.ids:=by
 rw[rb,s.eq,rO,hJ];exact mem_cons_of_mem _ (mem_append.2 (.inr (mem_append.2 (.inl D))))
def Split.fnd {i q:Idd} {u k:U} {a b:List U} (E:u.ids.Nodup) (s:Split i u.kids a k b) (D:q∈k.ids):fnd q u=fnd q k:=by
 have F:=s.other (rU E).1 D;exact aI (by rw[F.way (Split.ne E s D),getLast?_cons,(dH k s.nd D).2];rfl)
def ob {i q:Idd} {u:U} (D:u.ids.Nodup) (hi:i∈u.ids) (E:q∈(fnd i u).ids):q∈u.ids:=by
 have:=(dH u D hi).2;exact k8 u _ (mem_of_getLast? this) q E
def fnd_nd {i:Idd} (u:U) (D:u.ids.Nodup) (hi:i∈u.ids):(fnd i u).ids.Nodup:=by
 refine rY (i:=i) (p:=λu=>(fnd i u).ids.Nodup) ?_ ?_ u D hi
 ·intro u D h;rw[aI (y:=u) (by rw[aR h];rfl)];exact D
 ·intro u a k b D _ s ih;rw[s.fnd D s.mem];exact ih
def gN {i t:Idd} (u:U) (E:u.ids.Nodup) (X:t∈u.ids) (hi:i∈u.ids):(∃y∈U.way t u,y.id=i)↔t∈(fnd i u).ids:=by
 revert hi;refine rY (i:=t) (p:=λu=>i∈u.ids->((∃y∈U.way t u,y.id=i)↔t∈(fnd i u).ids)) ?_ ?_ u E X
 ·intro u E h hi;rw[aR h];constructor
  ·rintro⟨y,D,e⟩;simp only[mem_singleton]at D;subst D;rw[aI (y:=y) (by rw[aR e];rfl),←h];exact mG y
  ·intro M;refine⟨u,by simp,?_⟩;apply Classical.byContradiction;intro O;rw[rb,mem_cons]at hi;obtain⟨a,k,b,s⟩:=ff (rU E).1 (hi.resolve_left (Ne.symm O));rw[s.fnd E s.mem]at M;exact Split.ne E s (ob s.nd s.mem M) h
 ·intro u a k b E h s ih hi;rw[s.way h];by_cases N:u.id=i
  ·rw[aI (y:=u) (by rw[aR N];rfl)];exact⟨λ_=>s.mem_ids s.mem,λ_=>⟨u,by simp,N⟩⟩
  ·by_cases F:i∈k.ids
   ·rw[s.fnd E F,←ih F];constructor
    ·rintro⟨y,D,e⟩
     rcases mem_cons.1 D with rfl|D
     ·exact absurd e N
     ·exact⟨y,D,e⟩
    ·rintro⟨y,D,e⟩;exact⟨y,mem_cons_of_mem _ D,e⟩
   ·constructor
    ·rintro⟨y,D,e⟩
     rcases mem_cons.1 D with rfl|D
     ·exact absurd e N
     ·exact absurd (k8 k y D i (by rw[←e];exact mG y)) F
    ·intro M;exfalso;rw[rb,mem_cons]at hi;obtain⟨T,Y,V,J⟩:=ff (rU E).1 (hi.resolve_left (Ne.symm N));rw[J.fnd E J.mem]at M;have st:=J.other (rU E).1 (ob J.nd J.mem M)
     have I:k∈T++Y::V:=by rw[←J.eq,s.eq];simp
     rcases mem_append.1 I with I|I
     ·exact st.left (ju I s.mem)
     ·rcases mem_cons.1 I with rfl|I
      ·exact F J.mem
      ·exact st.right (ju I s.mem)
def way_last {t:Idd} (u:U) (F:u.ids.Nodup) (E:t∈u.ids):U.way t u=(U.way t u).dropLast++[fnd t u]:=by
 have h:=(dH u F E).2;have D:U.way t u≠[]:=ct.2 E;rw[getLast?_eq_some_getLast D]at h
 injection h with h
 conv=>lhs;rw[←dropLast_concat_getLast D,h]
def iE {i t:Idd} (u:U) (E:u.ids.Nodup) (I:t∈u.ids) (hi:i∈u.ids):kC u i t=true↔t≠i/\t∈(fnd i u).ids:=by
 unfold kC;rw[Bool.and_eq_true,decide_eq_true_eq,any_eq_true,←gN u E I hi];refine and_congr_right λF=>?_;constructor
 ·rintro⟨y,D,e⟩;exact⟨y,dropLast_subset _ D,by simpa using e⟩
 ·rintro⟨y,D,e⟩;rw[way_last u E I]at D
  rcases mem_append.1 D with D|D
  ·exact⟨y,D,by simpa using e⟩
  ·simp only[mem_singleton]at D;subst D;exact absurd ((dH u E I).1.symm.trans e) F
def way_two {t:Idd} (x:U) (F:x.ids.Nodup):(1<(U.way t x).length↔t≠x.id/\t∈x.ids)/\((U.way t x).length=1↔t=x.id):=by
 by_cases h:x.id=t
 ·rw[aR h];simp[h]
 ·by_cases E:t∈x.ids
  ·have D:=E;rw[rb,mem_cons]at D;obtain⟨a,k,b,s⟩:=ff (rU F).1 (D.resolve_left (Ne.symm h));have:=eA s.mem;rw[s.way h];simp only[length_cons];exact⟨⟨λ_=>⟨Ne.symm h,E⟩,λ_=>by omega⟩,⟨λe=>by omega,λe=>absurd e.symm h⟩⟩
  ·rw[(dW x).2 E];simp[E,Ne.symm h]
/-! ### a tree of which one unit's child was cU -/
section
variable {u own x:U} {i:Idd} {d:Nat} {a b:List U}
def node_eq {u own:U} (D:u.ids.Nodup) (E:fnd own.id u=own) (F:own.id∈u.ids) {y:U} (I:y∈u.flat) (e:y.id=own.id):y=own:=by
 rw[←E];exact same_id D I (aU u D F) (by rw[E];exact e)
def jH {t:Idd} (D:u.ids.Nodup) (E:Par i u own d a.length) (I:own.kids=a++x::b) (J:t∉x.ids):
  U.way t (U.wth own.id (λy=>{y with kids:=aN y.kids a.length}) u)=(U.way t u).map (U.wth own.id λy=>{y with kids:=aN y.kids a.length}):=
 way_wth u D λy M e=>by
  have F:=node_eq D E.fnd E.mem M e;subst F;refine⟨rfl,?_⟩;simp only;rw[I,bM,ways_del J]
def wth_sub {j:Idd} {f:U->U} (u:U) (E:u.ids.Nodup) (hi:j∈u.ids) (D:(f (fnd j u)).ids.Sublist (fnd j u).ids):(U.wth j f u).ids.Sublist u.ids:=by
 revert D;refine rY (i:=j) (p:=λu=>(f (Go.Av.fnd j u)).ids.Sublist (Go.Av.fnd j u).ids->(U.wth j f u).ids.Sublist u.ids) ?_ ?_ u E hi
 ·intro u _ h D;have:Go.Av.fnd j u=u:=aI (by rw[aR h];rfl);rw[bz h];rw[this]at D;exact D
 ·intro u a k b E h s ih D;rw[s.fnd E s.mem]at D;rw[s.wth h,rb,rb u,s.eq,rO,rO,hJ,hJ];exact((List.Sublist.refl _).append ((ih D).append (List.Sublist.refl _))).cons_cons _
def kd {β:Type} {j:Idd} {f:U->U} (key:U->β) (D:∀y,key (U.wth j f y)=key y):∀us:List U,(U.wths j f us).map key=us.map key
 |[]=>by rw[sR]
 |u::us=>by
  rw[sr];split
  ·rw[map_cons,kd key D us,map_cons]
  ·rw[map_cons,D,map_cons]
def ez {β:Type} {j:Idd} {f:U->U} (key:U->β) (D:∀y,key (f y)=key y) (E:∀y ks,key {y with kids:=ks}=key y) (y:U):key (U.wth j f y)=key y:=by
 rw[sh];split
 ·exact D y
 ·exact E y _
def qM {l D:List U} (h:l.map (λy=>(y.kind,y.label))=D.map λy=>(y.kind,y.label)) (k:Int) (s:List UInt8):cU l k s=cU D k s:=by
 have e:∀l:List U,cU l k s=(l.map λy=>(y.kind,y.label)).any λq=>decide (q.1=k)&&decide (q.2=s):=λl=>by unfold cU;rw[any_map];rfl
 rw[e,e,h]
def rq {l D:List U} (h:l.map U.id=D.map U.id) (t:Idd):firstAt (λk=>decide (k.id=t)) l=firstAt (λk=>decide (k.id=t)) D:=by
 have e:∀l:List U,firstAt (λk=>decide (k.id=t)) l=firstAt (λq=>decide (q=t)) (l.map U.id):=λl=>by
  induction l with
  |nil=>rfl
  |cons x l ih=>rw[firstAt,map_cons,firstAt,ih]
 rw[e,e,h]
def wth_self {j:Idd} {f:U->U} (u:U) (E:u.ids.Nodup) (hi:j∈u.ids) (D:f (Go.Av.fnd j u)=Go.Av.fnd j u):U.wth j f u=u:=by
 revert D;refine rY (i:=j) (p:=λu=>f (Go.Av.fnd j u)=Go.Av.fnd j u->U.wth j f u=u) ?_ ?_ u E hi
 ·intro u _ h D;have:Go.Av.fnd j u=u:=aI (by rw[aR h];rfl);rw[bz h];rw[this]at D;exact D
 ·intro u a k b E h s ih D;rw[s.fnd E s.mem]at D;rw[s.wth h,ih D,←s.eq]
  cases u;rfl
end
end Go.Av
