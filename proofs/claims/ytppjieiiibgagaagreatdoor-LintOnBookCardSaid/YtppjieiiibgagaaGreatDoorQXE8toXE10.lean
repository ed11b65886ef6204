/-
  ENACT, 8: an item applied to a book: the program does what the document says.
-/
import Derived.Test.YtppjieiiibgagaaGreatDoorQXE6toXL18
import Derived.Test.YtppjieiiibgagaaGreatDoorQXL19toXL25
set_option linter.all false
namespace Go.Av
open Go Go.RowKit Go.Proofs List
/-! ### addresses -/
def ay (u:U) (s:Stp):Bool:=decide (u.kind=s.kind)&&decide (u.label=s.label)
def lc (s:Stp):Bool:=decide (s.kind=0)&&decide (s.label=[])
def aD (l:List U) (s:Stp):List U:=l.flatMap λx=>x.kids.filter λk=>ay k s
def eL (u:U) (p:List Stp):List U:=
 if cP p=false then []else match p with
 |[]=>[u]
 |s::r=>r.foldl aD (if lc s then [u]else u.flat.filter λx=>ay x s)
def one (u:U) (p:List Stp):Idd×Int:=match eL u p with
 |[]=>(⟨0,0,0⟩,7)
 |[x]=>(x.id,0)
 |_=>(⟨0,0,0⟩,8)
def j0 {u x k:U} (D:x∈u.flat) (E:k∈x.kids):k∈u.flat:=by
 revert D;refine U.ind (p:=λu=>x∈u.flat->k∈u.flat) (λu ih D=>?_) u;rw[U.flat_eq]at D ⊢
 rcases mem_cons.1 D with rfl|D
 ·exact mem_cons_of_mem _ (jK E (by rw[U.flat_eq];simp))
 ·have:∀{us:List U},x∈U.flats us->∃k∈us,x∈k.flat:=by
   intro us
   induction us with
   |nil=>intro h;rw[U.flats]at h;cases h
   |cons a us ih=>
    intro h;rw[U.flats,mem_append]at h
    rcases h with h|h
    ·exact⟨a,by simp,h⟩
    ·obtain⟨k,E,D⟩:=ih h;exact⟨k,by simp[E],D⟩
  obtain⟨y,I,F⟩:=this D;exact mem_cons_of_mem _ (jK I (ih y I F))
def lj {u:U}:∀{r:List Stp} {l:List U},(∀x∈l,x∈u.flat)->∀x∈r.foldl aD l,x∈u.flat
 |[],l,h,x,hx=>h x hx
 |s::r,l,h,x,hx=>lj (l:=aD l s) (λy D=>by
   obtain⟨z,E,D⟩:=mem_flatMap.1 D
   exact j0 (h z E) (mem_filter.1 D).1) x hx
def qv {u:U} {p:List Stp}:∀x∈eL u p,x∈u.flat:=by
 intro x D
 have F:u∈u.flat:=by rw[U.flat_eq];simp
 unfold eL at D;split at D
 ·cases D
 ·split at D
  ·simp only[mem_singleton]at D;subst D;exact F
  ·refine lj ?_ x D;intro y E;split at E
   ·simp only[mem_singleton]at E;subst E;exact F
   ·exact(mem_filter.1 E).1
def cB {u:U} {p:List Stp} (h:(one u p).2=0):(one u p).1∈u.ids:=by
 have D:=qv (u:=u) (p:=p);unfold one at h ⊢;split at h
 ·cases h
 ·rename_i x e;rw[e]at D;exact mem_map.2 ⟨x,D x (by simp),rfl⟩
 ·cases h
/-! ### an item applied -/
def chg (k:Int):Bool:=decide (0<=k)&&decide (k<=6)
def doP (u:U) (d:Dd):U×Int:=
 if chg d.it.kind=false\/d.it.may=false then (u,1)
 else if (one u d.it.at_).2≠0 then (u,(one u d.it.at_).2)
 else if d.it.kind=0 then insP u (one u d.it.at_).1 d
 else if (one u d.it.at_).1=u.id then (if d.it.kind=6/\(one u d.it.to_).2≠0 then (u,(one u d.it.to_).2)else (u,9))
 else if d.it.kind=1 then (without (one u d.it.at_).1 u,0)
 else if d.it.kind=2\/d.it.kind=3 then
  (if (bu (fnd (one u d.it.at_).1 u).words d.it d.act d.item).2≠0 then (u,(bu (fnd (one u d.it.at_).1 u).words d.it d.act d.item).2)
   else (U.wth (one u d.it.at_).1 (λy=>{y with words:=(bu (fnd (one u d.it.at_).1 u).words d.it d.act d.item).1}) u,0))
 else if d.it.kind=4 then (U.wth (one u d.it.at_).1 (λy=>{y with head:=aL d.act d.item d.it.new 0}) u,0)
 else if d.it.kind=5 then
  (if bR (parR (one u d.it.at_).1 u).1 (parR (one u d.it.at_).1 u).1.kids {fnd (one u d.it.at_).1 u with label:=d.it.label}=10 then (u,10)
   else (U.wth (one u d.it.at_).1 (λy=>{y with label:=d.it.label}) u,0))
 else if (one u d.it.to_).2≠0 then (u,(one u d.it.to_).2)
 else movP u (one u d.it.at_).1 (one u d.it.to_).1 d
def doR (u:U) (d:Dd):U×Int:=
 if chg d.it.kind=false\/d.it.may=false then (u,1)
 else if (one u d.it.at_).2≠0 then (u,(one u d.it.at_).2)
 else if d.it.kind=0 then insR u (one u d.it.at_).1 d
 else if d.it.kind=6 then (if (one u d.it.to_).2≠0 then (u,(one u d.it.to_).2)else movR u (one u d.it.at_).1 (one u d.it.to_).1 d)
 else if (one u d.it.at_).1=u.id then (u,9)
 else if d.it.kind=1 then (U.put {(parR (one u d.it.at_).1 u).1 with kids:=aN (parR (one u d.it.at_).1 u).1.kids (parR (one u d.it.at_).1 u).2.2} u,0)
 else if d.it.kind=2\/d.it.kind=3 then
  (if (bu (fnd (one u d.it.at_).1 u).words d.it d.act d.item).2≠0 then (u,(bu (fnd (one u d.it.at_).1 u).words d.it d.act d.item).2)
   else (U.put {fnd (one u d.it.at_).1 u with words:=(bu (fnd (one u d.it.at_).1 u).words d.it d.act d.item).1} u,0))
 else if d.it.kind=4 then (U.put {fnd (one u d.it.at_).1 u with head:=aL d.act d.item d.it.new 0} u,0)
 else if cU (parR (one u d.it.at_).1 u).1.kids (fnd (one u d.it.at_).1 u).kind d.it.label then (u,10)
 else (U.put {fnd (one u d.it.at_).1 u with label:=d.it.label} u,0)
def oL {i:Idd} (u:U) (F:u.ids.Nodup) (hi:i∈u.ids) (f:U->U) (E:(f (fnd i u)).id=i):U.put (f (fnd i u)) u=U.wth i f u:=by
 obtain⟨J,I⟩:=dH u F hi
 have h:=put_wth (x:=f (fnd i u)) (f:=f) u F (by rw[E];exact hi) (λy D=>by
  rw[E,I]at D
  injection D with D
  rw[D])
 rw[E]at h;exact h
structure Fine (u:U):Prop where
 nd:u.ids.Nodup
 few:∀y∈u.flat,y.kids.length<=64
 nest:∀y∈u.flat,∀k∈y.kids,nests y.kind k.kind=true
def do_eq (u:U) (E:Fine u) (d:Dd) (hw:d.it.may=true->d.it.kind=0\/d.it.kind=6->0<=d.it.wh/\d.it.wh<=3):doR u d=doP u d:=by
 unfold doR doP;by_cases Z:chg d.it.kind=false\/d.it.may=false
 ·rw[if_pos Z,if_pos Z]
 rw[if_neg Z,if_neg Z]
 have hm:d.it.may=true:=by cases h:d.it.may<;>simp_all
 have hc:0<=d.it.kind/\d.it.kind<=6:=by
  have:chg d.it.kind=true:=by cases h:chg d.it.kind<;>simp_all
  simpa[chg]using this
 by_cases T:(one u d.it.at_).2≠0
 ·rw[if_pos T,if_pos T]
 rw[if_neg T,if_neg T];have hi:=cB (u:=u) (p:=d.it.at_) (by simpa using T);obtain⟨i,ac⟩:∃i,(one u d.it.at_).1=i:=⟨_,rfl⟩;rw[ac]at hi ⊢;obtain⟨f1,f2⟩:=dH u E.nd hi;by_cases J:d.it.kind=0
 ·rw[if_pos J,if_pos J];exact ins_eq u E.nd i hi d (hw hm (.inl J)).1 (hw hm (.inl J)).2
 rw[if_neg J,if_neg J];by_cases M:d.it.kind=6
 ·rw[if_pos M]
  have k1:¬d.it.kind=1:=by omega
  have N:¬(d.it.kind=2\/d.it.kind=3):=by omega
  have O:¬d.it.kind=4:=by omega
  have k5:¬d.it.kind=5:=by omega
  by_cases D:i=u.id
  ·rw[if_pos D];by_cases F:(one u d.it.to_).2≠0
   ·rw[if_pos F,if_pos ⟨M,F⟩]
   ·rw[if_neg F,if_neg λh=>F h.2];unfold movR;simp only;rw[if_pos (.inl D)]
  ·rw[if_neg D,if_neg k1,if_neg N,if_neg O,if_neg k5];by_cases F:(one u d.it.to_).2≠0
   ·rw[if_pos F,if_pos F]
   ·rw[if_neg F,if_neg F];have ht:=cB (u:=u) (p:=d.it.to_) (by simpa using F);exact mov_eq u E.nd E.few i _ hi ht D d (hw hm (.inr M)).1 (hw hm (.inr M)).2
 rw[if_neg M];by_cases D:i=u.id
 ·rw[if_pos D,if_pos D,if_neg λh=>M h.1]
 rw[if_neg D,if_neg D];obtain⟨own,dO,j,w1,w2,X⟩:=br E.nd hi (Ne.symm D)
 have Y:∀g:List U->List U,U.put {own with kids:=g own.kids} u=U.wth own.id (λy=>{y with kids:=g y.kids}) u:=λg=>by
  have:=fG u E.nd X.mem g;rw[X.fnd]at this;exact this
 by_cases k1:d.it.kind=1
 ·rw[if_pos k1,if_pos k1,w2];simp only;rw[Y λl=>aN l j];unfold without;rw[w1]
 rw[if_neg k1,if_neg k1];by_cases N:d.it.kind=2\/d.it.kind=3
 ·rw[if_pos N,if_pos N];split
  ·rfl
  ·rw[←oL u E.nd hi (λy=>{y with words:=(bu (fnd i u).words d.it d.act d.item).1}) f1]
 rw[if_neg N,if_neg N];by_cases O:d.it.kind=4
 ·rw[if_pos O,if_pos O,←oL u E.nd hi (λy=>{y with head:=aL d.act d.item d.it.new 0}) f1]
 rw[if_neg O,if_neg O]
 have k5:d.it.kind=5:=by omega
 rw[if_pos k5,w2];simp only;obtain⟨a,k,b,s,hk,hj,hl⟩:=X.split;have aa:fnd i u=k:=aI hl
 have V:own∈u.flat:=by
  have:=aU u E.nd X.mem;rw[X.fnd]at this;exact this
 have I:=E.nest own V k (by rw[s.eq];simp)
 have ht:bR own own.kids {fnd i u with label:=d.it.label}=10↔cU own.kids (fnd i u).kind d.it.label=true:=by
  unfold bR;simp only;rw[aa,I];simp
 by_cases h8:cU own.kids (fnd i u).kind d.it.label=true
 ·rw[if_pos h8,if_pos (ht.2 h8)]
 ·rw[if_neg h8,if_neg λh=>h8 (ht.1 h),←oL u E.nd hi (λy=>{y with label:=d.it.label}) f1]
def cE (a b:List U):U.flats (a++b)=U.flats a++U.flats b:=by
 induction a with
 |nil=>rw[bH];rfl
 |cons x a ih=>rw[cons_append,aF,aF,ih,append_assoc]
def eW (a b:List U):U.deeps (a++b)=max (U.deeps a) (U.deeps b):=by
 induction a with
 |nil=>rw[U.deeps];simp
 |cons x a ih=>rw[cons_append,U.deeps,U.deeps,ih];omega
def cc {us:List U} {x:U} (h:x∈U.flats us):∃k∈us,x∈k.flat:=jB h
def oE {i:Idd} {f:U->U} (u:U) (D:u.ids.Nodup) (hi:i∈u.ids):∃l r,u.ids=l++((fnd i u).ids++r)/\(U.wth i f u).ids=l++((f (fnd i u)).ids++r):=by
 refine rY (i:=i) (p:=λu=>∃l r,u.ids=l++((fnd i u).ids++r)/\(U.wth i f u).ids=l++((f (fnd i u)).ids++r)) ?_ ?_ u D hi
 ·intro u _ h;have e:fnd i u=u:=aI (by rw[aR h];rfl);refine⟨[],[],?_,?_⟩
  ·rw[e];simp
  ·rw[bz h,e];simp
 ·intro u a k b D h s ⟨l,r,e1,e2⟩;rw[s.fnd D s.mem];refine⟨u.id::(U.idss a++l),r++U.idss b,?_,?_⟩
  ·rw[rb,s.eq,rO,hJ,e1];simp[append_assoc]
  ·rw[s.wth h,rb];simp only;rw[rO,hJ,e2];simp[append_assoc]
def j1 {i:Idd} {f:U->U} (u:U) (D:u.ids.Nodup) (hi:i∈u.ids):(U.wth i f u).deep<=max u.deep ((U.way i u).length-1+(f (fnd i u)).deep)/\(U.way i u).length-1+(fnd i u).deep<=u.deep:=by
 refine rY (i:=i) (p:=λu=>(U.wth i f u).deep<=max u.deep ((U.way i u).length-1+(f (fnd i u)).deep)/\(U.way i u).length-1+(fnd i u).deep<=u.deep) ?_ ?_ u D hi
 ·intro u _ h;have e:fnd i u=u:=aI (by rw[aR h];rfl);rw[bz h,e,aR h];simp only[length_cons,length_nil];omega
 ·intro u a k b D h s ⟨h1,h2⟩;have:=eA s.mem;rw[s.fnd D s.mem,s.wth h,s.way h,sf,sf u,s.eq];simp only[length_cons];rw[eW,eW,U.deeps,U.deeps];omega
def U.key (u:U):Int×List UInt8:=(u.kind,u.label)
def gY {y z:U} (F:z.kind=y.kind) (O:z.label=y.label) (E:ba z.head=ba y.head/\z.head.length=y.head.length) (I:ba z.words=ba y.words/\z.words.length=y.words.length) (D:z.kids.map U.key=y.kids.map U.key):nodeOk z=nodeOk y:=by
 have J:z.kids.length=y.kids.length:=by have:=congrArg List.length D;simpa using this
 have M:(z.kids.all λk=>nests z.kind k.kind)=y.kids.all λk=>nests y.kind k.kind:=by
  have:∀l:List U,∀p:Int,(l.all λk=>nests p k.kind)=(l.map U.key).all λq=>nests p q.1:=λl p=>by rw[all_map];rfl
  rw[this,this,D,F]
 have N:bY z.kids↔bY y.kids:=by unfold bY;exact Iff.of_eq (congrArg List.Nodup D)
 unfold nodeOk own1;rw[J,M,decide_eq_decide.2 N,F,O,E.1,E.2,I.1,I.2]
def iA {i:Idd} {f:U->U} (I:∀y,(f y).key=y.key) (u:U) (N:u.ids.Nodup) (hi:i∈u.ids) (F:∀y∈u.flat,nodeOk y=true) (D:∀z∈(f (fnd i u)).flat,nodeOk z=true):∀z∈(U.wth i f u).flat,nodeOk z=true:=by
 revert F D;refine rY (i:=i) (p:=λu=>(∀y∈u.flat,nodeOk y=true)->(∀z∈(f (fnd i u)).flat,nodeOk z=true)->∀z∈(U.wth i f u).flat,nodeOk z=true) ?_ ?_ u N hi
 ·intro u _ h F D;have e:fnd i u=u:=aI (by rw[aR h];rfl);rw[bz h];rw[e]at D;exact D
 ·intro u a k b N h s ih F D z E;rw[s.fnd N s.mem]at D;have M:∀y∈k.flat,nodeOk y=true:=λy J=>F y (sa (by rw[s.eq];simp) J);rw[s.wth h,U.flat_eq]at E
  rcases mem_cons.1 E with rfl|E
  ·rw[←F u u.flat_self];refine gY rfl rfl ⟨rfl,rfl⟩ ⟨rfl,rfl⟩ ?_;simp only;rw[s.eq,map_append,map_append,map_cons,map_cons,ez U.key I (λ_ _=>rfl)]
  ·simp only at E;rw[cE,aF,mem_append,mem_append]at E
   rcases E with E|E|E
   ·obtain⟨y,J,E⟩:=cc E;exact F z (sa (by rw[s.eq];simp[J]) E)
   ·exact ih M D z E
   ·obtain⟨y,J,E⟩:=cc E;exact F z (sa (by rw[s.eq];simp[J]) E)
def pS {i:Idd} {s0:List UInt8} (u:U) (hn:u.ids.Nodup) (hi:i∈u.ids) (O:u.id≠i) (M:∀y∈u.flat,nodeOk y=true) (hl:bK s0=true)
  (X:∀p d j,aQ i u=some (p,d,j)->cU p.kids (fnd i u).kind s0=false) (J:(fnd i u).kind≠0):∀z∈(U.wth i (λy=>{y with label:=s0}) u).flat,nodeOk z=true:=by
 revert O M X J
 refine rY (i:=i) (p:=λu=>u.id≠i->(∀y∈u.flat,nodeOk y=true)->(∀p d j,aQ i u=some (p,d,j)->cU p.kids (fnd i u).kind s0=false)->(fnd i u).kind≠0->∀z∈(U.wth i (λy=>{y with label:=s0}) u).flat,nodeOk z=true) ?_ ?_ u hn hi
 ·intro u _ h O
  exact absurd h O
 ·intro u a k b hn h s ih _ M X J z D
  rw[s.fnd hn s.mem]at X J;have N:∀y∈k.flat,nodeOk y=true:=λy F=>M y (sa (by rw[s.eq];simp) F)
  have E:∀y,y∈U.flats a\/y∈U.flats b->nodeOk y=true:=by
   intro y F
   rcases F with F|F<;>
   ·obtain⟨q,hq,F⟩:=cc F;exact M y (sa (by rw[s.eq];simp[hq]) F)
  rw[s.wth h,U.flat_eq]at D;simp only at D;rw[cE,aF,mem_cons,mem_append,mem_append]at D;by_cases V:k.id=i
  ·have aa:fnd i k=k:=aI (by rw[aR V];rfl);rw[aa]at X J;have T:=X u 0 a.length (lY h s V);rw[bz V]at D
   rcases D with rfl|D|D|D
   ·have Y:=M u u.flat_self;unfold nodeOk at Y ⊢;simp only[Bool.and_eq_true,decide_eq_true_eq]at Y ⊢;refine⟨Y.1,⟨?_,?_⟩,?_⟩
    ·rw[all_append,all_cons];have:=Y.2.1.1;rw[s.eq,all_append,all_cons]at this;exact this
    ·have:=Y.2.1.2;unfold bY at this ⊢;rw[s.eq,map_append,map_cons]at this;rw[map_append,map_cons];unfold cU at T;rw[any_eq_false]at T
     have Z:∀y∈u.kids,(y.kind,y.label)≠(k.kind,s0):=λy F e=>by
      have:=T y F
      injection e with e1 e2
      simp[e1,e2]at this
     obtain⟨n1,n2,n3⟩:=nodup_append.1 this;rw[nodup_cons]at n2;refine nodup_append.2 ⟨n1,nodup_cons.2 ⟨?_,n2.2⟩,?_⟩
     ·intro hm;obtain⟨y,F,e⟩:=mem_map.1 hm;exact Z y (by rw[s.eq];simp[F]) e
     ·intro x hx y F e;obtain⟨x',ac,ex⟩:=mem_map.1 hx
      rcases mem_cons.1 F with F|F
      ·exact Z x' (by rw[s.eq];simp[ac]) (ex.trans (e.trans F))
      ·exact n3 x hx y (mem_cons_of_mem _ F) e
    ·have:=Y.2.2;rw[s.eq]at this;simp at this ⊢;exact this
   ·exact E z (.inl D)
   ·rw[U.flat_eq]at D
    rcases mem_cons.1 D with rfl|D
    ·have I:=N k k.flat_self;unfold nodeOk own1 at I ⊢;simp only at I ⊢;rw[if_neg J]at I ⊢;simp only[Bool.and_eq_true]at I ⊢;exact⟨⟨I.1.1,hl,I.1.2.2⟩,I.2⟩
    ·exact N z (by rw[U.flat_eq];exact mem_cons_of_mem _ D)
   ·exact E z (.inr D)
  ·rcases D with rfl|D|D|D
   ·rw[←M u u.flat_self];refine gY rfl rfl ⟨rfl,rfl⟩ ⟨rfl,rfl⟩ ?_;simp only;rw[s.eq,map_append,map_append,map_cons,map_cons]
    have:(U.wth i (λy=>{y with label:=s0}) k).key=k.key:=by
     rw[sh,if_neg V];rfl
    rw[this]
   ·exact E z (.inl D)
   ·refine ih V N (λp d j e=>?_) J z D;exact X p (d+1) j (by rw[kH h s V,e];rfl)
   ·exact E z (.inr D)
def fo {α:Type} {p q:α->Bool}:∀{l:List α},(∀x∈l,p x=q x)->l.all p=l.all q
 |[],_=>rfl
 |x::l,h=>by rw[all_cons,all_cons,h x (by simp),fo λy D=>h y (by simp[D])]
def na (p:U->Bool):∀us:List U,(U.flats us).all p=us.all λk=>k.flat.all p
 |[]=>by rw[bH];rfl
 |u::us=>by rw[aF,all_append,na p us,all_cons]
def jS (p:U->Bool) (u:U):u.flat.all p=(p u&&u.kids.all λk=>k.flat.all p):=by rw[U.flat_eq,all_cons,na]
/-! ### trees that stand right -/
def mF (k:Int):∀us:List U,U.rights k us=((us.all λx=>nests k x.kind)&&us.all U.right)
 |[]=>by rw[U.rights];rfl
 |u::us=>by
  rw[U.rights,mF k us,all_cons,all_cons]
  cases nests k u.kind<;>cases u.right<;>simp
def nv:ba []=true:=by decide
def pH (u:U):gI u=(own1 u&&decide ((u.kids.length:Int)<=64)):=by
 unfold gI own1;by_cases F:u.kind=0
 ·rw[if_pos F,if_pos F,Bool.eq_iff_iff];simp only[Bool.and_eq_true,decide_eq_true_eq];constructor
  ·rintro⟨⟨_,_,D,_,_⟩,E⟩;exact⟨E,D⟩
  ·rintro⟨⟨E,V,X⟩,D⟩;have O:u.head=[]:=length_eq_zero_iff.1 (by omega);have T:u.words=[]:=length_eq_zero_iff.1 (by omega);exact⟨⟨by omega,by omega,D,by rw[O];exact nv,by rw[T];exact nv⟩,E,V,X⟩
 ·rw[if_neg F,if_neg F,Bool.eq_iff_iff];simp only[Bool.and_eq_true,decide_eq_true_eq];constructor
  ·rintro⟨⟨I,J,D,M,N⟩,E⟩;exact⟨⟨⟨I,J⟩,E,M,N⟩,D⟩
  ·rintro⟨⟨⟨I,J⟩,E,M,N⟩,D⟩;exact⟨⟨I,J,D,M,N⟩,E⟩
def qF:∀u:U,u.right=u.flat.all nodeOk:=by
 refine U.ind λu ih=>?_;rw[ue,jS,mF,pH,fo ih,show nodeOk u=(own1 u&&((u.kids.all λk=>nests u.kind k.kind)&&decide (bY u.kids)&&decide ((u.kids.length:Int)<=64)))from rfl];generalize own1 u=a,(u.kids.all λx=>nests u.kind x.kind)=b,decide (bY u.kids)=c,decide ((u.kids.length:Int)<=64)=d,(u.kids.all λk=>k.flat.all nodeOk)=e
 cases a<;>cases b<;>cases c<;>cases d<;>cases e<;>rfl
def mD (u:U):fM u=cR u:=by unfold fM cR;rw[qF]
/-! ### bare trees -/
def nW {α:Type} {f:α->α}:∀{l:List α},l=l.map f↔∀x∈l,x=f x
 |[]=>by simp
 |x::l=>by simp[nW (f:=f) (l:=l)]
def wd_bare (w:Wd):w=w.bare↔en w=false:=by
 obtain⟨t,a,b,c⟩:=w;simp[Wd.bare,en]
def nM (l:List Wd):l=l.map Wd.bare↔l.any en=false:=by
 rw[nW,any_eq_false];constructor<;>intro h x D
 ·have:=(wd_bare x).1 (h x D);simp[this]
 ·exact(wd_bare x).2 (by simpa using h x D)
def strip_fix:∀u:U,(u=u.strip)↔u.flat.all d6=true:=by
 refine U.ind λu ih=>?_;rw[jS,Bool.and_eq_true,all_eq_true,rV,show d6 u=(decide (u.id=zId)&&(!u.head.any en&& !u.words.any en))from rfl];simp only[Bool.and_eq_true,decide_eq_true_eq,Bool.not_eq_true'];rw[←nM,←nM]
 have D:u.kids=u.kids.map U.strip↔∀k∈u.kids,k.flat.all d6=true:=by
  rw[nW];exact⟨λh k D=>(ih k D).1 (h k D),λh k D=>(ih k D).2 (h k D)⟩
 rw[←D];obtain⟨i,k,l,h,w,ks⟩:=u;simp only[U.mk.injEq,true_and,zId];constructor
 ·rintro⟨a,b,c,d⟩;exact⟨⟨a,b,c⟩,d⟩
 ·rintro⟨⟨a,b,c⟩,d⟩;exact⟨a,b,c,d⟩
def jr (u:U):gu u=iJ u:=by
 unfold gu iJ;rw[mD];congr 1;rw[Bool.eq_iff_iff,decide_eq_true_eq,strip_fix]
/-! ### shapes -/
def nr (u:U):cD u=own1 u:=by
 unfold cD own1;by_cases D:u.kind=0
 ·rw[if_pos D,if_pos D]
 ·rw[if_neg D,if_neg D]
  have:decide (0<u.kind)=decide (0<=u.kind):=by rw[decide_eq_decide];omega
  rw[this,Bool.and_assoc]
def mW (d k:Int):∀us:List U,U.shapes d k us=((us.all λx=>nests k x.kind)&&us.all λx=>x.shape d)
 |[]=>by rw[U.shapes];rfl
 |u::us=>by
  rw[U.shapes,mW d k us,all_cons,all_cons]
  cases nests k u.kind<;>cases u.shape d<;>simp
def nests_ne0 {p k:Int} (h:nests p k=true):k≠0:=by
 unfold nests at h;(repeat' split at h)<;>simp at h<;>omega
def deps_le (us:List U) (d:Int):d+U.deps us<=8↔d<=8/\∀k∈us,d+1+k.dep<=8:=by
 induction us with
 |nil=>simp[sM]
 |cons u us ih=>
  rw[sk];constructor
  ·intro h;have D:=ih.1 (by omega);refine⟨D.1,λk E=>?_⟩
   rcases mem_cons.1 E with rfl|E
   ·omega
   ·exact D.2 k E
  ·rintro⟨F,D⟩;have I:=D u (by simp);have J:=ih.2 ⟨F,λk E=>D k (by simp[E])⟩;omega
def mS:∀(u:U) (d:Int),0<=d->u.shape d=(u.flat.all nodeOk&&(decide (d+u.dep<=8)&& !(decide (0<d)&&decide (u.kind=0)))):=by
 refine U.ind λu ih d X=>?_;rw[uf,jS,mW,nr,fo λk D=>ih k D (d+1) (by omega),sv];rw[Bool.eq_iff_iff,show nodeOk u=(own1 u&&((u.kids.all λk=>nests u.kind k.kind)&&decide (bY u.kids)&&decide ((u.kids.length:Int)<=64)))from rfl];simp only[Bool.and_eq_true,decide_eq_true_eq,all_eq_true,Bool.not_eq_true',Bool.and_eq_false_iff,decide_eq_false_iff_not,deps_le];constructor
 ·rintro⟨⟨⟨F,I⟩,J,M⟩,⟨E,O⟩,N⟩;exact⟨⟨⟨J,⟨E,N⟩,M⟩,λk D=>(O k D).1⟩,⟨F,λk D=>(O k D).2.1⟩,I⟩
 ·rintro⟨⟨⟨J,⟨E,N⟩,M⟩,T⟩,⟨F,V⟩,I⟩;exact⟨⟨⟨F,I⟩,J,M⟩,⟨E,λk D=>⟨T k D,V k D,.inr (nests_ne0 (E k D))⟩⟩,N⟩
/-! ### stripped trees -/
def ib:∀us:List U,(∀k∈us,k.strip.flat=k.flat.map U.strip)->U.flats (us.map U.strip)=(U.flats us).map U.strip
 |[],_=>by rw[map_nil,bH];rfl
 |u::us,h=>by rw[map_cons,aF,aF,map_append,h u (by simp),ib us λk D=>h k (by simp[D])]
def fe:∀u:U,u.strip.flat=u.flat.map U.strip:=by
 refine U.ind λu ih=>?_;rw[U.flat_eq,U.flat_eq,map_cons];congr 1;rw[rV];exact ib _ ih
def jq (u:U):u.strip.kind=u.kind:=by rw[rV]
def oQ (u:U):u.strip.label=u.label:=by rw[rV]
def qZ (l:List Wd):ba (l.map Wd.bare)=ba l:=by
 unfold ba;rw[length_map,all_map];rfl
def own_strip (u:U):own1 u.strip=own1 u:=by
 rw[rV];unfold own1;simp only[length_map,qZ]
def pc (l:List U):bY (l.map U.strip)=bY l:=by
 unfold bY;rw[map_map];congr 1;refine map_congr_left λk _=>?_;simp only[Function.comp,jq,oQ]
def oo (u:U):nodeOk u.strip=nodeOk u:=by
 have h:u.strip.kids=u.kids.map U.strip:=by rw[rV]
 unfold nodeOk;rw[own_strip,h,all_map,length_map,jq];simp only[pc];congr 3
 exact fo λk _=>by simp only[Function.comp,jq]
def mA:∀us:List U,(∀k∈us,k.strip.dep=k.dep)->U.deps (us.map U.strip)=U.deps us
 |[],_=>rfl
 |u::us,h=>by rw[map_cons,sk,sk,h u (by simp),mA us λk D=>h k (by simp[D])]
def dep_strip:∀u:U,u.strip.dep=u.dep:=by
 refine U.ind λu ih=>?_;rw[sv,sv,show u.strip.kids=u.kids.map U.strip by rw[rV]];exact mA _ ih
def cnt_strip (u:U):u.strip.cnt=u.cnt:=by unfold U.cnt;rw[fe,length_map]
def ids_strip (u:U):gZ u.strip=true:=by
 unfold gZ U.ids;rw[fe];simp only[Bool.or_eq_true,all_eq_true,map_map];left;intro x D;obtain⟨y,_,rfl⟩:=mem_map.1 D;simp[Function.comp,rV,zId]
def lM (u:U):cR u.strip=dC u:=by
 unfold cR dC;rw[mS u 0 (by omega),fe,all_map,dep_strip,cnt_strip,ids_strip,fo (p:=nodeOk ∘ U.strip) (q:=nodeOk) λx _=>oo x];simp[Bool.and_assoc]
def U.lone (u:U):U:=⟨zId,u.kind,u.label,u.head,u.words,[]⟩
def tree_lone (u:U):cR u.lone.strip=cD u:=by
 rw[lM,nr];unfold dC;rw[mS _ 0 (by omega),jS]
 have D:u.lone.dep=0:=by rw[sv];rfl
 have E:u.lone.cnt=1:=by rw[tv];rfl
 rw[D,E];unfold nodeOk;have:own1 u.lone=own1 u:=rfl;rw[this];simp[U.lone,bY]
structure Good (u:U):Prop where
 nd:u.ids.Nodup
 node:∀y∈u.flat,nodeOk y=true
 dep:u.deep<=8
 cnt:u.flat.length<=1024
 root:u.kind=0↔u.id=zId
 zero:u.kind≠0->zId∉u.ids
def nn {p k:Int} (h:nests p k=true):k≠0:=by
 rintro rfl;unfold nests at h;revert h;split<;>(try split)<;>(try split)<;>(try split)<;>(try split)<;>simp
def eS {u:U} (h:nodeOk u=true):∀k∈u.kids,nests u.kind k.kind=true:=by
 unfold nodeOk at h;simp only[Bool.and_eq_true]at h;exact all_eq_true.1 h.2.1.1
def cy {u:U} (h:nodeOk u=true):u.kids.length<=64:=by
 unfold nodeOk at h;simp only[Bool.and_eq_true,decide_eq_true_eq]at h;have:=h.2.2;omega
def Good.fine {u:U} (h:Good u):Fine u:=⟨h.nd,λy D=>cy (h.node y D),λy D=>eS (h.node y D)⟩
def Good.kind {u:U} (h:Good u) {i:Idd} (hi:i∈u.ids) (E:u.id≠i):(fnd i u).kind≠0:=by
 obtain⟨own,d,j,N,w2,F⟩:=br h.nd hi E;obtain⟨a,k,b,s,M,J,I⟩:=F.split
 have D:own∈u.flat:=by
  have:=aU u h.nd F.mem;rw[F.fnd]at this;exact this
 rw[aI I];exact nn (eS (h.node own D) k (by rw[s.eq];simp))
def ids_root {u:U} {A x B:List Idd} (e:u.ids=A++(x++B)) (D:A≠[]):∃A',A=u.id::A':=by
 rw[rb]at e
 cases A with
 |nil=>exact absurd rfl D
 |cons a A'=>injection e with e1 e2;exact⟨A',by rw[e1]⟩
structure Root (u v:U):Prop where
 id:v.id=u.id
 kind:v.kind=u.kind
 label:v.label=u.label
 head:v.head=u.head
 words:v.words=u.words
def Root.refl (u:U):Root u u:=⟨rfl,rfl,rfl,rfl,rfl⟩
def Root.trans {u v w:U} (h:Root u v) (g:Root v w):Root u w:=⟨g.id.trans h.id,g.kind.trans h.kind,g.label.trans h.label,g.head.trans h.head,g.words.trans h.words⟩
def iM {u:U} {q:Idd} {g:List U->List U}:Root u (U.wth q (λy=>{y with kids:=g y.kids}) u):=
 ⟨ez (f:=λy=>{y with kids:=g y.kids}) U.id (λ_=>rfl) (λ_ _=>rfl) u,ez (f:=λy=>{y with kids:=g y.kids}) U.kind (λ_=>rfl) (λ_ _=>rfl) u,ez (f:=λy=>{y with kids:=g y.kids}) U.label (λ_=>rfl) (λ_ _=>rfl) u,ez (f:=λy=>{y with kids:=g y.kids}) U.head (λ_=>rfl) (λ_ _=>rfl) u,ez (f:=λy=>{y with kids:=g y.kids}) U.words (λ_=>rfl) (λ_ _=>rfl) u⟩
def ru {u:U} {i:Idd} {f:U->U} (h:u.id≠i):Root u (U.wth i f u):=by
 rw[sh,if_neg h];exact⟨rfl,rfl,rfl,rfl,rfl⟩
def pA (A x B:List Idd):(A++(x++B)).Perm ((A++B)++x):=by
 rw[append_assoc];exact List.Perm.append_left A perm_append_comm
def ids_ins {u:U} (F:u.ids.Nodup) {q:Idd} (I:q∈u.ids) (k:Nat) (x:U):∃A B,A≠[]/\u.ids=A++B/\(U.wth q (λy=>{y with kids:=aX y.kids k x}) u).ids=A++(x.ids++B):=by
 obtain⟨l,r,D,E⟩:=oE (f:=λy=>{y with kids:=aX y.kids k x}) u F I;refine⟨l++((fnd q u).id::U.idss ((fnd q u).kids.take k)),U.idss ((fnd q u).kids.drop k)++r,by simp,?_,?_⟩
 ·rw[D,rb]
  conv=>lhs;rw[←take_append_drop k (fnd q u).kids]
  rw[rO];simp[append_assoc]
 ·rw[E,rb];unfold aX;simp only;rw[rO,hJ];simp[append_assoc]
def flat_ins {y x:U} {k:Nat}:∀z∈({y with kids:=aX y.kids k x}:U).flat,z={y with kids:=aX y.kids k x}\/z∈U.flats y.kids\/z∈x.flat:=by
 intro z D;rw[U.flat_eq]at D;simp only[aX]at D;rw[cE,aF,mem_cons,mem_append,mem_append]at D
 have e:U.flats y.kids=U.flats (y.kids.take k)++U.flats (y.kids.drop k):=by rw[←cE,take_append_drop]
 rw[e,mem_append]
 rcases D with D|D|D|D
 ·exact .inl D
 ·exact .inr (.inl (.inl D))
 ·exact .inr (.inr D)
 ·exact .inr (.inl (.inr D))
def deep_ins {y x:U} {k:Nat}:({y with kids:=aX y.kids k x}:U).deep<=max y.deep (1+x.deep):=by
 rw[sf,sf y];unfold aX;simp only;rw[eW,U.deeps]
 have e:U.deeps y.kids=max (U.deeps (y.kids.take k)) (U.deeps (y.kids.drop k)):=by rw[←eW,take_append_drop]
 omega
def qq {u:U} (h:Good u) {q:Idd} (O:q∈u.ids) {x:U} (hx:∀z∈x.flat,nodeOk z=true) (ac:(u.ids++x.ids).Nodup) (E:zId∉x.ids) (k:Nat)
  (ht:¬bR (fnd q u) (fnd q u).kids x≠0) (hl:(fnd q u).kids.length<64) (hd:(U.way q u).length+x.deep<=8) (hc:u.flat.length+x.flat.length<=1024):Good (U.wth q (λy=>{y with kids:=aX y.kids k x}) u):=by
 obtain⟨A,B,hA,e1,e2⟩:=ids_ins h.nd O k x
 have hp:(U.wth q (λy=>{y with kids:=aX y.kids k x}) u).ids.Perm (u.ids++x.ids):=by rw[e1,e2];exact pA A x.ids B
 have hr:Root u (U.wth q (λy=>{y with kids:=aX y.kids k x}) u):=iM (g:=λl=>aX l k x)
 have hf:=aU u h.nd O
 have D:=h.node _ hf
 refine⟨hp.nodup_iff.2 ac,?_,?_,?_,?_,?_⟩
 ·refine iA (f:=λy=>{y with kids:=aX y.kids k x}) (λ_=>rfl) u h.nd O h.node ?_
  intro z E
  rcases flat_ins z E with rfl|E|E
  ·have V:nests (fnd q u).kind x.kind=true/\cU (fnd q u).kids x.kind x.label=false:=by
    unfold bR at ht
    cases h1:nests (fnd q u).kind x.kind<;>cases M:cU (fnd q u).kids x.kind x.label<;>simp[h1,M]at ht ⊢
   unfold nodeOk at D ⊢;simp only[Bool.and_eq_true,decide_eq_true_eq]at D ⊢;have I:=take_append_drop k (fnd q u).kids;refine⟨D.1,⟨?_,?_⟩,?_⟩
   ·have:=D.2.1.1;rw[←I,all_append]at this;unfold aX;rw[all_append,all_cons,V.1,Bool.true_and];exact this
   ·have:=D.2.1.2;unfold bY at this ⊢;unfold aX;have M:=V.2;unfold cU at M;rw[any_eq_false]at M
    have Z:(x.kind,x.label)∉(fnd q u).kids.map λk=>(k.kind,k.label):=by
     intro J;obtain⟨y,N,e⟩:=mem_map.1 J;have:=M y N
     injection e with e3 e4
     simp[e3,e4]at this
    have aa:(((fnd q u).kids.take k++x::(fnd q u).kids.drop k).map λk=>(k.kind,k.label)).Perm ((x.kind,x.label)::(fnd q u).kids.map λk=>(k.kind,k.label)):=by
     have:((fnd q u).kids.take k++x::(fnd q u).kids.drop k).Perm (x::(fnd q u).kids):=by
      have:=perm_middle (a:=x) (l₁:=(fnd q u).kids.take k) (l₂:=(fnd q u).kids.drop k);rw[I]at this;exact this
     exact this.map _
    exact aa.nodup_iff.2 (nodup_cons.2 ⟨Z,this⟩)
   ·unfold aX
    have:((fnd q u).kids.take k++x::(fnd q u).kids.drop k).length=(fnd q u).kids.length+1:=by
     conv=>rhs;rw[←I]
     simp;omega
    rw[this];omega
  ·exact h.node z (by
    have:z∈(fnd q u).flat:=by rw[U.flat_eq];exact mem_cons_of_mem _ E
    obtain⟨y,N,E⟩:=cc E
    have X:=j0 hf N
    have T:∀{v:U},v∈u.flat->∀w∈v.flat,w∈u.flat:=by
     intro v Y w F
     revert F
     revert Y
     revert w
     refine U.ind (p:=λv=>∀w,v∈u.flat->w∈v.flat->w∈u.flat) (λv ih w Y F=>?_) v
     rw[U.flat_eq]at F
     rcases mem_cons.1 F with rfl|F
     ·exact Y
     ·obtain⟨y,N,F⟩:=cc F
      exact ih y N w (j0 Y N) F
    exact T X z E)
  ·exact hx z E
 ·have:=(j1 (f:=λy=>{y with kids:=aX y.kids k x}) u h.nd O)
  have M:=deep_ins (y:=fnd q u) (x:=x) (k:=k);have h3:=h.dep;have h4:=eA O;omega
 ·have:=hp.length_eq
  rw[length_append,rZ,rZ,rZ]at this;omega
 ·rw[hr.kind,hr.id];exact h.root
 ·intro X J
  rw[hr.kind]at X;have:=hp.mem_iff.1 J
  rcases mem_append.1 this with J|J
  ·exact h.zero X J
  ·exact E J
def fq {u v:U} (E:v∈u.flat):∀w∈v.flat,w∈u.flat:=by
 intro w D;revert D;revert E;revert w;refine U.ind (p:=λv=>∀w,v∈u.flat->w∈v.flat->w∈u.flat) (λv ih w E D=>?_) v;rw[U.flat_eq]at D
 rcases mem_cons.1 D with rfl|D
 ·exact E
 ·obtain⟨y,F,D⟩:=cc D;exact ih y F w (j0 E F) D
def fy {u:U} (h:Good u) {i:Idd} (hi:i∈u.ids) (X:u.id≠i):Good (without i u)/\Root u (without i u)/\(without i u).deep<=u.deep/\(∃A B,A≠[]/\u.ids=A++((fnd i u).ids++B)/\(without i u).ids=A++B):=by
 obtain⟨own,d,j,w1,w2,J⟩:=br h.nd hi X;obtain⟨a,x,b,s,hx,hj,hl⟩:=J.split;have V:fnd i u=x:=aI hl;subst hj
 have hW:without i u=U.wth own.id (λy=>{y with kids:=aN y.kids a.length}) u:=by unfold without;rw[w1]
 rw[hW,V];obtain⟨l,r,Z,T⟩:=oE (f:=λy=>{y with kids:=aN y.kids a.length}) u h.nd J.mem;rw[J.fnd]at Z T;rw[s.eq,bM]at T
 have N:∃A B,A≠[]/\u.ids=A++(x.ids++B)/\(U.wth own.id (λy=>{y with kids:=aN y.kids a.length}) u).ids=A++B:=by
  refine⟨l++(own.id::U.idss a),U.idss b++r,by simp,?_,?_⟩
  ·rw[Z,rb,s.eq,rO,hJ];simp[append_assoc]
  ·rw[T,rb];simp only;rw[rO];simp[append_assoc]
 have O:Root u (U.wth own.id (λy=>{y with kids:=aN y.kids a.length}) u):=iM (g:=λl=>aN l a.length)
 have F:own∈u.flat:=by
  have:=aU u h.nd J.mem;rw[J.fnd]at this;exact this
 obtain⟨A,B,hA,f1,f2⟩:=N
 have I:(U.wth own.id (λy=>{y with kids:=aN y.kids a.length}) u).ids.Sublist u.ids:=by
  rw[f1,f2];exact(List.Sublist.refl A).append (sublist_append_right _ _)
 have M:(U.wth own.id (λy=>{y with kids:=aN y.kids a.length}) u).deep<=u.deep:=by
  have h1:=(j1 (f:=λy=>{y with kids:=aN y.kids a.length}) u h.nd J.mem);rw[J.fnd]at h1
  have h2:({own with kids:=aN own.kids a.length}:U).deep<=own.deep:=by
   rw[sf,sf own,s.eq];simp only;rw[bM,eW,eW,U.deeps];omega
  omega
 refine⟨⟨h.nd.sublist I,?_,Nat.le_trans M h.dep,?_,?_,?_⟩,O,M,A,B,hA,f1,f2⟩
 ·refine iA (f:=λy=>{y with kids:=aN y.kids a.length}) (λ_=>rfl) u h.nd J.mem h.node ?_;rw[J.fnd];intro z E;rw[U.flat_eq]at E;simp only at E;rw[s.eq,bM,cE,mem_cons,mem_append]at E
  rcases E with rfl|E|E
  ·have D:=h.node own F;unfold nodeOk at D ⊢;simp only[Bool.and_eq_true,decide_eq_true_eq]at D ⊢;rw[s.eq]at D;refine⟨D.1,⟨?_,?_⟩,?_⟩
   ·have:=D.2.1.1;rw[all_append,all_cons,Bool.and_eq_true,Bool.and_eq_true]at this;rw[all_append,this.1,this.2.2];rfl
   ·have:=D.2.1.2;unfold bY at this ⊢;refine this.sublist (List.Sublist.map _ ?_);exact(List.Sublist.refl a).append (sublist_cons_self _ _)
   ·have:=D.2.2;simp at this ⊢;omega
  ·obtain⟨y,Y,E⟩:=cc E;exact h.node z (fq F z (sa (by rw[s.eq];simp[Y]) E))
  ·obtain⟨y,Y,E⟩:=cc E;exact h.node z (fq F z (sa (by rw[s.eq];simp[Y]) E))
 ·have:=I.length_le;rw[rZ,rZ]at this;exact Nat.le_trans this h.cnt
 ·rw[O.kind,O.id];exact h.root
 ·intro hk hm;rw[O.kind]at hk;exact h.zero hk (I.subset hm)
end Go.Av
