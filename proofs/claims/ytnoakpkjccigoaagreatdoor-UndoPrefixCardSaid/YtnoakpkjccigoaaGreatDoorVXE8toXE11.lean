/-
  ENACT, 8: an item applied to a book: the program does what the document says.
-/
import Derived.Test.YtnoakpkjccigoaaGreatDoorVXE1toXL25
import Derived.Test.YtnoakpkjccigoaaGreatDoorVXL18toXOpI
namespace Go.Av
open Go Go.RowKit Go.Proofs List
set_option linter.unusedSimpArgs false
set_option linter.unusedVariables false
/-! ### addresses -/
def aL (u:U) (s:Stp):Bool:=decide (u.kind=s.kind)&&decide (u.label=s.label)
def mF (s:Stp):Bool:=decide (s.kind=0)&&decide (s.label=[])
def aK (l:List U) (s:Stp):List U:=l.flatMap λx=>x.kids.filter λk=>aL k s
def fY (u:U) (p:List Stp):List U:=
 if dU p=false then []else match p with
 |[]=>[u]
 |s::r=>r.foldl aK (if mF s then [u]else u.flat.filter λx=>aL x s)
def one (u:U) (p:List Stp):Idd×Int:=match fY u p with
 |[]=>(⟨0,0,0⟩,7)
 |[x]=>(x.id,0)
 |_=>(⟨0,0,0⟩,8)
theorem dM {u x k:U} (D:x∈u.flat) (E:k∈x.kids):k∈u.flat:=by
 revert D
 refine U.ind (p:=λu=>x∈u.flat->k∈u.flat) (λu ih D=>?_) u
 rw[U.flat_eq]at D ⊢
 rcases mem_cons.1 D with rfl|D
 ·exact mem_cons_of_mem _ (iI E (by rw[U.flat_eq];simp))
 ·have:∀{us:List U},x∈U.flats us->∃k∈us,x∈k.flat:=by
   intro us
   induction us with
   |nil=>intro h;rw[U.flats]at h;cases h
   |cons a us ih=>
    intro h
    rw[U.flats,mem_append]at h
    rcases h with h|h
    ·exact⟨a,by simp,h⟩
    ·obtain⟨k,E,D⟩:=ih h;exact⟨k,by simp[E],D⟩
  obtain⟨y,I,F⟩:=this D
  exact mem_cons_of_mem _ (iI I (ih y I F))
theorem kM {u:U}:∀{r:List Stp} {l:List U},(∀x∈l,x∈u.flat)->∀x∈r.foldl aK l,x∈u.flat
 |[],l,h,x,hx=>h x hx
 |s::r,l,h,x,hx=>kM (l:=aK l s) (λy D=>by
   obtain⟨z,E,D⟩:=mem_flatMap.1 D
   exact dM (h z E) (mem_filter.1 D).1) x hx
theorem ot {u:U} {p:List Stp}:∀x∈fY u p,x∈u.flat:=by
 intro x D
 have F:u∈u.flat:=by rw[U.flat_eq];simp
 unfold fY at D
 split at D
 ·cases D
 ·split at D
  ·simp only[mem_singleton]at D;subst D;exact F
  ·refine kM ?_ x D
   intro y E
   split at E
   ·simp only[mem_singleton]at E;subst E;exact F
   ·exact(mem_filter.1 E).1
theorem bZ {u:U} {p:List Stp} (h:(one u p).2=0):(one u p).1∈u.ids:=by
 have D:=ot (u:=u) (p:=p)
 unfold one at h ⊢
 split at h
 ·cases h
 ·rename_i x e
  rw[e]at D
  exact mem_map.2 ⟨x,D x (by simp),rfl⟩
 ·cases h
/-! ### an item applied -/
def chg (k:Int):Bool:=decide (0<=k)&&decide (k<=6)
def doP (u:U) (d:Dd):U×Int:=
 if chg d.it.kind=false\/d.it.may=false then (u,1)
 else if (one u d.it.at_).2≠0 then (u,(one u d.it.at_).2)
 else if d.it.kind=0 then insP u (one u d.it.at_).1 d
 else if (one u d.it.at_).1=u.id then (if d.it.kind=6/\(one u d.it.to_).2≠0 then (u,(one u d.it.to_).2)else (u,9))
 else if d.it.kind=1 then (without (one u d.it.at_).1 u,0)
 else if d.it.kind=2\/d.it.kind=3 then
  (if (bJ (fnd (one u d.it.at_).1 u).words d.it d.act d.item).2≠0 then (u,(bJ (fnd (one u d.it.at_).1 u).words d.it d.act d.item).2)
   else (U.wth (one u d.it.at_).1 (λy=>{y with words:=(bJ (fnd (one u d.it.at_).1 u).words d.it d.act d.item).1}) u,0))
 else if d.it.kind=4 then (U.wth (one u d.it.at_).1 (λy=>{y with head:=aX d.act d.item d.it.new 0}) u,0)
 else if d.it.kind=5 then
  (if dR (parR (one u d.it.at_).1 u).1 (parR (one u d.it.at_).1 u).1.kids {fnd (one u d.it.at_).1 u with label:=d.it.label}=10 then (u,10)
   else (U.wth (one u d.it.at_).1 (λy=>{y with label:=d.it.label}) u,0))
 else if (one u d.it.to_).2≠0 then (u,(one u d.it.to_).2)
 else movP u (one u d.it.at_).1 (one u d.it.to_).1 d
theorem cJ (a b:List U):U.flats (a++b)=U.flats a++U.flats b:=by
 induction a with
 |nil=>rw[pp];rfl
 |cons x a ih=>rw[cons_append,pk,pk,ih,append_assoc]
theorem eh (a b:List U):U.deeps (a++b)=max (U.deeps a) (U.deeps b):=by
 induction a with
 |nil=>rw[U.deeps];simp
 |cons x a ih=>rw[cons_append,U.deeps,U.deeps,ih];omega
theorem bN {us:List U} {x:U} (h:x∈U.flats us):∃k∈us,x∈k.flat:=pR h
theorem gO {i:Idd} {f:U->U} (u:U) (D:u.ids.Nodup) (hi:i∈u.ids):∃l r,u.ids=l++((fnd i u).ids++r)/\(U.wth i f u).ids=l++((f (fnd i u)).ids++r):=by
 refine U.wayInd (i:=i) (p:=λu=>∃l r,u.ids=l++((fnd i u).ids++r)/\(U.wth i f u).ids=l++((f (fnd i u)).ids++r)) ?_ ?_ u D hi
 ·intro u _ h
  have e:fnd i u=u:=aB (by rw[aN h];rfl)
  refine⟨[],[],?_,?_⟩
  ·rw[e];simp
  ·rw[bA h,e];simp
 ·intro u a k b D h s ⟨l,r,e1,e2⟩
  rw[s.fnd D s.mem]
  refine⟨u.id::(U.idss a++l),r++U.idss b,?_,?_⟩
  ·rw[U.ids_eq,s.eq,U.idss_app,U.idss_cons,e1];simp[append_assoc]
  ·rw[s.wth h,U.ids_eq]
   simp only
   rw[U.idss_app,U.idss_cons,e2];simp[append_assoc]
theorem wth_id {i:Idd} {f:U->U} (D:∀y,(f y).id=y.id) (u:U):(U.wth i f u).id=u.id:=eM U.id D (λ_ _=>rfl) u
theorem gb {i:Idd} {f:U->U} (u:U) (D:u.ids.Nodup) (hi:i∈u.ids):(U.wth i f u).deep<=max u.deep ((U.way i u).length-1+(f (fnd i u)).deep)/\(U.way i u).length-1+(fnd i u).deep<=u.deep:=by
 refine U.wayInd (i:=i) (p:=λu=>(U.wth i f u).deep<=max u.deep ((U.way i u).length-1+(f (fnd i u)).deep)/\(U.way i u).length-1+(fnd i u).deep<=u.deep) ?_ ?_ u D hi
 ·intro u _ h
  have e:fnd i u=u:=aB (by rw[aN h];rfl)
  rw[bA h,e,aN h]
  simp only[length_cons,length_nil]
  omega
 ·intro u a k b D h s ⟨h1,h2⟩
  have:=gH s.mem
  rw[s.fnd D s.mem,s.wth h,s.way h,U.deep_eq,U.deep_eq u,s.eq]
  simp only[length_cons]
  rw[eh,eh,U.deeps,U.deeps]
  omega
def U.key (u:U):Int×List UInt8:=(u.kind,u.label)
theorem fQ {y z:U} (F:z.kind=y.kind) (O:z.label=y.label) (E:aU z.head=aU y.head/\z.head.length=y.head.length) (I:aU z.words=aU y.words/\z.words.length=y.words.length) (D:z.kids.map U.key=y.kids.map U.key):nodeOk z=nodeOk y:=by
 have J:z.kids.length=y.kids.length:=by have:=congrArg List.length D;simpa using this
 have M:(z.kids.all λk=>nests z.kind k.kind)=y.kids.all λk=>nests y.kind k.kind:=by
  have:∀l:List U,∀p:Int,(l.all λk=>nests p k.kind)=(l.map U.key).all λq=>nests p q.1:=λl p=>by rw[all_map];rfl
  rw[this,this,D,F]
 have N:pr z.kids↔pr y.kids:=by unfold pr;exact Iff.of_eq (congrArg List.Nodup D)
 unfold nodeOk own1
 rw[J,M,decide_eq_decide.2 N,F,O,E.1,E.2,I.1,I.2]
theorem gE {i:Idd} {f:U->U} (I:∀y,(f y).key=y.key) (u:U) (N:u.ids.Nodup) (hi:i∈u.ids) (F:∀y∈u.flat,nodeOk y=true) (D:∀z∈(f (fnd i u)).flat,nodeOk z=true):∀z∈(U.wth i f u).flat,nodeOk z=true:=by
 revert F D
 refine U.wayInd (i:=i) (p:=λu=>(∀y∈u.flat,nodeOk y=true)->(∀z∈(f (fnd i u)).flat,nodeOk z=true)->∀z∈(U.wth i f u).flat,nodeOk z=true) ?_ ?_ u N hi
 ·intro u _ h F D
  have e:fnd i u=u:=aB (by rw[aN h];rfl)
  rw[bA h]
  rw[e]at D
  exact D
 ·intro u a k b N h s ih F D z E
  rw[s.fnd N s.mem]at D
  have M:∀y∈k.flat,nodeOk y=true:=λy J=>F y (U.flat_kid (by rw[s.eq];simp) J)
  rw[s.wth h,U.flat_eq]at E
  rcases mem_cons.1 E with rfl|E
  ·rw[←F u u.flat_self]
   refine fQ rfl rfl ⟨rfl,rfl⟩ ⟨rfl,rfl⟩ ?_
   simp only
   rw[s.eq,map_append,map_append,map_cons,map_cons,eM U.key I (λ_ _=>rfl)]
  ·simp only at E
   rw[cJ,pk,mem_append,mem_append]at E
   rcases E with E|E|E
   ·obtain⟨y,J,E⟩:=bN E
    exact F z (U.flat_kid (by rw[s.eq];simp[J]) E)
   ·exact ih M D z E
   ·obtain⟨y,J,E⟩:=bN E
    exact F z (U.flat_kid (by rw[s.eq];simp[J]) E)
theorem nT {i:Idd} {s0:List UInt8} (u:U) (hn:u.ids.Nodup) (hi:i∈u.ids) (O:u.id≠i) (M:∀y∈u.flat,nodeOk y=true) (hl:br s0=true)
  (X:∀p d j,aF i u=some (p,d,j)->taken p.kids (fnd i u).kind s0=false) (J:(fnd i u).kind≠0):∀z∈(U.wth i (λy=>{y with label:=s0}) u).flat,nodeOk z=true:=by
 revert O M X J
 refine U.wayInd (i:=i) (p:=λu=>u.id≠i->(∀y∈u.flat,nodeOk y=true)->(∀p d j,aF i u=some (p,d,j)->taken p.kids (fnd i u).kind s0=false)->(fnd i u).kind≠0->∀z∈(U.wth i (λy=>{y with label:=s0}) u).flat,nodeOk z=true) ?_ ?_ u hn hi
 ·intro u _ h O
  exact absurd h O
 ·intro u a k b hn h s ih _ M X J z D
  rw[s.fnd hn s.mem]at X J
  have N:∀y∈k.flat,nodeOk y=true:=λy F=>M y (U.flat_kid (by rw[s.eq];simp) F)
  have E:∀y,y∈U.flats a\/y∈U.flats b->nodeOk y=true:=by
   intro y F
   rcases F with F|F<;>
   ·obtain⟨q,hq,F⟩:=bN F
    exact M y (U.flat_kid (by rw[s.eq];simp[hq]) F)
  rw[s.wth h,U.flat_eq]at D
  simp only at D
  rw[cJ,pk,mem_cons,mem_append,mem_append]at D
  by_cases V:k.id=i
  ·have ac:fnd i k=k:=aB (by rw[aN V];rfl)
   rw[ac]at X J
   have T:=X u 0 a.length (g7 h s V)
   rw[bA V]at D
   rcases D with rfl|D|D|D
   ·have Y:=M u u.flat_self
    unfold nodeOk at Y ⊢
    simp only[Bool.and_eq_true,decide_eq_true_eq]at Y ⊢
    refine⟨Y.1,⟨?_,?_⟩,?_⟩
    ·rw[all_append,all_cons]
     have:=Y.2.1.1
     rw[s.eq,all_append,all_cons]at this
     exact this
    ·have:=Y.2.1.2
     unfold pr at this ⊢
     rw[s.eq,map_append,map_cons]at this
     rw[map_append,map_cons]
     unfold taken at T
     rw[any_eq_false]at T
     have Z:∀y∈u.kids,(y.kind,y.label)≠(k.kind,s0):=λy F e=>by
      have:=T y F
      injection e with e1 e2
      simp[e1,e2]at this
     obtain⟨n1,n2,n3⟩:=nodup_append.1 this
     rw[nodup_cons]at n2
     refine nodup_append.2 ⟨n1,nodup_cons.2 ⟨?_,n2.2⟩,?_⟩
     ·intro hm
      obtain⟨y,F,e⟩:=mem_map.1 hm
      exact Z y (by rw[s.eq];simp[F]) e
     ·intro x hx y F e
      obtain⟨x',ah,ex⟩:=mem_map.1 hx
      rcases mem_cons.1 F with F|F
      ·exact Z x' (by rw[s.eq];simp[ah]) (ex.trans (e.trans F))
      ·exact n3 x hx y (mem_cons_of_mem _ F) e
    ·have:=Y.2.2
     rw[s.eq]at this
     simp at this ⊢
     exact this
   ·exact E z (.inl D)
   ·rw[U.flat_eq]at D
    rcases mem_cons.1 D with rfl|D
    ·have I:=N k k.flat_self
     unfold nodeOk own1 at I ⊢
     simp only at I ⊢
     rw[if_neg J]at I ⊢
     simp only[Bool.and_eq_true]at I ⊢
     exact⟨⟨I.1.1,hl,I.1.2.2⟩,I.2⟩
    ·exact N z (by rw[U.flat_eq];exact mem_cons_of_mem _ D)
   ·exact E z (.inr D)
  ·rcases D with rfl|D|D|D
   ·rw[←M u u.flat_self]
    refine fQ rfl rfl ⟨rfl,rfl⟩ ⟨rfl,rfl⟩ ?_
    simp only
    rw[s.eq,map_append,map_append,map_cons,map_cons]
    have:(U.wth i (λy=>{y with label:=s0}) k).key=k.key:=by
     rw[U.wth_eq,if_neg V];rfl
    rw[this]
   ·exact E z (.inl D)
   ·refine ih V N (λp d j e=>?_) J z D
    exact X p (d+1) j (by rw[fO h s V,e];rfl)
   ·exact E z (.inr D)
theorem eu {α:Type} {p q:α->Bool}:∀{l:List α},(∀x∈l,p x=q x)->l.all p=l.all q
 |[],_=>rfl
 |x::l,h=>by rw[all_cons,all_cons,h x (by simp),eu λy D=>h y (by simp[D])]
theorem lG (p:U->Bool):∀us:List U,(U.flats us).all p=us.all λk=>k.flat.all p
 |[]=>by rw[pp];rfl
 |u::us=>by rw[pk,all_append,lG p us,all_cons]
theorem iP (p:U->Bool) (u:U):u.flat.all p=(p u&&u.kids.all λk=>k.flat.all p):=by rw[U.flat_eq,all_cons,lG]
/-! ### trees that stand right -/
theorem kN (k:Int):∀us:List U,U.rights k us=((us.all λx=>nests k x.kind)&&us.all U.right)
 |[]=>by rw[U.rights];rfl
 |u::us=>by
  rw[U.rights,kN k us,all_cons,all_cons]
  cases nests k u.kind<;>cases u.right<;>simp
theorem rP:aU []=true:=by decide
theorem nM (u:U):pJ u=(own1 u&&decide ((u.kids.length:Int)<=64)):=by
 unfold pJ own1
 by_cases F:u.kind=0
 ·rw[if_pos F,if_pos F,Bool.eq_iff_iff]
  simp only[Bool.and_eq_true,decide_eq_true_eq]
  constructor
  ·rintro⟨⟨_,_,D,_,_⟩,E⟩;exact⟨E,D⟩
  ·rintro⟨⟨E,V,X⟩,D⟩
   have O:u.head=[]:=length_eq_zero_iff.1 (by omega)
   have T:u.words=[]:=length_eq_zero_iff.1 (by omega)
   exact⟨⟨by omega,by omega,D,by rw[O];exact rP,by rw[T];exact rP⟩,E,V,X⟩
 ·rw[if_neg F,if_neg F,Bool.eq_iff_iff]
  simp only[Bool.and_eq_true,decide_eq_true_eq]
  constructor
  ·rintro⟨⟨I,J,D,M,N⟩,E⟩;exact⟨⟨⟨I,J⟩,E,M,N⟩,D⟩
  ·rintro⟨⟨⟨I,J⟩,E,M,N⟩,D⟩;exact⟨⟨I,J,D,M,N⟩,E⟩
theorem oG:∀u:U,u.right=u.flat.all nodeOk:=by
 refine U.ind λu ih=>?_
 rw[U.right_eq,iP,kN,nM,eu ih,show nodeOk u=(own1 u&&((u.kids.all λk=>nests u.kind k.kind)&&decide (pr u.kids)&&decide ((u.kids.length:Int)<=64)))from rfl]
 generalize own1 u=a,(u.kids.all λx=>nests u.kind x.kind)=b,decide (pr u.kids)=c,decide ((u.kids.length:Int)<=64)=d,(u.kids.all λk=>k.flat.all nodeOk)=e
 cases a<;>cases b<;>cases c<;>cases d<;>cases e<;>rfl
theorem kG (u:U):pF u=pq u:=by unfold pF pq;rw[oG]
/-! ### bare trees -/
theorem mQ {α:Type} {f:α->α}:∀{l:List α},l=l.map f↔∀x∈l,x=f x
 |[]=>by simp
 |x::l=>by simp[mQ (f:=f) (l:=l)]
theorem wd_bare (w:Wd):w=w.bare↔pA w=false:=by
 obtain⟨t,a,b,c⟩:=w
 simp[Wd.bare,pA]
theorem lA (l:List Wd):l=l.map Wd.bare↔l.any pA=false:=by
 rw[mQ,any_eq_false]
 constructor<;>intro h x D
 ·have:=(wd_bare x).1 (h x D);simp[this]
 ·exact(wd_bare x).2 (by simpa using h x D)
theorem strip_fix:∀u:U,(u=u.strip)↔u.flat.all py=true:=by
 refine U.ind λu ih=>?_
 rw[iP,Bool.and_eq_true,all_eq_true,U.strip_eq,show py u=(decide (u.id=zId)&&(!u.head.any pA&& !u.words.any pA))from rfl]
 simp only[Bool.and_eq_true,decide_eq_true_eq,Bool.not_eq_true']
 rw[←lA,←lA]
 have D:u.kids=u.kids.map U.strip↔∀k∈u.kids,k.flat.all py=true:=by
  rw[mQ]
  exact⟨λh k D=>(ih k D).1 (h k D),λh k D=>(ih k D).2 (h k D)⟩
 rw[←D]
 obtain⟨i,k,l,h,w,ks⟩:=u
 simp only[U.mk.injEq,true_and,zId]
 constructor
 ·rintro⟨a,b,c,d⟩;exact⟨⟨a,b,c⟩,d⟩
 ·rintro⟨⟨a,b,c⟩,d⟩;exact⟨a,b,c,d⟩
theorem gZ (u:U):bareOk u=pN u:=by
 unfold bareOk pN
 rw[kG]
 congr 1
 rw[Bool.eq_iff_iff,decide_eq_true_eq,strip_fix]
/-! ### shapes -/
theorem lU (u:U):alone11 u=own1 u:=by
 unfold alone11 own1
 by_cases D:u.kind=0
 ·rw[if_pos D,if_pos D]
 ·rw[if_neg D,if_neg D]
  have:decide (0<u.kind)=decide (0<=u.kind):=by rw[decide_eq_decide];omega
  rw[this,Bool.and_assoc]
theorem jW (d k:Int):∀us:List U,U.shapes d k us=((us.all λx=>nests k x.kind)&&us.all λx=>x.shape d)
 |[]=>by rw[U.shapes];rfl
 |u::us=>by
  rw[U.shapes,jW d k us,all_cons,all_cons]
  cases nests k u.kind<;>cases u.shape d<;>simp
theorem nests_ne0 {p k:Int} (h:nests p k=true):k≠0:=by
 unfold nests at h
 (repeat' split at h)<;>simp at h<;>omega
theorem deps_le (us:List U) (d:Int):d+U.deps us<=8↔d<=8/\∀k∈us,d+1+k.dep<=8:=by
 induction us with
 |nil=>simp[U.deps_nil]
 |cons u us ih=>
  rw[U.deps_cons]
  constructor
  ·intro h
   have D:=ih.1 (by omega)
   refine⟨D.1,λk E=>?_⟩
   rcases mem_cons.1 E with rfl|E
   ·omega
   ·exact D.2 k E
  ·rintro⟨F,D⟩
   have I:=D u (by simp)
   have J:=ih.2 ⟨F,λk E=>D k (by simp[E])⟩
   omega
theorem j1:∀(u:U) (d:Int),0<=d->u.shape d=(u.flat.all nodeOk&&(decide (d+u.dep<=8)&& !(decide (0<d)&&decide (u.kind=0)))):=by
 refine U.ind λu ih d X=>?_
 rw[U.shape_eq,iP,jW,lU,eu λk D=>ih k D (d+1) (by omega),U.dep_eq]
 rw[Bool.eq_iff_iff,show nodeOk u=(own1 u&&((u.kids.all λk=>nests u.kind k.kind)&&decide (pr u.kids)&&decide ((u.kids.length:Int)<=64)))from rfl]
 simp only[Bool.and_eq_true,decide_eq_true_eq,all_eq_true,Bool.not_eq_true',Bool.and_eq_false_iff,decide_eq_false_iff_not,deps_le]
 constructor
 ·rintro⟨⟨⟨F,I⟩,J,M⟩,⟨E,O⟩,N⟩
  exact⟨⟨⟨J,⟨E,N⟩,M⟩,λk D=>(O k D).1⟩,⟨F,λk D=>(O k D).2.1⟩,I⟩
 ·rintro⟨⟨⟨J,⟨E,N⟩,M⟩,T⟩,⟨F,V⟩,I⟩
  exact⟨⟨⟨F,I⟩,J,M⟩,⟨E,λk D=>⟨T k D,V k D,.inr (nests_ne0 (E k D))⟩⟩,N⟩
/-! ### stripped trees -/
theorem fZ:∀us:List U,(∀k∈us,k.strip.flat=k.flat.map U.strip)->U.flats (us.map U.strip)=(U.flats us).map U.strip
 |[],_=>by rw[map_nil,pp];rfl
 |u::us,h=>by rw[map_cons,pk,pk,map_append,h u (by simp),fZ us λk D=>h k (by simp[D])]
theorem eA:∀u:U,u.strip.flat=u.flat.map U.strip:=by
 refine U.ind λu ih=>?_
 rw[U.flat_eq,U.flat_eq,map_cons]
 congr 1
 rw[U.strip_eq]
 exact fZ _ ih
theorem iq (u:U):u.strip.kind=u.kind:=by rw[U.strip_eq]
theorem nN (u:U):u.strip.label=u.label:=by rw[U.strip_eq]
theorem oH (l:List Wd):aU (l.map Wd.bare)=aU l:=by
 unfold aU
 rw[length_map,all_map]
 rfl
theorem own_strip (u:U):own1 u.strip=own1 u:=by
 rw[U.strip_eq]
 unfold own1
 simp only[length_map,oH]
theorem nL (l:List U):pr (l.map U.strip)=pr l:=by
 unfold pr
 rw[map_map]
 congr 1
 refine map_congr_left λk _=>?_
 simp only[Function.comp,iq,nN]
theorem mO (u:U):nodeOk u.strip=nodeOk u:=by
 have h:u.strip.kids=u.kids.map U.strip:=by rw[U.strip_eq]
 unfold nodeOk
 rw[own_strip,h,all_map,length_map,iq]
 simp only[nL]
 congr 3
 exact eu λk _=>by simp only[Function.comp,iq]
theorem ky:∀us:List U,(∀k∈us,k.strip.dep=k.dep)->U.deps (us.map U.strip)=U.deps us
 |[],_=>rfl
 |u::us,h=>by rw[map_cons,U.deps_cons,U.deps_cons,h u (by simp),ky us λk D=>h k (by simp[D])]
theorem dep_strip:∀u:U,u.strip.dep=u.dep:=by
 refine U.ind λu ih=>?_
 rw[U.dep_eq,U.dep_eq,show u.strip.kids=u.kids.map U.strip by rw[U.strip_eq]]
 exact ky _ ih
theorem cnt_strip (u:U):u.strip.cnt=u.cnt:=by unfold U.cnt;rw[eA,length_map]
theorem ids_strip (u:U):pH u.strip=true:=by
 unfold pH U.ids
 rw[eA]
 simp only[Bool.or_eq_true,all_eq_true,map_map]
 left
 intro x D
 obtain⟨y,_,rfl⟩:=mem_map.1 D
 simp[Function.comp,U.strip_eq,zId]
theorem kQ (u:U):pq u.strip=shapeOk u:=by
 unfold pq shapeOk
 rw[j1 u 0 (by omega),eA,all_map,dep_strip,cnt_strip,ids_strip,eu (p:=nodeOk ∘ U.strip) (q:=nodeOk) λx _=>mO x]
 simp[Bool.and_assoc]
def U.lone (u:U):U:=⟨zId,u.kind,u.label,u.head,u.words,[]⟩
theorem tree_lone (u:U):pq u.lone.strip=alone11 u:=by
 rw[kQ,lU]
 unfold shapeOk
 rw[j1 _ 0 (by omega),iP]
 have D:u.lone.dep=0:=by rw[U.dep_eq];rfl
 have E:u.lone.cnt=1:=by rw[U.cnt_eq];rfl
 rw[D,E]
 unfold nodeOk
 have:own1 u.lone=own1 u:=rfl
 rw[this]
 simp[U.lone,pr]
structure Good (u:U):Prop where
 nd:u.ids.Nodup
 node:∀y∈u.flat,nodeOk y=true
 dep:u.deep<=8
 cnt:u.flat.length<=1024
 root:u.kind=0↔u.id=zId
 zero:u.kind≠0->zId∉u.ids
theorem jd {p k:Int} (h:nests p k=true):k≠0:=by
 rintro rfl
 unfold nests at h
 revert h
 split<;>(try split)<;>(try split)<;>(try split)<;>(try split)<;>simp
theorem df {u:U} (h:nodeOk u=true):∀k∈u.kids,nests u.kind k.kind=true:=by
 unfold nodeOk at h
 simp only[Bool.and_eq_true]at h
 exact all_eq_true.1 h.2.1.1
theorem cT {u:U} (h:nodeOk u=true):u.kids.length<=64:=by
 unfold nodeOk at h
 simp only[Bool.and_eq_true,decide_eq_true_eq]at h
 have:=h.2.2
 omega
theorem Good.kind {u:U} (h:Good u) {i:Idd} (hi:i∈u.ids) (E:u.id≠i):(fnd i u).kind≠0:=by
 obtain⟨own,d,j,N,w2,F⟩:=bt h.nd hi E
 obtain⟨a,k,b,s,M,J,I⟩:=F.split
 have D:own∈u.flat:=by
  have:=aP u h.nd F.mem
  rw[F.fnd]at this;exact this
 rw[aB I]
 exact jd (df (h.node own D) k (by rw[s.eq];simp))
theorem ids_root {u:U} {A x B:List Idd} (e:u.ids=A++(x++B)) (D:A≠[]):∃A',A=u.id::A':=by
 rw[U.ids_eq]at e
 cases A with
 |nil=>exact absurd rfl D
 |cons a A'=>injection e with e1 e2;exact⟨A',by rw[e1]⟩
structure Root (u v:U):Prop where
 id:v.id=u.id
 kind:v.kind=u.kind
 label:v.label=u.label
 head:v.head=u.head
 words:v.words=u.words
theorem Root.refl (u:U):Root u u:=⟨rfl,rfl,rfl,rfl,rfl⟩
theorem Root.trans {u v w:U} (h:Root u v) (g:Root v w):Root u w:=⟨g.id.trans h.id,g.kind.trans h.kind,g.label.trans h.label,g.head.trans h.head,g.words.trans h.words⟩
theorem gC {u:U} {q:Idd} {g:List U->List U}:Root u (U.wth q (λy=>{y with kids:=g y.kids}) u):=
 ⟨eM (f:=λy=>{y with kids:=g y.kids}) U.id (λ_=>rfl) (λ_ _=>rfl) u,eM (f:=λy=>{y with kids:=g y.kids}) U.kind (λ_=>rfl) (λ_ _=>rfl) u,eM (f:=λy=>{y with kids:=g y.kids}) U.label (λ_=>rfl) (λ_ _=>rfl) u,eM (f:=λy=>{y with kids:=g y.kids}) U.head (λ_=>rfl) (λ_ _=>rfl) u,eM (f:=λy=>{y with kids:=g y.kids}) U.words (λ_=>rfl) (λ_ _=>rfl) u⟩
theorem oR {u:U} {i:Idd} {f:U->U} (h:u.id≠i):Root u (U.wth i f u):=by
 rw[U.wth_eq,if_neg h]
 exact⟨rfl,rfl,rfl,rfl,rfl⟩
theorem nh (A x B:List Idd):(A++(x++B)).Perm ((A++B)++x):=by
 rw[append_assoc]
 exact List.Perm.append_left A perm_append_comm
theorem ids_ins {u:U} (F:u.ids.Nodup) {q:Idd} (I:q∈u.ids) (k:Nat) (x:U):∃A B,A≠[]/\u.ids=A++B/\(U.wth q (λy=>{y with kids:=insAt y.kids k x}) u).ids=A++(x.ids++B):=by
 obtain⟨l,r,D,E⟩:=gO (f:=λy=>{y with kids:=insAt y.kids k x}) u F I
 refine⟨l++((fnd q u).id::U.idss ((fnd q u).kids.take k)),U.idss ((fnd q u).kids.drop k)++r,by simp,?_,?_⟩
 ·rw[D,U.ids_eq]
  conv=>lhs;rw[←take_append_drop k (fnd q u).kids]
  rw[U.idss_app];simp[append_assoc]
 ·rw[E,U.ids_eq]
  unfold insAt
  simp only
  rw[U.idss_app,U.idss_cons];simp[append_assoc]
theorem flat_ins {y x:U} {k:Nat}:∀z∈({y with kids:=insAt y.kids k x}:U).flat,z={y with kids:=insAt y.kids k x}\/z∈U.flats y.kids\/z∈x.flat:=by
 intro z D
 rw[U.flat_eq]at D
 simp only[insAt]at D
 rw[cJ,pk,mem_cons,mem_append,mem_append]at D
 have e:U.flats y.kids=U.flats (y.kids.take k)++U.flats (y.kids.drop k):=by rw[←cJ,take_append_drop]
 rw[e,mem_append]
 rcases D with D|D|D|D
 ·exact .inl D
 ·exact .inr (.inl (.inl D))
 ·exact .inr (.inr D)
 ·exact .inr (.inl (.inr D))
theorem deep_ins {y x:U} {k:Nat}:({y with kids:=insAt y.kids k x}:U).deep<=max y.deep (1+x.deep):=by
 rw[U.deep_eq,U.deep_eq y]
 unfold insAt
 simp only
 rw[eh,U.deeps]
 have e:U.deeps y.kids=max (U.deeps (y.kids.take k)) (U.deeps (y.kids.drop k)):=by rw[←eh,take_append_drop]
 omega
theorem nP {u:U} (h:Good u) {q:Idd} (O:q∈u.ids) {x:U} (hx:∀z∈x.flat,nodeOk z=true) (ah:(u.ids++x.ids).Nodup) (E:zId∉x.ids) (k:Nat)
  (ht:¬dR (fnd q u) (fnd q u).kids x≠0) (hl:(fnd q u).kids.length<64) (hd:(U.way q u).length+x.deep<=8) (hc:u.flat.length+x.flat.length<=1024):Good (U.wth q (λy=>{y with kids:=insAt y.kids k x}) u):=by
 obtain⟨A,B,hA,e1,e2⟩:=ids_ins h.nd O k x
 have hp:(U.wth q (λy=>{y with kids:=insAt y.kids k x}) u).ids.Perm (u.ids++x.ids):=by rw[e1,e2];exact nh A x.ids B
 have hr:Root u (U.wth q (λy=>{y with kids:=insAt y.kids k x}) u):=gC (g:=λl=>insAt l k x)
 have hf:=aP u h.nd O
 have D:=h.node _ hf
 refine⟨hp.nodup_iff.2 ah,?_,?_,?_,?_,?_⟩
 ·refine gE (f:=λy=>{y with kids:=insAt y.kids k x}) (λ_=>rfl) u h.nd O h.node ?_
  intro z E
  rcases flat_ins z E with rfl|E|E
  ·have V:nests (fnd q u).kind x.kind=true/\taken (fnd q u).kids x.kind x.label=false:=by
    unfold dR at ht
    cases h1:nests (fnd q u).kind x.kind<;>cases M:taken (fnd q u).kids x.kind x.label<;>simp[h1,M]at ht ⊢
   unfold nodeOk at D ⊢
   simp only[Bool.and_eq_true,decide_eq_true_eq]at D ⊢
   have I:=take_append_drop k (fnd q u).kids
   refine⟨D.1,⟨?_,?_⟩,?_⟩
   ·have:=D.2.1.1
    rw[←I,all_append]at this
    unfold insAt
    rw[all_append,all_cons,V.1,Bool.true_and]
    exact this
   ·have:=D.2.1.2
    unfold pr at this ⊢
    unfold insAt
    have M:=V.2
    unfold taken at M
    rw[any_eq_false]at M
    have Z:(x.kind,x.label)∉(fnd q u).kids.map λk=>(k.kind,k.label):=by
     intro J
     obtain⟨y,N,e⟩:=mem_map.1 J
     have:=M y N
     injection e with e3 e4
     simp[e3,e4]at this
    have ac:(((fnd q u).kids.take k++x::(fnd q u).kids.drop k).map λk=>(k.kind,k.label)).Perm ((x.kind,x.label)::(fnd q u).kids.map λk=>(k.kind,k.label)):=by
     have:((fnd q u).kids.take k++x::(fnd q u).kids.drop k).Perm (x::(fnd q u).kids):=by
      have:=perm_middle (a:=x) (l₁:=(fnd q u).kids.take k) (l₂:=(fnd q u).kids.drop k)
      rw[I]at this
      exact this
     exact this.map _
    exact ac.nodup_iff.2 (nodup_cons.2 ⟨Z,this⟩)
   ·unfold insAt
    have:((fnd q u).kids.take k++x::(fnd q u).kids.drop k).length=(fnd q u).kids.length+1:=by
     conv=>rhs;rw[←I]
     simp;omega
    rw[this];omega
  ·exact h.node z (by
    have:z∈(fnd q u).flat:=by rw[U.flat_eq];exact mem_cons_of_mem _ E
    obtain⟨y,N,E⟩:=bN E
    have X:=dM hf N
    have T:∀{v:U},v∈u.flat->∀w∈v.flat,w∈u.flat:=by
     intro v Y w F
     revert F
     revert Y
     revert w
     refine U.ind (p:=λv=>∀w,v∈u.flat->w∈v.flat->w∈u.flat) (λv ih w Y F=>?_) v
     rw[U.flat_eq]at F
     rcases mem_cons.1 F with rfl|F
     ·exact Y
     ·obtain⟨y,N,F⟩:=bN F
      exact ih y N w (dM Y N) F
    exact T X z E)
  ·exact hx z E
 ·have:=(gb (f:=λy=>{y with kids:=insAt y.kids k x}) u h.nd O)
  have M:=deep_ins (y:=fnd q u) (x:=x) (k:=k)
  have h3:=h.dep
  have h4:=gH O
  omega
 ·have:=hp.length_eq
  rw[length_append,U.ids_len,U.ids_len,U.ids_len]at this
  omega
 ·rw[hr.kind,hr.id];exact h.root
 ·intro X J
  rw[hr.kind]at X
  have:=hp.mem_iff.1 J
  rcases mem_append.1 this with J|J
  ·exact h.zero X J
  ·exact E J
theorem dD {u v:U} (E:v∈u.flat):∀w∈v.flat,w∈u.flat:=by
 intro w D
 revert D
 revert E
 revert w
 refine U.ind (p:=λv=>∀w,v∈u.flat->w∈v.flat->w∈u.flat) (λv ih w E D=>?_) v
 rw[U.flat_eq]at D
 rcases mem_cons.1 D with rfl|D
 ·exact E
 ·obtain⟨y,F,D⟩:=bN D
  exact ih y F w (dM E F) D
theorem cN {u:U} (h:Good u) {i:Idd} (hi:i∈u.ids) (X:u.id≠i):Good (without i u)/\Root u (without i u)/\(without i u).deep<=u.deep/\(∃A B,A≠[]/\u.ids=A++((fnd i u).ids++B)/\(without i u).ids=A++B):=by
 obtain⟨own,d,j,w1,w2,J⟩:=bt h.nd hi X
 obtain⟨a,x,b,s,hx,hj,hl⟩:=J.split
 have V:fnd i u=x:=aB hl
 subst hj
 have hW:without i u=U.wth own.id (λy=>{y with kids:=delAt y.kids a.length}) u:=by unfold without;rw[w1]
 rw[hW,V]
 obtain⟨l,r,Z,T⟩:=gO (f:=λy=>{y with kids:=delAt y.kids a.length}) u h.nd J.mem
 rw[J.fnd]at Z T
 rw[s.eq,bO]at T
 have N:∃A B,A≠[]/\u.ids=A++(x.ids++B)/\(U.wth own.id (λy=>{y with kids:=delAt y.kids a.length}) u).ids=A++B:=by
  refine⟨l++(own.id::U.idss a),U.idss b++r,by simp,?_,?_⟩
  ·rw[Z,U.ids_eq,s.eq,U.idss_app,U.idss_cons];simp[append_assoc]
  ·rw[T,U.ids_eq]
   simp only
   rw[U.idss_app];simp[append_assoc]
 have O:Root u (U.wth own.id (λy=>{y with kids:=delAt y.kids a.length}) u):=gC (g:=λl=>delAt l a.length)
 have F:own∈u.flat:=by
  have:=aP u h.nd J.mem
  rw[J.fnd]at this;exact this
 obtain⟨A,B,hA,f1,f2⟩:=N
 have I:(U.wth own.id (λy=>{y with kids:=delAt y.kids a.length}) u).ids.Sublist u.ids:=by
  rw[f1,f2]
  exact(List.Sublist.refl A).append (sublist_append_right _ _)
 have M:(U.wth own.id (λy=>{y with kids:=delAt y.kids a.length}) u).deep<=u.deep:=by
  have h1:=(gb (f:=λy=>{y with kids:=delAt y.kids a.length}) u h.nd J.mem)
  rw[J.fnd]at h1
  have h2:({own with kids:=delAt own.kids a.length}:U).deep<=own.deep:=by
   rw[U.deep_eq,U.deep_eq own,s.eq]
   simp only
   rw[bO,eh,eh,U.deeps]
   omega
  omega
 refine⟨⟨h.nd.sublist I,?_,Nat.le_trans M h.dep,?_,?_,?_⟩,O,M,A,B,hA,f1,f2⟩
 ·refine gE (f:=λy=>{y with kids:=delAt y.kids a.length}) (λ_=>rfl) u h.nd J.mem h.node ?_
  rw[J.fnd]
  intro z E
  rw[U.flat_eq]at E
  simp only at E
  rw[s.eq,bO,cJ,mem_cons,mem_append]at E
  rcases E with rfl|E|E
  ·have D:=h.node own F
   unfold nodeOk at D ⊢
   simp only[Bool.and_eq_true,decide_eq_true_eq]at D ⊢
   rw[s.eq]at D
   refine⟨D.1,⟨?_,?_⟩,?_⟩
   ·have:=D.2.1.1
    rw[all_append,all_cons,Bool.and_eq_true,Bool.and_eq_true]at this
    rw[all_append,this.1,this.2.2];rfl
   ·have:=D.2.1.2
    unfold pr at this ⊢
    refine this.sublist (List.Sublist.map _ ?_)
    exact(List.Sublist.refl a).append (sublist_cons_self _ _)
   ·have:=D.2.2
    simp at this ⊢
    omega
  ·obtain⟨y,Y,E⟩:=bN E
   exact h.node z (dD F z (U.flat_kid (by rw[s.eq];simp[Y]) E))
  ·obtain⟨y,Y,E⟩:=bN E
   exact h.node z (dD F z (U.flat_kid (by rw[s.eq];simp[Y]) E))
 ·have:=I.length_le
  rw[U.ids_len,U.ids_len]at this
  exact Nat.le_trans this h.cnt
 ·rw[O.kind,O.id];exact h.root
 ·intro hk hm
  rw[O.kind]at hk
  exact h.zero hk (I.subset hm)
/-! ### stamps -/
theorem U.stamp_eq (a b:Int) (u:U) (n m:Int):U.stamp a b u n m=(⟨⟨a,b,n⟩,u.kind,u.label,aX a b (u.head.map Wd.text) m,aX a b (u.words.map Wd.text) (m+u.head.length),(U.stamps a b u.kids (n+1) (m+u.head.length+u.words.length)).1⟩,(U.stamps a b u.kids (n+1) (m+u.head.length+u.words.length)).2):=by
 cases u;rw[U.stamp]
theorem U.stamps_nil (a b:Int) (n m:Int):U.stamps a b [] n m=([],n,m):=by rw[U.stamps]
theorem U.stamps_cons (a b:Int) (u:U) (us:List U) (n m:Int):U.stamps a b (u::us) n m=((U.stamp a b u n m).1::(U.stamps a b us (U.stamp a b u n m).2.1 (U.stamp a b u n m).2.2).1,(U.stamps a b us (U.stamp a b u n m).2.1 (U.stamp a b u n m).2.2).2):=by rw[U.stamps]
def idRow (a b n:Int) (k:Nat):List Idd:=(List.range k).map λj:Nat=>(⟨a,b,n+(j:Int)⟩:Idd)
theorem lu (a b n:Int) (k l:Nat):idRow a b n (k+l)=idRow a b n k++idRow a b (n+k) l:=by
 unfold idRow
 rw[range_add,map_append,map_map]
 congr 1
 refine map_congr_left λj _=>?_
 simp only[Function.comp]
 congr 1
 omega
theorem idRow_nd (a b n:Int) (k:Nat):(idRow a b n k).Nodup:=by
 unfold idRow
 refine pairwise_map.2 (List.Pairwise.imp (λh e=>h ?_) (nodup_range (n:=k)))
 injection e with _ _ e
 omega
structure StampOk (a b:Int) (u:U) (n m:Int) (q:U×Int×Int):Prop where
 ids:q.1.ids=idRow a b n u.flat.length
 next:q.2.1=n+u.flat.length
 deep:q.1.deep=u.deep
 len:q.1.flat.length=u.flat.length
 key:q.1.key=u.key
 node:∀z∈q.1.flat,∃y∈u.flat,nodeOk z=nodeOk y
structure StampsOk (a b:Int) (us:List U) (n m:Int) (q:List U×Int×Int):Prop where
 ids:U.idss q.1=idRow a b n (U.flats us).length
 next:q.2.1=n+(U.flats us).length
 deep:U.deeps q.1=U.deeps us
 len:(U.flats q.1).length=(U.flats us).length
 key:q.1.map U.key=us.map U.key
 node:∀z∈U.flats q.1,∃y∈U.flats us,nodeOk z=nodeOk y
theorem k9 (a b:Int) (l:List Wd) (m:Int):aU (aX a b (l.map Wd.text) m)=aU l/\(aX a b (l.map Wd.text) m).length=l.length:=by
 have D:(aX a b (l.map Wd.text) m).length=l.length:=by rw[cH,length_map]
 have E:∀(l:List Wd) (m:Int),(aX a b (l.map Wd.text) m).all wdOk=l.all wdOk:=by
  intro l
  induction l with
  |nil=>intro m;rfl
  |cons w l ih=>intro m;rw[map_cons,aX,all_cons,all_cons,ih];rfl
 unfold aU
 rw[D,E]
 exact⟨rfl,rfl⟩
theorem gL (a b:Int):∀{us:List U},(∀k∈us,∀n m,StampOk a b k n m (U.stamp a b k n m))->∀n m,StampsOk a b us n m (U.stamps a b us n m)
 |[],_,n,m=>by
  rw[U.stamps_nil]
  refine⟨?_,?_,rfl,rfl,rfl,?_⟩
  ·rw[U.idss_nil,pp];rfl
  ·rw[pp];simp
  ·intro z D;rw[pp]at D;cases D
 |u::us,h,n,m=>by
  obtain⟨N,F,I,V,k1,Y⟩:=h u (by simp) n m
  have ih:=gL a b (us:=us) (λk M=>h k (by simp[M])) (U.stamp a b u n m).2.1 (U.stamp a b u n m).2.2
  obtain⟨O,x2,J,X,T,Z⟩:=ih
  rw[U.stamps_cons]
  refine⟨?_,?_,?_,?_,?_,?_⟩
  ·simp only
   rw[U.idss_cons,N,O,F,pk,length_append,lu]
  ·simp only
   rw[x2,F,pk,length_append];omega
  ·simp only
   rw[U.deeps,U.deeps,I,J]
  ·simp only
   rw[pk,pk,length_append,length_append,V,X]
  ·simp only
   rw[map_cons,map_cons,k1,T]
  ·intro z D
   simp only at D
   rw[pk,mem_append]at D
   rcases D with D|D
   ·obtain⟨y,E,e⟩:=Y z D
    exact⟨y,by rw[pk];exact mem_append.2 (.inl E),e⟩
   ·obtain⟨y,E,e⟩:=Z z D
    exact⟨y,by rw[pk];exact mem_append.2 (.inr E),e⟩
theorem kh (a b:Int):∀u:U,∀n m,StampOk a b u n m (U.stamp a b u n m):=by
 refine U.ind λu ih n m=>?_
 obtain⟨I,O,E,M,J,N⟩:=gL a b ih (n+1) (m+u.head.length+u.words.length)
 rw[U.stamp_eq]
 refine⟨?_,?_,?_,?_,rfl,?_⟩
 ·rw[U.ids_eq]
  simp only
  rw[I,U.flat_eq u,length_cons,Nat.add_comm,lu]
  unfold idRow
  simp
 ·simp only
  rw[O,U.flat_eq u,length_cons];omega
 ·rw[U.deep_eq,U.deep_eq u];exact E
 ·rw[U.flat_eq,U.flat_eq u,length_cons,length_cons];simp only;rw[M]
 ·intro z D
  rw[U.flat_eq]at D
  rcases mem_cons.1 D with rfl|D
  ·refine⟨u,u.flat_self,fQ rfl rfl ?_ ?_ J⟩
   ·exact k9 a b u.head m
   ·exact k9 a b u.words _
  ·obtain⟨y,F,e⟩:=N z D
   exact⟨y,by rw[U.flat_eq];exact mem_cons_of_mem _ F,e⟩
theorem je (u:U) (a b:Int) (h:∀y∈u.flat,nodeOk y=true):(cz u a b).ids=idRow a b 1 u.flat.length/\(cz u a b).deep=u.deep/\(cz u a b).flat.length=u.flat.length/\(cz u a b).key=u.key/\∀z∈(cz u a b).flat,nodeOk z=true:=by
 obtain⟨I,N,D,J,k1,M⟩:=kh a b u 1 0
 refine⟨I,D,J,k1,λz F=>?_⟩
 obtain⟨y,E,e⟩:=M z F
 rw[e];exact h y E
theorem pj (a b:Int) (k:Nat):zId∉idRow a b 1 k:=by
 intro h
 obtain⟨j,_,e⟩:=mem_map.1 h
 injection e with _ _ e
 omega
/-! ### words -/
theorem iS {a b:Int}:∀{l:List (List UInt8)} {m:Int},l.all bf=true->(aX a b l m).all wdOk=true
 |[],_,_=>rfl
 |s::l,m,h=>by
  rw[all_cons,Bool.and_eq_true]at h
  rw[aX,all_cons,Bool.and_eq_true]
  exact⟨h.1,iS h.2⟩
theorem all_take {α:Type} {p:α->Bool} {l:List α} (h:l.all p=true) (k:Nat):(l.take k).all p=true:=all_eq_true.2 λx D=>all_eq_true.1 h x (mem_of_mem_take D)
theorem nB {α:Type} {p:α->Bool} {l:List α} (h:l.all p=true) (k:Nat):(l.drop k).all p=true:=all_eq_true.2 λx D=>all_eq_true.1 h x (mem_of_mem_drop D)
theorem kW {w:List Wd} {D:List (List UInt8)} {a b:Int} {E:Nat} (F:w.all wdOk=true) (I:D.all bf=true):∀(ps:List Nat) (s:Nat) (m:Int),(fJ w D a b E s ps m).all wdOk=true
 |[],s,m=>by rw[fJ];exact nB F s
 |p::ps,s,m=>by
  rw[fJ,all_append,all_append,nB (all_take F p) s,iS I,kW F I ps];rfl
theorem dB {l:List (List UInt8)} (h:dq l=true):l.all bf=true/\l.length<=256:=by
 unfold dq at h
 simp only[Bool.and_eq_true,decide_eq_true_eq]at h
 exact⟨h.2,by omega⟩
theorem rowOk_all {l:List Wd} (h:aU l=true):l.all wdOk=true:=by
 unfold aU at h
 simp only[Bool.and_eq_true]at h
 exact h.2
theorem iM {l:List Wd} (h:l.all wdOk=true) (D:¬256<l.length):aU l=true:=by
 unfold aU
 rw[h,decide_eq_true (by omega)];rfl
theorem editE_ok {w:List Wd} {x:Itm} {a b:Int} (T:aU w=true) (O:dq x.new=true) (D:(bJ w x a b).2=0):aU (bJ w x a b).1=true:=by
 have I:=rowOk_all T
 have J:=(dB O).1
 unfold bJ at D ⊢
 split
 ·split
  ·rename_i M E;rw[if_pos M,if_pos E]at D;cases D
  ·rename_i E
   exact iM (by rw[all_append,iS J,I];rfl) E
 ·rename_i M
  rw[if_neg M]at D
  split
  ·rename_i E;rw[if_pos E]at D;cases D
  ·rename_i E
   rw[if_neg E]at D
   split
   ·rename_i N
    rw[if_pos N]at D
    split
    ·rename_i F;rw[if_pos F]at D;cases D
    ·rename_i F;exact iM (kW I J _ _ _) F
   ·rename_i N
    rw[if_neg N]at D
    split
    ·rename_i F;rw[if_pos F]at D;cases D
    ·rename_i F;exact iM (kW I J _ _ _) F
theorem io {u:U} (h:Good u) {i:Idd} (hi:i∈u.ids) (I:u.id≠i) {f:U->U} (hid:∀y,(f y).id=y.id) (D:∀y,(f y).kids=y.kids) (N:∀z∈(U.wth i f u).flat,nodeOk z=true):Good (U.wth i f u)/\Root u (U.wth i f u):=by
 have E:Root u (U.wth i f u):=oR I
 obtain⟨l,r,J,M⟩:=gO (f:=f) u h.nd hi
 have F:(U.wth i f u).ids=u.ids:=by rw[J,M,U.ids_eq,hid,D,U.ids_eq (fnd i u)]
 refine⟨⟨by rw[F];exact h.nd,N,?_,?_,?_,?_⟩,E⟩
 ·have O:=gb (f:=f) u h.nd hi
  have T:(f (fnd i u)).deep=(fnd i u).deep:=by rw[U.deep_eq,U.deep_eq (fnd i u),D]
  have V:=h.dep
  omega
 ·have:=congrArg List.length F
  rw[U.ids_len,U.ids_len]at this
  rw[this];exact h.cnt
 ·rw[E.kind,E.id];exact h.root
 ·rw[E.kind,F];exact h.zero
theorem fp {y:U} (h:nodeOk y=true) (D:y.kind≠0):br y.label=true/\aU y.head=true/\aU y.words=true:=by
 unfold nodeOk own1 at h
 rw[if_neg D]at h
 simp only[Bool.and_eq_true]at h
 exact⟨h.1.2.1,h.1.2.2.1,h.1.2.2.2⟩
theorem oy {y:U} (h:nodeOk y=true) (D:y.kind≠0) {w:List Wd} (E:aU w=true):nodeOk {y with words:=w}=true:=by
 unfold nodeOk own1 at h ⊢
 simp only at h ⊢
 rw[if_neg D]at h ⊢
 rw[E,Bool.and_true]
 simp only[Bool.and_eq_true]at h ⊢
 exact⟨⟨h.1.1,h.1.2.1,h.1.2.2.1⟩,h.2⟩
theorem node_head {y:U} (h:nodeOk y=true) (D:y.kind≠0) {w:List Wd} (E:aU w=true):nodeOk {y with head:=w}=true:=by
 unfold nodeOk own1 at h ⊢
 simp only at h ⊢
 rw[if_neg D]at h ⊢
 rw[E,Bool.true_and]
 simp only[Bool.and_eq_true]at h ⊢
 exact⟨⟨h.1.1,h.1.2.1,h.1.2.2.2⟩,h.2⟩
theorem kx {y z:U} (h:z.kids=y.kids):∀v∈z.flat,v=z\/v∈y.flat:=by
 intro v D
 rw[U.flat_eq,h]at D
 rcases mem_cons.1 D with rfl|D
 ·exact .inl rfl
 ·exact .inr (by rw[U.flat_eq];exact mem_cons_of_mem _ D)
end Go.Av
