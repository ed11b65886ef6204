/-
  ENACT, 8: an item applied to a book: the program does what the document says.
-/
import Derived.Test.YtjolkfjccojnnaaGreatDoorXE3toXL25
import Derived.Test.YtjolkfjccojnnaaGreatDoorXL18toXL20
namespace Go.Av
open Go Go.RowKit Go.Proofs List
set_option linter.unusedSimpArgs false
set_option linter.unusedVariables false
/-! ### addresses -/
def aJ (u:U) (s:Stp):Bool:=decide (u.kind=s.kind)&&decide (u.label=s.label)
def j5 (s:Stp):Bool:=decide (s.kind=0)&&decide (s.label=[])
def ay (l:List U) (s:Stp):List U:=l.flatMap λx=>x.kids.filter λk=>aJ k s
def eu (u:U) (p:List Stp):List U:=
 if cC p=false then []else match p with
 |[]=>[u]
 |s::r=>r.foldl ay (if j5 s then [u]else u.flat.filter λx=>aJ x s)
def one (u:U) (p:List Stp):Idd×Int:=match eu u p with
 |[]=>(⟨0,0,0⟩,7)
 |[x]=>(x.id,0)
 |_=>(⟨0,0,0⟩,8)
theorem iY {u x k:U} (hx:x∈u.flat) (hk:k∈x.kids):k∈u.flat:=by
 revert hx
 refine U.ind (p:=λu=>x∈u.flat->k∈u.flat) (λu ih hx=>?_) u
 rw[U.flat_eq]at hx ⊢
 rcases mem_cons.1 hx with rfl|hx
 ·exact mem_cons_of_mem _ (gB hk (by rw[U.flat_eq];simp))
 ·have:∀{us:List U},x∈U.flats us->∃k∈us,x∈k.flat:=by
   intro us
   induction us with
   |nil=>intro h;rw[U.flats]at h;cases h
   |cons a us ih=>
    intro h
    rw[U.flats,mem_append]at h
    rcases h with h|h
    ·exact⟨a,by simp,h⟩
    ·obtain⟨k,hk,hx⟩:=ih h;exact⟨k,by simp[hk],hx⟩
  obtain⟨y,hy,hxy⟩:=this hx
  exact mem_cons_of_mem _ (gB hy (ih y hy hxy))
theorem kw {u:U}:∀{r:List Stp} {l:List U},(∀x∈l,x∈u.flat)->∀x∈r.foldl ay l,x∈u.flat
 |[],l,h,x,hx=>h x hx
 |s::r,l,h,x,hx=>kw (l:=ay l s) (λy hy=>by
   obtain⟨z,hz,hy⟩:=mem_flatMap.1 hy
   exact iY (h z hz) (mem_filter.1 hy).1) x hx
theorem po {u:U} {p:List Stp}:∀x∈eu u p,x∈u.flat:=by
 intro x hx
 have h0:u∈u.flat:=by rw[U.flat_eq];simp
 unfold eu at hx
 split at hx
 ·cases hx
 ·split at hx
  ·simp only[mem_singleton]at hx;subst hx;exact h0
  ·refine kw ?_ x hx
   intro y hy
   split at hy
   ·simp only[mem_singleton]at hy;subst hy;exact h0
   ·exact(mem_filter.1 hy).1
theorem bU {u:U} {p:List Stp} (h:(one u p).2=0):(one u p).1∈u.ids:=by
 have hf:=po (u:=u) (p:=p)
 unfold one at h ⊢
 split at h
 ·cases h
 ·rename_i x e
  rw[e]at hf
  exact mem_map.2 ⟨x,hf x (by simp),rfl⟩
 ·cases h
/-! ### an item applied -/
def chg (k:Int):Bool:=decide (0<=k)&&decide (k<=6)
def doP (u:U) (d:Dd):U×Int:=
 if chg d.it.kind=false\/d.it.may=false then (u,1)
 else if (one u d.it.at_).2≠0 then (u,(one u d.it.at_).2)
 else if d.it.kind=0 then insP u (one u d.it.at_).1 d
 else if (one u d.it.at_).1=u.id then (if d.it.kind=6/\(one u d.it.to_).2≠0 then (u,(one u d.it.to_).2)else (u,9))
 else if d.it.kind=1 then (dF (one u d.it.at_).1 u,0)
 else if d.it.kind=2\/d.it.kind=3 then
  (if (hY (fnd (one u d.it.at_).1 u).words d.it d.act d.item).2≠0 then (u,(hY (fnd (one u d.it.at_).1 u).words d.it d.act d.item).2)
   else (U.wth (one u d.it.at_).1 (λy=>{y with words:=(hY (fnd (one u d.it.at_).1 u).words d.it d.act d.item).1}) u,0))
 else if d.it.kind=4 then (U.wth (one u d.it.at_).1 (λy=>{y with head:=dP d.act d.item d.it.new 0}) u,0)
 else if d.it.kind=5 then
  (if bJ (parR (one u d.it.at_).1 u).1 (parR (one u d.it.at_).1 u).1.kids {fnd (one u d.it.at_).1 u with label:=d.it.label}=10 then (u,10)
   else (U.wth (one u d.it.at_).1 (λy=>{y with label:=d.it.label}) u,0))
 else if (one u d.it.to_).2≠0 then (u,(one u d.it.to_).2)
 else movP u (one u d.it.at_).1 (one u d.it.to_).1 d
theorem cv (a b:List U):U.flats (a++b)=U.flats a++U.flats b:=by
 induction a with
 |nil=>rw[bt];rfl
 |cons x a ih=>rw[cons_append,aD,aD,ih,append_assoc]
theorem eN (a b:List U):U.deeps (a++b)=max (U.deeps a) (U.deeps b):=by
 induction a with
 |nil=>rw[U.deeps];simp
 |cons x a ih=>rw[cons_append,U.deeps,U.deeps,ih];omega
theorem ce {us:List U} {x:U} (h:x∈U.flats us):∃k∈us,x∈k.flat:=js h
theorem nx {i:Idd} {f:U->U} (u:U) (hn:u.ids.Nodup) (hi:i∈u.ids):∃l r,u.ids=l++((fnd i u).ids++r)/\(U.wth i f u).ids=l++((f (fnd i u)).ids++r):=by
 refine U.wayInd (i:=i) (p:=λu=>∃l r,u.ids=l++((fnd i u).ids++r)/\(U.wth i f u).ids=l++((f (fnd i u)).ids++r)) ?_ ?_ u hn hi
 ·intro u _ h
  have e:fnd i u=u:=aF (by rw[aO h];rfl)
  refine⟨[],[],?_,?_⟩
  ·rw[e];simp
  ·rw[aZ h,e];simp
 ·intro u a k b hn h s ⟨l,r,e1,e2⟩
  rw[s.fnd hn s.mem]
  refine⟨u.id::(U.idss a++l),r++U.idss b,?_,?_⟩
  ·rw[U.ids_eq,s.eq,U.idss_app,U.idss_cons,e1];simp[append_assoc]
  ·rw[s.wth h,U.ids_eq]
   simp only
   rw[U.idss_app,U.idss_cons,e2];simp[append_assoc]
theorem jf {i:Idd} {f:U->U} (u:U) (hn:u.ids.Nodup) (hi:i∈u.ids):(U.wth i f u).deep<=max u.deep ((U.way i u).length-1+(f (fnd i u)).deep)/\(U.way i u).length-1+(fnd i u).deep<=u.deep:=by
 refine U.wayInd (i:=i) (p:=λu=>(U.wth i f u).deep<=max u.deep ((U.way i u).length-1+(f (fnd i u)).deep)/\(U.way i u).length-1+(fnd i u).deep<=u.deep) ?_ ?_ u hn hi
 ·intro u _ h
  have e:fnd i u=u:=aF (by rw[aO h];rfl)
  rw[aZ h,e,aO h]
  simp only[length_cons,length_nil]
  omega
 ·intro u a k b hn h s ⟨h1,h2⟩
  have:=eo s.mem
  rw[s.fnd hn s.mem,s.wth h,s.way h,U.deep_eq,U.deep_eq u,s.eq]
  simp only[length_cons]
  rw[eN,eN,U.deeps,U.deeps]
  omega
def U.key (u:U):Int×List UInt8:=(u.kind,u.label)
theorem gy {y z:U} (hk:z.kind=y.kind) (hl:z.label=y.label) (hh:aS z.head=aS y.head/\z.head.length=y.head.length) (hw:aS z.words=aS y.words/\z.words.length=y.words.length) (hs:z.kids.map U.key=y.kids.map U.key):nodeOk z=nodeOk y:=by
 have e1:z.kids.length=y.kids.length:=by have:=congrArg List.length hs;simpa using this
 have e2:(z.kids.all λk=>g6 z.kind k.kind)=y.kids.all λk=>g6 y.kind k.kind:=by
  have:∀l:List U,∀p:Int,(l.all λk=>g6 p k.kind)=(l.map U.key).all λq=>g6 p q.1:=λl p=>by rw[all_map];rfl
  rw[this,this,hs,hk]
 have e3:bW z.kids↔bW y.kids:=by unfold bW;exact Iff.of_eq (congrArg List.Nodup hs)
 unfold nodeOk own1
 rw[e1,e2,decide_eq_decide.2 e3,hk,hl,hh.1,hh.2,hw.1,hw.2]
theorem gV {i:Idd} {f:U->U} (hkey:∀y,(f y).key=y.key) (u:U) (hn:u.ids.Nodup) (hi:i∈u.ids) (hok:∀y∈u.flat,nodeOk y=true) (hnew:∀z∈(f (fnd i u)).flat,nodeOk z=true):∀z∈(U.wth i f u).flat,nodeOk z=true:=by
 revert hok hnew
 refine U.wayInd (i:=i) (p:=λu=>(∀y∈u.flat,nodeOk y=true)->(∀z∈(f (fnd i u)).flat,nodeOk z=true)->∀z∈(U.wth i f u).flat,nodeOk z=true) ?_ ?_ u hn hi
 ·intro u _ h hok hnew
  have e:fnd i u=u:=aF (by rw[aO h];rfl)
  rw[aZ h]
  rw[e]at hnew
  exact hnew
 ·intro u a k b hn h s ih hok hnew z hz
  rw[s.fnd hn s.mem]at hnew
  have hkf:∀y∈k.flat,nodeOk y=true:=λy hy=>hok y (U.flat_kid (by rw[s.eq];simp) hy)
  rw[s.wth h,U.flat_eq]at hz
  rcases mem_cons.1 hz with rfl|hz
  ·rw[←hok u u.flat_self]
   refine gy rfl rfl ⟨rfl,rfl⟩ ⟨rfl,rfl⟩ ?_
   simp only
   rw[s.eq,map_append,map_append,map_cons,map_cons,ek U.key hkey (λ_ _=>rfl)]
  ·simp only at hz
   rw[cv,aD,mem_append,mem_append]at hz
   rcases hz with hz|hz|hz
   ·obtain⟨y,hy,hz⟩:=ce hz
    exact hok z (U.flat_kid (by rw[s.eq];simp[hy]) hz)
   ·exact ih hkf hnew z hz
   ·obtain⟨y,hy,hz⟩:=ce hz
    exact hok z (U.flat_kid (by rw[s.eq];simp[hy]) hz)
theorem oc {i:Idd} {s0:List UInt8} (u:U) (hn:u.ids.Nodup) (hi:i∈u.ids) (hne:u.id≠i) (hok:∀y∈u.flat,nodeOk y=true) (hl:bC s0=true)
  (ht:∀p d j,aN i u=some (p,d,j)->cK p.kids (fnd i u).kind s0=false) (hk0:(fnd i u).kind≠0):∀z∈(U.wth i (λy=>{y with label:=s0}) u).flat,nodeOk z=true:=by
 revert hne hok ht hk0
 refine U.wayInd (i:=i) (p:=λu=>u.id≠i->(∀y∈u.flat,nodeOk y=true)->(∀p d j,aN i u=some (p,d,j)->cK p.kids (fnd i u).kind s0=false)->(fnd i u).kind≠0->∀z∈(U.wth i (λy=>{y with label:=s0}) u).flat,nodeOk z=true) ?_ ?_ u hn hi
 ·intro u _ h hne
  exact absurd h hne
 ·intro u a k b hn h s ih _ hok ht hk0 z hz
  rw[s.fnd hn s.mem]at ht hk0
  have hkf:∀y∈k.flat,nodeOk y=true:=λy hy=>hok y (U.flat_kid (by rw[s.eq];simp) hy)
  have hrest:∀y,y∈U.flats a\/y∈U.flats b->nodeOk y=true:=by
   intro y hy
   rcases hy with hy|hy<;>
   ·obtain⟨q,hq,hy⟩:=ce hy
    exact hok y (U.flat_kid (by rw[s.eq];simp[hq]) hy)
  rw[s.wth h,U.flat_eq]at hz
  simp only at hz
  rw[cv,aD,mem_cons,mem_append,mem_append]at hz
  by_cases hk:k.id=i
  ·have hfk:fnd i k=k:=aF (by rw[aO hk];rfl)
   rw[hfk]at ht hk0
   have htk:=ht u 0 a.length (lA h s hk)
   rw[aZ hk]at hz
   rcases hz with rfl|hz|hz|hz
   ·have hu:=hok u u.flat_self
    unfold nodeOk at hu ⊢
    simp only[Bool.and_eq_true,decide_eq_true_eq]at hu ⊢
    refine⟨hu.1,⟨?_,?_⟩,?_⟩
    ·rw[all_append,all_cons]
     have:=hu.2.1.1
     rw[s.eq,all_append,all_cons]at this
     exact this
    ·have:=hu.2.1.2
     unfold bW at this ⊢
     rw[s.eq,map_append,map_cons]at this
     rw[map_append,map_cons]
     unfold cK at htk
     rw[any_eq_false]at htk
     have hno:∀y∈u.kids,(y.kind,y.label)≠(k.kind,s0):=λy hy e=>by
      have:=htk y hy
      injection e with e1 e2
      simp[e1,e2]at this
     obtain⟨n1,n2,n3⟩:=nodup_append.1 this
     rw[nodup_cons]at n2
     refine nodup_append.2 ⟨n1,nodup_cons.2 ⟨?_,n2.2⟩,?_⟩
     ·intro hm
      obtain⟨y,hy,e⟩:=mem_map.1 hm
      exact hno y (by rw[s.eq];simp[hy]) e
     ·intro x hx y hy e
      obtain⟨x',hx',ex⟩:=mem_map.1 hx
      rcases mem_cons.1 hy with hy|hy
      ·exact hno x' (by rw[s.eq];simp[hx']) (ex.trans (e.trans hy))
      ·exact n3 x hx y (mem_cons_of_mem _ hy) e
    ·have:=hu.2.2
     rw[s.eq]at this
     simp at this ⊢
     exact this
   ·exact hrest z (.inl hz)
   ·rw[U.flat_eq]at hz
    rcases mem_cons.1 hz with rfl|hz
    ·have hkk:=hkf k k.flat_self
     unfold nodeOk own1 at hkk ⊢
     simp only at hkk ⊢
     rw[if_neg hk0]at hkk ⊢
     simp only[Bool.and_eq_true]at hkk ⊢
     exact⟨⟨hkk.1.1,hl,hkk.1.2.2⟩,hkk.2⟩
    ·exact hkf z (by rw[U.flat_eq];exact mem_cons_of_mem _ hz)
   ·exact hrest z (.inr hz)
  ·rcases hz with rfl|hz|hz|hz
   ·rw[←hok u u.flat_self]
    refine gy rfl rfl ⟨rfl,rfl⟩ ⟨rfl,rfl⟩ ?_
    simp only
    rw[s.eq,map_append,map_append,map_cons,map_cons]
    have:(U.wth i (λy=>{y with label:=s0}) k).key=k.key:=by
     rw[U.wth_eq,if_neg hk];rfl
    rw[this]
   ·exact hrest z (.inl hz)
   ·refine ih hk hkf (λp d j e=>?_) hk0 z hz
    exact ht p (d+1) j (by rw[jQ h s hk,e];rfl)
   ·exact hrest z (.inr hz)
theorem eR {α:Type} {p q:α->Bool}:∀{l:List α},(∀x∈l,p x=q x)->l.all p=l.all q
 |[],_=>rfl
 |x::l,h=>by rw[all_cons,all_cons,h x (by simp),eR λy hy=>h y (by simp[hy])]
theorem mr (p:U->Bool):∀us:List U,(U.flats us).all p=us.all λk=>k.flat.all p
 |[]=>by rw[bt];rfl
 |u::us=>by rw[aD,all_append,mr p us,all_cons]
theorem iV (p:U->Bool) (u:U):u.flat.all p=(p u&&u.kids.all λk=>k.flat.all p):=by rw[U.flat_eq,all_cons,mr]
/-! ### trees that stand right -/
theorem lD (k:Int):∀us:List U,U.rights k us=((us.all λx=>g6 k x.kind)&&us.all U.right)
 |[]=>by rw[U.rights];rfl
 |u::us=>by
  rw[U.rights,lD k us,all_cons,all_cons]
  cases g6 k u.kind<;>cases u.right<;>simp
theorem lS:aS []=true:=by decide
theorem oN (u:U):fY u=(own1 u&&decide ((u.kids.length:Int)<=64)):=by
 unfold fY own1
 by_cases hk:u.kind=0
 ·rw[if_pos hk,if_pos hk,Bool.eq_iff_iff]
  simp only[Bool.and_eq_true,decide_eq_true_eq]
  constructor
  ·rintro⟨⟨_,_,h3,_,_⟩,h6⟩;exact⟨h6,h3⟩
  ·rintro⟨⟨h6,h7,h8⟩,h3⟩
   have e1:u.head=[]:=length_eq_zero_iff.1 (by omega)
   have e2:u.words=[]:=length_eq_zero_iff.1 (by omega)
   exact⟨⟨by omega,by omega,h3,by rw[e1];exact lS,by rw[e2];exact lS⟩,h6,h7,h8⟩
 ·rw[if_neg hk,if_neg hk,Bool.eq_iff_iff]
  simp only[Bool.and_eq_true,decide_eq_true_eq]
  constructor
  ·rintro⟨⟨h1,h2,h3,h4,h5⟩,h6⟩;exact⟨⟨⟨h1,h2⟩,h6,h4,h5⟩,h3⟩
  ·rintro⟨⟨⟨h1,h2⟩,h6,h4,h5⟩,h3⟩;exact⟨⟨h1,h2,h3,h4,h5⟩,h6⟩
theorem pd:∀u:U,u.right=u.flat.all nodeOk:=by
 refine U.ind λu ih=>?_
 rw[U.right_eq,iV,lD,oN,eR ih,show nodeOk u=(own1 u&&((u.kids.all λk=>g6 u.kind k.kind)&&decide (bW u.kids)&&decide ((u.kids.length:Int)<=64)))from rfl]
 generalize own1 u=a,(u.kids.all λx=>g6 u.kind x.kind)=b,decide (bW u.kids)=c,decide ((u.kids.length:Int)<=64)=d,(u.kids.all λk=>k.flat.all nodeOk)=e
 cases a<;>cases b<;>cases c<;>cases d<;>cases e<;>rfl
theorem pm (u:U):jN u=cG u:=by unfold jN cG;rw[pd]
/-! ### bare trees -/
theorem nz {α:Type} {f:α->α}:∀{l:List α},l=l.map f↔∀x∈l,x=f x
 |[]=>by simp
 |x::l=>by simp[nz (f:=f) (l:=l)]
theorem wd_bare (w:Wd):w=w.bare↔dX w=false:=by
 obtain⟨t,a,b,c⟩:=w
 simp[Wd.bare,dX]
theorem mw (l:List Wd):l=l.map Wd.bare↔l.any dX=false:=by
 rw[nz,any_eq_false]
 constructor<;>intro h x hx
 ·have:=(wd_bare x).1 (h x hx);simp[this]
 ·exact(wd_bare x).2 (by simpa using h x hx)
theorem strip_fix:∀u:U,(u=u.strip)↔u.flat.all dS=true:=by
 refine U.ind λu ih=>?_
 rw[iV,Bool.and_eq_true,all_eq_true,U.strip_eq,show dS u=(decide (u.id=zId)&&(!u.head.any dX&& !u.words.any dX))from rfl]
 simp only[Bool.and_eq_true,decide_eq_true_eq,Bool.not_eq_true']
 rw[←mw,←mw]
 have hk:u.kids=u.kids.map U.strip↔∀k∈u.kids,k.flat.all dS=true:=by
  rw[nz]
  exact⟨λh k hk=>(ih k hk).1 (h k hk),λh k hk=>(ih k hk).2 (h k hk)⟩
 rw[←hk]
 obtain⟨i,k,l,h,w,ks⟩:=u
 simp only[U.mk.injEq,true_and,zId]
 constructor
 ·rintro⟨a,b,c,d⟩;exact⟨⟨a,b,c⟩,d⟩
 ·rintro⟨⟨a,b,c⟩,d⟩;exact⟨a,b,c,d⟩
theorem iw (u:U):de u=gS u:=by
 unfold de gS
 rw[pm]
 congr 1
 rw[Bool.eq_iff_iff,decide_eq_true_eq,strip_fix]
/-! ### shapes -/
theorem mb (u:U):bp u=own1 u:=by
 unfold bp own1
 by_cases hk:u.kind=0
 ·rw[if_pos hk,if_pos hk]
 ·rw[if_neg hk,if_neg hk]
  have:decide (0<u.kind)=decide (0<=u.kind):=by rw[decide_eq_decide];omega
  rw[this,Bool.and_assoc]
theorem ls (d k:Int):∀us:List U,U.shapes d k us=((us.all λx=>g6 k x.kind)&&us.all λx=>x.shape d)
 |[]=>by rw[U.shapes];rfl
 |u::us=>by
  rw[U.shapes,ls d k us,all_cons,all_cons]
  cases g6 k u.kind<;>cases u.shape d<;>simp
theorem nests_ne0 {p k:Int} (h:g6 p k=true):k≠0:=by
 unfold g6 at h
 (repeat' split at h)<;>simp at h<;>omega
theorem deps_le (us:List U) (d:Int):d+U.deps us<=8↔d<=8/\∀k∈us,d+1+k.dep<=8:=by
 induction us with
 |nil=>simp[U.deps_nil]
 |cons u us ih=>
  rw[U.deps_cons]
  constructor
  ·intro h
   have h2:=ih.1 (by omega)
   refine⟨h2.1,λk hk=>?_⟩
   rcases mem_cons.1 hk with rfl|hk
   ·omega
   ·exact h2.2 k hk
  ·rintro⟨h1,h2⟩
   have a1:=h2 u (by simp)
   have a2:=ih.2 ⟨h1,λk hk=>h2 k (by simp[hk])⟩
   omega
theorem kt:∀(u:U) (d:Int),0<=d->u.shape d=(u.flat.all nodeOk&&(decide (d+u.dep<=8)&& !(decide (0<d)&&decide (u.kind=0)))):=by
 refine U.ind λu ih d hd=>?_
 rw[U.shape_eq,iV,ls,mb,eR λk hk=>ih k hk (d+1) (by omega),U.dep_eq]
 rw[Bool.eq_iff_iff,show nodeOk u=(own1 u&&((u.kids.all λk=>g6 u.kind k.kind)&&decide (bW u.kids)&&decide ((u.kids.length:Int)<=64)))from rfl]
 simp only[Bool.and_eq_true,decide_eq_true_eq,all_eq_true,Bool.not_eq_true',Bool.and_eq_false_iff,decide_eq_false_iff_not,deps_le]
 constructor
 ·rintro⟨⟨⟨a1,a2⟩,a3,a4⟩,⟨a5,a6⟩,a7⟩
  exact⟨⟨⟨a3,⟨a5,a7⟩,a4⟩,λk hk=>(a6 k hk).1⟩,⟨a1,λk hk=>(a6 k hk).2.1⟩,a2⟩
 ·rintro⟨⟨⟨a3,⟨a5,a7⟩,a4⟩,a8⟩,⟨a1,a9⟩,a2⟩
  exact⟨⟨⟨a1,a2⟩,a3,a4⟩,⟨a5,λk hk=>⟨a8 k hk,a9 k hk,.inr (nests_ne0 (a5 k hk))⟩⟩,a7⟩
/-! ### stripped trees -/
theorem gm:∀us:List U,(∀k∈us,k.strip.flat=k.flat.map U.strip)->U.flats (us.map U.strip)=(U.flats us).map U.strip
 |[],_=>by rw[map_nil,bt];rfl
 |u::us,h=>by rw[map_cons,aD,aD,map_append,h u (by simp),gm us λk hk=>h k (by simp[hk])]
theorem fj:∀u:U,u.strip.flat=u.flat.map U.strip:=by
 refine U.ind λu ih=>?_
 rw[U.flat_eq,U.flat_eq,map_cons]
 congr 1
 rw[U.strip_eq]
 exact gm _ ih
theorem iM (u:U):u.strip.kind=u.kind:=by rw[U.strip_eq]
theorem oh (u:U):u.strip.label=u.label:=by rw[U.strip_eq]
theorem pj (l:List Wd):aS (l.map Wd.bare)=aS l:=by
 unfold aS
 rw[length_map,all_map]
 rfl
theorem own_strip (u:U):own1 u.strip=own1 u:=by
 rw[U.strip_eq]
 unfold own1
 simp only[length_map,pj]
theorem oy (l:List U):bW (l.map U.strip)=bW l:=by
 unfold bW
 rw[map_map]
 congr 1
 refine map_congr_left λk _=>?_
 simp only[Function.comp,iM,oh]
theorem nt (u:U):nodeOk u.strip=nodeOk u:=by
 have h:u.strip.kids=u.kids.map U.strip:=by rw[U.strip_eq]
 unfold nodeOk
 rw[own_strip,h,all_map,length_map,iM]
 simp only[oy]
 congr 3
 exact eR λk _=>by simp only[Function.comp,iM]
theorem kR:∀us:List U,(∀k∈us,k.strip.dep=k.dep)->U.deps (us.map U.strip)=U.deps us
 |[],_=>rfl
 |u::us,h=>by rw[map_cons,U.deps_cons,U.deps_cons,h u (by simp),kR us λk hk=>h k (by simp[hk])]
theorem dep_strip:∀u:U,u.strip.dep=u.dep:=by
 refine U.ind λu ih=>?_
 rw[U.dep_eq,U.dep_eq,show u.strip.kids=u.kids.map U.strip by rw[U.strip_eq]]
 exact kR _ ih
theorem cnt_strip (u:U):u.strip.cnt=u.cnt:=by unfold U.cnt;rw[fj,length_map]
theorem ids_strip (u:U):il u.strip=true:=by
 unfold il U.ids
 rw[fj]
 simp only[Bool.or_eq_true,all_eq_true,map_map]
 left
 intro x hx
 obtain⟨y,_,rfl⟩:=mem_map.1 hx
 simp[Function.comp,U.strip_eq,zId]
theorem lE (u:U):cG u.strip=br u:=by
 unfold cG br
 rw[kt u 0 (by omega),fj,all_map,dep_strip,cnt_strip,ids_strip,eR (p:=nodeOk ∘ U.strip) (q:=nodeOk) λx _=>nt x]
 simp[Bool.and_assoc]
def U.lone (u:U):U:=⟨zId,u.kind,u.label,u.head,u.words,[]⟩
theorem tree_lone (u:U):cG u.lone.strip=bp u:=by
 rw[lE,mb]
 unfold br
 rw[kt _ 0 (by omega),iV]
 have h1:u.lone.dep=0:=by rw[U.dep_eq];rfl
 have h2:u.lone.cnt=1:=by rw[U.cnt_eq];rfl
 rw[h1,h2]
 unfold nodeOk
 have:own1 u.lone=own1 u:=rfl
 rw[this]
 simp[U.lone,bW]
structure Good (u:U):Prop where
 nd:u.ids.Nodup
 node:∀y∈u.flat,nodeOk y=true
 dep:u.deep<=8
 cnt:u.flat.length<=1024
 root:u.kind=0↔u.id=zId
 zero:u.kind≠0->zId∉u.ids
theorem qS {p k:Int} (h:g6 p k=true):k≠0:=by
 rintro rfl
 unfold g6 at h
 revert h
 split<;>(try split)<;>(try split)<;>(try split)<;>(try split)<;>simp
theorem gh {u:U} (h:nodeOk u=true):∀k∈u.kids,g6 u.kind k.kind=true:=by
 unfold nodeOk at h
 simp only[Bool.and_eq_true]at h
 exact all_eq_true.1 h.2.1.1
theorem cl {u:U} (h:nodeOk u=true):u.kids.length<=64:=by
 unfold nodeOk at h
 simp only[Bool.and_eq_true,decide_eq_true_eq]at h
 have:=h.2.2
 omega
theorem Good.kind {u:U} (h:Good u) {i:Idd} (hi:i∈u.ids) (hne:u.id≠i):(fnd i u).kind≠0:=by
 obtain⟨own,d,j,w1,w2,hp⟩:=aW h.nd hi hne
 obtain⟨a,k,b,s,hk,hj,hl⟩:=hp.split
 have hown:own∈u.flat:=by
  have:=aM u h.nd hp.mem
  rw[hp.fnd]at this;exact this
 rw[aF hl]
 exact qS (gh (h.node own hown) k (by rw[s.eq];simp))
theorem ids_root {u:U} {A x B:List Idd} (e:u.ids=A++(x++B)) (hA:A≠[]):∃A',A=u.id::A':=by
 rw[U.ids_eq]at e
 cases A with
 |nil=>exact absurd rfl hA
 |cons a A'=>injection e with e1 e2;exact⟨A',by rw[e1]⟩
structure Root (u v:U):Prop where
 id:v.id=u.id
 kind:v.kind=u.kind
 label:v.label=u.label
 head:v.head=u.head
 words:v.words=u.words
theorem Root.refl (u:U):Root u u:=⟨rfl,rfl,rfl,rfl,rfl⟩
theorem Root.trans {u v w:U} (h:Root u v) (g:Root v w):Root u w:=⟨g.id.trans h.id,g.kind.trans h.kind,g.label.trans h.label,g.head.trans h.head,g.words.trans h.words⟩
theorem gP {u:U} {q:Idd} {g:List U->List U}:Root u (U.wth q (λy=>{y with kids:=g y.kids}) u):=
 ⟨ek (f:=λy=>{y with kids:=g y.kids}) U.id (λ_=>rfl) (λ_ _=>rfl) u,ek (f:=λy=>{y with kids:=g y.kids}) U.kind (λ_=>rfl) (λ_ _=>rfl) u,ek (f:=λy=>{y with kids:=g y.kids}) U.label (λ_=>rfl) (λ_ _=>rfl) u,ek (f:=λy=>{y with kids:=g y.kids}) U.head (λ_=>rfl) (λ_ _=>rfl) u,ek (f:=λy=>{y with kids:=g y.kids}) U.words (λ_=>rfl) (λ_ _=>rfl) u⟩
theorem pF {u:U} {i:Idd} {f:U->U} (h:u.id≠i):Root u (U.wth i f u):=by
 rw[U.wth_eq,if_neg h]
 exact⟨rfl,rfl,rfl,rfl,rfl⟩
theorem nT (A x B:List Idd):(A++(x++B)).Perm ((A++B)++x):=by
 rw[append_assoc]
 exact List.Perm.append_left A perm_append_comm
theorem ids_ins {u:U} (hn:u.ids.Nodup) {q:Idd} (hq:q∈u.ids) (k:Nat) (x:U):∃A B,A≠[]/\u.ids=A++B/\(U.wth q (λy=>{y with kids:=aR y.kids k x}) u).ids=A++(x.ids++B):=by
 obtain⟨l,r,e1,e2⟩:=nx (f:=λy=>{y with kids:=aR y.kids k x}) u hn hq
 refine⟨l++((fnd q u).id::U.idss ((fnd q u).kids.take k)),U.idss ((fnd q u).kids.drop k)++r,by simp,?_,?_⟩
 ·rw[e1,U.ids_eq]
  conv=>lhs;rw[←take_append_drop k (fnd q u).kids]
  rw[U.idss_app];simp[append_assoc]
 ·rw[e2,U.ids_eq]
  unfold aR
  simp only
  rw[U.idss_app,U.idss_cons];simp[append_assoc]
theorem flat_ins {y x:U} {k:Nat}:∀z∈({y with kids:=aR y.kids k x}:U).flat,z={y with kids:=aR y.kids k x}\/z∈U.flats y.kids\/z∈x.flat:=by
 intro z hz
 rw[U.flat_eq]at hz
 simp only[aR]at hz
 rw[cv,aD,mem_cons,mem_append,mem_append]at hz
 have e:U.flats y.kids=U.flats (y.kids.take k)++U.flats (y.kids.drop k):=by rw[←cv,take_append_drop]
 rw[e,mem_append]
 rcases hz with hz|hz|hz|hz
 ·exact .inl hz
 ·exact .inr (.inl (.inl hz))
 ·exact .inr (.inr hz)
 ·exact .inr (.inl (.inr hz))
theorem deep_ins {y x:U} {k:Nat}:({y with kids:=aR y.kids k x}:U).deep<=max y.deep (1+x.deep):=by
 rw[U.deep_eq,U.deep_eq y]
 unfold aR
 simp only
 rw[eN,U.deeps]
 have e:U.deeps y.kids=max (U.deeps (y.kids.take k)) (U.deeps (y.kids.drop k)):=by rw[←eN,take_append_drop]
 omega
theorem or {u:U} (h:Good u) {q:Idd} (hq:q∈u.ids) {x:U} (hx:∀z∈x.flat,nodeOk z=true) (hxn:(u.ids++x.ids).Nodup) (hz:zId∉x.ids) (k:Nat)
  (ht:¬bJ (fnd q u) (fnd q u).kids x≠0) (hl:(fnd q u).kids.length<64) (hd:(U.way q u).length+x.deep<=8) (hc:u.flat.length+x.flat.length<=1024):Good (U.wth q (λy=>{y with kids:=aR y.kids k x}) u):=by
 obtain⟨A,B,hA,e1,e2⟩:=ids_ins h.nd hq k x
 have hp:(U.wth q (λy=>{y with kids:=aR y.kids k x}) u).ids.Perm (u.ids++x.ids):=by rw[e1,e2];exact nT A x.ids B
 have hr:Root u (U.wth q (λy=>{y with kids:=aR y.kids k x}) u):=gP (g:=λl=>aR l k x)
 have hf:=aM u h.nd hq
 have hnf:=h.node _ hf
 refine⟨hp.nodup_iff.2 hxn,?_,?_,?_,?_,?_⟩
 ·refine gV (f:=λy=>{y with kids:=aR y.kids k x}) (λ_=>rfl) u h.nd hq h.node ?_
  intro z hz
  rcases flat_ins z hz with rfl|hz|hz
  ·have ht1:g6 (fnd q u).kind x.kind=true/\cK (fnd q u).kids x.kind x.label=false:=by
    unfold bJ at ht
    cases h1:g6 (fnd q u).kind x.kind<;>cases h2:cK (fnd q u).kids x.kind x.label<;>simp[h1,h2]at ht ⊢
   unfold nodeOk at hnf ⊢
   simp only[Bool.and_eq_true,decide_eq_true_eq]at hnf ⊢
   have etd:=take_append_drop k (fnd q u).kids
   refine⟨hnf.1,⟨?_,?_⟩,?_⟩
   ·have:=hnf.2.1.1
    rw[←etd,all_append]at this
    unfold aR
    rw[all_append,all_cons,ht1.1,Bool.true_and]
    exact this
   ·have:=hnf.2.1.2
    unfold bW at this ⊢
    unfold aR
    have h2:=ht1.2
    unfold cK at h2
    rw[any_eq_false]at h2
    have hno:(x.kind,x.label)∉(fnd q u).kids.map λk=>(k.kind,k.label):=by
     intro hm
     obtain⟨y,hy,e⟩:=mem_map.1 hm
     have:=h2 y hy
     injection e with e3 e4
     simp[e3,e4]at this
    have hp2:(((fnd q u).kids.take k++x::(fnd q u).kids.drop k).map λk=>(k.kind,k.label)).Perm ((x.kind,x.label)::(fnd q u).kids.map λk=>(k.kind,k.label)):=by
     have:((fnd q u).kids.take k++x::(fnd q u).kids.drop k).Perm (x::(fnd q u).kids):=by
      have:=perm_middle (a:=x) (l₁:=(fnd q u).kids.take k) (l₂:=(fnd q u).kids.drop k)
      rw[etd]at this
      exact this
     exact this.map _
    exact hp2.nodup_iff.2 (nodup_cons.2 ⟨hno,this⟩)
   ·unfold aR
    have:((fnd q u).kids.take k++x::(fnd q u).kids.drop k).length=(fnd q u).kids.length+1:=by
     conv=>rhs;rw[←etd]
     simp;omega
    rw[this];omega
  ·exact h.node z (by
    have:z∈(fnd q u).flat:=by rw[U.flat_eq];exact mem_cons_of_mem _ hz
    obtain⟨y,hy,hz⟩:=ce hz
    have hk:=iY hf hy
    have hsub:∀{v:U},v∈u.flat->∀w∈v.flat,w∈u.flat:=by
     intro v hv w hw
     revert hw
     revert hv
     revert w
     refine U.ind (p:=λv=>∀w,v∈u.flat->w∈v.flat->w∈u.flat) (λv ih w hv hw=>?_) v
     rw[U.flat_eq]at hw
     rcases mem_cons.1 hw with rfl|hw
     ·exact hv
     ·obtain⟨y,hy,hw⟩:=ce hw
      exact ih y hy w (iY hv hy) hw
    exact hsub hk z hz)
  ·exact hx z hz
 ·have:=(jf (f:=λy=>{y with kids:=aR y.kids k x}) u h.nd hq)
  have h2:=deep_ins (y:=fnd q u) (x:=x) (k:=k)
  have h3:=h.dep
  have h4:=eo hq
  omega
 ·have:=hp.length_eq
  rw[length_append,U.ids_len,U.ids_len,U.ids_len]at this
  omega
 ·rw[hr.kind,hr.id];exact h.root
 ·intro hk hm
  rw[hr.kind]at hk
  have:=hp.mem_iff.1 hm
  rcases mem_append.1 this with hm|hm
  ·exact h.zero hk hm
  ·exact hz hm
theorem fe {u v:U} (hv:v∈u.flat):∀w∈v.flat,w∈u.flat:=by
 intro w hw
 revert hw
 revert hv
 revert w
 refine U.ind (p:=λv=>∀w,v∈u.flat->w∈v.flat->w∈u.flat) (λv ih w hv hw=>?_) v
 rw[U.flat_eq]at hw
 rcases mem_cons.1 hw with rfl|hw
 ·exact hv
 ·obtain⟨y,hy,hw⟩:=ce hw
  exact ih y hy w (iY hv hy) hw
theorem ff {u:U} (h:Good u) {i:Idd} (hi:i∈u.ids) (hne:u.id≠i):Good (dF i u)/\Root u (dF i u)/\(dF i u).deep<=u.deep/\(∃A B,A≠[]/\u.ids=A++((fnd i u).ids++B)/\(dF i u).ids=A++B):=by
 obtain⟨own,d,j,w1,w2,hp⟩:=aW h.nd hi hne
 obtain⟨a,x,b,s,hx,hj,hl⟩:=hp.split
 have hfx:fnd i u=x:=aF hl
 subst hj
 have hW:dF i u=U.wth own.id (λy=>{y with kids:=aL y.kids a.length}) u:=by unfold dF;rw[w1]
 rw[hW,hfx]
 obtain⟨l,r,e1,e2⟩:=nx (f:=λy=>{y with kids:=aL y.kids a.length}) u h.nd hp.mem
 rw[hp.fnd]at e1 e2
 rw[s.eq,bG]at e2
 have hids:∃A B,A≠[]/\u.ids=A++(x.ids++B)/\(U.wth own.id (λy=>{y with kids:=aL y.kids a.length}) u).ids=A++B:=by
  refine⟨l++(own.id::U.idss a),U.idss b++r,by simp,?_,?_⟩
  ·rw[e1,U.ids_eq,s.eq,U.idss_app,U.idss_cons];simp[append_assoc]
  ·rw[e2,U.ids_eq]
   simp only
   rw[U.idss_app];simp[append_assoc]
 have hr:Root u (U.wth own.id (λy=>{y with kids:=aL y.kids a.length}) u):=gP (g:=λl=>aL l a.length)
 have hown:own∈u.flat:=by
  have:=aM u h.nd hp.mem
  rw[hp.fnd]at this;exact this
 obtain⟨A,B,hA,f1,f2⟩:=hids
 have hsub:(U.wth own.id (λy=>{y with kids:=aL y.kids a.length}) u).ids.Sublist u.ids:=by
  rw[f1,f2]
  exact(List.Sublist.refl A).append (sublist_append_right _ _)
 have hdp:(U.wth own.id (λy=>{y with kids:=aL y.kids a.length}) u).deep<=u.deep:=by
  have h1:=(jf (f:=λy=>{y with kids:=aL y.kids a.length}) u h.nd hp.mem)
  rw[hp.fnd]at h1
  have h2:({own with kids:=aL own.kids a.length}:U).deep<=own.deep:=by
   rw[U.deep_eq,U.deep_eq own,s.eq]
   simp only
   rw[bG,eN,eN,U.deeps]
   omega
  omega
 refine⟨⟨h.nd.sublist hsub,?_,Nat.le_trans hdp h.dep,?_,?_,?_⟩,hr,hdp,A,B,hA,f1,f2⟩
 ·refine gV (f:=λy=>{y with kids:=aL y.kids a.length}) (λ_=>rfl) u h.nd hp.mem h.node ?_
  rw[hp.fnd]
  intro z hz
  rw[U.flat_eq]at hz
  simp only at hz
  rw[s.eq,bG,cv,mem_cons,mem_append]at hz
  rcases hz with rfl|hz|hz
  ·have hnf:=h.node own hown
   unfold nodeOk at hnf ⊢
   simp only[Bool.and_eq_true,decide_eq_true_eq]at hnf ⊢
   rw[s.eq]at hnf
   refine⟨hnf.1,⟨?_,?_⟩,?_⟩
   ·have:=hnf.2.1.1
    rw[all_append,all_cons,Bool.and_eq_true,Bool.and_eq_true]at this
    rw[all_append,this.1,this.2.2];rfl
   ·have:=hnf.2.1.2
    unfold bW at this ⊢
    refine this.sublist (List.Sublist.map _ ?_)
    exact(List.Sublist.refl a).append (sublist_cons_self _ _)
   ·have:=hnf.2.2
    simp at this ⊢
    omega
  ·obtain⟨y,hy,hz⟩:=ce hz
   exact h.node z (fe hown z (U.flat_kid (by rw[s.eq];simp[hy]) hz))
  ·obtain⟨y,hy,hz⟩:=ce hz
   exact h.node z (fe hown z (U.flat_kid (by rw[s.eq];simp[hy]) hz))
 ·have:=hsub.length_le
  rw[U.ids_len,U.ids_len]at this
  exact Nat.le_trans this h.cnt
 ·rw[hr.kind,hr.id];exact h.root
 ·intro hk hm
  rw[hr.kind]at hk
  exact h.zero hk (hsub.subset hm)
end Go.Av
