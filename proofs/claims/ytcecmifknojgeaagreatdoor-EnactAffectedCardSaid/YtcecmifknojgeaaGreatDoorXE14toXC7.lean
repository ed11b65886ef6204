/-
  ENACT, 14: what an item leaves as it was.
-/
import Derived.Test.YtcecmifknojgeaaGreatDoorXE12toXL27
import Derived.Test.YtcecmifknojgeaaGreatDoorXM3toXM6
import Derived.Test.YtcecmifknojgeaaGreatDoorXL18toXOpI
import Derived.Test.YtcecmifknojgeaaGreatDoorXM7toXM9
import Derived.Test.YtcecmifknojgeaaGreatDoorXL29toXL51
import Derived.Test.YtcecmifknojgeaaGreatDoorXOpenGtoXCS
import Derived.Test.YtcecmifknojgeaaGreatDoorXAv24toXAv26
import Derived.Test.YtcecmifknojgeaaGreatDoorProg
namespace Go.Av
open Go Go.RowKit Go.Proofs List
set_option linter.unusedSimpArgs false
set_option linter.unusedVariables false
abbrev K5:=Idd×Int×List UInt8×List Wd×List Wd
def U.k5 (y:U):K5:=(y.id,y.kind,y.label,y.head,y.words)
def U.all5 (u:U):List K5:=u.flat.map U.k5
def U.alls5 (us:List U):List K5:=(U.flats us).map U.k5
theorem U.all5_eq (u:U):u.all5=u.k5::U.alls5 u.kids:=by unfold U.all5 U.alls5;rw[U.flat_eq];rfl
theorem U.alls5_nil:U.alls5 []=[]:=by unfold U.alls5;rw[bt];rfl
theorem U.alls5_cons (u:U) (us:List U):U.alls5 (u::us)=u.all5++U.alls5 us:=by unfold U.alls5 U.all5;rw[aD,map_append]
theorem U.alls5_app (a b:List U):U.alls5 (a++b)=U.alls5 a++U.alls5 b:=by unfold U.alls5;rw[cv,map_append]
theorem k5_wth {i:Idd} {f:U->U} (u:U) (hn:u.ids.Nodup) (hi:i∈u.ids):∃l r,u.all5=l++((fnd i u).all5++r)/\(U.wth i f u).all5=l++((f (fnd i u)).all5++r):=by
 refine U.wayInd (i:=i) (p:=λu=>∃l r,u.all5=l++((fnd i u).all5++r)/\(U.wth i f u).all5=l++((f (fnd i u)).all5++r)) ?_ ?_ u hn hi
 ·intro u _ h
  have e:fnd i u=u:=aF (by rw[aO h];rfl)
  refine⟨[],[],?_,?_⟩
  ·rw[e];simp
  ·rw[aZ h,e];simp
 ·intro u a k b hn h s ⟨l,r,e1,e2⟩
  rw[s.fnd hn s.mem]
  refine⟨u.k5::(U.alls5 a++l),r++U.alls5 b,?_,?_⟩
  ·rw[U.all5_eq,s.eq,U.alls5_app,U.alls5_cons,e1];simp[append_assoc]
  ·rw[s.wth h,U.all5_eq,show({u with kids:=a++U.wth i f k::b}:U).k5=u.k5 from rfl]
   simp only
   rw[U.alls5_app,U.alls5_cons,e2];simp[append_assoc]
theorem k5_ins {u:U} (hn:u.ids.Nodup) {q:Idd} (hq:q∈u.ids) (k:Nat) (x:U):∃A B,u.all5=A++B/\(U.wth q (λy=>{y with kids:=aR y.kids k x}) u).all5=A++(x.all5++B):=by
 obtain⟨l,r,e1,e2⟩:=k5_wth (f:=λy=>{y with kids:=aR y.kids k x}) u hn hq
 refine⟨l++((fnd q u).k5::U.alls5 ((fnd q u).kids.take k)),U.alls5 ((fnd q u).kids.drop k)++r,?_,?_⟩
 ·rw[e1,U.all5_eq]
  conv=>lhs;rw[←take_append_drop k (fnd q u).kids]
  rw[U.alls5_app];simp[append_assoc]
 ·rw[e2,U.all5_eq,show({fnd q u with kids:=aR (fnd q u).kids k x}:U).k5=(fnd q u).k5 from rfl]
  unfold aR
  simp only
  rw[U.alls5_app,U.alls5_cons];simp[append_assoc]
theorem k5_del {u:U} (hn:u.ids.Nodup) {i:Idd} (hi:i∈u.ids) (hne:u.id≠i):∃A B,u.all5=A++((fnd i u).all5++B)/\(without i u).all5=A++B:=by
 obtain⟨own,d,j,w1,w2,hp⟩:=aW hn hi hne
 obtain⟨a,x,b,s,hx,hj,hl⟩:=hp.split
 have hfx:fnd i u=x:=aF hl
 subst hj
 have hW:without i u=U.wth own.id (λy=>{y with kids:=aL y.kids a.length}) u:=by unfold without;rw[w1]
 rw[hW,hfx]
 obtain⟨l,r,e1,e2⟩:=k5_wth (f:=λy=>{y with kids:=aL y.kids a.length}) u hn hp.mem
 rw[hp.fnd]at e1 e2
 rw[s.eq,bG]at e2
 refine⟨l++(own.k5::U.alls5 a),U.alls5 b++r,?_,?_⟩
 ·rw[e1,U.all5_eq,s.eq,U.alls5_app,U.alls5_cons];simp[append_assoc]
 ·rw[e2,U.all5_eq,show({own with kids:=a++b}:U).k5=own.k5 from rfl]
  simp only
  rw[U.alls5_app];simp[append_assoc]
theorem ku {u:U} (hn:u.ids.Nodup) {i:Idd} (hi:i∈u.ids) {f:U->U} (hf:∀y,(f y).kids=y.kids):∃A B,u.all5=A++((fnd i u).k5::B)/\(U.wth i f u).all5=A++((f (fnd i u)).k5::B):=by
 obtain⟨l,r,e1,e2⟩:=k5_wth (f:=f) u hn hi
 refine⟨l,U.alls5 (fnd i u).kids++r,?_,?_⟩
 ·rw[e1,U.all5_eq];simp
 ·rw[e2,U.all5_eq,hf];simp
/-! ### an item that fails changes nothing -/
theorem insP_err {u:U} {i:Idd} {d:Dd} (h:(insP u i d).2≠0):(insP u i d).1=u:=by
 unfold insP at h ⊢
 (repeat' split)<;>(try rfl)
 all_goals(exfalso;simp_all)
theorem movP_err {u:U} {i t:Idd} {d:Dd} (h:(movP u i t d).2≠0):(movP u i t d).1=u:=by
 unfold movP at h ⊢
 (repeat' split)<;>(try rfl)
 all_goals(exfalso;simp_all)
theorem doP_err {u:U} {d:Dd} (h:(doP u d).2≠0):(doP u d).1=u:=by
 unfold doP at h ⊢
 split
 ·rfl
 rename_i c1
 rw[if_neg c1]at h
 split
 ·rfl
 rename_i c2
 rw[if_neg c2]at h
 split
 ·rename_i c3
  rw[if_pos c3]at h
  exact insP_err h
 rename_i c3
 rw[if_neg c3]at h
 split
 ·split<;>rfl
 rename_i c4
 rw[if_neg c4]at h
 split
 ·rename_i c5
  rw[if_pos c5]at h;exact absurd rfl h
 rename_i c5
 rw[if_neg c5]at h
 split
 ·rename_i c6
  rw[if_pos c6]at h
  split
  ·rfl
  ·rename_i c7;rw[if_neg c7]at h;exact absurd rfl h
 rename_i c6
 rw[if_neg c6]at h
 split
 ·rename_i c7
  rw[if_pos c7]at h;exact absurd rfl h
 rename_i c7
 rw[if_neg c7]at h
 split
 ·rename_i c8
  rw[if_pos c8]at h
  split
  ·rfl
  ·rename_i c9;rw[if_neg c9]at h;exact absurd rfl h
 rename_i c8
 rw[if_neg c8]at h
 split
 ·rfl
 rename_i c9
 rw[if_neg c9]at h
 exact movP_err h
inductive Did (u:U) (d:Dd) (i:Idd) (v:U):Prop
 |ins (A B:List K5) (k:d.it.kind=0) (e1:u.all5=A++B) (e2:v.all5=A++((stampU d.it.unit d.act d.item).all5++B)) (no:∀j∈(stampU d.it.unit d.act d.item).ids,j∉u.ids)
 |del (A B:List K5) (k:d.it.kind=1) (e1:u.all5=A++((fnd i u).all5++B)) (e2:v.all5=A++B)
 |words (A B:List K5) (k:d.it.kind=2\/d.it.kind=3) (e1:u.all5=A++((fnd i u).k5::B)) (e2:v.all5=A++(({fnd i u with words:=(editE (fnd i u).words d.it d.act d.item).1}:U).k5::B)) (ok:(editE (fnd i u).words d.it d.act d.item).2=0)
 |head (A B:List K5) (k:d.it.kind=4) (e1:u.all5=A++((fnd i u).k5::B)) (e2:v.all5=A++(({fnd i u with head:=markW d.act d.item d.it.new 0}:U).k5::B))
 |label (A B:List K5) (k:d.it.kind=5) (e1:u.all5=A++((fnd i u).k5::B)) (e2:v.all5=A++(({fnd i u with label:=d.it.label}:U).k5::B))
 |move (A B C D:List K5) (k:d.it.kind=6) (e1:u.all5=A++((fnd i u).all5++B)) (e2:v.all5=C++((fnd i u).all5++D)) (e3:A++B=C++D)
theorem mov_did {u:U} (h:Good u) {i t:Idd} (hi:i∈u.ids) (hne:u.id≠i) (ht:t∈u.ids) {d:Dd} (h0:0<=d.it.wh) (h3:d.it.wh<=3) (hk:d.it.kind=6) (hok:(movP u i t d).2=0):Did u d i (movP u i t d).1:=by
 obtain⟨A,B,e1,e2⟩:=k5_del h.nd hi hne
 obtain⟨g1,g2,g3,A',B',hA,f1,f2⟩:=ff h hi hne
 obtain⟨own,dO,j,w1,w2,hp⟩:=aW h.nd hi hne
 obtain⟨a,x,b,s,hx,hj,hl⟩:=hp.split
 have hfx:fnd i u=x:=aF hl
 unfold movP at hok ⊢
 split at hok
 ·cases hok
 ·rename_i q k e
  split at hok
  ·rename_i c;exact absurd hok c
  ·rename_i htk
   split at hok
   ·cases hok
   ·rename_i hf
    rw[if_neg htk,if_neg hf]
    have hq:q∈(without i u).ids:=by
     have hqu:q∈u.ids/\q∉(fnd i u).ids:=by
      unfold fk at e
      rw[w1]at e
      simp only at e
      split at e
      ·cases e
      ·rename_i hc
       rw[not_or]at hc
       split at e
       ·injection e with e;injection e with e3 e4
        subst e3
        refine⟨hp.mem,?_⟩
        rw[hfx]
        have:=(U.nd_kids hp.nd).2
        rw[s.eq,U.idss_app,U.idss_cons]at this
        exact λhm=>this (mem_append.2 (.inr (mem_append.2 (.inl hm))))
       ·rename_i hti
        obtain⟨⟨q',k'⟩,e5,e6⟩:=Option.map_eq_some_iff.1 e
        injection e6 with e7 e8
        subst e7
        have hr:¬(besides d.it.wh=true/\t=u.id):=by
         rintro⟨r1,r2⟩
         have hh:d.it.wh=2\/d.it.wh=3:=by simpa[besides]using r1
         unfold spot at e5
         rw[cB r2.symm]at e5
         rcases hh with hh|hh<;>simp[hh]at e5
        obtain⟨P,dp,k2,hg⟩:=iP h.nd ht h0 h3 hr
        have:=hg.spot
        rw[e5]at this
        injection this with this
        injection this with e9 e10
        simp only at e9 ⊢
        rw[e9]
        refine⟨hg.mem,hg.out i hi λhm=>?_⟩
        exact hc.1 ((gI u h.nd ht hi).2 ⟨hti,hm⟩)
     rw[f2]
     have:=hqu.1
     rw[f1]at this
     rcases mem_append.1 this with hm|hm
     ·exact mem_append.2 (.inl hm)
     ·rcases mem_append.1 hm with hm|hm
      ·exact absurd hm hqu.2
      ·exact mem_append.2 (.inr hm)
    obtain⟨C,D,e5,e6⟩:=k5_ins g1.nd hq k (fnd i u)
    exact .move A B C D hk e1 e6 (by rw[←e2,←e5])
theorem nb {u:U} (h:Good u) (d:Dd) (hok:(doP u d).2=0):d.it.may=true/\chg d.it.kind=true/\(one u d.it.at_).2=0/\(d.it.kind≠0->(one u d.it.at_).1≠u.id)/\Did u d (one u d.it.at_).1 (doP u d).1:=by
 unfold doP at hok ⊢
 split at hok
 ·cases hok
 rename_i c1
 rw[if_neg c1]
 have hm:d.it.may=true:=by cases hh:d.it.may<;>simp_all
 have hc:chg d.it.kind=true:=by cases hh:chg d.it.kind<;>simp_all
 split at hok
 ·rename_i c2;exact absurd hok c2
 rename_i c2
 rw[if_neg c2]
 have h2:(one u d.it.at_).2=0:=by simpa using c2
 have hi:=bU (u:=u) (p:=d.it.at_) h2
 refine⟨hm,hc,h2,?_⟩
 obtain⟨i,hie⟩:∃i,(one u d.it.at_).1=i:=⟨_,rfl⟩
 rw[hie]at hi hok ⊢
 split at hok
 ·rename_i k0
  refine⟨λh=>absurd k0 h,?_⟩
  rw[if_pos k0]
  unfold insP at hok ⊢
  split at hok
  ·cases hok
  ·rename_i q k e
   split at hok
   ·rename_i c;exact absurd hok c
   ·rename_i c3
    rw[if_neg c3]
    split at hok
    ·cases hok
    ·rename_i c4
     rw[if_neg c4]
     split at hok
     ·cases hok
     ·rename_i c5
      rw[if_neg c5]
      obtain⟨A,B,e1,e2⟩:=k5_ins h.nd (kz h.nd hi e) k (stampU d.it.unit d.act d.item)
      exact .ins A B k0 e1 e2 λy hy hyu=>c5 (any_eq_true.2 ⟨y,hy,decide_eq_true hyu⟩)
 rename_i k0
 rw[if_neg k0]
 split at hok
 ·split at hok
  ·rename_i c;exact absurd hok c.2
  ·cases hok
 rename_i hiu
 rw[if_neg hiu]
 have hne:u.id≠i:=λe=>hiu e.symm
 refine⟨λ_=>hiu,?_⟩
 split at hok
 ·rename_i k1
  rw[if_pos k1]
  obtain⟨A,B,e1,e2⟩:=k5_del h.nd hi hne
  exact .del A B k1 e1 e2
 rename_i k1
 rw[if_neg k1]
 split at hok
 ·rename_i k2
  rw[if_pos k2]
  split at hok
  ·rename_i c;exact absurd hok c
  ·rename_i he
   rw[if_neg he]
   obtain⟨A,B,e1,e2⟩:=ku h.nd hi (f:=λy=>{y with words:=(editE (fnd i u).words d.it d.act d.item).1}) (λ_=>rfl)
   exact .words A B k2 e1 e2 (by simpa using he)
 rename_i k2
 rw[if_neg k2]
 split at hok
 ·rename_i k4
  rw[if_pos k4]
  obtain⟨A,B,e1,e2⟩:=ku h.nd hi (f:=λy=>{y with head:=markW d.act d.item d.it.new 0}) (λ_=>rfl)
  exact .head A B k4 e1 e2
 rename_i k4
 rw[if_neg k4]
 split at hok
 ·rename_i k5
  rw[if_pos k5]
  split at hok
  ·cases hok
  ·rename_i he
   rw[if_neg he]
   obtain⟨A,B,e1,e2⟩:=ku h.nd hi (f:=λy=>{y with label:=d.it.label}) (λ_=>rfl)
   exact .label A B k5 e1 e2
 rename_i k5
 rw[if_neg k5]
 split at hok
 ·rename_i c;exact absurd hok c
 rename_i c7
 rw[if_neg c7]
 have ht:=bU (u:=u) (p:=d.it.to_) (by simpa using c7)
 have hk6:d.it.kind=6:=by
  simp only[chg,Bool.and_eq_true,decide_eq_true_eq]at hc
  omega
 have hw:=eM hm (.inr hk6)
 exact mov_did h hi hne ht hw.1 hw.2 hk6 hok
def aff (u:U) (d:Dd):List Idd:=
 if (doP u d).2≠0 then []else if d.it.kind=0 then (stampU d.it.unit d.act d.item).ids else if d.it.kind=1 then (fnd (one u d.it.at_).1 u).ids else [(one u d.it.at_).1]
structure Ms where
 act:Int
 item:Int
 why:Int
 deriving DecidableEq,Inhabited
def Ms.cs (m:Ms):List AV:=[.int .i64 m.act,.int .i64 m.item,.int .i64 m.why]
def lu (d:Dd) (e:Int):List Ms:=if e=0 then []else [⟨d.act,d.item,e⟩]
def dJ (u:U) (d:Dd):U×List Ms:=if chg d.it.kind=false then (u,[])else ((doP u d).1,lu d (doP u d).2)
def allP:U->List Dd->U×List Ms
 |u,[]=>(u,[])
 |u,d::l=>((allP (dJ u d).1 l).1,(dJ u d).2++(allP (dJ u d).1 l).2)
theorem ie (u:U) (d:Dd) (l:List Dd):allP u (d::l)=((allP (dJ u d).1 l).1,(dJ u d).2++(allP (dJ u d).1 l).2):=rfl
theorem fJ {u:U} (h:Good u) (d:Dd):Good (dJ u d).1/\Root u (dJ u d).1:=by
 unfold dJ
 split
 ·exact⟨h,Root.refl u⟩
 ·exact m9 h d
theorem iR:∀{l:List Dd} {u:U},Good u->Good (allP u l).1/\Root u (allP u l).1
 |[],u,h=>⟨h,Root.refl u⟩
 |d::l,u,h=>by
  obtain⟨h1,h2⟩:=fJ h d
  obtain⟨h3,h4⟩:=iR (l:=l) h1
  exact⟨h3,h2.trans h4⟩
theorem miss_len (u:U) (d:Dd):(dJ u d).2.length<=1:=by
 unfold dJ lu
 split
 ·simp
 ·simp only
  split<;>simp
theorem m8:∀(l:List Dd) (u:U),(allP u l).2.length<=l.length
 |[],u=>by simp[allP]
 |d::l,u=>by
  rw[ie,length_append,length_cons]
  have:=miss_len u d
  have:=m8 l (dJ u d).1
  omega
/-! ### the document's words for the same -/
def gu (u:U) (d:Dd):U×List Ms:=if chg d.it.kind=false then (u,[])else ((doR u d).1,lu d (doR u d).2)
def allR:U->List Dd->U×List Ms
 |u,[]=>(u,[])
 |u,d::l=>((allR (gu u d).1 l).1,(gu u d).2++(allR (gu u d).1 l).2)
theorem jk {u:U} (h:Good u) (d:Dd):doR u d=doP u d:=do_eq u h.fine d λhm hk=>eM hm hk
theorem kN:∀{l:List Dd} {u:U},Good u->allR u l=allP u l
 |[],u,h=>rfl
 |d::l,u,h=>by
  have e:gu u d=dJ u d:=by unfold gu dJ;rw[jk h]
  rw[allR,ie,e,kN (fJ h d).1]
/-! ### sizes -/
def wt5 (k:K5):Nat:=1+k.2.2.2.2.length / 50+k.2.2.2.1.length / 50+k.2.2.1.length / 50
def wtL (L:List K5):Nat:=(L.map wt5).sum
theorem wtL_nil:wtL []=0:=rfl
theorem eP (k:K5) (L:List K5):wtL (k::L)=wt5 k+wtL L:=by simp[wtL]
theorem bZ (A B:List K5):wtL (A++B)=wtL A+wtL B:=by simp[wtL]
theorem stamp_wt (a b:Int):∀(u:U) (n m:Int),wtL (U.stamp a b u n m).1.all5=wtL u.all5:=by
 refine U.ind λu ih n m=>?_
 have h:∀(us:List U),(∀k∈us,∀n m,wtL (U.stamp a b k n m).1.all5=wtL k.all5)->∀n m,wtL (U.alls5 (U.stamps a b us n m).1)=wtL (U.alls5 us):=by
  intro us
  induction us with
  |nil=>intro _ n m;rw[U.stamps_nil]
  |cons x us ihu=>
   intro h n m
   rw[U.stamps_cons]
   simp only
   rw[U.alls5_cons,U.alls5_cons,bZ,bZ,h x (by simp),ihu (λk hk=>h k (by simp[hk]))]
 rw[U.stamp_eq,U.all5_eq,U.all5_eq u,eP,eP]
 simp only
 rw[h u.kids ih]
 congr 1
 simp[wt5,U.k5,bq]
theorem all5_node {v:U} {k:K5} (hk:k∈v.all5):∃y∈v.flat,y.k5=k:=mem_map.1 hk
theorem wt5_node {v:U} (h:Good v) {k:K5} (hk:k∈v.all5):wt5 k<=11:=by
 obtain⟨y,hy,rfl⟩:=all5_node hk
 have s:=dk (h.node y hy)
 have h1:=s.label
 have h2:=s.head.1
 have h3:=s.words.1
 simp only[wt5,U.k5]
 omega
theorem do_wt {u:U} (h:Good u) (d:Dd) (hx:wtL d.it.unit.all5<=20):wtL (doP u d).1.all5<=wtL u.all5+20:=by
 by_cases hok:(doP u d).2≠0
 ·rw[doP_err hok];omega
 have hok:(doP u d).2=0:=by simpa using hok
 have hg:=(m9 h d).1
 obtain⟨hm,hc,h2,h3,hd⟩:=nb h d hok
 generalize (one u d.it.at_).1=i at*
 generalize (doP u d).1=v at*
 have other:∀(A B:List K5) (k k':K5),u.all5=A++(k::B)->v.all5=A++(k'::B)->wtL v.all5<=wtL u.all5+20:=by
  intro A B k k' e1 e2
  have:=wt5_node hg (k:=k') (by rw[e2];simp)
  rw[e1,e2,bZ,bZ,eP,eP]
  omega
 cases hd with
 |ins A B k e1 e2 no=>
  have:wtL (stampU d.it.unit d.act d.item).all5=wtL d.it.unit.all5:=stamp_wt _ _ _ _ _
  rw[e1,e2,bZ,bZ,bZ,this];omega
 |del A B k e1 e2=>rw[e1,e2,bZ,bZ,bZ];omega
 |words A B k e1 e2 ok=>exact other A B _ _ e1 e2
 |head A B k e1 e2=>exact other A B _ _ e1 e2
 |label A B k e1 e2=>exact other A B _ _ e1 e2
 |move A B C D k e1 e2 e3=>
  have:=congrArg wtL e3
  rw[bZ,bZ]at this
  rw[e1,e2,bZ,bZ,bZ,bZ];omega
theorem all_wt:∀{l:List Dd} {u:U},Good u->(∀d∈l,wtL d.it.unit.all5<=20)->wtL (allP u l).1.all5<=wtL u.all5+20*l.length
 |[],u,h,_=>by simp[allP]
 |d::l,u,h,hx=>by
  have h1:=all_wt (l:=l) (fJ h d).1 (λe he=>hx e (by simp[he]))
  have h2:wtL (dJ u d).1.all5<=wtL u.all5+20:=by
   unfold dJ
   split
   ·exact Nat.le_add_right _ _
   ·exact do_wt h d (hx d (by simp))
  rw[ie,length_cons]
  simp only
  omega
theorem pN {u:U} (h:Good u):cG u=true:=by
 unfold cG
 simp only[Bool.and_eq_true,decide_eq_true_eq]
 refine⟨all_eq_true.2 h.node,by have:=h.dep;unfold U.dep;omega,by have:=h.cnt;unfold U.cnt;omega,?_⟩
 unfold il
 rw[Bool.or_eq_true,Bool.and_eq_true,decide_eq_true_eq,decide_eq_true_eq]
 refine .inr ⟨?_,h.nd⟩
 rw[decide_eq_decide]
 exact h.root.symm
/-! ### from nothing -/
def iu:U:=⟨zId,0,[],[],[],[]⟩
theorem pG:Good iu:=by
 have hf:iu.flat=[iu]:=by rw[U.flat_eq];show iu::U.flats []=_;rw[bt]
 refine⟨?_,?_,?_,?_,⟨λ_=>rfl,λ_=>rfl⟩,λh=>absurd rfl h⟩
 ·unfold U.ids;rw[hf];simp
 ·rw[hf]
  intro y hy
  simp only[mem_singleton]at hy
  subst hy
  decide
 ·rw[U.deep_eq];show U.deeps []<=8;rw[U.deeps];omega
 ·rw[hf];simp
mutual
def U.few7:U->Int->Int->Int
 |⟨_,_,l,h,w,ks⟩,left,d=>if 12<d then -1 else U.fews7 ks (((left-1-((w.length / 50:Nat):Int))-((h.length / 50:Nat):Int))-((l.length / 50:Nat):Int)) (d+1)
def U.fews7:List U->Int->Int->Int
 |[],left,_=>left
 |u::us,left,d=>if 0<=left then U.fews7 us (U.few7 u left d) d else left
end
theorem U.few7_eq (u:U) (left d:Int):u.few7 left d=if 12<d then -1 else U.fews7 u.kids (((left-1-((u.words.length / 50:Nat):Int))-((u.head.length / 50:Nat):Int))-((u.label.length / 50:Nat):Int)) (d+1):=by cases u;rw[U.few7]
theorem wt5_k (u:U):wt5 u.k5=1+u.words.length / 50+u.head.length / 50+u.label.length / 50:=rfl
theorem wtL_all (u:U):wtL u.all5=wt5 u.k5+wtL (U.alls5 u.kids):=by rw[U.all5_eq,eP]
theorem m7:∀(u:U) (left d:Int),0<=u.few7 left d->d<=12/\u.few7 left d=left-(wtL u.all5:Nat):=by
 refine U.ind λu ih left d h=>?_
 rw[U.few7_eq]at h ⊢
 split at h
 ·omega
 ·rename_i hd
  rw[if_neg hd]
  have key:∀(us:List U),(∀k∈us,k∈u.kids)->∀l:Int,0<=U.fews7 us l (d+1)->U.fews7 us l (d+1)=l-(wtL (U.alls5 us):Nat):=by
   intro us
   induction us with
   |nil=>intro _ l _;rw[U.fews7,U.alls5_nil,wtL_nil];omega
   |cons k us ihu=>
    intro hk l hl
    rw[U.fews7]at hl ⊢
    split at hl
    ·rename_i h0
     rw[if_pos h0]
     have h1:=ihu (λq hq=>hk q (by simp[hq])) _ hl
     have h2:=(ih k (hk k (by simp)) l (d+1) (by omega)).2
     rw[U.alls5_cons,bZ]
     omega
    ·omega
  have h1:=key u.kids (λ_ h=>h) _ h
  rw[wtL_all,wt5_k]
  omega
theorem few7_of:∀(u:U) (left d:Int),d+u.deep<=12->(wtL u.all5:Int)<=left->u.few7 left d=left-(wtL u.all5:Nat):=by
 refine U.ind λu ih left d hd hw=>?_
 rw[U.few7_eq,if_neg (by omega)]
 rw[wtL_all,wt5_k]at hw ⊢
 have key:∀(us:List U),(∀k∈us,k∈u.kids)->d+(U.deeps us:Nat)<=12->∀l:Int,(wtL (U.alls5 us):Int)<=l->U.fews7 us l (d+1)=l-(wtL (U.alls5 us):Nat):=by
  intro us
  induction us with
  |nil=>intro _ _ l _;rw[U.fews7,U.alls5_nil,wtL_nil];omega
  |cons k us ihu=>
   intro hk hdd l hl
   rw[U.alls5_cons,bZ]at hl ⊢
   rw[U.deeps]at hdd
   rw[U.fews7,if_pos (by omega),ih k (hk k (by simp)) l (d+1) (by omega) (by omega),ihu (λq hq=>hk q (by simp[hq])) (by omega) _ (by omega)]
   omega
 have:=key u.kids (λ_ h=>h) (by rw[U.deep_eq]at hd;exact hd) _ (show(wtL (U.alls5 u.kids):Int)<=((left-1-((u.words.length / 50:Nat):Int))-((u.head.length / 50:Nat):Int))-((u.label.length / 50:Nat):Int)by omega)
 rw[this]
 omega
theorem wt5_le {k:K5}:∀{L:List K5},k∈L->wt5 k<=wtL L
 |[],h=>by cases h
 |a::L,h=>by
  rw[eP]
  rcases mem_cons.1 h with rfl|h
  ·omega
  ·have:=wt5_le h;omega
theorem len_wtL:∀L:List K5,L.length<=wtL L
 |[]=>Nat.le_refl _
 |a::L=>by
  have:=len_wtL L
  rw[eP,length_cons]
  unfold wt5
  omega
theorem fit_node:∀u:U,u.fit->∀x∈u.flat,x.fit:=by
 refine U.ind λu ih h x hx=>?_
 rw[U.flat_eq]at hx
 rcases mem_cons.1 hx with rfl|hx
 ·exact h
 ·obtain⟨k,hk,hx⟩:=js hx
  exact ih k hk (((U.fit_eq u).1 h).2.2.2.2 k hk) x hx
theorem lM {u:U} (hf:u.fit) {n:Int} (hn:n<=1000) (h:0<=u.few7 n 0):u.Short:=by
 have h1:=(m7 u n 0 h).2
 have hw:wtL u.all5<=1000:=by omega
 have hl:=len_wtL u.all5
 have hl2:u.all5.length=u.flat.length:=by unfold U.all5;rw[length_map]
 refine⟨⟨hf,by omega⟩,λx hx=>?_⟩
 obtain⟨f1,⟨f2,f3⟩,⟨f4,f5⟩,_⟩:=(U.fit_eq x).1 (fit_node u hf x hx)
 have h5:wt5 x.k5<=wtL u.all5:=wt5_le (mem_map.2 ⟨x,hx,rfl⟩)
 rw[wt5_k]at h5
 exact⟨f1,by omega,by omega,f3,f5⟩
def idsB (u:U):Bool:=decide u.ids.Nodup&&(!decide (zId∈u.ids)||decide (u.kind=0))
def dV (u:U) (n:Int):Bool:=decide (0<=u.few7 n 0)&&(cG u&&idsB u)
theorem fM {u:U} {n:Int} (h:dV u n=true):Good u:=by
 unfold dV idsB cG at h
 simp only[Bool.and_eq_true,decide_eq_true_eq]at h
 obtain⟨h0,⟨h1,h2,h3,h4⟩,h5,h6⟩:=h
 have h6':zId∈u.ids->u.kind=0:=by
  intro hz
  simpa[hz]using h6
 have hid:u.id∈u.ids:=by rw[U.ids_eq];simp
 refine⟨h5,all_eq_true.1 h1,by unfold U.dep at h2;omega,by unfold U.cnt at h3;omega,?_,λhk hz=>hk (h6' hz)⟩
 unfold il at h4
 rw[Bool.or_eq_true]at h4
 rcases h4 with h4|h4
 ·have e:u.id=zId:=by simpa using(all_eq_true.1 h4) _ hid
  exact⟨λ_=>e,λ_=>h6' (e ▸ hid)⟩
 ·rw[Bool.and_eq_true,decide_eq_true_eq,decide_eq_decide]at h4
  exact h4.1.symm
theorem good_book {u:U} (h:Good u) {n:Int} (hw:(wtL u.all5:Int)<=n):dV u n=true:=by
 have h1:=few7_of u n 0 (by have:=h.dep;omega) hw
 unfold dV idsB
 rw[pN h]
 simp only[Bool.and_eq_true,decide_eq_true_eq]
 refine⟨by omega,trivial,h.nd,?_⟩
 by_cases hk:u.kind=0
 ·simp[hk]
 ·simp[h.zero hk]
def Itm.little0 (x:Itm):Bool:=
 decide ((x.at_.length:Int)<=12)&&(decide ((x.to_.length:Int)<=12)&&(decide ((x.old.length:Int)<=20)&&(decide ((x.new.length:Int)<=20)&&(decide ((x.by_.length:Int)<=3)&&(decide ((x.for_.length:Int)<=100)&&
 (decide ((x.label.length:Int)<=100)&&(decide ((x.event.length:Int)<=100)&&decide (0<=x.unit.few7 20 0))))))))
mutual
def Itm.little:Itm->Bool
 |⟨k,a,t,wh,n,u,o,w,l,f,s,ac,it,d,e,b⟩=>Itm.little0 ⟨k,a,t,wh,n,u,o,w,l,f,s,ac,it,d,e,b⟩&&Itm.littles b
def Itm.littles:List Itm->Bool
 |[]=>true
 |x::l=>Itm.little x&&Itm.littles l
end
theorem Itm.little_eq (x:Itm):x.little=(x.little0&&Itm.littles x.by_):=by cases x;rw[Itm.little]
theorem Itm.littles_cons (x:Itm) (l:List Itm):Itm.littles (x::l)=(x.little&&Itm.littles l):=by rw[Itm.littles]
theorem Itm.littles_nil:Itm.littles []=true:=by rw[Itm.littles]
theorem jO:∀{l:List Itm},Itm.littles l=true->∀x∈l,x.little=true
 |[],_,x,hx=>by cases hx
 |y::l,h,x,hx=>by
  rw[Itm.littles_cons,Bool.and_eq_true]at h
  rcases mem_cons.1 hx with rfl|hx
  ·exact h.1
  ·exact jO h.2 x hx
mutual
def Itm.big:Itm->Prop
 |⟨_,a,t,_,_,u,o,w,l,f,s,_,_,_,e,b⟩=>(a.length<1000000000000000000/\∀x∈a,x.label.length<1000000000000000000)/\(t.length<1000000000000000000/\∀x∈t,x.label.length<1000000000000000000)/\u.fit/\o.length<1000000000000000000/\w.length<1000000000000000000/\
  (l.length<1000000000000000000/\f.length<1000000000000000000/\s.event.length<1000000000000000000/\e.length<1000000000000000000)/\b.length<1000000000000000000/\Itm.bigs b
def Itm.bigs:List Itm->Prop
 |[]=>True
 |u::us=>Itm.big u/\Itm.bigs us
end
theorem Itm.bigs_iff:∀{us:List Itm},Itm.bigs us↔∀k∈us,k.big
 |[]=>by simp[Itm.bigs]
 |u::us=>by simp[Itm.bigs,Itm.bigs_iff (us:=us)]
theorem Itm.big_eq (x:Itm):x.big↔(x.at_.length<1000000000000000000/\∀y∈x.at_,y.label.length<1000000000000000000)/\(x.to_.length<1000000000000000000/\∀y∈x.to_,y.label.length<1000000000000000000)/\x.unit.fit/\x.old.length<1000000000000000000/\x.new.length<1000000000000000000/\
  (x.label.length<1000000000000000000/\x.for_.length<1000000000000000000/\x.start.event.length<1000000000000000000/\x.event.length<1000000000000000000)/\x.by_.length<1000000000000000000/\∀k∈x.by_,k.big:=by
 cases x
 rw[Itm.big,Itm.bigs_iff]
theorem big_fit:∀x:Itm,x.big->x.fit:=by
 refine Itm.ind λx ih h=>?_
 obtain⟨⟨a1,_⟩,⟨b1,_⟩,c,d,e,_,f,g⟩:=(Itm.big_eq x).1 h
 exact(Itm.fit_eq x).2 ⟨a1,b1,c,d,e,f,λk hk=>ih k hk (g k hk)⟩
theorem ej:∀x:Itm,x.big->x.little=true->x.Shorts:=by
 refine Itm.ind λx ih h hl=>?_
 have hfit:=big_fit x h
 obtain⟨⟨a1,a2⟩,⟨b1,b2⟩,c,d,e,⟨s1,s2,s3,s4⟩,f,g⟩:=(Itm.big_eq x).1 h
 rw[Itm.little_eq,Bool.and_eq_true]at hl
 have hb:=jO hl.2
 have h0:=hl.1
 unfold Itm.little0 at h0
 simp only[Bool.and_eq_true,decide_eq_true_eq]at h0
 obtain⟨l1,l2,l3,l4,l5,l6,l7,l8,l9⟩:=h0
 exact(Itm.Shorts_eq x).2 ⟨⟨hfit,lM c (by omega) l9,by omega,by omega,a2,b2,by omega,by omega,s1,s2,s3,s4⟩,λk hk=>ih k hk (g k hk) (hb k hk)⟩
theorem oA {x:Itm} (h:x.little=true):wtL x.unit.all5<=20:=by
 rw[Itm.little_eq,Bool.and_eq_true]at h
 have h0:=h.1
 unfold Itm.little0 at h0
 simp only[Bool.and_eq_true,decide_eq_true_eq]at h0
 have:=(m7 x.unit 20 0 h0.2.2.2.2.2.2.2.2).2
 have h1:=h0.2.2.2.2.2.2.2.2
 omega
def fewB (l:List Dd):Bool:=(l.all λd=>d.it.little)&&decide ((l.length:Int)<=16)
theorem lv {l:List Dd} (h:fewB l=true):(∀d∈l,d.it.little=true)/\l.length<=16:=by
 unfold fewB at h
 rw[Bool.and_eq_true,decide_eq_true_eq]at h
 exact⟨all_eq_true.1 h.1,by omega⟩
theorem stands {u:U} {l:List Dd} (hb:dV u 60=true) (hl:fewB l=true):dV (allP u l).1 1000=true/\Root u (allP u l).1:=by
 have hg:=fM hb
 obtain⟨h1,h2⟩:=lv hl
 obtain⟨g1,g2⟩:=iR (l:=l) hg
 refine⟨good_book g1 ?_,g2⟩
 have hw:=all_wt (l:=l) hg λd hd=>oA (h1 d hd)
 have hu:wtL u.all5<=60:=by
  have h0:0<=u.few7 60 0:=by
   unfold dV at hb
   simp only[Bool.and_eq_true,decide_eq_true_eq]at hb
   exact hb.1
  have:=(m7 u 60 0 h0).2
  omega
 omega
theorem ki:∀(n:Nat) (a:List AV),Shp Tryz.prog reachBytes n 34 a->∃x:Itm,a=x.cs/\x.big:=by
 intro n
 induction n using Nat.strongRecOn with
 |ind n ih=>
  intro a h
  obtain⟨m,rfl,g⟩:=cE Tryz.underlying34 h
  clear h
  simp only[toL,ShpF]at g
  obtain⟨a1,b1,rfl,h1,a2,b2,rfl,h2,a3,b3,rfl,h3,a4,b4,rfl,h4,a5,b5,rfl,h5,a6,b6,rfl,h6,a7,b7,rfl,h7,a8,b8,rfl,h8,a9,b9,rfl,h9,a10,b10,rfl,h10,a11,b11,rfl,h11,a12,b12,rfl,h12,a13,b13,rfl,h13,a14,b14,rfl,h14,a15,b15,rfl,h15,a16,b16,rfl,h16,rfl⟩:=g
  obtain⟨k,rfl⟩:=bK Tryz.underlying3 h1
  obtain⟨l2,rfl,q2,t2⟩:=lq h2
  obtain⟨l3,rfl,q3,t3⟩:=lq h3
  obtain⟨i4,rfl⟩:=bK Tryz.underlying3 h4
  obtain⟨i5,rfl⟩:=bK Tryz.underlying3 h5
  obtain⟨u6,rfl,q6⟩:=fE _ _ h6
  obtain⟨l7,rfl,q7,_⟩:=mh h7
  obtain⟨l8,rfl,q8,_⟩:=mh h8
  obtain⟨s9,z9,rfl⟩:=eG Tryz.underlying9 h9
  obtain⟨s10,z10,rfl⟩:=eG Tryz.underlying9 h10
  obtain⟨s11,rfl,z11⟩:=lh h11
  obtain⟨i12,rfl⟩:=bK Tryz.underlying3 h12
  obtain⟨i13,rfl⟩:=bK Tryz.underlying3 h13
  obtain⟨i14,rfl⟩:=bK Tryz.underlying3 h14
  obtain⟨s15,z15,rfl⟩:=eG Tryz.underlying9 h15
  obtain⟨l16,rfl,q16,p16⟩:=eI (f:=Itm.cs) (q:=Itm.big) (sz:=25) Tryz.underlying32 (by kernel_rfl) (λm' hm r hr=>ih m' (by omega) r hr) h16
  refine⟨⟨k,l2,l3,i4,i5,u6,l7,l8,s9,s10,s11,i12,i13,i14,s15,l16⟩,?_,(Itm.big_eq _).2 ⟨⟨q2,t2⟩,⟨q3,t3⟩,q6,q7,q8,⟨dH z9,dH z10,z11,dH z15⟩,dH q16,p16⟩⟩
  rw[Itm.cs_eq,U.cs_eq]
  rfl
theorem jK {n:Nat} {a:List AV} (h:Shp Tryz.prog reachBytes n 36 a):∃d:Dd,a=d.cs/\d.it.big:=by
 obtain⟨m,rfl,g⟩:=cE Tryz.underlying36 h
 clear h
 simp only[toL,ShpF]at g
 obtain⟨a1,b1,rfl,h1,a2,b2,rfl,h2,a3,b3,rfl,h3,a4,b4,rfl,h4,rfl⟩:=g
 obtain⟨i1,rfl⟩:=bK Tryz.underlying3 h1
 obtain⟨i2,rfl⟩:=bK Tryz.underlying3 h2
 obtain⟨i3,rfl⟩:=bK Tryz.underlying3 h3
 obtain⟨x,rfl,hx⟩:=ki _ _ h4
 exact⟨⟨i1,i2,i3,x⟩,by simp[Dd.cs],hx⟩
theorem pO {n:Nat} {a:List AV} (h:Shp Tryz.prog reachBytes n 40 a):∃l:List Dd,a=[.lst 28 (l.map Dd.cs)]/\Big l.length/\∀d∈l,d.it.big:=by
 obtain⟨l,h1,h2,h3⟩:=eI (f:=Dd.cs) (q:=λd=>d.it.big) (sz:=28) Tryz.underlying40 (by kernel_rfl) (λm _ r hr=>jK hr) h
 exact⟨l,h1,dH h2,h3⟩
theorem na {H:Type} {enc:TypeId×Value->H} {P:Program} {w:World} {S:List TypeId} (hS:mZ P S=true) {t:TypeId} (ht:t∈S) {a:Option Addr} {len cap:Nat} {d:DataW H} {ps:List MemPlace}
  (hd:DataW.Trod enc P w 0 (λ_=>true) true t (.slice a len cap) d ps) (hw:∀n∈d.weights P t,n<=reachBytes):∃fuel x,Shp P reachBytes fuel t [x]/\Rep [] w x (.slice a len cap):=by
 obtain⟨fuel,hf⟩:=hd
 obtain⟨hl,avs,s,r,o⟩:=iT hS fuel t _ _ ht hf hw
 have hc:Value.cells (.slice a len cap)=#[.slice a len cap]:=by simp[Value.cells]
 rw[hc]at r
 cases avs with
 |nil=>simp[RepL]at r
 |cons x xs=>
  simp only[RepL]at r
  obtain⟨u,us,he,h1,h2⟩:=r
  injection he with e1 e2
  subst e1 e2
  cases xs with
  |nil=>exact⟨fuel,x,s,h1⟩
  |cons y ys=>
   simp only[RepL]at h2
   obtain⟨u',us',he',_⟩:=h2
   cases he'
theorem bytesItem:Tryz.prog.bytesOf 34=368:=by kernel_rfl
theorem open_actB {n:Nat} {a:List AV} (h:Shp Tryz.prog reachBytes n 66 a):∃x:Ac,a=x.cs/\x.items.length*368<=140737488351232/\∀y∈x.items,y.big:=by
 obtain⟨m,rfl,g⟩:=cE Tryz.underlying66 h
 clear h
 simp only[toL,ShpF]at g
 obtain⟨a1,b1,rfl,h1,a2,b2,rfl,h2,a3,b3,rfl,h3,a4,b4,rfl,h4,a5,b5,rfl,h5,rfl⟩:=g
 obtain⟨k,rfl⟩:=bK Tryz.underlying3 h1
 obtain⟨s,_,rfl⟩:=eG Tryz.underlying9 h2
 obtain⟨d,rfl⟩:=bK Tryz.underlying3 h3
 obtain⟨t,rfl,_⟩:=lh h4
 obtain⟨l,rfl,_,q,p⟩:=kA (f:=Itm.cs) (q:=Itm.big) (sz:=25) Tryz.underlying32 (by kernel_rfl) (λm' hm r hr=>ki m' r hr) h5
 rw[bytesItem]at q
 exact⟨⟨k,s,d,t,l⟩,rfl,by unfold reachBytes at q;exact q,p⟩
end Go.Av
namespace Go.Av
open Go List
set_option linter.unusedSimpArgs false
set_option linter.unusedVariables false
abbrev t10_0:DT:=.done
abbrev t10_1:DT:=.step (Qm 3 23) t10_0
abbrev t10_2:DT:=.step (QS 8 2 22) t10_1
abbrev t10_3:DT:=.step (QU 2 27) t10_2
abbrev t10_4:DT:=.step (Qe 23 1 10) t10_3
abbrev t10_5:DT:=.step (Qe 22 0 10) t10_4
abbrev t10_6:DT:=.step (Qm 10 21) t10_5
abbrev t10_7:DT:=.step (Q2 21 17 11 20) t10_6
abbrev t10_8:DT:=.step (Qe 23 1 10) t10_2
abbrev t10_9:DT:=.step (Qe 22 0 10) t10_8
abbrev t10_10:DT:=.step (Qm 10 21) t10_9
abbrev t10_11:DT:=.step (Q2 21 17 11 20) t10_10
abbrev t10_12:DT:=.step (QU 2 27) t10_11
abbrev t10_13:DT:=.both t10_7 t10_12
abbrev t10_14:DT:=.step (qa 20 (.buildS 36 28 2 [.int .i64 0,.int .i64 0,.int .i64 0,.int .i64 0,.nil,.nil,.int .i64 0,.int .i64 0,.int .i64 0,.int .i64 0,.int .i64 0,.int .i64 0,.str [],.nil,.nil,.nil,.nil,.nil,.str [],.str [],.int .i64 0,.int .i64 0,.str [],.int .i64 0,.int .i64 0,.int .i64 0,.str [],.nil,.int .i64 0,.int .i64 0,.int .i64 0,.int .i64 0,.nil,.nil,.int .i64 0,.int .i64 0,.int .i64 0,.int .i64 0,.int .i64 0,.int .i64 0,.str [],.nil,.nil,.nil,.nil,.nil,.str [],.str [],.int .i64 0,.int .i64 0,.str [],.int .i64 0,.int .i64 0,.int .i64 0,.str [],.nil] [(0,.t 14),(1,.t 19)])) t10_13
abbrev t10_15:DT:=.step (qa 20 (.buildS 36 28 2 [.int .i64 0,.int .i64 0,.int .i64 0,.int .i64 0,.nil,.nil,.int .i64 0,.int .i64 0,.int .i64 0,.int .i64 0,.int .i64 0,.int .i64 0,.str [],.nil,.nil,.nil,.nil,.nil,.str [],.str [],.int .i64 0,.int .i64 0,.str [],.int .i64 0,.int .i64 0,.int .i64 0,.str [],.nil,.int .i64 0,.int .i64 0,.int .i64 0,.int .i64 0,.nil,.nil,.int .i64 0,.int .i64 0,.int .i64 0,.int .i64 0,.int .i64 0,.int .i64 0,.str [],.nil,.nil,.nil,.nil,.nil,.str [],.str [],.int .i64 0,.int .i64 0,.str [],.int .i64 0,.int .i64 0,.int .i64 0,.str [],.nil] [(0,.t 14),(1,.t 19)])) t10_11
abbrev t10_16:DT:=.step (QU 2 27) t10_15
abbrev t10_17:DT:=.both t10_14 t10_16
abbrev t10_18:DT:=.step (qa 19 (.build [.int .i64 0,.int .i64 0,.int .i64 0,.int .i64 0,.nil,.nil,.int .i64 0,.int .i64 0,.int .i64 0,.int .i64 0,.int .i64 0,.int .i64 0,.str [],.nil,.nil,.nil,.nil,.nil,.str [],.str [],.int .i64 0,.int .i64 0,.str [],.int .i64 0,.int .i64 0,.int .i64 0,.str [],.nil] [(0,(1,qi 2)),(3,(25,.t 18))])) t10_17
abbrev t10_19:DT:=.step (qa 18 (.build zItm [(0,(1,qi 2)),(1,(1,.t 15)),(13,(1,.t 16)),(14,(1,.t 17))])) t10_18
abbrev t10_20:DT:=.step (qa 17 (.buildS 9 1 1 [.str []] [(0,.c (.str [99]))])) t10_19
abbrev t10_21:DT:=.step (qa 19 (.build [.int .i64 0,.int .i64 0,.int .i64 0,.int .i64 0,.nil,.nil,.int .i64 0,.int .i64 0,.int .i64 0,.int .i64 0,.int .i64 0,.int .i64 0,.str [],.nil,.nil,.nil,.nil,.nil,.str [],.str [],.int .i64 0,.int .i64 0,.str [],.int .i64 0,.int .i64 0,.int .i64 0,.str [],.nil] [(0,(1,qi 2)),(3,(25,.t 18))])) t10_15
abbrev t10_22:DT:=.step (qa 18 (.build zItm [(0,(1,qi 2)),(1,(1,.t 15)),(13,(1,.t 16)),(14,(1,.t 17))])) t10_21
abbrev t10_23:DT:=.step (qa 17 (.buildS 9 1 1 [.str []] [(0,.c (.str [99]))])) t10_22
abbrev t10_24:DT:=.step (QU 2 27) t10_23
abbrev t10_25:DT:=.both t10_20 t10_24
abbrev t10_26:DT:=.step (qa 16 (.buildS 9 1 1 [.str []] [(0,.c (.str [97]))])) t10_25
abbrev t10_27:DT:=.step (qa 16 (.buildS 9 1 1 [.str []] [(0,.c (.str [97]))])) t10_19
abbrev t10_28:DT:=.step (qa 16 (.buildS 9 1 1 [.str []] [(0,.c (.str [97]))])) t10_22
abbrev t10_29:DT:=.step (QU 2 27) t10_28
abbrev t10_30:DT:=.both t10_27 t10_29
abbrev t10_31:DT:=.step (qa 17 (.buildS 9 1 1 [.str []] [(0,.c (.str [99]))])) t10_30
abbrev t10_32:DT:=.step (qa 16 (.buildS 9 1 1 [.str []] [(0,.c (.str [97]))])) t10_23
abbrev t10_33:DT:=.step (qa 17 (.buildS 9 1 1 [.str []] [(0,.c (.str [99]))])) t10_28
abbrev t10_34:DT:=.both t10_32 t10_33
abbrev t10_35:DT:=.step (QU 2 27) t10_34
abbrev t10_36:DT:=.both t10_31 t10_35
abbrev t10_37:DT:=.both t10_26 t10_36
abbrev t10_38:DT:=.step (Q0 15 32) t10_37
abbrev t10_39:DT:=.step (Q0 15 32) t10_25
abbrev t10_40:DT:=.step (Q0 15 32) t10_19
abbrev t10_41:DT:=.step (Q0 15 32) t10_22
abbrev t10_42:DT:=.step (QU 2 27) t10_41
abbrev t10_43:DT:=.both t10_40 t10_42
abbrev t10_44:DT:=.step (qa 17 (.buildS 9 1 1 [.str []] [(0,.c (.str [99]))])) t10_43
abbrev t10_45:DT:=.step (Q0 15 32) t10_23
abbrev t10_46:DT:=.step (qa 17 (.buildS 9 1 1 [.str []] [(0,.c (.str [99]))])) t10_41
abbrev t10_47:DT:=.both t10_45 t10_46
abbrev t10_48:DT:=.step (QU 2 27) t10_47
abbrev t10_49:DT:=.both t10_44 t10_48
abbrev t10_50:DT:=.both t10_39 t10_49
abbrev t10_51:DT:=.step (qa 16 (.buildS 9 1 1 [.str []] [(0,.c (.str [97]))])) t10_50
abbrev t10_52:DT:=.step (Q0 15 32) t10_30
abbrev t10_53:DT:=.step (qa 16 (.buildS 9 1 1 [.str []] [(0,.c (.str [97]))])) t10_43
abbrev t10_54:DT:=.step (Q0 15 32) t10_28
abbrev t10_55:DT:=.step (qa 16 (.buildS 9 1 1 [.str []] [(0,.c (.str [97]))])) t10_41
abbrev t10_56:DT:=.both t10_54 t10_55
abbrev t10_57:DT:=.step (QU 2 27) t10_56
abbrev t10_58:DT:=.both t10_53 t10_57
abbrev t10_59:DT:=.both t10_52 t10_58
abbrev t10_60:DT:=.step (qa 17 (.buildS 9 1 1 [.str []] [(0,.c (.str [99]))])) t10_59
abbrev t10_61:DT:=.step (Q0 15 32) t10_34
abbrev t10_62:DT:=.step (qa 16 (.buildS 9 1 1 [.str []] [(0,.c (.str [97]))])) t10_47
abbrev t10_63:DT:=.step (qa 17 (.buildS 9 1 1 [.str []] [(0,.c (.str [99]))])) t10_56
abbrev t10_64:DT:=.both t10_62 t10_63
abbrev t10_65:DT:=.both t10_61 t10_64
abbrev t10_66:DT:=.step (QU 2 27) t10_65
abbrev t10_67:DT:=.both t10_60 t10_66
abbrev t10_68:DT:=.both t10_51 t10_67
abbrev t10_69:DT:=.both t10_38 t10_68
abbrev t10_70:DT:=.step (Q0 11 21) t10_69
abbrev t10_71:DT:=.step (Q0 11 21) t10_50
abbrev t10_72:DT:=.step (Q0 11 21) t10_43
abbrev t10_73:DT:=.step (Q0 11 21) t10_41
abbrev t10_74:DT:=.step (QU 2 27) t10_73
abbrev t10_75:DT:=.both t10_72 t10_74
abbrev t10_76:DT:=.step (qa 17 (.buildS 9 1 1 [.str []] [(0,.c (.str [99]))])) t10_75
abbrev t10_77:DT:=.step (Q0 11 21) t10_47
abbrev t10_78:DT:=.step (qa 17 (.buildS 9 1 1 [.str []] [(0,.c (.str [99]))])) t10_73
abbrev t10_79:DT:=.both t10_77 t10_78
abbrev t10_80:DT:=.step (QU 2 27) t10_79
abbrev t10_81:DT:=.both t10_76 t10_80
abbrev t10_82:DT:=.both t10_71 t10_81
abbrev t10_83:DT:=.step (qa 16 (.buildS 9 1 1 [.str []] [(0,.c (.str [97]))])) t10_82
abbrev t10_84:DT:=.step (Q0 11 21) t10_59
abbrev t10_85:DT:=.step (qa 16 (.buildS 9 1 1 [.str []] [(0,.c (.str [97]))])) t10_75
abbrev t10_86:DT:=.step (Q0 11 21) t10_56
abbrev t10_87:DT:=.step (qa 16 (.buildS 9 1 1 [.str []] [(0,.c (.str [97]))])) t10_73
abbrev t10_88:DT:=.both t10_86 t10_87
abbrev t10_89:DT:=.step (QU 2 27) t10_88
abbrev t10_90:DT:=.both t10_85 t10_89
abbrev t10_91:DT:=.both t10_84 t10_90
abbrev t10_92:DT:=.step (qa 17 (.buildS 9 1 1 [.str []] [(0,.c (.str [99]))])) t10_91
abbrev t10_93:DT:=.step (Q0 11 21) t10_65
abbrev t10_94:DT:=.step (qa 16 (.buildS 9 1 1 [.str []] [(0,.c (.str [97]))])) t10_79
abbrev t10_95:DT:=.step (qa 17 (.buildS 9 1 1 [.str []] [(0,.c (.str [99]))])) t10_88
abbrev t10_96:DT:=.both t10_94 t10_95
abbrev t10_97:DT:=.both t10_93 t10_96
abbrev t10_98:DT:=.step (QU 2 27) t10_97
abbrev t10_99:DT:=.both t10_92 t10_98
abbrev t10_100:DT:=.both t10_83 t10_99
abbrev t10_101:DT:=.both t10_70 t10_100
abbrev t10_102:DT:=.step (qa 14 (.build [.int .i64 0,.int .i64 0,.int .i64 0,.int .i64 0,.nil,.nil,.int .i64 0,.int .i64 0,.int .i64 0,.int .i64 0,.int .i64 0,.int .i64 0,.str [],.nil,.nil,.nil,.nil,.nil,.str [],.str [],.int .i64 0,.int .i64 0,.str [],.int .i64 0,.int .i64 0,.int .i64 0,.str [],.nil] [(0,(1,qi 1)),(3,(25,.t 13))])) t10_101
abbrev t10_103:DT:=.step (qa 13 (.build zItm [(0,(1,qi 0)),(3,(1,qi 1)),(5,(8,.t 12))])) t10_102
abbrev t10_104:DT:=.step (Qs 12 8 1) t10_103
def r10g:RL:=[(0,none)]
def s10g:SCode:=qR [Qf 0] [] (qs (.ghost [qa 5 (.build [.str [],.int .i64 0,.int .i64 0,.int .i64 0] [(0,(1,.c (.str [97])))]),qa 6 (.build [.str [],.int .i64 0,.int .i64 0,.int .i64 0] [(0,(1,.c (.str [98])))]),qa 7 (.build [.str [],.int .i64 0,.int .i64 0,.int .i64 0] [(0,(1,.c (.str [97])))]),qa 8 (.buildS 64 4 3 [.str [],.int .i64 0,.int .i64 0,.int .i64 0,.str [],.int .i64 0,.int .i64 0,.int .i64 0,.str [],.int .i64 0,.int .i64 0,.int .i64 0] [(0,.t 5),(1,.t 6),(2,.t 7)]),qa 9 (.build zU [(3,(1,qi 2)),(4,(1,.c (.str [53]))),(6,(1,.t 8))]),QU 1 27,QS 8 1 9] [1]) (qs (.drawT t10_104 [2,3]) (qs (qR [Qm 24 3,Qn 25 24,Qu 26 .neq 25 0,Qm 27 26,qc 28 27 (fa 7 2),qc 29 27 (lo 28),qc 30 27 (.len (.t 29)),qc 31 27 (.bin .neq (.t 30) (qi 1)),Qq 32 27 31,Qm 33 32,qc 34 33 (fa 7 2),qc 35 33 (lo 34),qc 36 33 (.indexA 8 (.t 35) (qi 0)),qc 37 33 (fa 6 36),qc 38 33 (lo 37),qc 39 33 (.len (.t 38)),qc 40 33 (.bin .neq (.t 39) (qi 3)),Qq 41 33 40] [2,41] (.cond (.t 41) (qR [Qf 0] [0] .ret) .skip)) (qR [Qa 42 7 2,Qo 43 42,qa 44 (.indexA 8 (.t 43) (qi 0)),Qa 45 6 44,Qo 46 45,Qm 4 46] [2,4] (qR [Qa 47 7 2,Qo 48 47,qa 49 (.indexA 8 (.t 48) (qi 0)),Qa 50 0 49,Ql 51 3 50,qa 52 (.build [.int .i64 0,.int .i64 0,.int .i64 0] [(0,(1,qi 1)),(2,(1,qi 1))]),qa 53 (.eqs false [1,1,1] (.t 51) (.t 52)),Qm 54 53,Bm 55 54 4,qb 56 54 (.indexA 4 (.t 55) (qi 0)),qb 57 54 (lm 4 56),qb 58 54 (.build [.int .i64 0,.int .i64 0,.int .i64 0] [(0,(1,qi 2))]),qb 59 54 (.build [.str [],.int .i64 0,.int .i64 0,.int .i64 0] [(0,(1,.c (.str [99]))),(1,(3,.t 58))]),qb 60 54 (.eqs false [2,1,1,1] (.t 57) (.t 59)),Qp 61 54 60,Qm 62 61,Bm 63 62 4,qb 64 62 (.indexA 4 (.t 63) (qi 1)),qb 65 62 (lm 4 64),qb 66 62 (.build [.int .i64 0,.int .i64 0,.int .i64 0] [(0,(1,qi 1)),(2,(1,qi 1))]),qb 67 62 (.build [.str [],.int .i64 0,.int .i64 0,.int .i64 0] [(0,(1,.c (.str [98]))),(1,(3,.t 66))]),qb 68 62 (.eqs false [2,1,1,1] (.t 65) (.t 67)),Qp 69 62 68,Qm 70 69,Bm 71 70 4,qb 72 70 (.indexA 4 (.t 71) (qi 2)),qb 73 70 (lm 4 72),qb 74 70 (.build [.int .i64 0,.int .i64 0,.int .i64 0] [(0,(1,qi 2)),(2,(1,qi 1))]),qb 75 70 (.build [.str [],.int .i64 0,.int .i64 0,.int .i64 0] [(0,(1,.c (.str [99]))),(1,(3,.t 74))]),qb 76 70 (.eqs false [2,1,1,1] (.t 73) (.t 75)),Qp 77 70 76,Qm 0 77] [0] .ret)))))
theorem c10g:FB 10 [1,2000001]=some (r10g,s10g):=by kernel_rfl
end Go.Av
