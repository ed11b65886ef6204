/-
  ENACT, 3: what an item does to a tree: as the program does it, and as the document says it.
-/
import Derived.Test.YtjolkfjccojnnaaGreatDoorXC6toXE2
import Derived.Test.YtjolkfjccojnnaaGreatDoorXL21toXOpI
namespace Go.Av
open Go Go.RowKit Go.Proofs List
set_option linter.unusedSimpArgs false
set_option linter.unusedVariables false
structure Dd where
 act:Int
 item:Int
 day:Int
 it:Itm
def noU:U:=⟨⟨0,0,0⟩,0,[],[],[],[]⟩
def fnd (i:Idd) (u:U):U:=(U.way i u).getLastD noU
def dP (a b:Int):List (List UInt8)->Int->List Wd
 |[],_=>[]
 |s::l,m=>⟨s,a,b,m⟩::dP a b l (m+1)
mutual
def U.stamp (a b:Int):U->Int->Int->U×Int×Int
 |⟨_,k,l,h,w,ks⟩,n,m=>
  (⟨⟨a,b,n⟩,k,l,dP a b (h.map Wd.text) m,dP a b (w.map Wd.text) (m+h.length),(U.stamps a b ks (n+1) (m+h.length+w.length)).1⟩,(U.stamps a b ks (n+1) (m+h.length+w.length)).2)
def U.stamps (a b:Int):List U->Int->Int->List U×Int×Int
 |[],n,m=>([],n,m)
 |u::us,n,m=>((U.stamp a b u n m).1::(U.stamps a b us (U.stamp a b u n m).2.1 (U.stamp a b u n m).2.2).1,(U.stamps a b us (U.stamp a b u n m).2.1 (U.stamp a b u n m).2.2).2)
end
def l6 (u:U) (a b:Int):U:=(U.stamp a b u 1 0).1
def aR (l:List U) (k:Nat) (x:U):List U:=l.take k++x::l.drop k
def aL (l:List U) (k:Nat):List U:=l.take k++l.drop (k+1)
def cK (l:List U) (k:Int) (s:List UInt8):Bool:=l.any λx=>decide (x.kind=k)&&decide (x.label=s)
def bJ (p:U) (l:List U) (x:U):Int:=if g6 p.kind x.kind=false then 9 else if cK l x.kind x.label then 10 else 0
/-! ### the program -/
def spot (u:U) (i:Idd) (wh:Int):Option (Idd×Nat):=
 if wh=0 then some (i,0)else if wh=1 then some (i,(fnd i u).kids.length)else (aN i u).map λq=>(q.1.id,if wh=2 then q.2.2+1 else q.2.2)
def insP (u:U) (i:Idd) (d:Dd):U×Int:=match spot u i d.it.wh with
 |none=>(u,9)
 |some (q,k)=>
  if bJ (fnd q u) (fnd q u).kids (l6 d.it.unit d.act d.item)≠0 then (u,bJ (fnd q u) (fnd q u).kids (l6 d.it.unit d.act d.item))
  else if 64<=(fnd q u).kids.length\/8<(U.way q u).length+(l6 d.it.unit d.act d.item).dep\/1024<u.cnt+(l6 d.it.unit d.act d.item).cnt then (u,6)
  else if (l6 d.it.unit d.act d.item).ids.any (λy=>decide (y∈u.ids))then (u,5)
  else (U.wth q (λy=>{y with kids:=aR y.kids k (l6 d.it.unit d.act d.item)}) u,0)
/-! ### the document -/
def parR (i:Idd) (u:U):U×Nat×Nat:=(U.par i u).getD (noU,0,0)
theorem aF {i:Idd} {u y:U} (h:(U.way i u).getLast?=some y):fnd i u=y:=by unfold fnd;rw[getLastD_eq_getLast?,h];rfl
theorem dj {i:Idd} (u:U) (hn:u.ids.Nodup) (hi:i∈u.ids):(fnd i u).id=i/\(U.way i u).getLast?=some (fnd i u):=by
 refine U.wayInd (i:=i) (p:=λu=>(fnd i u).id=i/\(U.way i u).getLast?=some (fnd i u)) ?_ ?_ u hn hi
 ·intro u _ h
  have:fnd i u=u:=aF (by rw[aO h];rfl)
  rw[this]
  exact⟨h,by rw[aO h];rfl⟩
 ·intro u a k b _ h s ih
  have:(U.way i u).getLast?=some (fnd i k):=by rw[s.way h,getLast?_cons,ih.2];rfl
  rw[aF this]
  exact⟨ih.1,this⟩
theorem aW {i:Idd} {u:U} (hn:u.ids.Nodup) (hi:i∈u.ids) (hne:u.id≠i):∃p d j,aN i u=some (p,d,j)/\parR i u=(p,d,j)/\Par i u p d j:=by
 have:∃q,aN i u=some q:=by
  rw[U.ids_eq,mem_cons]at hi
  obtain⟨a,k,b,s⟩:=eQ (U.nd_kids hn).1 (hi.resolve_left (Ne.symm hne))
  have hl:U.way i k≠[]:=ci.2 s.mem
  unfold aN
  rw[s.way hne]
  cases hr:(U.way i k).reverse with
  |nil=>exact absurd (by simpa using hr) hl
  |cons x l=>
   rw[reverse_cons,hr]
   cases l<;>simp
 obtain⟨⟨p,d,j⟩,e⟩:=this
 exact⟨p,d,j,e,by unfold parR;rw[eF u hn hi,e];rfl,eW u hn hi e⟩
theorem Par.fnd {i:Idd} {u p:U} {d j:Nat} (h:Par i u p d j):fnd p.id u=p:=aF h.last
theorem eo {i:Idd} {u:U} (hi:i∈u.ids):1<=(U.way i u).length:=by
 have:=ci.2 hi
 cases h:U.way i u with
 |nil=>exact absurd h this
 |cons _ _=>simp
def dF (i:Idd) (u:U):U:=match aN i u with
 |some (p,_,j)=>U.wth p.id (λy=>{y with kids:=aL y.kids j}) u
 |none=>u
def besides (wh:Int):Bool:=decide (wh=2\/wh=3)
def jZ (u:U) (i t:Idd):Bool:=decide (t≠i)&&(U.way t u).dropLast.any λy=>decide (y.id=i)
def fk (u:U) (i t:Idd) (wh:Int):Option (Idd×Nat):=match aN i u with
 |none=>none
 |some (own,_,j)=>
  if jZ u i t=true\/t=i/\besides wh=false then none
  else if t=i then some (own.id,j)
  else (spot u t wh).map λq=>(q.1,if q.1=own.id/\j<q.2 then q.2-1 else q.2)
def movP (u:U) (i t:Idd) (d:Dd):U×Int:=match fk u i t d.it.wh with
 |none=>(u,9)
 |some (q,k)=>
  if bJ (fnd q (dF i u)) (fnd q (dF i u)).kids (fnd i u)≠0 then (u,bJ (fnd q (dF i u)) (fnd q (dF i u)).kids (fnd i u))
  else if (q≠(parR i u).1.id/\64<=(fnd q (dF i u)).kids.length)\/8<(U.way q (dF i u)).length+(fnd i u).dep then (u,6)
  else (U.wth q (λy=>{y with kids:=aR y.kids k (fnd i u)}) (dF i u),0)
theorem bG {a b:List U} {k:U}:aL (a++k::b) a.length=a++b:=by
 unfold aL
 rw[take_left' rfl,←singleton_append,←append_assoc,drop_left' (by simp)]
theorem ways_del {t:Idd} {a b:List U} {k:U} (h:t∉k.ids):U.ways t (a++b)=U.ways t (a++k::b):=by
 rw[iW,iW,U.ways_cons,(dI k).2 h]
 rfl
theorem map_one {α β:Type} {f:α->β}:∀{l:List α},(l.map f).Nodup->∀{x y},x∈l->y∈l->f x=f y->x=y
 |[],_,_,_,hx,_,_=>by cases hx
 |a::l,hn,x,y,hx,hy,e=>by
  rw[map_cons,nodup_cons]at hn
  rcases mem_cons.1 hx with rfl|hx'<;>rcases mem_cons.1 hy with rfl|hy'
  ·rfl
  ·exact absurd (mem_map.2 ⟨y,hy',e.symm⟩) hn.1
  ·exact absurd (mem_map.2 ⟨x,hx',e⟩) hn.1
  ·exact map_one hn.2 hx' hy' e
theorem same_id {u x y:U} (hn:u.ids.Nodup) (hx:x∈u.flat) (hy:y∈u.flat) (h:x.id=y.id):x=y:=map_one hn hx hy h
theorem aM {i:Idd} (u:U) (hn:u.ids.Nodup) (hi:i∈u.ids):fnd i u∈u.flat:=by
 refine U.wayInd (i:=i) (p:=λu=>fnd i u∈u.flat) ?_ ?_ u hn hi
 ·intro u _ h
  rw[aF (y:=u) (by rw[aO h];rfl),U.flat_eq];simp
 ·intro u a k b _ h s ih
  have:fnd i u=fnd i k:=by unfold fnd;rw[s.way h];have:=eo s.mem;cases hk:U.way i k<;>simp_all[getLastD_cons]
  rw[this,U.flat_eq]
  exact mem_cons_of_mem _ (gB (by rw[s.eq];simp) ih)
theorem fnd_here {u y:U} (hn:u.ids.Nodup) (hy:y∈u.flat):fnd y.id u=y:=by
 have hm:y.id∈u.ids:=mem_map.2 ⟨y,hy,rfl⟩
 exact same_id hn (aM u hn hm) hy (dj u hn hm).1
theorem Split.mem_ids {i q:Idd} {u k:U} {a b:List U} (s:Split i u.kids a k b) (hq:q∈k.ids):q∈u.ids:=by
 rw[U.ids_eq,s.eq,U.idss_app,U.idss_cons]
 exact mem_cons_of_mem _ (mem_append.2 (.inr (mem_append.2 (.inl hq))))
theorem Split.fnd {i q:Idd} {u k:U} {a b:List U} (hn:u.ids.Nodup) (s:Split i u.kids a k b) (hq:q∈k.ids):fnd q u=fnd q k:=by
 have sq:=s.other (U.nd_kids hn).1 hq
 exact aF (by rw[sq.way (Split.ne hn s hq),getLast?_cons,(dj k s.nd hq).2];rfl)
theorem nB {i q:Idd} {u:U} (hn:u.ids.Nodup) (hi:i∈u.ids) (hq:q∈(fnd i u).ids):q∈u.ids:=by
 have:=(dj u hn hi).2
 exact ke u _ (mem_of_getLast? this) q hq
theorem gG {i t:Idd} (u:U) (hn:u.ids.Nodup) (ht:t∈u.ids) (hi:i∈u.ids):(∃y∈U.way t u,y.id=i)↔t∈(fnd i u).ids:=by
 revert hi
 refine U.wayInd (i:=t) (p:=λu=>i∈u.ids->((∃y∈U.way t u,y.id=i)↔t∈(fnd i u).ids)) ?_ ?_ u hn ht
 ·intro u hn h hi
  rw[aO h]
  constructor
  ·rintro⟨y,hy,e⟩
   simp only[mem_singleton]at hy
   subst hy
   rw[aF (y:=y) (by rw[aO e];rfl),←h]
   exact mR y
  ·intro hm
   refine⟨u,by simp,?_⟩
   apply Classical.byContradiction
   intro hne
   rw[U.ids_eq,mem_cons]at hi
   obtain⟨a,k,b,s⟩:=eQ (U.nd_kids hn).1 (hi.resolve_left (Ne.symm hne))
   rw[s.fnd hn s.mem]at hm
   exact Split.ne hn s (nB s.nd s.mem hm) h
 ·intro u a k b hn h s ih hi
  rw[s.way h]
  by_cases hu:u.id=i
  ·rw[aF (y:=u) (by rw[aO hu];rfl)]
   exact⟨λ_=>s.mem_ids s.mem,λ_=>⟨u,by simp,hu⟩⟩
  ·by_cases hik:i∈k.ids
   ·rw[s.fnd hn hik,←ih hik]
    constructor
    ·rintro⟨y,hy,e⟩
     rcases mem_cons.1 hy with rfl|hy
     ·exact absurd e hu
     ·exact⟨y,hy,e⟩
    ·rintro⟨y,hy,e⟩
     exact⟨y,mem_cons_of_mem _ hy,e⟩
   ·constructor
    ·rintro⟨y,hy,e⟩
     rcases mem_cons.1 hy with rfl|hy
     ·exact absurd e hu
     ·exact absurd (ke k y hy i (by rw[←e];exact mR y)) hik
    ·intro hm
     exfalso
     rw[U.ids_eq,mem_cons]at hi
     obtain⟨a',k',b',s'⟩:=eQ (U.nd_kids hn).1 (hi.resolve_left (Ne.symm hu))
     rw[s'.fnd hn s'.mem]at hm
     have st:=s'.other (U.nd_kids hn).1 (nB s'.nd s'.mem hm)
     have hk:k∈a'++k'::b':=by rw[←s'.eq,s.eq];simp
     rcases mem_append.1 hk with hk|hk
     ·exact st.left (iZ hk s.mem)
     ·rcases mem_cons.1 hk with rfl|hk
      ·exact hik s'.mem
      ·exact st.right (iZ hk s.mem)
theorem way_last {t:Idd} (u:U) (hn:u.ids.Nodup) (ht:t∈u.ids):U.way t u=(U.way t u).dropLast++[fnd t u]:=by
 have h:=(dj u hn ht).2
 have hne:U.way t u≠[]:=ci.2 ht
 rw[getLast?_eq_some_getLast hne]at h
 injection h with h
 conv=>lhs;rw[←dropLast_concat_getLast hne,h]
theorem gI {i t:Idd} (u:U) (hn:u.ids.Nodup) (ht:t∈u.ids) (hi:i∈u.ids):jZ u i t=true↔t≠i/\t∈(fnd i u).ids:=by
 unfold jZ
 rw[Bool.and_eq_true,decide_eq_true_eq,any_eq_true,←gG u hn ht hi]
 refine and_congr_right λhne=>?_
 constructor
 ·rintro⟨y,hy,e⟩
  exact⟨y,dropLast_subset _ hy,by simpa using e⟩
 ·rintro⟨y,hy,e⟩
  rw[way_last u hn ht]at hy
  rcases mem_append.1 hy with hy|hy
  ·exact⟨y,hy,by simpa using e⟩
  ·simp only[mem_singleton]at hy
   subst hy
   exact absurd ((dj u hn ht).1.symm.trans e) hne
/-! ### a tree of which one unit's child was cK -/
section
variable {u own x:U} {i:Idd} {d:Nat} {a b:List U}
theorem node_eq {u own:U} (hn:u.ids.Nodup) (ho:fnd own.id u=own) (hm:own.id∈u.ids) {y:U} (hy:y∈u.flat) (e:y.id=own.id):y=own:=by
 rw[←ho]
 exact same_id hn hy (aM u hn hm) (by rw[ho];exact e)
theorem jg {t:Idd} (hn:u.ids.Nodup) (hp:Par i u own d a.length) (hk:own.kids=a++x::b) (ht:t∉x.ids):
  U.way t (U.wth own.id (λy=>{y with kids:=aL y.kids a.length}) u)=(U.way t u).map (U.wth own.id λy=>{y with kids:=aL y.kids a.length}):=
 way_wth u hn λy hy e=>by
  have e2:=node_eq hn hp.fnd hp.mem hy e
  subst e2
  refine⟨rfl,?_⟩
  simp only
  rw[hk,bG,ways_del ht]
theorem ek {β:Type} {j:Idd} {f:U->U} (key:U->β) (h1:∀y,key (f y)=key y) (h2:∀y ks,key {y with kids:=ks}=key y) (y:U):key (U.wth j f y)=key y:=by
 rw[U.wth_eq]
 split
 ·exact h1 y
 ·exact h2 y _
end
structure Goal (u:U) (t:Idd) (wh:Int) (P:U) (dp k:Nat):Prop where
 mem:P.id∈u.ids
 here:fnd P.id u=P
 deep:(U.way P.id u).length=dp+1
 spot:Go.Av.spot u t wh=some (P.id,k)
 ref:(if besides wh then (parR t u).1 else fnd t u)=P/\(if besides wh then (parR t u).2.1 else (U.way t u).length-1)=dp
 out:∀i,i∈u.ids->t∉(fnd i u).ids->P.id∉(fnd i u).ids
 pos:(wh=0/\k=0)\/(wh=1/\k=P.kids.length)\/((wh=2\/wh=3)/\∃j a y b,P.kids=a++y::b/\y.id=t/\j=a.length/\t∉U.idss a/\k=j+(if wh=2 then 1 else 0))
theorem iP {u:U} (hn:u.ids.Nodup) {t:Idd} (ht:t∈u.ids) {wh:Int} (h0:0<=wh) (h3:wh<=3) (hne:¬(besides wh=true/\t=u.id)):∃P dp k,Goal u t wh P dp k:=by
 have hh:(wh=0\/wh=1)\/(wh=2\/wh=3):=by omega
 rcases hh with hh|hh
 ·have hb:besides wh=false:=decide_eq_false (by omega)
  have hi:=dj u hn ht
  have hw:=eo ht
  refine⟨fnd t u,(U.way t u).length-1,if wh=0 then 0 else (fnd t u).kids.length,?_,?_,?_,?_,?_,?_,?_⟩
  ·rw[hi.1];exact ht
  ·rw[hi.1]
  ·rw[hi.1];omega
  ·unfold spot
   rw[hi.1]
   rcases hh with rfl|rfl<;>simp
  ·rw[hb];simp
  ·intro i hi2 h
   rw[hi.1];exact h
  ·rcases hh with rfl|rfl<;>simp
 ·have hb:besides wh=true:=decide_eq_true hh
  have hne2:u.id≠t:=λe=>hne ⟨hb,e.symm⟩
  obtain⟨p,d,j,e1,e2,e3⟩:=aW hn ht hne2
  obtain⟨a,k,b,s,hk,hj,hl⟩:=e3.split
  refine⟨p,d,if wh=2 then j+1 else j,e3.mem,e3.fnd,e3.deep,?_,?_,?_,?_⟩
  ·unfold spot
   rw[e1]
   rcases hh with rfl|rfl<;>simp
  ·rw[hb,e2];simp
  ·intro i hi h hm
   apply h
   have hpi:=(gG u hn e3.mem hi).2 hm
   rw[←gG u hn ht hi]
   obtain⟨y,hy,e⟩:=hpi
   exact⟨y,by rw[e3.path];exact mem_append.2 (.inl hy),e⟩
  ·refine .inr (.inr ⟨hh,j,a,k,b,s.eq,hk,hj,s.left,?_⟩)
   rcases hh with rfl|rfl<;>simp
theorem bq (a b:Int):∀(l:List (List UInt8)) (m:Int),(dP a b l m).length=l.length
 |[],_=>rfl
 |s::l,m=>by rw[dP,length_cons,bq a b l,length_cons]
theorem mC (a b:Int):∀(l r:List (List UInt8)) (m:Int),dP a b (l++r) m=dP a b l m++dP a b r (m+l.length)
 |[],r,m=>by simp[dP]
 |s::l,r,m=>by
  rw[cons_append,dP,mC a b l r,dP,cons_append]
  simp only[length_cons]
  rw[show m+1+(l.length:Int)=m+((l.length+1:Nat):Int)by omega]
/-! ### where a row occurs -/
def occL (row:List (List UInt8)):Nat->Nat->List (List UInt8)->List Nat
 |_,_,[]=>[]
 |k+1,i,_::l=>occL row k (i+1) l
 |0,i,x::l=>if (x::l).take row.length=row then i::occL row (row.length-1) (i+1) l else occL row 0 (i+1) l
theorem mf (row:List (List UInt8)):∀(k i:Nat) (l:List (List UInt8)),occL row k i l=occL row 0 (i+k) (l.drop k)
 |0,i,l=>by simp
 |k+1,i,[]=>by simp[occL]
 |k+1,i,x::l=>by rw[occL,mf row k (i+1) l,drop_succ_cons,show i+1+k=i+(k+1)by omega]
theorem oa {row:List (List UInt8)} {i:Nat} {l:List (List UInt8)} (hr:row≠[]) (h:l.take row.length=row):occL row 0 i l=i::occL row 0 (i+row.length) (l.drop row.length):=by
 cases l with
 |nil=>rw[take_nil]at h;exact absurd h.symm hr
 |cons x l=>
  have hp:1<=row.length:=by cases row<;>simp_all
  rw[occL,if_pos h,mf]
  obtain⟨n,hn⟩:∃n,row.length=n+1:=⟨row.length-1,by omega⟩
  rw[hn,drop_succ_cons,show i+1+(n+1-1)=i+(n+1)by omega]
  rfl
theorem mp {row:List (List UInt8)} {i:Nat} {l:List (List UInt8)} (h:l.take row.length≠row):occL row 0 i l=occL row 0 (i+1) (l.drop 1):=by
 cases l with
 |nil=>simp[occL]
 |cons x l=>rw[occL,if_neg h];rfl
theorem lB {row:List (List UInt8)}:∀{l:List (List UInt8)} {i:Nat},l.length<row.length->occL row 0 i l=[]
 |[],_,_=>by rw[occL]
 |x::l,i,h=>by
  rw[occL,if_neg,lB (by simp at h;omega)]
  intro e
  have:=congrArg List.length e
  simp at this h
  omega
def Gaps (n len:Nat):Nat->List Nat->Prop
 |_,[]=>True
 |s,p::ps=>s<=p/\p+len<=n/\Gaps n len (p+len) ps
theorem Gaps.from {n len:Nat}:∀{ps:List Nat} {s s':Nat},s'<=s->Gaps n len s ps->Gaps n len s' ps
 |[],_,_,_,_=>trivial
 |p::ps,s,s',h,⟨h1,h2,h3⟩=>⟨by omega,h2,h3⟩
theorem gY {row:List (List UInt8)} (hr:row≠[]):∀(k i:Nat) (l:List (List UInt8)),k<=l.length->Gaps (i+l.length) row.length (i+k) (occL row k i l)
 |_,_,[],_=>by rw[occL];trivial
 |k+1,i,x::l,h=>by
  rw[occL]
  have:=gY hr k (i+1) l (by simpa using h)
  rw[show i+(x::l).length=i+1+l.length by simp;omega,show i+(k+1)=i+1+k by omega]
  exact this
 |0,i,x::l,_=>by
  rw[occL]
  have hp:1<=row.length:=by cases row<;>simp_all
  split
  ·rename_i e
   have hle:row.length<=(x::l).length:=by
    have:=congrArg List.length e
    rw[length_take]at this
    omega
   have:=gY hr (row.length-1) (i+1) l (by simp at hle;omega)
   refine⟨by omega,by omega,?_⟩
   rw[show i+(x::l).length=i+1+l.length by simp;omega,show i+row.length=i+1+(row.length-1)by omega]
   exact this
  ·have:=gY hr 0 (i+1) l (by omega)
   rw[show i+(x::l).length=i+1+l.length by simp;omega]
   exact this.from (by omega)
def occs (w:List Wd) (row:List (List UInt8)):List Nat:=occL row 0 0 (w.map Wd.text)
theorem fP {w:List Wd} {row:List (List UInt8)} (hr:row≠[]):Gaps w.length row.length 0 (occs w row):=by
 have:=gY hr 0 0 (w.map Wd.text) (by omega)
 simpa[occs]using this
def bH (ps:List Nat) (nth:Int):List Nat:=if nth=0 then ps else match ps[(nth-1).toNat]? with
 |some p=>[p]
 |none=>[]
theorem kM {n len:Nat}:∀{ps:List Nat} {s j:Nat} {p:Nat},Gaps n len s ps->ps[j]? =some p->s<=p/\p+len<=n
 |[],_,_,_,_,h=>by simp at h
 |q::ps,s,0,p,⟨h1,h2,_⟩,h=>by simp at h;subst h;exact⟨h1,h2⟩
 |q::ps,s,j+1,p,⟨h1,h2,h3⟩,h=>by
  have:=kM h3 (by simpa using h)
  omega
theorem dC {n len:Nat} {ps:List Nat} {nth:Int} (h:Gaps n len 0 ps):Gaps n len 0 (bH ps nth):=by
 unfold bH
 split
 ·exact h
 ·split
  ·rename_i p e
   have:=kM h e
   exact⟨by omega,this.2,trivial⟩
  ·trivial
/-! ### words put at places -/
def dy (w:List Wd) (fresh:List (List UInt8)) (a b:Int) (gone:Nat):Nat->List Nat->Int->List Wd
 |s,[],_=>w.drop s
 |s,p::ps,m=>(w.take p).drop s++(dP a b fresh m++dy w fresh a b gone (p+gone) ps (m+fresh.length))
def putL (w:List Wd) (fresh:List (List UInt8)) (a b:Int) (gone:Nat):List Nat->Int->List Wd
 |[],_=>w
 |p::ps,m=>(putL w fresh a b gone ps (m+fresh.length)).take p++(dP a b fresh m++(putL w fresh a b gone ps (m+fresh.length)).drop (p+gone))
theorem jx (w:List Wd) (fresh:List (List UInt8)) (a b:Int) (gone:Nat):∀(ps:List Nat) (s:Nat) (m:Int),Gaps w.length gone s ps->putL w fresh a b gone ps m=w.take s++dy w fresh a b gone s ps m
 |[],s,m,_=>by rw[putL,dy,take_append_drop]
 |p::ps,s,m,⟨h1,h2,h3⟩=>by
  rw[putL,jx w fresh a b gone ps (p+gone) _ h3,dy]
  have hl:(w.take (p+gone)).length=p+gone:=by rw[length_take];omega
  rw[take_append_of_le_length (by omega),drop_left' hl,take_take,Nat.min_eq_left (by omega)]
  have:w.take p=w.take s++(w.take p).drop s:=by
   conv=>lhs;rw[←take_append_drop s (w.take p),take_take,Nat.min_eq_left h1]
  conv=>lhs;rw[this]
  rw[append_assoc]
def hY (w:List Wd) (x:Itm) (a b:Int):List Wd×Int:=
 if x.kind=3/\x.old=[]then (if 256<(dP a b x.new 0++w).length then ([],6)else (dP a b x.new 0++w,0))
 else if bH (occs w x.old) x.nth=[]then ([],4)
 else if x.kind=3 then (if 256<(dy w x.new a b 0 0 ((bH (occs w x.old) x.nth).map (· +x.old.length)) 0).length then ([],6)else (dy w x.new a b 0 0 ((bH (occs w x.old) x.nth).map (· +x.old.length)) 0,0))
 else (if 256<(dy w x.new a b x.old.length 0 (bH (occs w x.old) x.nth) 0).length then ([],6)else (dy w x.new a b x.old.length 0 (bH (occs w x.old) x.nth) 0,0))
theorem fX {n len:Nat}:∀{ps:List Nat} {s:Nat},Gaps n len s ps->Gaps n 0 s (ps.map (· +len))
 |[],_,_=>trivial
 |p::ps,s,⟨h1,h2,h3⟩=>⟨(by show s<=p+len;omega),(by show p+len+0<=n;omega),(fX h3).from (by show p+len+0<=p+len;omega)⟩
theorem Itm.ext' {a b:Itm} (h1:a.kind=b.kind) (h2:a.at_=b.at_) (h3:a.to_=b.to_) (h4:a.wh=b.wh) (h5:a.nth=b.nth) (h6:a.unit=b.unit) (h7:a.old=b.old) (h8:a.new=b.new) (h9:a.label=b.label) (h10:a.for_=b.for_)
  (h11:a.start=b.start) (h12:a.act=b.act) (h13:a.item=b.item) (h14:a.day=b.day) (h15:a.event=b.event) (h16:a.by_=b.by_):a=b:=by
 cases a;cases b;simp_all
theorem sta_eq {a b:Sta} (h:(decide (a.kind=b.kind)&&(decide (a.day=b.day)&&(decide (a.event=b.event)&&true)))=true):a=b:=by
 cases a;cases b;simp_all
theorem sta_ne {a b:Sta} (h:(decide (a.kind=b.kind)&&(decide (a.day=b.day)&&(decide (a.event=b.event)&&true)))=false):a≠b:=by
 rintro rfl;simp at h
section
variable (G:Glob)
set_option maxHeartbeats 4000000 in
theorem f23:∀(a:Itm),a.fit->∀b:Itm,Pure G Tryz.prog 23 [.agg a.cs,.agg b.cs] (.bool (decide (a=b))):=by
 refine Itm.ind λa ih hfit b=>?_
 obtain⟨h1,h2,h3,h4,h5,h6,h7⟩:=(Itm.fit_eq a).1 hfit
 refine Pure.w c23 λR hR=>?_
 unfold s23 r23
 (repeat' (first|(with_reducible (first|refine ae (λh=>?_) (λh=>?_)|refine ag (λh=>?_) (λh=>?_))<;>(try simp only[Da,Db,Dc,Dw,De,Df,Dg,Dh]at h))|(with_reducible refine AI (by omega) ?_)|(with_reducible first|refine ab (f47 G _ _ (by omega)) ?_|refine ab (f14 G a.unit h3 b.unit) ?_|refine ab (f48 G _ _ (by omega)) ?_|refine ab (ih x hx.mem (h7 x hx.mem) y) ?_)|simp only[EVz,seval,↓reduceIte,EV6,EV7,U.cs_fold,hx.yes,hx.le0,hx.lt',hx.get,hx.row,hw,hy.row,hy.lt']|simp only[EVz,seval,↓reduceIte,EV6,EV7,U.cs_fold,hn]|simp only[EVz,seval,↓reduceIte,EV6,EV7,U.cs_fold]|(with_reducible refine ak ?_ ?_)|(with_reducible refine am ?_)|(refine af hx () ?_ (Weak.rfl' _ _))|(refine Zq a.by_ (λi r (c:Unit)=>a.by_.length=b.by_.length/\decide (a.by_=b.by_)=decide (r=b.by_.drop i)) (λi c=>[(2,.ref a.cs),(3,.ref b.cs),(5,.int .i64 i)]) (λ_ _=>[]) () ⟨by omega,by simp⟩ (Weak.rfl' _ _) (by omega) (λi x r c hok hx hw=>?_) (λc hok hn=>?_)<;>(try(obtain⟨y,r2,hy,hyn,hok⟩:=cr hok hx)))|fail))
 all_goals first
  |(refine RET.eq hR (congrArg AV.bool (Eq.symm (decide_eq_false ?_)));rintro rfl;exact absurd rfl h)
  |(refine RET.eq hR (congrArg AV.bool (Eq.symm (decide_eq_false ?_)));rintro rfl;simp at h;done)
  |skip
 all_goals first
  |(have hbn:decide (a.by_=b.by_)=false:=by rw[hok];simp[h]
    refine RET.eq hR (congrArg AV.bool (Eq.symm (decide_eq_false ?_)));rintro rfl;simp at hbn;done)
  |(rw[hok,hyn,h];simp;done)
  |(rw[hok,hyn];simp[h];done)
  |(have hby:a.by_=b.by_:=by have:=hok.2;rw[hok.1,drop_length]at this;simpa using this
    refine RET.eq hR (congrArg AV.bool (Eq.symm (decide_eq_true ?_)))
    exact Itm.ext' (Classical.not_not.1 (by assumption)) (by assumption) (by assumption) (Classical.not_not.1 (by assumption)) (Classical.not_not.1 (by assumption)) (by assumption) (by assumption) (by assumption) (Classical.not_not.1 (by assumption)) (Classical.not_not.1 (by assumption))
     (sta_eq (by assumption)) (Classical.not_not.1 (by assumption)) (Classical.not_not.1 (by assumption)) (Classical.not_not.1 (by assumption)) (Classical.not_not.1 (by assumption)) hby)
  |trace_state
end
def Itm.just (x:Itm):Itm:=
 if x.kind=0 then {iz with wh:=x.wh,unit:=x.unit}else if x.kind=2\/x.kind=3 then {iz with old:=x.old,new:=x.new,nth:=x.nth}else if x.kind=4 then {iz with new:=x.new}else
 if x.kind=5 then {iz with label:=x.label}else if x.kind=6 then {iz with to_:=x.to_,wh:=x.wh}else if x.kind=7\/x.kind=8\/x.kind=9 then {iz with act:=x.act,item:=x.item,day:=x.day}else
 if x.kind=10 then {iz with event:=x.event,day:=x.day}else if x.kind=11 then {iz with act:=x.act,item:=x.item,by_:=x.by_}else iz
def Itm.told (x:Itm):Itm:=if x.kind<=6 then {x.just with kind:=x.kind,at_:=x.at_,for_:=x.for_,start:=x.start}else {x.just with kind:=x.kind}
section
variable (G:Glob)
set_option maxHeartbeats 4000000 in
theorem f24 (x:Itm) (h0:0<=x.kind) (h11:x.kind<=11):Pure G Tryz.prog 24 [.agg x.cs] (.agg x.told.cs):=by
 refine Pure.w c24 λR hR=>?_
 unfold s24 r24
 have hk:x.kind=0\/x.kind=1\/x.kind=2\/x.kind=3\/x.kind=4\/x.kind=5\/x.kind=6\/x.kind=7\/x.kind=8\/x.kind=9\/x.kind=10\/x.kind=11:=by omega
 rcases hk with hk|hk|hk|hk|hk|hk|hk|hk|hk|hk|hk|hk
 all_goals
  (repeat' (first|simp only[EVz,seval,↓reduceIte,EV6,EV7,hk,hne]|simp only[EVz,seval,↓reduceIte,EV6,EV7,hk]|(with_reducible intro blk hblk;(try(have hnx:=hblk;simp only[EVK]at hnx;first|(have hne:=AI hnx hne)|(have hne:=hnx))))|fail))
  refine hR _ _ (Or.inr ?_)
  rw[Itm.cs_eq]
  simp[bz,aP,Itm.told,Itm.just,iz,hk]
end
structure Itm.Short1 (x:Itm):Prop where
 fit:x.fit
 unit:x.unit.Short
 at_:x.at_.length<1000000
 to_:x.to_.length<1000000
 atl:∀s∈x.at_,s.label.length<1000000000000000000
 tol:∀s∈x.to_,s.label.length<1000000000000000000
 old:x.old.length<1000000
 new:x.new.length<1000000
 label:x.label.length<1000000000000000000
 for_:x.for_.length<1000000000000000000
 start:x.start.event.length<1000000000000000000
 event:x.event.length<1000000000000000000
mutual
def Itm.Shorts:Itm->Prop
 |⟨k,a,t,wh,n,u,o,w,l,f,s,ac,it,d,e,b⟩=>Itm.Short1 ⟨k,a,t,wh,n,u,o,w,l,f,s,ac,it,d,e,b⟩/\Itm.Shortss b
def Itm.Shortss:List Itm->Prop
 |[]=>True
 |x::l=>Itm.Shorts x/\Itm.Shortss l
end
theorem Itm.Shortss_iff:∀{us:List Itm},Itm.Shortss us↔∀k∈us,k.Shorts
 |[]=>by simp[Itm.Shortss]
 |u::us=>by simp[Itm.Shortss,Itm.Shortss_iff (us:=us)]
theorem Itm.Shorts_eq (x:Itm):x.Shorts↔x.Short1/\∀k∈x.by_,k.Shorts:=by
 cases x
 rw[Itm.Shorts,Itm.Shortss_iff]
def cY (l:List (List UInt8)) (n:Int):Bool:=dU l&&decide (n<=(l.length:Int))
def Itm.own (x:Itm) (y:Bool):Bool:=
 if x.kind=0 then inR x.wh 0 3&&(de x.unit&&(decide (x.unit.kind≠0)&&decide ((textOf x.unit).2=0)))
 else if x.kind=2 then cY x.old 1&&(cY x.new 0&&inR x.nth 0 256)
 else if x.kind=3 then cY x.old 0&&(cY x.new 1&&(inR x.nth 0 256&&(decide (0<(x.old.length:Int))||decide (x.nth=0))))
 else if x.kind=4 then cY x.new 0
 else if x.kind=5 then bC x.label
 else if x.kind=6 then inR x.wh 0 3&&cC x.to_
 else if x.kind=7\/x.kind=8\/x.kind=9 then inR x.act 1 1048576&&(inR x.item (-1) 31&&inR x.day 0 1048576)
 else if x.kind=10 then d9 x.event&&inR x.day 0 1048576
 else if x.kind=11 then inR x.act 1 1048576&&(inR x.item 0 31&&y)
 else true
def Itm.pre (x:Itm):Bool:=(inR x.kind 0 11&&decide (x=x.told))&&(decide (6<x.kind)||(cC x.at_&&((decide (x.for_=[])||d9 x.for_)&&jv x.start)))
mutual
def Itm.may:Itm->Bool
 |⟨k,a,t,wh,n,u,o,w,l,f,s,ac,it,d,e,b⟩=>Itm.pre ⟨k,a,t,wh,n,u,o,w,l,f,s,ac,it,d,e,b⟩&&Itm.own ⟨k,a,t,wh,n,u,o,w,l,f,s,ac,it,d,e,b⟩ (Itm.mayOne b)
def Itm.mayOne:List Itm->Bool
 |[]=>false
 |x::l=>(l.isEmpty&&inR x.kind 0 6)&&Itm.may x
end
theorem Itm.may_eq (x:Itm):x.may=(x.pre&&x.own (Itm.mayOne x.by_)):=by cases x;rw[Itm.may]
theorem Itm.mayOne_cons (x:Itm) (l:List Itm):Itm.mayOne (x::l)=((l.isEmpty&&inR x.kind 0 6)&&x.may):=by rw[Itm.mayOne]
section
variable (G:Glob)
set_option maxHeartbeats 8000000 in
theorem f8:∀(x:Itm),x.Shorts->Pure G Tryz.prog 8 [.agg x.cs] (.bool x.may):=by
 refine Itm.ind λx ih hs=>?_
 obtain⟨q,hby⟩:=(Itm.Shorts_eq x).1 hs
 refine Pure.w c8 λR hR=>?_
 unfold s8 r8
 rw[Itm.may_eq]at hR
 have hIn:=λn lo hi=>f22 G n lo hi
 by_cases hk:0<=x.kind/\x.kind<=11
 ·have hT:=f24 G x hk.1 hk.2
  have hS:=f23 G x q.fit x.told
  have hkk:x.kind=0\/x.kind=1\/x.kind=2\/x.kind=3\/x.kind=4\/x.kind=5\/x.kind=6\/x.kind=7\/x.kind=8\/x.kind=9\/x.kind=10\/x.kind=11:=by omega
  unfold Itm.pre at hR
  generalize decide (x=x.told)=e at*
  have hrow:∀l:List (List UInt8),l.length<1000000->∀n,Pure G Tryz.prog 30 [.lst 1 (l.map srow),.int .i64 n] (.bool (cY l n)):=λl hl n=>f30 G l n (by omega)
  have hro:=hrow _ q.old
  have hrn:=hrow _ q.new
  rcases hkk with hk|hk|hk|hk|hk|hk|hk|hk|hk|hk|hk|hk
  all_goals (try (have hne11 : x.kind ≠ 11 := by omega
                  (repeat' (first | (with_reducible (first | refine ae (fun h => ?_) (fun h => ?_) | refine ag (fun h => ?_) (fun h => ?_)) <;> (try simp only [Da, Db, Dc, Dw, De, Df, Dg, Dh] at h)) | (with_reducible refine ab (hIn _ _ _) ?_) | (with_reducible refine ab hT ?_) | (with_reducible refine ab hS ?_) | (with_reducible refine ab (hro _) ?_) | (with_reducible refine ab (hrn _) ?_) | (with_reducible refine ab (f25 G _ q.at_ q.atl) ?_) | (with_reducible refine ab (f25 G _ q.to_ q.tol) ?_) | (with_reducible refine ab (f26 G _) ?_) | (with_reducible refine ab (f27 G _) ?_) | (with_reducible refine ab (f28 G x.unit q.unit) ?_) | (with_reducible refine ab (f29 G x.unit q.unit) ?_) | (with_reducible refine ab (f31 G _ q.label) ?_) | simp only [EVz, seval, ↓reduceIte, EV6, EV7, hk, U.cs_fold, inR] | fail))
                  all_goals (try (first
                    | exact absurd h (by decide)
                    | (refine RET.eq hR (congrArg AV.bool ?_); simp [Itm.own, inR, *]; done)
                    | (have hf : x.for_ = [] := Classical.not_not.1 (by assumption)
                       refine RET.eq hR (congrArg AV.bool ?_); simp [Itm.own, inR, hf, *]; done)
                    | (refine RET.eq hR (congrArg AV.bool ?_); simp_all [Itm.own, inR]; done)
                    | (refine RET.eq hR (congrArg AV.bool ?_); simp_all [Itm.own, inR]; omega)))))
  have hR2:=hR
  rw[show x.own (Itm.mayOne x.by_)=(inR x.act 1 1048576&&(inR x.item 0 31&&Itm.mayOne x.by_))by unfold Itm.own;simp[hk]]at hR
  rcases hb:x.by_ with _|⟨y,_|⟨z,l⟩⟩
  ·rw[hb,Itm.mayOne]at hR
   (repeat' (first|(with_reducible (first|refine ae (λh=>?_) (λh=>?_)|refine ag (λh=>?_) (λh=>?_))<;>(try simp only[Da,Db,Dc,Dw,De,Df,Dg,Dh]at h))|(with_reducible first|refine ab (hIn _ _ _) ?_|refine ab hT ?_|refine ab hS ?_)|simp only[EVz,seval,↓reduceIte,EV6,EV7,hk,U.cs_fold,inR,hb,map_nil,length_nil]|fail))
   all_goals(refine RET.eq hR (congrArg AV.bool ?_);simp[inR, *];done)
  ·rw[hb,Itm.mayOne_cons]at hR
   have hy:=ih y (by rw[hb];simp) (hby y (by rw[hb];simp))
   (repeat' (first|(with_reducible (first|refine ae (λh=>?_) (λh=>?_)|refine ag (λh=>?_) (λh=>?_))<;>(try simp only[Da,Db,Dc,Dw,De,Df,Dg,Dh]at h))|(with_reducible first|refine ab (hIn _ _ _) ?_|refine ab hT ?_|refine ab hS ?_|refine ab hy ?_)|simp only[EVz,seval,↓reduceIte,EV6,EV7,hk,U.cs_fold,hb,map_cons,map_nil,length_nil,length_cons,getD_cons_zero]|fail))
   all_goals(try(refine RET.eq hR (congrArg AV.bool ?_);simp_all[inR];done))
   all_goals(refine RET.eq hR (congrArg AV.bool ?_);simp[*];done)
  ·rw[hb,Itm.mayOne_cons]at hR
   (repeat' (first|(with_reducible (first|refine ae (λh=>?_) (λh=>?_)|refine ag (λh=>?_) (λh=>?_))<;>(try simp only[Da,Db,Dc,Dw,De,Df,Dg,Dh]at h))|(with_reducible refine AI (by omega) ?_)|(with_reducible first|refine ab (hIn _ _ _) ?_|refine ab hT ?_|refine ab hS ?_)|simp only[EVz,seval,↓reduceIte,EV6,EV7,hk,U.cs_fold,hb,map_cons,length_cons]|(exfalso;omega)|fail))
   all_goals(try(refine RET.eq hR (congrArg AV.bool ?_);simp_all[inR];done))
   all_goals trace_state
 ·have hno:inR x.kind 0 11=false:=by unfold inR;simp;omega
  unfold Itm.pre at hR
  rw[hno]at hR
  (repeat' (first|(with_reducible refine ab (hIn _ _ _) ?_)|simp only[EVz,seval,↓reduceIte,EV6,EV7,hno]|fail))
  all_goals(refine RET.eq hR (congrArg AV.bool ?_);simp;done)
end
end Go.Av
