/-
  ENACT, 7: words replaced and inserted, in plain Lean.
-/
import Derived.Test.YtnoakpkjccigoaaGreatDoorRXE1toXE6
import Derived.Test.YtnoakpkjccigoaaGreatDoorRXL18toXL21
namespace Go.Av
open Go Go.RowKit Go.Proofs List
set_option linter.unusedSimpArgs false
set_option linter.unusedVariables false
theorem cH (a b:Int):∀(l:List (List UInt8)) (m:Int),(aX a b l m).length=l.length
 |[],_=>rfl
 |s::l,m=>by rw[aX,length_cons,cH a b l,length_cons]
theorem lZ (a b:Int):∀(l r:List (List UInt8)) (m:Int),aX a b (l++r) m=aX a b l m++aX a b r (m+l.length)
 |[],r,m=>by simp[aX]
 |s::l,r,m=>by
  rw[cons_append,aX,lZ a b l r,aX,cons_append]
  simp only[length_cons]
  rw[show m+1+(l.length:Int)=m+((l.length+1:Nat):Int)by omega]
/-! ### where a row occurs -/
def occL (row:List (List UInt8)):Nat->Nat->List (List UInt8)->List Nat
 |_,_,[]=>[]
 |k+1,i,_::l=>occL row k (i+1) l
 |0,i,x::l=>if (x::l).take row.length=row then i::occL row (row.length-1) (i+1) l else occL row 0 (i+1) l
theorem lv (row:List (List UInt8)):∀(k i:Nat) (l:List (List UInt8)),occL row k i l=occL row 0 (i+k) (l.drop k)
 |0,i,l=>by simp
 |k+1,i,[]=>by simp[occL]
 |k+1,i,x::l=>by rw[occL,lv row k (i+1) l,drop_succ_cons,show i+1+k=i+(k+1)by omega]
theorem occL_hit {row:List (List UInt8)} {i:Nat} {l:List (List UInt8)} (E:row≠[]) (h:l.take row.length=row):occL row 0 i l=i::occL row 0 (i+row.length) (l.drop row.length):=by
 cases l with
 |nil=>rw[take_nil]at h;exact absurd h.symm E
 |cons x l=>
  have F:1<=row.length:=by cases row<;>simp_all
  rw[occL,if_pos h,lv]
  obtain⟨n,D⟩:∃n,row.length=n+1:=⟨row.length-1,by omega⟩
  rw[D,drop_succ_cons,show i+1+(n+1-1)=i+(n+1)by omega]
  rfl
theorem occL_miss {row:List (List UInt8)} {i:Nat} {l:List (List UInt8)} (h:l.take row.length≠row):occL row 0 i l=occL row 0 (i+1) (l.drop 1):=by
 cases l with
 |nil=>simp[occL]
 |cons x l=>rw[occL,if_neg h];rfl
theorem kk {row:List (List UInt8)}:∀{l:List (List UInt8)} {i:Nat},l.length<row.length->occL row 0 i l=[]
 |[],_,_=>by rw[occL]
 |x::l,i,h=>by
  rw[occL,if_neg,kk (by simp at h;omega)]
  intro e
  have:=congrArg List.length e
  simp at this h
  omega
def Gaps (n len:Nat):Nat->List Nat->Prop
 |_,[]=>True
 |s,p::ps=>s<=p/\p+len<=n/\Gaps n len (p+len) ps
theorem Gaps.from {n len:Nat}:∀{ps:List Nat} {s D:Nat},D<=s->Gaps n len s ps->Gaps n len D ps
 |[],_,_,_,_=>trivial
 |p::ps,s,D,h,⟨h1,h2,h3⟩=>⟨by omega,h2,h3⟩
theorem gB {row:List (List UInt8)} (E:row≠[]):∀(k i:Nat) (l:List (List UInt8)),k<=l.length->Gaps (i+l.length) row.length (i+k) (occL row k i l)
 |_,_,[],_=>by rw[occL];trivial
 |k+1,i,x::l,h=>by
  rw[occL]
  have:=gB E k (i+1) l (by simpa using h)
  rw[show i+(x::l).length=i+1+l.length by simp;omega,show i+(k+1)=i+1+k by omega]
  exact this
 |0,i,x::l,_=>by
  rw[occL]
  have F:1<=row.length:=by cases row<;>simp_all
  split
  ·rename_i e
   have D:row.length<=(x::l).length:=by
    have:=congrArg List.length e
    rw[length_take]at this
    omega
   have:=gB E (row.length-1) (i+1) l (by simp at D;omega)
   refine⟨by omega,by omega,?_⟩
   rw[show i+(x::l).length=i+1+l.length by simp;omega,show i+row.length=i+1+(row.length-1)by omega]
   exact this
  ·have:=gB E 0 (i+1) l (by omega)
   rw[show i+(x::l).length=i+1+l.length by simp;omega]
   exact this.from (by omega)
def occs (w:List Wd) (row:List (List UInt8)):List Nat:=occL row 0 0 (w.map Wd.text)
theorem gM {w:List Wd} {row:List (List UInt8)} (D:row≠[]):Gaps w.length row.length 0 (occs w row):=by
 have:=gB D 0 0 (w.map Wd.text) (by omega)
 simpa[occs]using this
def cF (ps:List Nat) (nth:Int):List Nat:=if nth=0 then ps else match ps[(nth-1).toNat]? with
 |some p=>[p]
 |none=>[]
theorem jY {n len:Nat}:∀{ps:List Nat} {s j:Nat} {p:Nat},Gaps n len s ps->ps[j]? =some p->s<=p/\p+len<=n
 |[],_,_,_,_,h=>by simp at h
 |q::ps,s,0,p,⟨h1,h2,_⟩,h=>by simp at h;subst h;exact⟨h1,h2⟩
 |q::ps,s,j+1,p,⟨h1,h2,h3⟩,h=>by
  have:=jY h3 (by simpa using h)
  omega
theorem eD {n len:Nat} {ps:List Nat} {nth:Int} (h:Gaps n len 0 ps):Gaps n len 0 (cF ps nth):=by
 unfold cF
 split
 ·exact h
 ·split
  ·rename_i p e
   have:=jY h e
   exact⟨by omega,this.2,trivial⟩
  ·trivial
/-! ### words put at places -/
def fJ (w:List Wd) (D:List (List UInt8)) (a b:Int) (E:Nat):Nat->List Nat->Int->List Wd
 |s,[],_=>w.drop s
 |s,p::ps,m=>(w.take p).drop s++(aX a b D m++fJ w D a b E (p+E) ps (m+D.length))
def putL (w:List Wd) (D:List (List UInt8)) (a b:Int) (E:Nat):List Nat->Int->List Wd
 |[],_=>w
 |p::ps,m=>(putL w D a b E ps (m+D.length)).take p++(aX a b D m++(putL w D a b E ps (m+D.length)).drop (p+E))
theorem i6 (w:List Wd) (E:List (List UInt8)) (a b:Int) (D:Nat):∀(ps:List Nat) (s:Nat) (m:Int),Gaps w.length D s ps->putL w E a b D ps m=w.take s++fJ w E a b D s ps m
 |[],s,m,_=>by rw[putL,fJ,take_append_drop]
 |p::ps,s,m,⟨h1,h2,h3⟩=>by
  rw[putL,i6 w E a b D ps (p+D) _ h3,fJ]
  have F:(w.take (p+D)).length=p+D:=by rw[length_take];omega
  rw[take_append_of_le_length (by omega),drop_left' F,take_take,Nat.min_eq_left (by omega)]
  have:w.take p=w.take s++(w.take p).drop s:=by
   conv=>lhs;rw[←take_append_drop s (w.take p),take_take,Nat.min_eq_left h1]
  conv=>lhs;rw[this]
  rw[append_assoc]
def bJ (w:List Wd) (x:Itm) (a b:Int):List Wd×Int:=
 if x.kind=3/\x.old=[]then (if 256<(aX a b x.new 0++w).length then ([],6)else (aX a b x.new 0++w,0))
 else if cF (occs w x.old) x.nth=[]then ([],4)
 else if x.kind=3 then (if 256<(fJ w x.new a b 0 0 ((cF (occs w x.old) x.nth).map (· +x.old.length)) 0).length then ([],6)else (fJ w x.new a b 0 0 ((cF (occs w x.old) x.nth).map (· +x.old.length)) 0,0))
 else (if 256<(fJ w x.new a b x.old.length 0 (cF (occs w x.old) x.nth) 0).length then ([],6)else (fJ w x.new a b x.old.length 0 (cF (occs w x.old) x.nth) 0,0))
theorem ie {n len:Nat}:∀{ps:List Nat} {s:Nat},Gaps n len s ps->Gaps n 0 s (ps.map (· +len))
 |[],_,_=>trivial
 |p::ps,s,⟨h1,h2,h3⟩=>⟨(by show s<=p+len;omega),(by show p+len+0<=n;omega),(ie h3).from (by show p+len+0<=p+len;omega)⟩
theorem Itm.ext' {a b:Itm} (O:a.kind=b.kind) (T:a.at_=b.at_) (V:a.to_=b.to_) (X:a.wh=b.wh) (Y:a.nth=b.nth) (Z:a.unit=b.unit) (h7:a.old=b.old) (h8:a.new=b.new) (h9:a.label=b.label) (D:a.for_=b.for_)
  (E:a.start=b.start) (F:a.act=b.act) (I:a.item=b.item) (J:a.day=b.day) (M:a.event=b.event) (N:a.by_=b.by_):a=b:=by
 cases a;cases b;simp_all
theorem sta_eq {a b:Sta} (h:(decide (a.kind=b.kind)&&(decide (a.day=b.day)&&(decide (a.event=b.event)&&true)))=true):a=b:=by
 cases a;cases b;simp_all
theorem sta_ne {a b:Sta} (h:(decide (a.kind=b.kind)&&(decide (a.day=b.day)&&(decide (a.event=b.event)&&true)))=false):a≠b:=by
 rintro rfl;simp at h
section
variable (G:Glob)
end
def Itm.just (x:Itm):Itm:=
 if x.kind=0 then {iz with wh:=x.wh,unit:=x.unit}else if x.kind=2\/x.kind=3 then {iz with old:=x.old,new:=x.new,nth:=x.nth}else if x.kind=4 then {iz with new:=x.new}else
 if x.kind=5 then {iz with label:=x.label}else if x.kind=6 then {iz with to_:=x.to_,wh:=x.wh}else if x.kind=7\/x.kind=8\/x.kind=9 then {iz with act:=x.act,item:=x.item,day:=x.day}else
 if x.kind=10 then {iz with event:=x.event,day:=x.day}else if x.kind=11 then {iz with act:=x.act,item:=x.item,by_:=x.by_}else iz
def Itm.told (x:Itm):Itm:=if x.kind<=6 then {x.just with kind:=x.kind,at_:=x.at_,for_:=x.for_,start:=x.start}else {x.just with kind:=x.kind}
section
variable (G:Glob)
end
structure Itm.Short1 (x:Itm):Prop where
 fit:x.fit
 unit:x.unit.Short
 at_:x.at_.length<1000000
 to_:x.to_.length<1000000
 atl:∀s∈x.at_,s.label.length<1000000000000000000
 tol:∀s∈x.to_,s.label.length<1000000000000000000
 old:x.old.length<1000000
 new:x.new.length<1000000
 label:x.label.length<1000000000000000000
 for_:x.for_.length<1000000000000000000
 start:x.start.event.length<1000000000000000000
 event:x.event.length<1000000000000000000
mutual
def Itm.Shorts:Itm->Prop
 |⟨k,a,t,wh,n,u,o,w,l,f,s,ac,it,d,e,b⟩=>Itm.Short1 ⟨k,a,t,wh,n,u,o,w,l,f,s,ac,it,d,e,b⟩/\Itm.Shortss b
def Itm.Shortss:List Itm->Prop
 |[]=>True
 |x::l=>Itm.Shorts x/\Itm.Shortss l
end
theorem Itm.Shortss_iff:∀{us:List Itm},Itm.Shortss us↔∀k∈us,k.Shorts
 |[]=>by simp[Itm.Shortss]
 |u::us=>by simp[Itm.Shortss,Itm.Shortss_iff (us:=us)]
theorem Itm.Shorts_eq (x:Itm):x.Shorts↔x.Short1/\∀k∈x.by_,k.Shorts:=by
 cases x
 rw[Itm.Shorts,Itm.Shortss_iff]
def cX (l:List (List UInt8)) (n:Int):Bool:=dq l&&decide (n<=(l.length:Int))
def Itm.own (x:Itm) (y:Bool):Bool:=
 if x.kind=0 then inR x.wh 0 3&&(pQ x.unit&&(decide (x.unit.kind≠0)&&decide ((pD x.unit).2=0)))
 else if x.kind=2 then cX x.old 1&&(cX x.new 0&&inR x.nth 0 256)
 else if x.kind=3 then cX x.old 0&&(cX x.new 1&&(inR x.nth 0 256&&(decide (0<(x.old.length:Int))||decide (x.nth=0))))
 else if x.kind=4 then cX x.new 0
 else if x.kind=5 then br x.label
 else if x.kind=6 then inR x.wh 0 3&&dU x.to_
 else if x.kind=7\/x.kind=8\/x.kind=9 then inR x.act 1 1048576&&(inR x.item (-1) 31&&inR x.day 0 1048576)
 else if x.kind=10 then ii x.event&&inR x.day 0 1048576
 else if x.kind=11 then inR x.act 1 1048576&&(inR x.item 0 31&&y)
 else true
def Itm.pre (x:Itm):Bool:=(inR x.kind 0 11&&decide (x=x.told))&&(decide (6<x.kind)||(dU x.at_&&((decide (x.for_=[])||ii x.for_)&&mJ x.start)))
mutual
def Itm.may:Itm->Bool
 |⟨k,a,t,wh,n,u,o,w,l,f,s,ac,it,d,e,b⟩=>Itm.pre ⟨k,a,t,wh,n,u,o,w,l,f,s,ac,it,d,e,b⟩&&Itm.own ⟨k,a,t,wh,n,u,o,w,l,f,s,ac,it,d,e,b⟩ (Itm.mayOne b)
def Itm.mayOne:List Itm->Bool
 |[]=>false
 |x::l=>(l.isEmpty&&inR x.kind 0 6)&&Itm.may x
end
theorem Itm.may_eq (x:Itm):x.may=(x.pre&&x.own (Itm.mayOne x.by_)):=by cases x;rw[Itm.may]
theorem Itm.mayOne_cons (x:Itm) (l:List Itm):Itm.mayOne (x::l)=((l.isEmpty&&inR x.kind 0 6)&&x.may):=by rw[Itm.mayOne]
section
variable (G:Glob)
end
/-! ### addresses -/
def aL (u:U) (s:Stp):Bool:=decide (u.kind=s.kind)&&decide (u.label=s.label)
def mF (s:Stp):Bool:=decide (s.kind=0)&&decide (s.label=[])
def aK (l:List U) (s:Stp):List U:=l.flatMap λx=>x.kids.filter λk=>aL k s
def fY (u:U) (p:List Stp):List U:=
 if dU p=false then []else match p with
 |[]=>[u]
 |s::r=>r.foldl aK (if mF s then [u]else u.flat.filter λx=>aL x s)
def one (u:U) (p:List Stp):Idd×Int:=match fY u p with
 |[]=>(⟨0,0,0⟩,7)
 |[x]=>(x.id,0)
 |_=>(⟨0,0,0⟩,8)
theorem dM {u x k:U} (D:x∈u.flat) (E:k∈x.kids):k∈u.flat:=by
 revert D
 refine U.ind (p:=λu=>x∈u.flat->k∈u.flat) (λu ih D=>?_) u
 rw[U.flat_eq]at D ⊢
 rcases mem_cons.1 D with rfl|D
 ·exact mem_cons_of_mem _ (iI E (by rw[U.flat_eq];simp))
 ·have:∀{us:List U},x∈U.flats us->∃k∈us,x∈k.flat:=by
   intro us
   induction us with
   |nil=>intro h;rw[U.flats]at h;cases h
   |cons a us ih=>
    intro h
    rw[U.flats,mem_append]at h
    rcases h with h|h
    ·exact⟨a,by simp,h⟩
    ·obtain⟨k,E,D⟩:=ih h;exact⟨k,by simp[E],D⟩
  obtain⟨y,I,F⟩:=this D
  exact mem_cons_of_mem _ (iI I (ih y I F))
theorem kM {u:U}:∀{r:List Stp} {l:List U},(∀x∈l,x∈u.flat)->∀x∈r.foldl aK l,x∈u.flat
 |[],l,h,x,hx=>h x hx
 |s::r,l,h,x,hx=>kM (l:=aK l s) (λy D=>by
   obtain⟨z,E,D⟩:=mem_flatMap.1 D
   exact dM (h z E) (mem_filter.1 D).1) x hx
theorem ot {u:U} {p:List Stp}:∀x∈fY u p,x∈u.flat:=by
 intro x D
 have F:u∈u.flat:=by rw[U.flat_eq];simp
 unfold fY at D
 split at D
 ·cases D
 ·split at D
  ·simp only[mem_singleton]at D;subst D;exact F
  ·refine kM ?_ x D
   intro y E
   split at E
   ·simp only[mem_singleton]at E;subst E;exact F
   ·exact(mem_filter.1 E).1
theorem bZ {u:U} {p:List Stp} (h:(one u p).2=0):(one u p).1∈u.ids:=by
 have D:=ot (u:=u) (p:=p)
 unfold one at h ⊢
 split at h
 ·cases h
 ·rename_i x e
  rw[e]at D
  exact mem_map.2 ⟨x,D x (by simp),rfl⟩
 ·cases h
/-! ### an item applied -/
def chg (k:Int):Bool:=decide (0<=k)&&decide (k<=6)
def doP (u:U) (d:Dd):U×Int:=
 if chg d.it.kind=false\/d.it.may=false then (u,1)
 else if (one u d.it.at_).2≠0 then (u,(one u d.it.at_).2)
 else if d.it.kind=0 then insP u (one u d.it.at_).1 d
 else if (one u d.it.at_).1=u.id then (if d.it.kind=6/\(one u d.it.to_).2≠0 then (u,(one u d.it.to_).2)else (u,9))
 else if d.it.kind=1 then (l7 (one u d.it.at_).1 u,0)
 else if d.it.kind=2\/d.it.kind=3 then
  (if (bJ (fnd (one u d.it.at_).1 u).words d.it d.act d.item).2≠0 then (u,(bJ (fnd (one u d.it.at_).1 u).words d.it d.act d.item).2)
   else (U.wth (one u d.it.at_).1 (λy=>{y with words:=(bJ (fnd (one u d.it.at_).1 u).words d.it d.act d.item).1}) u,0))
 else if d.it.kind=4 then (U.wth (one u d.it.at_).1 (λy=>{y with head:=aX d.act d.item d.it.new 0}) u,0)
 else if d.it.kind=5 then
  (if dR (parR (one u d.it.at_).1 u).1 (parR (one u d.it.at_).1 u).1.kids {fnd (one u d.it.at_).1 u with label:=d.it.label}=10 then (u,10)
   else (U.wth (one u d.it.at_).1 (λy=>{y with label:=d.it.label}) u,0))
 else if (one u d.it.to_).2≠0 then (u,(one u d.it.to_).2)
 else movP u (one u d.it.at_).1 (one u d.it.to_).1 d
theorem cJ (a b:List U):U.flats (a++b)=U.flats a++U.flats b:=by
 induction a with
 |nil=>rw[pp];rfl
 |cons x a ih=>rw[cons_append,pk,pk,ih,append_assoc]
theorem eh (a b:List U):U.deeps (a++b)=max (U.deeps a) (U.deeps b):=by
 induction a with
 |nil=>rw[U.deeps];simp
 |cons x a ih=>rw[cons_append,U.deeps,U.deeps,ih];omega
theorem bN {us:List U} {x:U} (h:x∈U.flats us):∃k∈us,x∈k.flat:=pR h
theorem gO {i:Idd} {f:U->U} (u:U) (D:u.ids.Nodup) (hi:i∈u.ids):∃l r,u.ids=l++((fnd i u).ids++r)/\(U.wth i f u).ids=l++((f (fnd i u)).ids++r):=by
 refine U.wayInd (i:=i) (p:=λu=>∃l r,u.ids=l++((fnd i u).ids++r)/\(U.wth i f u).ids=l++((f (fnd i u)).ids++r)) ?_ ?_ u D hi
 ·intro u _ h
  have e:fnd i u=u:=aB (by rw[aN h];rfl)
  refine⟨[],[],?_,?_⟩
  ·rw[e];simp
  ·rw[bA h,e];simp
 ·intro u a k b D h s ⟨l,r,e1,e2⟩
  rw[s.fnd D s.mem]
  refine⟨u.id::(U.idss a++l),r++U.idss b,?_,?_⟩
  ·rw[U.ids_eq,s.eq,U.idss_app,U.idss_cons,e1];simp[append_assoc]
  ·rw[s.wth h,U.ids_eq]
   simp only
   rw[U.idss_app,U.idss_cons,e2];simp[append_assoc]
theorem wth_id {i:Idd} {f:U->U} (D:∀y,(f y).id=y.id) (u:U):(U.wth i f u).id=u.id:=eM U.id D (λ_ _=>rfl) u
theorem gb {i:Idd} {f:U->U} (u:U) (D:u.ids.Nodup) (hi:i∈u.ids):(U.wth i f u).deep<=max u.deep ((U.way i u).length-1+(f (fnd i u)).deep)/\(U.way i u).length-1+(fnd i u).deep<=u.deep:=by
 refine U.wayInd (i:=i) (p:=λu=>(U.wth i f u).deep<=max u.deep ((U.way i u).length-1+(f (fnd i u)).deep)/\(U.way i u).length-1+(fnd i u).deep<=u.deep) ?_ ?_ u D hi
 ·intro u _ h
  have e:fnd i u=u:=aB (by rw[aN h];rfl)
  rw[bA h,e,aN h]
  simp only[length_cons,length_nil]
  omega
 ·intro u a k b D h s ⟨h1,h2⟩
  have:=gH s.mem
  rw[s.fnd D s.mem,s.wth h,s.way h,U.deep_eq,U.deep_eq u,s.eq]
  simp only[length_cons]
  rw[eh,eh,U.deeps,U.deeps]
  omega
def U.key (u:U):Int×List UInt8:=(u.kind,u.label)
theorem fQ {y z:U} (F:z.kind=y.kind) (O:z.label=y.label) (E:aU z.head=aU y.head/\z.head.length=y.head.length) (I:aU z.words=aU y.words/\z.words.length=y.words.length) (D:z.kids.map U.key=y.kids.map U.key):nodeOk z=nodeOk y:=by
 have J:z.kids.length=y.kids.length:=by have:=congrArg List.length D;simpa using this
 have M:(z.kids.all λk=>pl z.kind k.kind)=y.kids.all λk=>pl y.kind k.kind:=by
  have:∀l:List U,∀p:Int,(l.all λk=>pl p k.kind)=(l.map U.key).all λq=>pl p q.1:=λl p=>by rw[all_map];rfl
  rw[this,this,D,F]
 have N:pr z.kids↔pr y.kids:=by unfold pr;exact Iff.of_eq (congrArg List.Nodup D)
 unfold nodeOk own1
 rw[J,M,decide_eq_decide.2 N,F,O,E.1,E.2,I.1,I.2]
theorem gE {i:Idd} {f:U->U} (I:∀y,(f y).key=y.key) (u:U) (N:u.ids.Nodup) (hi:i∈u.ids) (F:∀y∈u.flat,nodeOk y=true) (D:∀z∈(f (fnd i u)).flat,nodeOk z=true):∀z∈(U.wth i f u).flat,nodeOk z=true:=by
 revert F D
 refine U.wayInd (i:=i) (p:=λu=>(∀y∈u.flat,nodeOk y=true)->(∀z∈(f (fnd i u)).flat,nodeOk z=true)->∀z∈(U.wth i f u).flat,nodeOk z=true) ?_ ?_ u N hi
 ·intro u _ h F D
  have e:fnd i u=u:=aB (by rw[aN h];rfl)
  rw[bA h]
  rw[e]at D
  exact D
 ·intro u a k b N h s ih F D z E
  rw[s.fnd N s.mem]at D
  have M:∀y∈k.flat,nodeOk y=true:=λy J=>F y (U.flat_kid (by rw[s.eq];simp) J)
  rw[s.wth h,U.flat_eq]at E
  rcases mem_cons.1 E with rfl|E
  ·rw[←F u u.flat_self]
   refine fQ rfl rfl ⟨rfl,rfl⟩ ⟨rfl,rfl⟩ ?_
   simp only
   rw[s.eq,map_append,map_append,map_cons,map_cons,eM U.key I (λ_ _=>rfl)]
  ·simp only at E
   rw[cJ,pk,mem_append,mem_append]at E
   rcases E with E|E|E
   ·obtain⟨y,J,E⟩:=bN E
    exact F z (U.flat_kid (by rw[s.eq];simp[J]) E)
   ·exact ih M D z E
   ·obtain⟨y,J,E⟩:=bN E
    exact F z (U.flat_kid (by rw[s.eq];simp[J]) E)
theorem nT {i:Idd} {s0:List UInt8} (u:U) (hn:u.ids.Nodup) (hi:i∈u.ids) (O:u.id≠i) (M:∀y∈u.flat,nodeOk y=true) (hl:br s0=true)
  (X:∀p d j,aF i u=some (p,d,j)->pn p.kids (fnd i u).kind s0=false) (J:(fnd i u).kind≠0):∀z∈(U.wth i (λy=>{y with label:=s0}) u).flat,nodeOk z=true:=by
 revert O M X J
 refine U.wayInd (i:=i) (p:=λu=>u.id≠i->(∀y∈u.flat,nodeOk y=true)->(∀p d j,aF i u=some (p,d,j)->pn p.kids (fnd i u).kind s0=false)->(fnd i u).kind≠0->∀z∈(U.wth i (λy=>{y with label:=s0}) u).flat,nodeOk z=true) ?_ ?_ u hn hi
 ·intro u _ h O
  exact absurd h O
 ·intro u a k b hn h s ih _ M X J z D
  rw[s.fnd hn s.mem]at X J
  have N:∀y∈k.flat,nodeOk y=true:=λy F=>M y (U.flat_kid (by rw[s.eq];simp) F)
  have E:∀y,y∈U.flats a\/y∈U.flats b->nodeOk y=true:=by
   intro y F
   rcases F with F|F<;>
   ·obtain⟨q,hq,F⟩:=bN F
    exact M y (U.flat_kid (by rw[s.eq];simp[hq]) F)
  rw[s.wth h,U.flat_eq]at D
  simp only at D
  rw[cJ,pk,mem_cons,mem_append,mem_append]at D
  by_cases V:k.id=i
  ·have ac:fnd i k=k:=aB (by rw[aN V];rfl)
   rw[ac]at X J
   have T:=X u 0 a.length (g7 h s V)
   rw[bA V]at D
   rcases D with rfl|D|D|D
   ·have Y:=M u u.flat_self
    unfold nodeOk at Y ⊢
    simp only[Bool.and_eq_true,decide_eq_true_eq]at Y ⊢
    refine⟨Y.1,⟨?_,?_⟩,?_⟩
    ·rw[all_append,all_cons]
     have:=Y.2.1.1
     rw[s.eq,all_append,all_cons]at this
     exact this
    ·have:=Y.2.1.2
     unfold pr at this ⊢
     rw[s.eq,map_append,map_cons]at this
     rw[map_append,map_cons]
     unfold pn at T
     rw[any_eq_false]at T
     have Z:∀y∈u.kids,(y.kind,y.label)≠(k.kind,s0):=λy F e=>by
      have:=T y F
      injection e with e1 e2
      simp[e1,e2]at this
     obtain⟨n1,n2,n3⟩:=nodup_append.1 this
     rw[nodup_cons]at n2
     refine nodup_append.2 ⟨n1,nodup_cons.2 ⟨?_,n2.2⟩,?_⟩
     ·intro hm
      obtain⟨y,F,e⟩:=mem_map.1 hm
      exact Z y (by rw[s.eq];simp[F]) e
     ·intro x hx y F e
      obtain⟨x',ad,ex⟩:=mem_map.1 hx
      rcases mem_cons.1 F with F|F
      ·exact Z x' (by rw[s.eq];simp[ad]) (ex.trans (e.trans F))
      ·exact n3 x hx y (mem_cons_of_mem _ F) e
    ·have:=Y.2.2
     rw[s.eq]at this
     simp at this ⊢
     exact this
   ·exact E z (.inl D)
   ·rw[U.flat_eq]at D
    rcases mem_cons.1 D with rfl|D
    ·have I:=N k k.flat_self
     unfold nodeOk own1 at I ⊢
     simp only at I ⊢
     rw[if_neg J]at I ⊢
     simp only[Bool.and_eq_true]at I ⊢
     exact⟨⟨I.1.1,hl,I.1.2.2⟩,I.2⟩
    ·exact N z (by rw[U.flat_eq];exact mem_cons_of_mem _ D)
   ·exact E z (.inr D)
  ·rcases D with rfl|D|D|D
   ·rw[←M u u.flat_self]
    refine fQ rfl rfl ⟨rfl,rfl⟩ ⟨rfl,rfl⟩ ?_
    simp only
    rw[s.eq,map_append,map_append,map_cons,map_cons]
    have:(U.wth i (λy=>{y with label:=s0}) k).key=k.key:=by
     rw[U.wth_eq,if_neg V];rfl
    rw[this]
   ·exact E z (.inl D)
   ·refine ih V N (λp d j e=>?_) J z D
    exact X p (d+1) j (by rw[fO h s V,e];rfl)
   ·exact E z (.inr D)
theorem eu {α:Type} {p q:α->Bool}:∀{l:List α},(∀x∈l,p x=q x)->l.all p=l.all q
 |[],_=>rfl
 |x::l,h=>by rw[all_cons,all_cons,h x (by simp),eu λy D=>h y (by simp[D])]
theorem lG (p:U->Bool):∀us:List U,(U.flats us).all p=us.all λk=>k.flat.all p
 |[]=>by rw[pp];rfl
 |u::us=>by rw[pk,all_append,lG p us,all_cons]
theorem iP (p:U->Bool) (u:U):u.flat.all p=(p u&&u.kids.all λk=>k.flat.all p):=by rw[U.flat_eq,all_cons,lG]
/-! ### trees that stand right -/
theorem kN (k:Int):∀us:List U,U.rights k us=((us.all λx=>pl k x.kind)&&us.all U.right)
 |[]=>by rw[U.rights];rfl
 |u::us=>by
  rw[U.rights,kN k us,all_cons,all_cons]
  cases pl k u.kind<;>cases u.right<;>simp
theorem lp:aU []=true:=by decide
theorem nM (u:U):pJ u=(own1 u&&decide ((u.kids.length:Int)<=64)):=by
 unfold pJ own1
 by_cases F:u.kind=0
 ·rw[if_pos F,if_pos F,Bool.eq_iff_iff]
  simp only[Bool.and_eq_true,decide_eq_true_eq]
  constructor
  ·rintro⟨⟨_,_,D,_,_⟩,E⟩;exact⟨E,D⟩
  ·rintro⟨⟨E,V,X⟩,D⟩
   have O:u.head=[]:=length_eq_zero_iff.1 (by omega)
   have T:u.words=[]:=length_eq_zero_iff.1 (by omega)
   exact⟨⟨by omega,by omega,D,by rw[O];exact lp,by rw[T];exact lp⟩,E,V,X⟩
 ·rw[if_neg F,if_neg F,Bool.eq_iff_iff]
  simp only[Bool.and_eq_true,decide_eq_true_eq]
  constructor
  ·rintro⟨⟨I,J,D,M,N⟩,E⟩;exact⟨⟨⟨I,J⟩,E,M,N⟩,D⟩
  ·rintro⟨⟨⟨I,J⟩,E,M,N⟩,D⟩;exact⟨⟨I,J,D,M,N⟩,E⟩
theorem oG:∀u:U,u.right=u.flat.all nodeOk:=by
 refine U.ind λu ih=>?_
 rw[U.right_eq,iP,kN,nM,eu ih,show nodeOk u=(own1 u&&((u.kids.all λk=>pl u.kind k.kind)&&decide (pr u.kids)&&decide ((u.kids.length:Int)<=64)))from rfl]
 generalize own1 u=a,(u.kids.all λx=>pl u.kind x.kind)=b,decide (pr u.kids)=c,decide ((u.kids.length:Int)<=64)=d,(u.kids.all λk=>k.flat.all nodeOk)=e
 cases a<;>cases b<;>cases c<;>cases d<;>cases e<;>rfl
theorem kG (u:U):pF u=pq u:=by unfold pF pq;rw[oG]
/-! ### bare trees -/
theorem mQ {α:Type} {f:α->α}:∀{l:List α},l=l.map f↔∀x∈l,x=f x
 |[]=>by simp
 |x::l=>by simp[mQ (f:=f) (l:=l)]
theorem wd_bare (w:Wd):w=w.bare↔pA w=false:=by
 obtain⟨t,a,b,c⟩:=w
 simp[Wd.bare,pA]
theorem lA (l:List Wd):l=l.map Wd.bare↔l.any pA=false:=by
 rw[mQ,any_eq_false]
 constructor<;>intro h x D
 ·have:=(wd_bare x).1 (h x D);simp[this]
 ·exact(wd_bare x).2 (by simpa using h x D)
theorem strip_fix:∀u:U,(u=u.strip)↔u.flat.all py=true:=by
 refine U.ind λu ih=>?_
 rw[iP,Bool.and_eq_true,all_eq_true,U.strip_eq,show py u=(decide (u.id=zId)&&(!u.head.any pA&& !u.words.any pA))from rfl]
 simp only[Bool.and_eq_true,decide_eq_true_eq,Bool.not_eq_true']
 rw[←lA,←lA]
 have D:u.kids=u.kids.map U.strip↔∀k∈u.kids,k.flat.all py=true:=by
  rw[mQ]
  exact⟨λh k D=>(ih k D).1 (h k D),λh k D=>(ih k D).2 (h k D)⟩
 rw[←D]
 obtain⟨i,k,l,h,w,ks⟩:=u
 simp only[U.mk.injEq,true_and,zId]
 constructor
 ·rintro⟨a,b,c,d⟩;exact⟨⟨a,b,c⟩,d⟩
 ·rintro⟨⟨a,b,c⟩,d⟩;exact⟨a,b,c,d⟩
theorem gZ (u:U):pQ u=pN u:=by
 unfold pQ pN
 rw[kG]
 congr 1
 rw[Bool.eq_iff_iff,decide_eq_true_eq,strip_fix]
/-! ### shapes -/
theorem lU (u:U):px u=own1 u:=by
 unfold px own1
 by_cases D:u.kind=0
 ·rw[if_pos D,if_pos D]
 ·rw[if_neg D,if_neg D]
  have:decide (0<u.kind)=decide (0<=u.kind):=by rw[decide_eq_decide];omega
  rw[this,Bool.and_assoc]
theorem jW (d k:Int):∀us:List U,U.shapes d k us=((us.all λx=>pl k x.kind)&&us.all λx=>x.shape d)
 |[]=>by rw[U.shapes];rfl
 |u::us=>by
  rw[U.shapes,jW d k us,all_cons,all_cons]
  cases pl k u.kind<;>cases u.shape d<;>simp
theorem nests_ne0 {p k:Int} (h:pl p k=true):k≠0:=by
 unfold pl at h
 (repeat' split at h)<;>simp at h<;>omega
theorem deps_le (us:List U) (d:Int):d+U.deps us<=8↔d<=8/\∀k∈us,d+1+k.dep<=8:=by
 induction us with
 |nil=>simp[U.deps_nil]
 |cons u us ih=>
  rw[U.deps_cons]
  constructor
  ·intro h
   have D:=ih.1 (by omega)
   refine⟨D.1,λk E=>?_⟩
   rcases mem_cons.1 E with rfl|E
   ·omega
   ·exact D.2 k E
  ·rintro⟨F,D⟩
   have I:=D u (by simp)
   have J:=ih.2 ⟨F,λk E=>D k (by simp[E])⟩
   omega
theorem j1:∀(u:U) (d:Int),0<=d->u.shape d=(u.flat.all nodeOk&&(decide (d+u.dep<=8)&& !(decide (0<d)&&decide (u.kind=0)))):=by
 refine U.ind λu ih d X=>?_
 rw[U.shape_eq,iP,jW,lU,eu λk D=>ih k D (d+1) (by omega),U.dep_eq]
 rw[Bool.eq_iff_iff,show nodeOk u=(own1 u&&((u.kids.all λk=>pl u.kind k.kind)&&decide (pr u.kids)&&decide ((u.kids.length:Int)<=64)))from rfl]
 simp only[Bool.and_eq_true,decide_eq_true_eq,all_eq_true,Bool.not_eq_true',Bool.and_eq_false_iff,decide_eq_false_iff_not,deps_le]
 constructor
 ·rintro⟨⟨⟨F,I⟩,J,M⟩,⟨E,O⟩,N⟩
  exact⟨⟨⟨J,⟨E,N⟩,M⟩,λk D=>(O k D).1⟩,⟨F,λk D=>(O k D).2.1⟩,I⟩
 ·rintro⟨⟨⟨J,⟨E,N⟩,M⟩,T⟩,⟨F,V⟩,I⟩
  exact⟨⟨⟨F,I⟩,J,M⟩,⟨E,λk D=>⟨T k D,V k D,.inr (nests_ne0 (E k D))⟩⟩,N⟩
/-! ### stripped trees -/
theorem fZ:∀us:List U,(∀k∈us,k.strip.flat=k.flat.map U.strip)->U.flats (us.map U.strip)=(U.flats us).map U.strip
 |[],_=>by rw[map_nil,pp];rfl
 |u::us,h=>by rw[map_cons,pk,pk,map_append,h u (by simp),fZ us λk D=>h k (by simp[D])]
theorem eA:∀u:U,u.strip.flat=u.flat.map U.strip:=by
 refine U.ind λu ih=>?_
 rw[U.flat_eq,U.flat_eq,map_cons]
 congr 1
 rw[U.strip_eq]
 exact fZ _ ih
theorem iq (u:U):u.strip.kind=u.kind:=by rw[U.strip_eq]
theorem nN (u:U):u.strip.label=u.label:=by rw[U.strip_eq]
theorem oH (l:List Wd):aU (l.map Wd.bare)=aU l:=by
 unfold aU
 rw[length_map,all_map]
 rfl
theorem own_strip (u:U):own1 u.strip=own1 u:=by
 rw[U.strip_eq]
 unfold own1
 simp only[length_map,oH]
theorem nL (l:List U):pr (l.map U.strip)=pr l:=by
 unfold pr
 rw[map_map]
 congr 1
 refine map_congr_left λk _=>?_
 simp only[Function.comp,iq,nN]
theorem mO (u:U):nodeOk u.strip=nodeOk u:=by
 have h:u.strip.kids=u.kids.map U.strip:=by rw[U.strip_eq]
 unfold nodeOk
 rw[own_strip,h,all_map,length_map,iq]
 simp only[nL]
 congr 3
 exact eu λk _=>by simp only[Function.comp,iq]
theorem ky:∀us:List U,(∀k∈us,k.strip.dep=k.dep)->U.deps (us.map U.strip)=U.deps us
 |[],_=>rfl
 |u::us,h=>by rw[map_cons,U.deps_cons,U.deps_cons,h u (by simp),ky us λk D=>h k (by simp[D])]
theorem dep_strip:∀u:U,u.strip.dep=u.dep:=by
 refine U.ind λu ih=>?_
 rw[U.dep_eq,U.dep_eq,show u.strip.kids=u.kids.map U.strip by rw[U.strip_eq]]
 exact ky _ ih
theorem cnt_strip (u:U):u.strip.cnt=u.cnt:=by unfold U.cnt;rw[eA,length_map]
theorem ids_strip (u:U):pH u.strip=true:=by
 unfold pH U.ids
 rw[eA]
 simp only[Bool.or_eq_true,all_eq_true,map_map]
 left
 intro x D
 obtain⟨y,_,rfl⟩:=mem_map.1 D
 simp[Function.comp,U.strip_eq,zId]
theorem kQ (u:U):pq u.strip=pI u:=by
 unfold pq pI
 rw[j1 u 0 (by omega),eA,all_map,dep_strip,cnt_strip,ids_strip,eu (p:=nodeOk ∘ U.strip) (q:=nodeOk) λx _=>mO x]
 simp[Bool.and_assoc]
def U.lone (u:U):U:=⟨zId,u.kind,u.label,u.head,u.words,[]⟩
theorem tree_lone (u:U):pq u.lone.strip=px u:=by
 rw[kQ,lU]
 unfold pI
 rw[j1 _ 0 (by omega),iP]
 have D:u.lone.dep=0:=by rw[U.dep_eq];rfl
 have E:u.lone.cnt=1:=by rw[U.cnt_eq];rfl
 rw[D,E]
 unfold nodeOk
 have:own1 u.lone=own1 u:=rfl
 rw[this]
 simp[U.lone,pr]
end Go.Av
