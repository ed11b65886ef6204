/-
  ENACT, 7: words replaced and inserted, in plain Lean.
-/
import Derived.Test.YtnoakpkjccigoaaGreatDoorXE1toXE6
import Derived.Test.YtnoakpkjccigoaaGreatDoorXL20toXOpI
import Derived.Test.YtnoakpkjccigoaaGreatDoorXFrNtoXL19
namespace Go.Av
open Go Go.RowKit Go.Proofs List
set_option linter.unusedSimpArgs false
set_option linter.unusedVariables false
theorem cH (a b:Int):∀(l:List (List UInt8)) (m:Int),(aX a b l m).length=l.length
 |[],_=>rfl
 |s::l,m=>by rw[aX,length_cons,cH a b l,length_cons]
theorem lZ (a b:Int):∀(l r:List (List UInt8)) (m:Int),aX a b (l++r) m=aX a b l m++aX a b r (m+l.length)
 |[],r,m=>by simp[aX]
 |s::l,r,m=>by
  rw[cons_append,aX,lZ a b l r,aX,cons_append]
  simp only[length_cons]
  rw[show m+1+(l.length:Int)=m+((l.length+1:Nat):Int)by omega]
/-! ### where a row occurs -/
def occL (row:List (List UInt8)):Nat->Nat->List (List UInt8)->List Nat
 |_,_,[]=>[]
 |k+1,i,_::l=>occL row k (i+1) l
 |0,i,x::l=>if (x::l).take row.length=row then i::occL row (row.length-1) (i+1) l else occL row 0 (i+1) l
theorem lv (row:List (List UInt8)):∀(k i:Nat) (l:List (List UInt8)),occL row k i l=occL row 0 (i+k) (l.drop k)
 |0,i,l=>by simp
 |k+1,i,[]=>by simp[occL]
 |k+1,i,x::l=>by rw[occL,lv row k (i+1) l,drop_succ_cons,show i+1+k=i+(k+1)by omega]
theorem occL_hit {row:List (List UInt8)} {i:Nat} {l:List (List UInt8)} (hr:row≠[]) (h:l.take row.length=row):occL row 0 i l=i::occL row 0 (i+row.length) (l.drop row.length):=by
 cases l with
 |nil=>rw[take_nil]at h;exact absurd h.symm hr
 |cons x l=>
  have hp:1<=row.length:=by cases row<;>simp_all
  rw[occL,if_pos h,lv]
  obtain⟨n,hn⟩:∃n,row.length=n+1:=⟨row.length-1,by omega⟩
  rw[hn,drop_succ_cons,show i+1+(n+1-1)=i+(n+1)by omega]
  rfl
theorem occL_miss {row:List (List UInt8)} {i:Nat} {l:List (List UInt8)} (h:l.take row.length≠row):occL row 0 i l=occL row 0 (i+1) (l.drop 1):=by
 cases l with
 |nil=>simp[occL]
 |cons x l=>rw[occL,if_neg h];rfl
theorem kk {row:List (List UInt8)}:∀{l:List (List UInt8)} {i:Nat},l.length<row.length->occL row 0 i l=[]
 |[],_,_=>by rw[occL]
 |x::l,i,h=>by
  rw[occL,if_neg,kk (by simp at h;omega)]
  intro e
  have:=congrArg List.length e
  simp at this h
  omega
def Gaps (n len:Nat):Nat->List Nat->Prop
 |_,[]=>True
 |s,p::ps=>s<=p/\p+len<=n/\Gaps n len (p+len) ps
theorem Gaps.from {n len:Nat}:∀{ps:List Nat} {s s':Nat},s'<=s->Gaps n len s ps->Gaps n len s' ps
 |[],_,_,_,_=>trivial
 |p::ps,s,s',h,⟨h1,h2,h3⟩=>⟨by omega,h2,h3⟩
theorem gB {row:List (List UInt8)} (hr:row≠[]):∀(k i:Nat) (l:List (List UInt8)),k<=l.length->Gaps (i+l.length) row.length (i+k) (occL row k i l)
 |_,_,[],_=>by rw[occL];trivial
 |k+1,i,x::l,h=>by
  rw[occL]
  have:=gB hr k (i+1) l (by simpa using h)
  rw[show i+(x::l).length=i+1+l.length by simp;omega,show i+(k+1)=i+1+k by omega]
  exact this
 |0,i,x::l,_=>by
  rw[occL]
  have hp:1<=row.length:=by cases row<;>simp_all
  split
  ·rename_i e
   have hle:row.length<=(x::l).length:=by
    have:=congrArg List.length e
    rw[length_take]at this
    omega
   have:=gB hr (row.length-1) (i+1) l (by simp at hle;omega)
   refine⟨by omega,by omega,?_⟩
   rw[show i+(x::l).length=i+1+l.length by simp;omega,show i+row.length=i+1+(row.length-1)by omega]
   exact this
  ·have:=gB hr 0 (i+1) l (by omega)
   rw[show i+(x::l).length=i+1+l.length by simp;omega]
   exact this.from (by omega)
def occs (w:List Wd) (row:List (List UInt8)):List Nat:=occL row 0 0 (w.map Wd.text)
theorem gM {w:List Wd} {row:List (List UInt8)} (hr:row≠[]):Gaps w.length row.length 0 (occs w row):=by
 have:=gB hr 0 0 (w.map Wd.text) (by omega)
 simpa[occs]using this
def cF (ps:List Nat) (nth:Int):List Nat:=if nth=0 then ps else match ps[(nth-1).toNat]? with
 |some p=>[p]
 |none=>[]
theorem jY {n len:Nat}:∀{ps:List Nat} {s j:Nat} {p:Nat},Gaps n len s ps->ps[j]? =some p->s<=p/\p+len<=n
 |[],_,_,_,_,h=>by simp at h
 |q::ps,s,0,p,⟨h1,h2,_⟩,h=>by simp at h;subst h;exact⟨h1,h2⟩
 |q::ps,s,j+1,p,⟨h1,h2,h3⟩,h=>by
  have:=jY h3 (by simpa using h)
  omega
theorem eD {n len:Nat} {ps:List Nat} {nth:Int} (h:Gaps n len 0 ps):Gaps n len 0 (cF ps nth):=by
 unfold cF
 split
 ·exact h
 ·split
  ·rename_i p e
   have:=jY h e
   exact⟨by omega,this.2,trivial⟩
  ·trivial
/-! ### words put at places -/
def fJ (w:List Wd) (fresh:List (List UInt8)) (a b:Int) (gone:Nat):Nat->List Nat->Int->List Wd
 |s,[],_=>w.drop s
 |s,p::ps,m=>(w.take p).drop s++(aX a b fresh m++fJ w fresh a b gone (p+gone) ps (m+fresh.length))
def putL (w:List Wd) (fresh:List (List UInt8)) (a b:Int) (gone:Nat):List Nat->Int->List Wd
 |[],_=>w
 |p::ps,m=>(putL w fresh a b gone ps (m+fresh.length)).take p++(aX a b fresh m++(putL w fresh a b gone ps (m+fresh.length)).drop (p+gone))
theorem i6 (w:List Wd) (fresh:List (List UInt8)) (a b:Int) (gone:Nat):∀(ps:List Nat) (s:Nat) (m:Int),Gaps w.length gone s ps->putL w fresh a b gone ps m=w.take s++fJ w fresh a b gone s ps m
 |[],s,m,_=>by rw[putL,fJ,take_append_drop]
 |p::ps,s,m,⟨h1,h2,h3⟩=>by
  rw[putL,i6 w fresh a b gone ps (p+gone) _ h3,fJ]
  have hl:(w.take (p+gone)).length=p+gone:=by rw[length_take];omega
  rw[take_append_of_le_length (by omega),drop_left' hl,take_take,Nat.min_eq_left (by omega)]
  have:w.take p=w.take s++(w.take p).drop s:=by
   conv=>lhs;rw[←take_append_drop s (w.take p),take_take,Nat.min_eq_left h1]
  conv=>lhs;rw[this]
  rw[append_assoc]
def bJ (w:List Wd) (x:Itm) (a b:Int):List Wd×Int:=
 if x.kind=3/\x.old=[]then (if 256<(aX a b x.new 0++w).length then ([],6)else (aX a b x.new 0++w,0))
 else if cF (occs w x.old) x.nth=[]then ([],4)
 else if x.kind=3 then (if 256<(fJ w x.new a b 0 0 ((cF (occs w x.old) x.nth).map (· +x.old.length)) 0).length then ([],6)else (fJ w x.new a b 0 0 ((cF (occs w x.old) x.nth).map (· +x.old.length)) 0,0))
 else (if 256<(fJ w x.new a b x.old.length 0 (cF (occs w x.old) x.nth) 0).length then ([],6)else (fJ w x.new a b x.old.length 0 (cF (occs w x.old) x.nth) 0,0))
theorem ie {n len:Nat}:∀{ps:List Nat} {s:Nat},Gaps n len s ps->Gaps n 0 s (ps.map (· +len))
 |[],_,_=>trivial
 |p::ps,s,⟨h1,h2,h3⟩=>⟨(by show s<=p+len;omega),(by show p+len+0<=n;omega),(ie h3).from (by show p+len+0<=p+len;omega)⟩
theorem Itm.ext' {a b:Itm} (h1:a.kind=b.kind) (h2:a.at_=b.at_) (h3:a.to_=b.to_) (h4:a.wh=b.wh) (h5:a.nth=b.nth) (h6:a.unit=b.unit) (h7:a.old=b.old) (h8:a.new=b.new) (h9:a.label=b.label) (h10:a.for_=b.for_)
  (h11:a.start=b.start) (h12:a.act=b.act) (h13:a.item=b.item) (h14:a.day=b.day) (h15:a.event=b.event) (h16:a.by_=b.by_):a=b:=by
 cases a;cases b;simp_all
theorem sta_eq {a b:Sta} (h:(decide (a.kind=b.kind)&&(decide (a.day=b.day)&&(decide (a.event=b.event)&&true)))=true):a=b:=by
 cases a;cases b;simp_all
theorem sta_ne {a b:Sta} (h:(decide (a.kind=b.kind)&&(decide (a.day=b.day)&&(decide (a.event=b.event)&&true)))=false):a≠b:=by
 rintro rfl;simp at h
section
variable (G:Glob)
end
def Itm.just (x:Itm):Itm:=
 if x.kind=0 then {iz with wh:=x.wh,unit:=x.unit}else if x.kind=2\/x.kind=3 then {iz with old:=x.old,new:=x.new,nth:=x.nth}else if x.kind=4 then {iz with new:=x.new}else
 if x.kind=5 then {iz with label:=x.label}else if x.kind=6 then {iz with to_:=x.to_,wh:=x.wh}else if x.kind=7\/x.kind=8\/x.kind=9 then {iz with act:=x.act,item:=x.item,day:=x.day}else
 if x.kind=10 then {iz with event:=x.event,day:=x.day}else if x.kind=11 then {iz with act:=x.act,item:=x.item,by_:=x.by_}else iz
def Itm.told (x:Itm):Itm:=if x.kind<=6 then {x.just with kind:=x.kind,at_:=x.at_,for_:=x.for_,start:=x.start}else {x.just with kind:=x.kind}
section
variable (G:Glob)
end
structure Itm.Short1 (x:Itm):Prop where
 fit:x.fit
 unit:x.unit.Short
 at_:x.at_.length<1000000
 to_:x.to_.length<1000000
 atl:∀s∈x.at_,s.label.length<1000000000000000000
 tol:∀s∈x.to_,s.label.length<1000000000000000000
 old:x.old.length<1000000
 new:x.new.length<1000000
 label:x.label.length<1000000000000000000
 for_:x.for_.length<1000000000000000000
 start:x.start.event.length<1000000000000000000
 event:x.event.length<1000000000000000000
mutual
def Itm.Shorts:Itm->Prop
 |⟨k,a,t,wh,n,u,o,w,l,f,s,ac,it,d,e,b⟩=>Itm.Short1 ⟨k,a,t,wh,n,u,o,w,l,f,s,ac,it,d,e,b⟩/\Itm.Shortss b
def Itm.Shortss:List Itm->Prop
 |[]=>True
 |x::l=>Itm.Shorts x/\Itm.Shortss l
end
theorem Itm.Shortss_iff:∀{us:List Itm},Itm.Shortss us↔∀k∈us,k.Shorts
 |[]=>by simp[Itm.Shortss]
 |u::us=>by simp[Itm.Shortss,Itm.Shortss_iff (us:=us)]
theorem Itm.Shorts_eq (x:Itm):x.Shorts↔x.Short1/\∀k∈x.by_,k.Shorts:=by
 cases x
 rw[Itm.Shorts,Itm.Shortss_iff]
def cX (l:List (List UInt8)) (n:Int):Bool:=dq l&&decide (n<=(l.length:Int))
def Itm.own (x:Itm) (y:Bool):Bool:=
 if x.kind=0 then inR x.wh 0 3&&(bareOk x.unit&&(decide (x.unit.kind≠0)&&decide ((textOf x.unit).2=0)))
 else if x.kind=2 then cX x.old 1&&(cX x.new 0&&inR x.nth 0 256)
 else if x.kind=3 then cX x.old 0&&(cX x.new 1&&(inR x.nth 0 256&&(decide (0<(x.old.length:Int))||decide (x.nth=0))))
 else if x.kind=4 then cX x.new 0
 else if x.kind=5 then br x.label
 else if x.kind=6 then inR x.wh 0 3&&dU x.to_
 else if x.kind=7\/x.kind=8\/x.kind=9 then inR x.act 1 1048576&&(inR x.item (-1) 31&&inR x.day 0 1048576)
 else if x.kind=10 then ii x.event&&inR x.day 0 1048576
 else if x.kind=11 then inR x.act 1 1048576&&(inR x.item 0 31&&y)
 else true
def Itm.pre (x:Itm):Bool:=(inR x.kind 0 11&&decide (x=x.told))&&(decide (6<x.kind)||(dU x.at_&&((decide (x.for_=[])||ii x.for_)&&mJ x.start)))
mutual
def Itm.may:Itm->Bool
 |⟨k,a,t,wh,n,u,o,w,l,f,s,ac,it,d,e,b⟩=>Itm.pre ⟨k,a,t,wh,n,u,o,w,l,f,s,ac,it,d,e,b⟩&&Itm.own ⟨k,a,t,wh,n,u,o,w,l,f,s,ac,it,d,e,b⟩ (Itm.mayOne b)
def Itm.mayOne:List Itm->Bool
 |[]=>false
 |x::l=>(l.isEmpty&&inR x.kind 0 6)&&Itm.may x
end
theorem Itm.may_eq (x:Itm):x.may=(x.pre&&x.own (Itm.mayOne x.by_)):=by cases x;rw[Itm.may]
theorem Itm.mayOne_cons (x:Itm) (l:List Itm):Itm.mayOne (x::l)=((l.isEmpty&&inR x.kind 0 6)&&x.may):=by rw[Itm.mayOne]
section
variable (G:Glob)
end
/-! ### addresses -/
def aL (u:U) (s:Stp):Bool:=decide (u.kind=s.kind)&&decide (u.label=s.label)
def mF (s:Stp):Bool:=decide (s.kind=0)&&decide (s.label=[])
def aK (l:List U) (s:Stp):List U:=l.flatMap λx=>x.kids.filter λk=>aL k s
def fY (u:U) (p:List Stp):List U:=
 if dU p=false then []else match p with
 |[]=>[u]
 |s::r=>r.foldl aK (if mF s then [u]else u.flat.filter λx=>aL x s)
def one (u:U) (p:List Stp):Idd×Int:=match fY u p with
 |[]=>(⟨0,0,0⟩,7)
 |[x]=>(x.id,0)
 |_=>(⟨0,0,0⟩,8)
theorem dM {u x k:U} (hx:x∈u.flat) (hk:k∈x.kids):k∈u.flat:=by
 revert hx
 refine U.ind (p:=λu=>x∈u.flat->k∈u.flat) (λu ih hx=>?_) u
 rw[U.flat_eq]at hx ⊢
 rcases mem_cons.1 hx with rfl|hx
 ·exact mem_cons_of_mem _ (iI hk (by rw[U.flat_eq];simp))
 ·have:∀{us:List U},x∈U.flats us->∃k∈us,x∈k.flat:=by
   intro us
   induction us with
   |nil=>intro h;rw[U.flats]at h;cases h
   |cons a us ih=>
    intro h
    rw[U.flats,mem_append]at h
    rcases h with h|h
    ·exact⟨a,by simp,h⟩
    ·obtain⟨k,hk,hx⟩:=ih h;exact⟨k,by simp[hk],hx⟩
  obtain⟨y,hy,hxy⟩:=this hx
  exact mem_cons_of_mem _ (iI hy (ih y hy hxy))
theorem kM {u:U}:∀{r:List Stp} {l:List U},(∀x∈l,x∈u.flat)->∀x∈r.foldl aK l,x∈u.flat
 |[],l,h,x,hx=>h x hx
 |s::r,l,h,x,hx=>kM (l:=aK l s) (λy hy=>by
   obtain⟨z,hz,hy⟩:=mem_flatMap.1 hy
   exact dM (h z hz) (mem_filter.1 hy).1) x hx
theorem ot {u:U} {p:List Stp}:∀x∈fY u p,x∈u.flat:=by
 intro x hx
 have h0:u∈u.flat:=by rw[U.flat_eq];simp
 unfold fY at hx
 split at hx
 ·cases hx
 ·split at hx
  ·simp only[mem_singleton]at hx;subst hx;exact h0
  ·refine kM ?_ x hx
   intro y hy
   split at hy
   ·simp only[mem_singleton]at hy;subst hy;exact h0
   ·exact(mem_filter.1 hy).1
theorem bZ {u:U} {p:List Stp} (h:(one u p).2=0):(one u p).1∈u.ids:=by
 have hf:=ot (u:=u) (p:=p)
 unfold one at h ⊢
 split at h
 ·cases h
 ·rename_i x e
  rw[e]at hf
  exact mem_map.2 ⟨x,hf x (by simp),rfl⟩
 ·cases h
/-! ### an item applied -/
def chg (k:Int):Bool:=decide (0<=k)&&decide (k<=6)
def doP (u:U) (d:Dd):U×Int:=
 if chg d.it.kind=false\/d.it.may=false then (u,1)
 else if (one u d.it.at_).2≠0 then (u,(one u d.it.at_).2)
 else if d.it.kind=0 then insP u (one u d.it.at_).1 d
 else if (one u d.it.at_).1=u.id then (if d.it.kind=6/\(one u d.it.to_).2≠0 then (u,(one u d.it.to_).2)else (u,9))
 else if d.it.kind=1 then (without (one u d.it.at_).1 u,0)
 else if d.it.kind=2\/d.it.kind=3 then
  (if (bJ (fnd (one u d.it.at_).1 u).words d.it d.act d.item).2≠0 then (u,(bJ (fnd (one u d.it.at_).1 u).words d.it d.act d.item).2)
   else (U.wth (one u d.it.at_).1 (λy=>{y with words:=(bJ (fnd (one u d.it.at_).1 u).words d.it d.act d.item).1}) u,0))
 else if d.it.kind=4 then (U.wth (one u d.it.at_).1 (λy=>{y with head:=aX d.act d.item d.it.new 0}) u,0)
 else if d.it.kind=5 then
  (if dR (parR (one u d.it.at_).1 u).1 (parR (one u d.it.at_).1 u).1.kids {fnd (one u d.it.at_).1 u with label:=d.it.label}=10 then (u,10)
   else (U.wth (one u d.it.at_).1 (λy=>{y with label:=d.it.label}) u,0))
 else if (one u d.it.to_).2≠0 then (u,(one u d.it.to_).2)
 else movP u (one u d.it.at_).1 (one u d.it.to_).1 d
theorem cJ (a b:List U):U.flats (a++b)=U.flats a++U.flats b:=by
 induction a with
 |nil=>rw[flats_nil];rfl
 |cons x a ih=>rw[cons_append,flats_cons,flats_cons,ih,append_assoc]
theorem eh (a b:List U):U.deeps (a++b)=max (U.deeps a) (U.deeps b):=by
 induction a with
 |nil=>rw[U.deeps];simp
 |cons x a ih=>rw[cons_append,U.deeps,U.deeps,ih];omega
theorem bN {us:List U} {x:U} (h:x∈U.flats us):∃k∈us,x∈k.flat:=flats_in h
theorem gO {i:Idd} {f:U->U} (u:U) (hn:u.ids.Nodup) (hi:i∈u.ids):∃l r,u.ids=l++((fnd i u).ids++r)/\(U.wth i f u).ids=l++((f (fnd i u)).ids++r):=by
 refine U.wayInd (i:=i) (p:=λu=>∃l r,u.ids=l++((fnd i u).ids++r)/\(U.wth i f u).ids=l++((f (fnd i u)).ids++r)) ?_ ?_ u hn hi
 ·intro u _ h
  have e:fnd i u=u:=aB (by rw[aN h];rfl)
  refine⟨[],[],?_,?_⟩
  ·rw[e];simp
  ·rw[bA h,e];simp
 ·intro u a k b hn h s ⟨l,r,e1,e2⟩
  rw[s.fnd hn s.mem]
  refine⟨u.id::(U.idss a++l),r++U.idss b,?_,?_⟩
  ·rw[U.ids_eq,s.eq,U.idss_app,U.idss_cons,e1];simp[append_assoc]
  ·rw[s.wth h,U.ids_eq]
   simp only
   rw[U.idss_app,U.idss_cons,e2];simp[append_assoc]
theorem wth_id {i:Idd} {f:U->U} (hf:∀y,(f y).id=y.id) (u:U):(U.wth i f u).id=u.id:=eM U.id hf (λ_ _=>rfl) u
theorem gb {i:Idd} {f:U->U} (u:U) (hn:u.ids.Nodup) (hi:i∈u.ids):(U.wth i f u).deep<=max u.deep ((U.way i u).length-1+(f (fnd i u)).deep)/\(U.way i u).length-1+(fnd i u).deep<=u.deep:=by
 refine U.wayInd (i:=i) (p:=λu=>(U.wth i f u).deep<=max u.deep ((U.way i u).length-1+(f (fnd i u)).deep)/\(U.way i u).length-1+(fnd i u).deep<=u.deep) ?_ ?_ u hn hi
 ·intro u _ h
  have e:fnd i u=u:=aB (by rw[aN h];rfl)
  rw[bA h,e,aN h]
  simp only[length_cons,length_nil]
  omega
 ·intro u a k b hn h s ⟨h1,h2⟩
  have:=gH s.mem
  rw[s.fnd hn s.mem,s.wth h,s.way h,U.deep_eq,U.deep_eq u,s.eq]
  simp only[length_cons]
  rw[eh,eh,U.deeps,U.deeps]
  omega
def U.key (u:U):Int×List UInt8:=(u.kind,u.label)
theorem fQ {y z:U} (hk:z.kind=y.kind) (hl:z.label=y.label) (hh:aU z.head=aU y.head/\z.head.length=y.head.length) (hw:aU z.words=aU y.words/\z.words.length=y.words.length) (hs:z.kids.map U.key=y.kids.map U.key):nodeOk z=nodeOk y:=by
 have e1:z.kids.length=y.kids.length:=by have:=congrArg List.length hs;simpa using this
 have e2:(z.kids.all λk=>nests z.kind k.kind)=y.kids.all λk=>nests y.kind k.kind:=by
  have:∀l:List U,∀p:Int,(l.all λk=>nests p k.kind)=(l.map U.key).all λq=>nests p q.1:=λl p=>by rw[all_map];rfl
  rw[this,this,hs,hk]
 have e3:Apart z.kids↔Apart y.kids:=by unfold Apart;exact Iff.of_eq (congrArg List.Nodup hs)
 unfold nodeOk own1
 rw[e1,e2,decide_eq_decide.2 e3,hk,hl,hh.1,hh.2,hw.1,hw.2]
theorem gE {i:Idd} {f:U->U} (hkey:∀y,(f y).key=y.key) (u:U) (hn:u.ids.Nodup) (hi:i∈u.ids) (hok:∀y∈u.flat,nodeOk y=true) (hnew:∀z∈(f (fnd i u)).flat,nodeOk z=true):∀z∈(U.wth i f u).flat,nodeOk z=true:=by
 revert hok hnew
 refine U.wayInd (i:=i) (p:=λu=>(∀y∈u.flat,nodeOk y=true)->(∀z∈(f (fnd i u)).flat,nodeOk z=true)->∀z∈(U.wth i f u).flat,nodeOk z=true) ?_ ?_ u hn hi
 ·intro u _ h hok hnew
  have e:fnd i u=u:=aB (by rw[aN h];rfl)
  rw[bA h]
  rw[e]at hnew
  exact hnew
 ·intro u a k b hn h s ih hok hnew z hz
  rw[s.fnd hn s.mem]at hnew
  have hkf:∀y∈k.flat,nodeOk y=true:=λy hy=>hok y (U.flat_kid (by rw[s.eq];simp) hy)
  rw[s.wth h,U.flat_eq]at hz
  rcases mem_cons.1 hz with rfl|hz
  ·rw[←hok u u.flat_self]
   refine fQ rfl rfl ⟨rfl,rfl⟩ ⟨rfl,rfl⟩ ?_
   simp only
   rw[s.eq,map_append,map_append,map_cons,map_cons,eM U.key hkey (λ_ _=>rfl)]
  ·simp only at hz
   rw[cJ,flats_cons,mem_append,mem_append]at hz
   rcases hz with hz|hz|hz
   ·obtain⟨y,hy,hz⟩:=bN hz
    exact hok z (U.flat_kid (by rw[s.eq];simp[hy]) hz)
   ·exact ih hkf hnew z hz
   ·obtain⟨y,hy,hz⟩:=bN hz
    exact hok z (U.flat_kid (by rw[s.eq];simp[hy]) hz)
theorem nT {i:Idd} {s0:List UInt8} (u:U) (hn:u.ids.Nodup) (hi:i∈u.ids) (hne:u.id≠i) (hok:∀y∈u.flat,nodeOk y=true) (hl:br s0=true)
  (ht:∀p d j,aF i u=some (p,d,j)->taken p.kids (fnd i u).kind s0=false) (hk0:(fnd i u).kind≠0):∀z∈(U.wth i (λy=>{y with label:=s0}) u).flat,nodeOk z=true:=by
 revert hne hok ht hk0
 refine U.wayInd (i:=i) (p:=λu=>u.id≠i->(∀y∈u.flat,nodeOk y=true)->(∀p d j,aF i u=some (p,d,j)->taken p.kids (fnd i u).kind s0=false)->(fnd i u).kind≠0->∀z∈(U.wth i (λy=>{y with label:=s0}) u).flat,nodeOk z=true) ?_ ?_ u hn hi
 ·intro u _ h hne
  exact absurd h hne
 ·intro u a k b hn h s ih _ hok ht hk0 z hz
  rw[s.fnd hn s.mem]at ht hk0
  have hkf:∀y∈k.flat,nodeOk y=true:=λy hy=>hok y (U.flat_kid (by rw[s.eq];simp) hy)
  have hrest:∀y,y∈U.flats a\/y∈U.flats b->nodeOk y=true:=by
   intro y hy
   rcases hy with hy|hy<;>
   ·obtain⟨q,hq,hy⟩:=bN hy
    exact hok y (U.flat_kid (by rw[s.eq];simp[hq]) hy)
  rw[s.wth h,U.flat_eq]at hz
  simp only at hz
  rw[cJ,flats_cons,mem_cons,mem_append,mem_append]at hz
  by_cases hk:k.id=i
  ·have hfk:fnd i k=k:=aB (by rw[aN hk];rfl)
   rw[hfk]at ht hk0
   have htk:=ht u 0 a.length (g7 h s hk)
   rw[bA hk]at hz
   rcases hz with rfl|hz|hz|hz
   ·have hu:=hok u u.flat_self
    unfold nodeOk at hu ⊢
    simp only[Bool.and_eq_true,decide_eq_true_eq]at hu ⊢
    refine⟨hu.1,⟨?_,?_⟩,?_⟩
    ·rw[all_append,all_cons]
     have:=hu.2.1.1
     rw[s.eq,all_append,all_cons]at this
     exact this
    ·have:=hu.2.1.2
     unfold Apart at this ⊢
     rw[s.eq,map_append,map_cons]at this
     rw[map_append,map_cons]
     unfold taken at htk
     rw[any_eq_false]at htk
     have hno:∀y∈u.kids,(y.kind,y.label)≠(k.kind,s0):=λy hy e=>by
      have:=htk y hy
      injection e with e1 e2
      simp[e1,e2]at this
     obtain⟨n1,n2,n3⟩:=nodup_append.1 this
     rw[nodup_cons]at n2
     refine nodup_append.2 ⟨n1,nodup_cons.2 ⟨?_,n2.2⟩,?_⟩
     ·intro hm
      obtain⟨y,hy,e⟩:=mem_map.1 hm
      exact hno y (by rw[s.eq];simp[hy]) e
     ·intro x hx y hy e
      obtain⟨x',hx',ex⟩:=mem_map.1 hx
      rcases mem_cons.1 hy with hy|hy
      ·exact hno x' (by rw[s.eq];simp[hx']) (ex.trans (e.trans hy))
      ·exact n3 x hx y (mem_cons_of_mem _ hy) e
    ·have:=hu.2.2
     rw[s.eq]at this
     simp at this ⊢
     exact this
   ·exact hrest z (.inl hz)
   ·rw[U.flat_eq]at hz
    rcases mem_cons.1 hz with rfl|hz
    ·have hkk:=hkf k k.flat_self
     unfold nodeOk own1 at hkk ⊢
     simp only at hkk ⊢
     rw[if_neg hk0]at hkk ⊢
     simp only[Bool.and_eq_true]at hkk ⊢
     exact⟨⟨hkk.1.1,hl,hkk.1.2.2⟩,hkk.2⟩
    ·exact hkf z (by rw[U.flat_eq];exact mem_cons_of_mem _ hz)
   ·exact hrest z (.inr hz)
  ·rcases hz with rfl|hz|hz|hz
   ·rw[←hok u u.flat_self]
    refine fQ rfl rfl ⟨rfl,rfl⟩ ⟨rfl,rfl⟩ ?_
    simp only
    rw[s.eq,map_append,map_append,map_cons,map_cons]
    have:(U.wth i (λy=>{y with label:=s0}) k).key=k.key:=by
     rw[U.wth_eq,if_neg hk];rfl
    rw[this]
   ·exact hrest z (.inl hz)
   ·refine ih hk hkf (λp d j e=>?_) hk0 z hz
    exact ht p (d+1) j (by rw[fO h s hk,e];rfl)
   ·exact hrest z (.inr hz)
theorem eu {α:Type} {p q:α->Bool}:∀{l:List α},(∀x∈l,p x=q x)->l.all p=l.all q
 |[],_=>rfl
 |x::l,h=>by rw[all_cons,all_cons,h x (by simp),eu λy hy=>h y (by simp[hy])]
theorem lG (p:U->Bool):∀us:List U,(U.flats us).all p=us.all λk=>k.flat.all p
 |[]=>by rw[flats_nil];rfl
 |u::us=>by rw[flats_cons,all_append,lG p us,all_cons]
theorem iP (p:U->Bool) (u:U):u.flat.all p=(p u&&u.kids.all λk=>k.flat.all p):=by rw[U.flat_eq,all_cons,lG]
/-! ### trees that stand right -/
theorem kN (k:Int):∀us:List U,U.rights k us=((us.all λx=>nests k x.kind)&&us.all U.right)
 |[]=>by rw[U.rights];rfl
 |u::us=>by
  rw[U.rights,kN k us,all_cons,all_cons]
  cases nests k u.kind<;>cases u.right<;>simp
theorem lp:aU []=true:=by decide
theorem nM (u:U):aloneOk u=(own1 u&&decide ((u.kids.length:Int)<=64)):=by
 unfold aloneOk own1
 by_cases hk:u.kind=0
 ·rw[if_pos hk,if_pos hk,Bool.eq_iff_iff]
  simp only[Bool.and_eq_true,decide_eq_true_eq]
  constructor
  ·rintro⟨⟨_,_,h3,_,_⟩,h6⟩;exact⟨h6,h3⟩
  ·rintro⟨⟨h6,h7,h8⟩,h3⟩
   have e1:u.head=[]:=length_eq_zero_iff.1 (by omega)
   have e2:u.words=[]:=length_eq_zero_iff.1 (by omega)
   exact⟨⟨by omega,by omega,h3,by rw[e1];exact lp,by rw[e2];exact lp⟩,h6,h7,h8⟩
 ·rw[if_neg hk,if_neg hk,Bool.eq_iff_iff]
  simp only[Bool.and_eq_true,decide_eq_true_eq]
  constructor
  ·rintro⟨⟨h1,h2,h3,h4,h5⟩,h6⟩;exact⟨⟨⟨h1,h2⟩,h6,h4,h5⟩,h3⟩
  ·rintro⟨⟨⟨h1,h2⟩,h6,h4,h5⟩,h3⟩;exact⟨⟨h1,h2,h3,h4,h5⟩,h6⟩
theorem oG:∀u:U,u.right=u.flat.all nodeOk:=by
 refine U.ind λu ih=>?_
 rw[U.right_eq,iP,kN,nM,eu ih,show nodeOk u=(own1 u&&((u.kids.all λk=>nests u.kind k.kind)&&decide (Apart u.kids)&&decide ((u.kids.length:Int)<=64)))from rfl]
 generalize own1 u=a,(u.kids.all λx=>nests u.kind x.kind)=b,decide (Apart u.kids)=c,decide ((u.kids.length:Int)<=64)=d,(u.kids.all λk=>k.flat.all nodeOk)=e
 cases a<;>cases b<;>cases c<;>cases d<;>cases e<;>rfl
theorem kG (u:U):treeOk u=treeOk2 u:=by unfold treeOk treeOk2;rw[oG]
/-! ### bare trees -/
theorem mQ {α:Type} {f:α->α}:∀{l:List α},l=l.map f↔∀x∈l,x=f x
 |[]=>by simp
 |x::l=>by simp[mQ (f:=f) (l:=l)]
theorem wd_bare (w:Wd):w=w.bare↔marked w=false:=by
 obtain⟨t,a,b,c⟩:=w
 simp[Wd.bare,marked]
theorem lA (l:List Wd):l=l.map Wd.bare↔l.any marked=false:=by
 rw[mQ,any_eq_false]
 constructor<;>intro h x hx
 ·have:=(wd_bare x).1 (h x hx);simp[this]
 ·exact(wd_bare x).2 (by simpa using h x hx)
theorem strip_fix:∀u:U,(u=u.strip)↔u.flat.all bareNode=true:=by
 refine U.ind λu ih=>?_
 rw[iP,Bool.and_eq_true,all_eq_true,U.strip_eq,show bareNode u=(decide (u.id=zId)&&(!u.head.any marked&& !u.words.any marked))from rfl]
 simp only[Bool.and_eq_true,decide_eq_true_eq,Bool.not_eq_true']
 rw[←lA,←lA]
 have hk:u.kids=u.kids.map U.strip↔∀k∈u.kids,k.flat.all bareNode=true:=by
  rw[mQ]
  exact⟨λh k hk=>(ih k hk).1 (h k hk),λh k hk=>(ih k hk).2 (h k hk)⟩
 rw[←hk]
 obtain⟨i,k,l,h,w,ks⟩:=u
 simp only[U.mk.injEq,true_and,zId]
 constructor
 ·rintro⟨a,b,c,d⟩;exact⟨⟨a,b,c⟩,d⟩
 ·rintro⟨⟨a,b,c⟩,d⟩;exact⟨a,b,c,d⟩
theorem gZ (u:U):bareOk u=bareOk2 u:=by
 unfold bareOk bareOk2
 rw[kG]
 congr 1
 rw[Bool.eq_iff_iff,decide_eq_true_eq,strip_fix]
/-! ### shapes -/
theorem lU (u:U):alone11 u=own1 u:=by
 unfold alone11 own1
 by_cases hk:u.kind=0
 ·rw[if_pos hk,if_pos hk]
 ·rw[if_neg hk,if_neg hk]
  have:decide (0<u.kind)=decide (0<=u.kind):=by rw[decide_eq_decide];omega
  rw[this,Bool.and_assoc]
theorem jW (d k:Int):∀us:List U,U.shapes d k us=((us.all λx=>nests k x.kind)&&us.all λx=>x.shape d)
 |[]=>by rw[U.shapes];rfl
 |u::us=>by
  rw[U.shapes,jW d k us,all_cons,all_cons]
  cases nests k u.kind<;>cases u.shape d<;>simp
theorem nests_ne0 {p k:Int} (h:nests p k=true):k≠0:=by
 unfold nests at h
 (repeat' split at h)<;>simp at h<;>omega
theorem deps_le (us:List U) (d:Int):d+U.deps us<=8↔d<=8/\∀k∈us,d+1+k.dep<=8:=by
 induction us with
 |nil=>simp[U.deps_nil]
 |cons u us ih=>
  rw[U.deps_cons]
  constructor
  ·intro h
   have h2:=ih.1 (by omega)
   refine⟨h2.1,λk hk=>?_⟩
   rcases mem_cons.1 hk with rfl|hk
   ·omega
   ·exact h2.2 k hk
  ·rintro⟨h1,h2⟩
   have a1:=h2 u (by simp)
   have a2:=ih.2 ⟨h1,λk hk=>h2 k (by simp[hk])⟩
   omega
theorem j1:∀(u:U) (d:Int),0<=d->u.shape d=(u.flat.all nodeOk&&(decide (d+u.dep<=8)&& !(decide (0<d)&&decide (u.kind=0)))):=by
 refine U.ind λu ih d hd=>?_
 rw[U.shape_eq,iP,jW,lU,eu λk hk=>ih k hk (d+1) (by omega),U.dep_eq]
 rw[Bool.eq_iff_iff,show nodeOk u=(own1 u&&((u.kids.all λk=>nests u.kind k.kind)&&decide (Apart u.kids)&&decide ((u.kids.length:Int)<=64)))from rfl]
 simp only[Bool.and_eq_true,decide_eq_true_eq,all_eq_true,Bool.not_eq_true',Bool.and_eq_false_iff,decide_eq_false_iff_not,deps_le]
 constructor
 ·rintro⟨⟨⟨a1,a2⟩,a3,a4⟩,⟨a5,a6⟩,a7⟩
  exact⟨⟨⟨a3,⟨a5,a7⟩,a4⟩,λk hk=>(a6 k hk).1⟩,⟨a1,λk hk=>(a6 k hk).2.1⟩,a2⟩
 ·rintro⟨⟨⟨a3,⟨a5,a7⟩,a4⟩,a8⟩,⟨a1,a9⟩,a2⟩
  exact⟨⟨⟨a1,a2⟩,a3,a4⟩,⟨a5,λk hk=>⟨a8 k hk,a9 k hk,.inr (nests_ne0 (a5 k hk))⟩⟩,a7⟩
/-! ### stripped trees -/
theorem fZ:∀us:List U,(∀k∈us,k.strip.flat=k.flat.map U.strip)->U.flats (us.map U.strip)=(U.flats us).map U.strip
 |[],_=>by rw[map_nil,flats_nil];rfl
 |u::us,h=>by rw[map_cons,flats_cons,flats_cons,map_append,h u (by simp),fZ us λk hk=>h k (by simp[hk])]
theorem eA:∀u:U,u.strip.flat=u.flat.map U.strip:=by
 refine U.ind λu ih=>?_
 rw[U.flat_eq,U.flat_eq,map_cons]
 congr 1
 rw[U.strip_eq]
 exact fZ _ ih
theorem iq (u:U):u.strip.kind=u.kind:=by rw[U.strip_eq]
theorem nN (u:U):u.strip.label=u.label:=by rw[U.strip_eq]
theorem oH (l:List Wd):aU (l.map Wd.bare)=aU l:=by
 unfold aU
 rw[length_map,all_map]
 rfl
theorem own_strip (u:U):own1 u.strip=own1 u:=by
 rw[U.strip_eq]
 unfold own1
 simp only[length_map,oH]
theorem nL (l:List U):Apart (l.map U.strip)=Apart l:=by
 unfold Apart
 rw[map_map]
 congr 1
 refine map_congr_left λk _=>?_
 simp only[Function.comp,iq,nN]
theorem mO (u:U):nodeOk u.strip=nodeOk u:=by
 have h:u.strip.kids=u.kids.map U.strip:=by rw[U.strip_eq]
 unfold nodeOk
 rw[own_strip,h,all_map,length_map,iq]
 simp only[nL]
 congr 3
 exact eu λk _=>by simp only[Function.comp,iq]
theorem ky:∀us:List U,(∀k∈us,k.strip.dep=k.dep)->U.deps (us.map U.strip)=U.deps us
 |[],_=>rfl
 |u::us,h=>by rw[map_cons,U.deps_cons,U.deps_cons,h u (by simp),ky us λk hk=>h k (by simp[hk])]
theorem dep_strip:∀u:U,u.strip.dep=u.dep:=by
 refine U.ind λu ih=>?_
 rw[U.dep_eq,U.dep_eq,show u.strip.kids=u.kids.map U.strip by rw[U.strip_eq]]
 exact ky _ ih
theorem cnt_strip (u:U):u.strip.cnt=u.cnt:=by unfold U.cnt;rw[eA,length_map]
theorem ids_strip (u:U):idsOk u.strip=true:=by
 unfold idsOk U.ids
 rw[eA]
 simp only[Bool.or_eq_true,all_eq_true,map_map]
 left
 intro x hx
 obtain⟨y,_,rfl⟩:=mem_map.1 hx
 simp[Function.comp,U.strip_eq,zId]
theorem kQ (u:U):treeOk2 u.strip=shapeOk u:=by
 unfold treeOk2 shapeOk
 rw[j1 u 0 (by omega),eA,all_map,dep_strip,cnt_strip,ids_strip,eu (p:=nodeOk ∘ U.strip) (q:=nodeOk) λx _=>mO x]
 simp[Bool.and_assoc]
def U.lone (u:U):U:=⟨zId,u.kind,u.label,u.head,u.words,[]⟩
theorem tree_lone (u:U):treeOk2 u.lone.strip=alone11 u:=by
 rw[kQ,lU]
 unfold shapeOk
 rw[j1 _ 0 (by omega),iP]
 have h1:u.lone.dep=0:=by rw[U.dep_eq];rfl
 have h2:u.lone.cnt=1:=by rw[U.cnt_eq];rfl
 rw[h1,h2]
 unfold nodeOk
 have:own1 u.lone=own1 u:=rfl
 rw[this]
 simp[U.lone,Apart]
end Go.Av
