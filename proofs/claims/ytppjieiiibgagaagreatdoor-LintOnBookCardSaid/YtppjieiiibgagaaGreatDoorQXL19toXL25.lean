/-
  LINT, 19: maps of siblings and of identities.
-/
import Derived.Test.YtppjieiiibgagaaGreatDoorQXE6toXL18
import Derived.Test.YtppjieiiibgagaaGreatDoorQXAv23toXAv25
import Derived.Shelf.Strings.SlTrimAscii
set_option linter.all false
namespace Go.Av
open Go Go.RowKit Go.Proofs List
def mset {κ:Type} (l:List κ):List (κ×AV):=l.map λx=>(x,AV.bool true)
def d8 {κ:Type} [DecidableEq κ] (k:κ):∀l:List κ,(bt k (mset l)).getD (.bool false)= .bool (decide (k∈l))
 |[]=>by simp[mset,bt]
 |x::l=>by
  simp only[mset,map_cons,bt];by_cases h:x=k
  ·subst h;simp
  ·rw[if_neg h];have:=d8 k l;unfold mset at this;rw[this];have:k≠x:=λe=>h e.symm;simp[this]
def ml {κ:Type} [DecidableEq κ] (k:κ):∀l:List κ,d9 k (.bool true) (mset l)=mset (if k∈l then l else l++[k])
 |[]=>by simp[mset,d9]
 |x::l=>by
  simp only[mset,map_cons,d9];by_cases h:x=k
  ·subst h;simp
  ·rw[if_neg h];have:=ml k l;unfold mset at this;rw[this];have D:k≠x:=λe=>h e.symm;by_cases E:k∈l<;>simp[D,E]
abbrev CKey:=Int×List UInt8
def ki (k:CKey):List Value:=[.i k.1,.string ⟨⟨k.2⟩⟩]
def ckVal (k:CKey):Value:=.agg (ki k).toArray
def ke (k:Idd):List Value:=[.i k.act,.i k.item,.i k.n]
def idVal (k:Idd):Value:=.agg (ke k).toArray
def U.ck (u:U):CKey:=(u.kind,u.label)
def eqK_ck (a b:CKey):eqK [1,2] (ki a) (ki b)=some (decide (a=b)):=by
 obtain⟨D,E⟩:=a;obtain⟨F,I⟩:=b;simp only[ki,eqK,if_true,Option.map_some];congr 1;rw[Bool.eq_iff_iff];simp
def eqK_id (a b:Idd):eqK [1,1,1] (ke a) (ke b)=some (decide (a=b)):=by
 rw[oc];simp only[ke,eqK,if_true,Option.map_some];congr 1;rw[Bool.eq_iff_iff];simp
def mapK_ck:MapK Tryz.prog 308 ckVal:=
 nD (fs:=Tryz.prog.fieldsOf 308) (ks:=[1,2]) (by kernel_rfl) (by kernel_rfl) ki (λ_=>rfl) eqK_ck (λk v D n=>by
  simp only[ki,mem_cons,not_mem_nil,or_false]at D
  rcases D with rfl|rfl
  ·exact jv n _ _
  ·exact od n _)
def mapK_id:MapK Tryz.prog 23 idVal:=
 nD (fs:=Tryz.prog.fieldsOf 23) (ks:=[1,1,1]) (by kernel_rfl) (by kernel_rfl) ke (λ_=>rfl) eqK_id (λk v D n=>by
  simp only[ke,mem_cons,not_mem_nil,or_false]at D
  rcases D with rfl|rfl|rfl<;>exact jv n _ _)
def rep_ck (k:Int) (s:List UInt8):∀τ w v,Rep τ w (.agg [.i k,.str s]) v->v=ckVal (k,s):=by
 intro τ w v h;simp only[Rep,RepL]at h;obtain⟨vs,rfl,_,u,us,D,rfl,F,E,rfl,rfl,rfl⟩:=h
 have:vs=vs.toList.toArray:=by simp
 rw[this,D];rfl
def rep_id (i:Idd):∀τ w v,Rep τ w (.agg [.i i.act,.i i.item,.i i.n]) v->v=idVal i:=by
 intro τ w v h;simp only[Rep,RepL]at h;obtain⟨vs,rfl,_,u,us,D,rfl,I,E,rfl,rfl,J,F,rfl,rfl,rfl⟩:=h
 have:vs=vs.toList.toArray:=by simp
 rw[this,D];rfl
def io (c:List Idd):(df idVal (mset c)).length=c.length:=by simp[df,mset]
def Seen (l c:List Idd) (i:Nat):Prop:=(∀y,y∈c↔y∈l.take i)/\c.Nodup/\(c.length=i↔(l.take i).Nodup)/\c.length<=i
def seen_step {l c:List Idd} {i:Nat} {x:Idd} {r:List Idd} (N:Rest l i x r) (h:Seen l c i):Seen l (if x∈c then c else c++[x]) (i+1):=by
 obtain⟨F,J,M,O⟩:=h;unfold Seen;rw[N.take];by_cases D:x∈c
 ·rw[if_pos D];refine⟨λy=>?_,J,⟨λe=>by omega,λe=>?_⟩,by omega⟩
  ·rw[mem_append,←F];constructor
   ·exact .inl
   ·rintro(h|h)
    ·exact h
    ·simp only[mem_singleton]at h;subst h;exact D
  ·exact absurd rfl ((nodup_append.1 e).2.2 x ((F x).1 D) x (by simp))
 ·rw[if_neg D];refine⟨λy=>by rw[mem_append,mem_append,←F],nodup_append.2 ⟨J,by simp,?_⟩,?_,by simp;omega⟩
  ·intro a I b E e;simp only[mem_singleton]at E;subst E e;exact D I
  ·rw[length_append,length_singleton];constructor
   ·intro e;refine nodup_append.2 ⟨M.1 (by omega),by simp,?_⟩;intro a I b E e;simp only[mem_singleton]at E;subst E e;exact D ((F a).2 I)
   ·intro e;have:=M.2 (nodup_append.1 e).1;omega
def seen_all {l c:List Idd} (h:Seen l c l.length):(zId∈c/\c.length=1↔(l≠[]/\(l.all λx=>decide (x=zId))=true))/\(c.length=l.length↔l.Nodup):=by
 obtain⟨F,N,O,Y⟩:=h;rw[take_length]at F O;refine⟨⟨λ⟨J,M⟩=>?_,λ⟨J,M⟩=>?_⟩,O⟩
 ·obtain⟨a,rfl⟩:=length_eq_one_iff.1 M;simp only[mem_singleton]at J;subst J;refine⟨λe=>?_,all_eq_true.2 λy I=>?_⟩
  ·have:=(F zId).1 (by simp);rw[e]at this;cases this
  ·have:=(F y).2 I;simpa using this
 ·have D:∀y∈c,y=zId:=λy I=>by simpa using(all_eq_true.1 M) y ((F y).1 I)
  obtain⟨y,I⟩:=exists_mem_of_ne_nil _ J;have E:=(F y).2 I;have X:=D y E;subst X;refine⟨E,?_⟩
  match c,E,N,D with
  |[a],_,_,_=>rfl
  |a::b::c,_,N,D=>
   have T:=D a (by simp);have V:=D b (by simp);simp[T,V]at N
def own1 (u:U):Bool:=if u.kind=0 then decide (u.label=[])&&(decide ((u.head.length:Int)=0)&&decide ((u.words.length:Int)=0))else decide (0<=u.kind)&&decide (u.kind<=7)&&(bK u.label&&(ba u.head&&ba u.words))
def nodeOk (u:U):Bool:=own1 u&&((u.kids.all λk=>nests u.kind k.kind)&&decide (bY u.kids)&&decide ((u.kids.length:Int)<=64))
def kt_nil (k:Int):((if 0<=k/\k<=7 then kindText k else [])=[])=¬(0<=k/\k<=7):=by
 apply propext;split
 ·rename_i h;refine⟨λe=>?_,λe=>absurd h e⟩
  rcases lt8 h.1 h.2 with rfl|rfl|rfl|rfl|rfl|rfl|rfl|rfl<;>cases e
 ·rename_i h;simp only[true_iff];exact h
def own_no0 {u:U} (h:u.kind=0) (D:u.label≠[]\/(0:Int)<(u.head.length:Int)+(u.words.length:Int)):own1 u=false:=by
 unfold own1;rw[if_pos h]
 rcases D with D|D
 ·simp[D]
 ·simp;intro _ e E;simp[e,E]at D
def own_yes0 {u:U} (h:u.kind=0) (D:¬u.label≠[]) (E:(u.head.length:Int)+(u.words.length:Int)<=0):own1 u=true:=by
 unfold own1;rw[if_pos h];simp only[Bool.and_eq_true,decide_eq_true_eq];exact⟨by simpa using D,by omega,by omega⟩
section
variable (G:Glob) (hG:GOk G)
include hG
def f342 (u:U) (ht:u.Tame) (hh:u.head.length<1000000) (V:u.words.length<1000000):Pure G Tryz.prog 342 [.agg u.cs] (.bool (nodeOk u)):=by
 have ad:=ht.kids;have O:=f374 G hG;refine Pure.w c342 λR I=>?_;unfold s342 r342;have F:IntKind.i64.wrap ((u.head.length:Int)+(u.words.length:Int))=(u.head.length:Int)+(u.words.length:Int):=av (by omega) (by omega);(repeat' (first|(with_reducible (first|refine ae (λh=>?_) λh=>?_|refine af (λh=>?_) λh=>?_)<;>(try simp only[DZ]at h))|(with_reducible first|refine ab (O _) ?_|refine ab (f198 G _) ?_|refine ab (f375 G _ hh) ?_|refine ab (f375 G _ V) ?_)|simp only[EV,seval,F]))
 all_goals(try(refine fD ?_;intro Y ac))
 all_goals(try((repeat' (first|(with_reducible (first|refine ae (λh=>?_) λh=>?_|refine af (λh=>?_) λh=>?_)<;>(try simp only[DZ]at h))|(with_reducible refine ab (f156 G hG _ _) ?_)|simp only[EV,seval,F,d8,E.yes,E.le0,E.lt',E.get,E.row,Z,J]|simp only[EV,seval,F,d8,E.yes,E.le0,E.lt',E.get,E.row,Z]|simp only[EV,seval,F,d8,hn]|simp only[EV,seval,F,d8]|(with_reducible intro aa N;(try(have M:=N;simp only[EVK]at M;first|(have J:=AI M J)|(have J:=M))))|(refine ap u.kids (λi r (c:Unit)=>(u.kids.all λk=>nests u.kind k.kind)=(r.all λk=>nests u.kind k.kind)/\bY (u.kids.take i)) (λi c=>[(1,.ref u.cs),(3,.sc (.map (some Y))),(47,.lst 8 (u.kids.map U.cs)),(48,.i u.kids.length),(49,.i i)]) (λi c=>[(Y,.map (df ckVal (mset ((u.kids.take i).map U.ck))))]) () ⟨rfl,by simp[bY]⟩ (dT _ _) (by omega) (λi x r c D E Z=>?_) (λc D hn=>?_))|(refine aO mapK_ck (l:=mset ((u.kids.take i).map U.ck)) (k:=x.ck) (z:=.bool false) (zv:=.bool false) rfl (rep_ck _ _) (eT:=4) (by kernel_rfl) (by simp[Store.get, *]) (by kernel_rfl) (λ_ _=>by simp only[Rep]) ?_)|(refine fN mapK_ck (l:=mset ((u.kids.take i).map U.ck)) (k:=x.ck) (yv:=.bool true) rfl (rep_ck _ _) rfl (eT:=4) (by kernel_rfl) (by simp[Store.get, *]) ?_)))))
 all_goals first
  |(rename_i T
    refine ak E () ⟨by rw[D.1,all_cons,T,Bool.true_and],?_⟩ ?_
    ·refine jj E D.2 λy X e=>h (mem_map.2 ⟨y,X,?_⟩)
     unfold U.ck
     rw[e.1,e.2]
    ·rw[ml,if_neg h,show List.map U.ck (List.take i u.kids)++[x.ck]=List.map U.ck (List.take (i+1) u.kids)by rw[E.take];simp]
     exact Weak.sub ⟨λp hp=>mem_cons_of_mem _ (mem_cons_of_mem _ hp),λ_=>by simp[Store.keys]⟩)
  |(refine RET.eq I (congrArg AV.bool ?_)
    obtain⟨y,X,e⟩:=mem_map.1 h
    unfold U.ck at e
    injection e with e1 e2
    unfold nodeOk
    rw[decide_eq_false (mn E X e1 e2)]
    simp)
  |(refine RET.eq I (congrArg AV.bool ?_);unfold nodeOk;rw[D.1,all_cons,h];simp;done)
  |(refine RET.eq I (congrArg AV.bool ?_);unfold nodeOk;rw[own_no0 (by assumption) (.inr h)];rfl)
  |(refine RET.eq I (congrArg AV.bool ?_);unfold nodeOk;rw[own_no0 (by assumption) (.inl h)];rfl)
  |(rw[take_length]at D
    refine RET.eq I (congrArg AV.bool ?_);unfold nodeOk;rw[D.1,decide_eq_true D.2,own_yes0 (by assumption) (by assumption) h];rfl)
  |(rw[take_length]at D
    simp only[kt_nil,Classical.not_not]at*
    refine RET.eq I (congrArg AV.bool ?_);unfold nodeOk own1;rw[D.1,decide_eq_true D.2];simp[*];done)
  |(simp only[kt_nil,Classical.not_not]at*;refine RET.eq I (congrArg AV.bool ?_);unfold nodeOk own1;simp[*];done)
  |(simp only[kt_nil,Classical.not_not]at*;refine RET.eq I (congrArg AV.bool ?_);unfold nodeOk own1;simp[*];intros;omega)
  |skip
end
section
variable (G:Glob)
def f343 (u:U) (X:u.Tame):Pure G Tryz.prog 343 [.agg u.cs] (.bool (gZ u)):=by
 have V:=f211 G u X
 have hl:u.ids.length<1000000:=by rw[rZ];exact X.2
 have h0:u.ids=u.id::U.idss u.kids:=rb u;refine Pure.w c343 λR N=>?_;unfold s343 r343;unfold gZ at N;obtain⟨l,I⟩:∃l,u.ids=l:=⟨_,rfl⟩;rw[I]at N V hl;(repeat' (first|(with_reducible refine ab V ?_)|simp only[EV,seval]));refine fD ?_;intro T aa;(repeat' (first|(with_reducible (refine af (λh=>?_) λh=>?_)<;>(try simp only[DZ]at h))|simp only[EV,seval,d8,io,dm,D.yes,D.le0,D.lt',D.get,D.row,Y,O]|simp only[EV,seval,d8,io,dm,D.yes,D.le0,D.lt',D.get,D.row,Y]|simp only[EV,seval,d8,io,dm,hn]|simp only[EV,seval,d8,io,dm]|(with_reducible intro Z F;(try(have M:=F;simp only[EVK]at M;(have O:=M))))|(refine ap (ι:=List Idd) l (λi r c=>Seen l c i) (λi c=>[(1,.ref u.cs),(3,.lst 3 (l.map Idd.cs)),(4,.sc (.map (some T))),(11,.lst 3 (l.map Idd.cs)),(12,.i l.length),(13,.i i)]) (λi c=>[(T,.map (df idVal (mset c)))]) [] (by simp[Seen]) (dT _ _) (by omega) (λi x r c E D Y=>?_) (λc E hn=>?_))|(refine aO mapK_id (l:=mset c) (k:=zId) (z:=.bool false) (zv:=.bool false) rfl (rep_id zId) (eT:=4) (by kernel_rfl) (by simp[Store.get, *]) (by kernel_rfl) (λ_ _=>by simp only[Rep]) ?_)|(refine fN mapK_id (l:=mset c) (k:=x) (yv:=.bool true) rfl (rep_id x) rfl (eT:=4) (by kernel_rfl) (by simp[Store.get, *]) ?_)|(refine qN (es:=df idVal (mset c)) (kT:=23) (eT:=4) rfl (by kernel_rfl) (by simp[Store.get]) ?_)))
 ·rw[ml];exact ak D _ (seen_step D E) (Weak.sub ⟨λp hp=>mem_cons_of_mem _ hp,λ_=>by simp[Store.keys]⟩)
 all_goals
  have J:l≠[]:=by rw[←I,h0];simp
  obtain⟨s1,s2⟩:=seen_all E
  have hA:(l.all λx=>decide (x=zId))=(decide (zId∈c)&&decide ((c.length:Int)=1)):=by
   rw[Bool.eq_iff_iff,Bool.and_eq_true,decide_eq_true_eq,decide_eq_true_eq,show((c.length:Int)=1↔c.length=1)by omega,s1];exact⟨λh=>⟨J,h⟩,λh=>h.2⟩
  have hB:decide l.Nodup=decide ((c.length:Int)=(l.length:Int)):=by rw[decide_eq_decide,←s2];omega
  have hC:(decide (u.kind=0)==decide (u.id=zId))=decide (decide (u.id=zId)=decide (u.kind=0)):=by
   by_cases e1:u.kind=0<;>by_cases e2:u.id=zId<;>simp[e1,e2]
  refine RET.eq N (congrArg AV.bool ?_)
  (try rw[hC])
  rw[hA,hB]
  first|rw[decide_eq_true (p:=zId∈c) (by assumption)]|rw[decide_eq_false (p:=zId∈c) (by assumption)]
  (try(first|rw[decide_eq_true (p:=(c.length:Int)=1) (by assumption)]|rw[decide_eq_false (p:=(c.length:Int)=1) (by assumption)]))
  (try(first|rw[decide_eq_true (p:=(c.length:Int)=(l.length:Int)) (by assumption)]|rw[decide_eq_false (p:=(c.length:Int)=(l.length:Int)) (by assumption)]))
  simp
def cR (u:U):Bool:=u.flat.all nodeOk&&(decide (u.dep<=8)&&(decide (u.cnt<=1024)&&gZ u))
def en (w:Wd):Bool:=!decide (w.act=0/\w.item=0/\w.at_=0)
def d6 (u:U):Bool:=decide (u.id=zId)&&(!u.head.any en&& !u.words.any en)
def iJ (u:U):Bool:=cR u&&u.flat.all d6
end
section
variable (G:Glob) (hG:GOk G)
def jB {us:List U} {x:U} (h:x∈U.flats us):∃k∈us,x∈k.flat:=by
 induction us with
 |nil=>rw[bH]at h;cases h
 |cons a us ih=>
  rw[aF]at h
  rcases mem_append.1 h with h|h
  ·exact⟨a,by simp,h⟩
  ·obtain⟨k,D,E⟩:=ih h;exact⟨k,by simp[D],E⟩
def U.Tame.node:∀{u:U},u.Tame->∀x∈u.flat,x.Tame:=by
 intro u
 induction u using U.ind with
 |h u ih=>
  intro F x D;rw[U.flat_eq]at D
  rcases mem_cons.1 D with rfl|D
  ·exact F
  ·obtain⟨k,E,D⟩:=jB D;exact ih k E (F.kid E) x D
include hG in
def f275 (u:U) (F:u.Short):Pure G Tryz.prog 275 [.agg u.cs] (.bool (cR u)):=by
 have D:=F.1
 have J:Pure G Tryz.prog 306 [.agg u.cs,.sc (.func (.func 342) #[] #[])] (.bool (u.flat.all nodeOk)):=
  lu G _ nodeOk u D λx I=>(f342 G hG x (D.node x I) (F.2 x I).2.1 (F.2 x I).2.2.1).v
 refine Pure.w c275 λR E=>?_;unfold s275 r275;unfold cR at E;generalize u.flat.all nodeOk=q at*;(repeat' (first|(with_reducible (refine af (λh=>?_) λh=>?_)<;>(try simp only[DZ]at h))|(with_reducible first|refine ab J ?_|refine ab (f194 G u D) ?_|refine ab (f210 G u D) ?_|refine ab (f343 G u D) ?_)|simp only[EV,seval]));(all_goals(first|(refine RET.eq E ?_;(refine congrArg AV.bool (Bool.eq_iff_iff.2 ?_);simp only[EVB]at*;omega))|(refine RET.eq E ?_;((simp_all[];done)))))
def f355 (w:Wd):Pure G Tryz.prog 355 [.agg w.cs] (.bool (en w)):=by
 refine Pure.w c355 λR D=>?_;unfold s355 r355;(repeat' (simp only[EV,seval]));(all_goals(((refine RET.eq D ?_;((simp_all[en];done))))))
def f354 (u:U) (M:u.head.length<1000000) (J:u.words.length<1000000):Pure G Tryz.prog 354 [.agg u.cs] (.bool (d6 u)):=by
 have E:=λw=>(f355 G w).v;have F:=f297 G _ en u.head (by omega) (λx _=>E x);have I:=f297 G _ en u.words (by omega) (λx _=>E x);refine Pure.w c354 λR D=>?_;unfold s354 r354;unfold d6 at D;generalize u.head.any en=q1 at*;generalize u.words.any en=q2 at*;(repeat' (first|(with_reducible (refine af (λh=>?_) λh=>?_)<;>(try simp only[DZ]at h))|(with_reducible first|refine ab F ?_|refine ab I ?_)|simp only[EV,seval,dm]));(all_goals(((refine RET.eq D ?_;((simp_all[];done))))))
include hG in
def f318 (u:U) (D:u.Short):Pure G Tryz.prog 318 [.agg u.cs] (.bool (iJ u)):=by
 have J:=D.1
 have I:Pure G Tryz.prog 306 [.agg u.cs,.sc (.func (.func 354) #[] #[])] (.bool (u.flat.all d6)):=
  lu G _ d6 u J λx F=>(f354 G x (D.2 x F).2.1 (D.2 x F).2.2.1).v
 refine Pure.w c318 λR E=>?_;unfold s318 r318;unfold iJ at E;generalize u.flat.all d6=q at*;(repeat' (first|(with_reducible (refine af (λh=>?_) λh=>?_)<;>(try simp only[DZ]at h))|(with_reducible first|refine ab I ?_|refine ab (f275 G hG u D) ?_)|simp only[EV,seval]));(all_goals(((refine RET.eq E ?_;((simp_all[];done))))))
end
def fC:List UInt8:=[97,98,99,100,101,102,103,104,105,106,107,108,109,110,111,112,113,114,115,116,117,118,119,120,121,122,48,49,50,51,52,53,54,55,56,57,45]
def rh (c:UInt8):fC.contains c=dI c:=by
 have key:∀n:Fin 256,fC.contains (UInt8.ofNat n.val)=dI (UInt8.ofNat n.val):=by decide+kernel
 have:=key ⟨c.toNat,c.toNat_lt⟩;simpa using this
def fQ {α:Type} (p:α->Bool):∀l:List α,l.dropWhile p=[]↔l.all p=true
 |[]=>by simp
 |x::l=>by
  rw[dropWhile_cons,all_cons];split
  ·rename_i h;rw[fQ p l,h,Bool.true_and]
  ·rename_i h;simp[h]
def trimS_nil (l cs:List UInt8):Lib.trimS l cs=[]↔(l.all λc=>cs.contains c)=true:=by
 unfold Lib.trimS Lib.trimLeftS Lib.trimRightS;rw[fQ,all_reverse];constructor
 ·intro h
  have D:l.reverse.all (λc=>cs.contains c)=true:=by
   rw[←takeWhile_append_dropWhile (p:=λc=>cs.contains c) (l:=l.reverse),all_append,h,Bool.and_true];exact all_takeWhile
  rwa [all_reverse]at D
 ·intro h;have D:l.reverse.dropWhile (λc=>cs.contains c)=[]:=(fQ _ _).2 (by rw[all_reverse];exact h);rw[D];rfl
section
variable (G:Glob)
def f252 (s:List UInt8) (N:s.length<1000000000000000000):Pure G Tryz.prog 252 [.str s,.str fC] (.str (Lib.trimS s fC)):=by
 refine sn Tryz.func252 (by kernel_rfl) (by kernel_rfl) λτ w vs M I=>?_;obtain⟨u,v,rfl,E,F⟩:=gT I;simp only[Rep]at E F;subst E F;refine⟨.string ⟨⟨Lib.trimS s fC⟩⟩,λ_ _=>by simp only[Rep],?_⟩;have D:(⟨⟨s⟩⟩:ByteArray).size=s.length:=rfl;refine(Any.strings_Trim_laid Tryz.lays160 (by kernel_rfl) ⟨⟨s⟩⟩ ⟨⟨fC⟩⟩ w (by rw[D];omega) (by decide) (ascii_of_all (by decide))).mono ?_;rintro e w' ⟨rfl,J⟩;exact⟨rfl,J⟩
def f132 (s:List UInt8) (I:s.length<1000000000000000000):Pure G Tryz.prog 132 [.str s] (.bool (cQ s)):=by
 have E:=f252 G s I
 have F:decide (Lib.trimS s fC=[])=s.all dI:=by
  rw[Bool.eq_iff_iff,decide_eq_true_eq,trimS_nil];simp only[rh]
 unfold fC at E F;refine Pure.w c132 λR D=>?_;unfold s132 r132;unfold cQ at D;generalize s.all dI=q at*;(repeat' (first|(with_reducible (first|refine ae (λh=>?_) λh=>?_|refine af (λh=>?_) λh=>?_)<;>(try simp only[DZ]at h))|(with_reducible first|refine AI (by omega) ?_|refine ab E ?_)|simp only[EV,seval,F]));(all_goals(first|(refine RET.eq D ?_;(refine congrArg AV.bool (Bool.eq_iff_iff.2 ?_);simp only[gM,EVB]at*;omega))|(refine RET.eq D ?_;((simp_all[gM];done)))))
def f133 (s:Sta) (E:s.event.length<1000000000000000000):Pure G Tryz.prog 133 [.agg [.i s.kind,.i s.day,.str s.event]] (.bool (jI s)):=by
 refine Pure.w c133 λR D=>?_;unfold s133 r133;(repeat' (first|(with_reducible (first|refine ae (λh=>?_) λh=>?_|refine af (λh=>?_) λh=>?_)<;>(try simp only[DZ]at h))|(with_reducible first|refine ab (f132 G _ E) ?_|refine ab (f247 G _ _ _) ?_)|simp only[EV,seval]|(exfalso;omega)));(all_goals(((refine RET.eq D ?_;((simp_all[jI];done))))))
end
mutual
def Itm.fit:Itm->Prop
 |⟨_,a,t,_,_,u,o,w,_,_,_,_,_,_,_,b⟩=>a.length<1000000000000000000/\t.length<1000000000000000000/\u.fit/\o.length<1000000000000000000/\w.length<1000000000000000000/\b.length<1000000000000000000/\Itm.fits b
def Itm.fits:List Itm->Prop
 |[]=>True
 |u::us=>Itm.fit u/\Itm.fits us
end
def tu:∀{us:List Itm},Itm.fits us↔∀k∈us,k.fit
 |[]=>by simp[Itm.fits]
 |u::us=>by simp[Itm.fits,tu (us:=us)]
def su (u:Itm):u.fit↔u.at_.length<1000000000000000000/\u.to_.length<1000000000000000000/\u.unit.fit/\u.old.length<1000000000000000000/\u.new.length<1000000000000000000/\u.by_.length<1000000000000000000/\∀k∈u.by_,k.fit:=by
 cases u
 rw[Itm.fit,tu]
def cv (l:List (List UInt8)):Bool:=l.all λs=>decide ((s.length:Int)<=100)
def cu (l:List Stp):Bool:=l.all λs=>decide ((s.label.length:Int)<=100)
def iV (x:List UInt8) (r:List (List UInt8)):cv (x::r)=(decide ((x.length:Int)<=100)&&cv r):=rfl
def iU (x:Stp) (r:List Stp):cu (x::r)=(decide ((x.label.length:Int)<=100)&&cu r):=rfl
def Itm.few0 (x:Itm):Bool:=
 decide ((x.at_.length:Int)<=12)&&(decide ((x.to_.length:Int)<=12)&&(decide ((x.old.length:Int)<=300)&&(decide ((x.new.length:Int)<=300)&&(decide ((x.label.length:Int)<=100)&&
 (decide ((x.for_.length:Int)<=100)&&(decide ((x.start.event.length:Int)<=100)&&(decide ((x.event.length:Int)<=100)&&(decide ((x.by_.length:Int)<=2)&&x.unit.few 30))))))))
def kr (x:Itm):Bool:=match x.by_ with
 |[]=>false
 |y::_=>decide (0<(y.by_.length:Int))
mutual
def Itm.few:Itm->Bool
 |⟨k,a,t,wh,n,u,o,w,l,f,s,ac,it,d,e,b⟩=>Itm.few0 ⟨k,a,t,wh,n,u,o,w,l,f,s,ac,it,d,e,b⟩&&(cv o&&(cv w&&(cu a&&(cu t&&Itm.fews b))))
def Itm.fews:List Itm->Bool
 |[]=>true
 |x::l=>(!kr x&&Itm.few x)&&Itm.fews l
end
def te (x:Itm) (l:List Itm):Itm.fews (x::l)=((!kr x&&x.few)&&Itm.fews l):=by rw[Itm.fews]
def ug (x:Itm):x.few=(x.few0&&(cv x.old&&(cv x.new&&(cu x.at_&&(cu x.to_&&Itm.fews x.by_))))):=by cases x;rw[Itm.few]
section
variable (G:Glob)
set_option maxHeartbeats 4000000 in
def f52:∀(x:Itm),x.fit->Pure G Tryz.prog 52 [.agg x.cs] (.bool x.few):=by
 refine Itm.ind λit ih O=>?_;obtain⟨h1,h2,h3,h4,h5,h6,T⟩:=(su it).1 O;refine Pure.w c52 λR F=>?_;unfold s52 r52;rw[ug]at F;(repeat' (first|(with_reducible (first|refine ae (λh=>?_) λh=>?_|refine af (λh=>?_) λh=>?_)<;>(try simp only[DZ]at h))|(with_reducible refine ab (f17 G it.unit 30 h3 (by omega) (by omega)) ?_)|simp only[EV,seval,pt,E.yes,E.le0,E.lt',E.get,E.row,J]|simp only[EV,seval,pt,M]|simp only[EV,seval,pt]|(refine ak E () ?_ (dT _ _))|(refine ap (it.old) (λi r (c:Unit)=>cv it.old=cv r) (λi c=>[(1,.ref it.cs),(3,.i i)]) (λ_ _=>[]) () (by rfl) (dT _ _) (by omega) (λi x r c D E J=>?_) (λc D M=>?_))|(refine ap (it.new) (λi r (c:Unit)=>cv it.new=cv r) (λi c=>[(1,.ref it.cs),(4,.i i)]) (λ_ _=>[]) () (by rfl) (dT _ _) (by omega) (λi x r c D E J=>?_) (λc D M=>?_))|(refine ap (it.at_) (λi r (c:Unit)=>cu it.at_=cu r) (λi c=>[(1,.ref it.cs),(5,.i i)]) (λ_ _=>[]) () (by rfl) (dT _ _) (by omega) (λi x r c D E J=>?_) (λc D M=>?_))|(refine ap (it.to_) (λi r (c:Unit)=>cu it.to_=cu r) (λi c=>[(1,.ref it.cs),(6,.i i)]) (λ_ _=>[]) () (by rfl) (dT _ _) (by omega) (λi x r c D E J=>?_) (λc D M=>?_))))
 all_goals first
  |(rw[D,iV,decide_eq_true h,Bool.true_and];done)
  |(rw[D,iU,decide_eq_true h,Bool.true_and];done)
  |(refine RET.eq F (congrArg AV.bool ?_);rw[D,iV,decide_eq_false (by omega)];simp;done)
  |(refine RET.eq F (congrArg AV.bool ?_);rw[D,iU,decide_eq_false (by omega)];simp;done)
  |(refine RET.eq F (congrArg AV.bool ?_);simp only[Itm.few0, *,decide_true,decide_false,Bool.true_and,Bool.false_and,Bool.and_false];done)
  |(refine RET.eq F (congrArg AV.bool ?_);unfold Itm.few0;rw[decide_eq_false (Int.not_le.2 h)];simp only[Bool.false_and,Bool.and_false];done)
  |skip
 have V:it.few0=true:=by simp only[Itm.few0, *,decide_true,Bool.true_and]
 have X:cv it.old=cv []:=by assumption
 have Y:cv it.new=cv []:=by assumption
 have Z:cu it.at_=cu []:=by assumption
 rw[V,X,Y,Z,D]at F;clear D;refine ap (it.by_) (λi r (c:Unit)=>Itm.fews it.by_=Itm.fews r) (λi c=>[(1,.ref it.cs),(7,.i i)]) (λ_ _=>[]) () rfl (dT _ _) (by omega) (λi x r c D E J=>?_) (λc D M=>?_)
 ·rw[te]at D
  rcases I:x.by_ with _|⟨y,ys⟩
  ·have N:kr x=false:=by unfold kr;rw[I]
   (repeat' (first|(with_reducible (refine ae (λh=>?_) λh=>?_)<;>(try simp only[DZ]at h))|(with_reducible refine ab (ih x E.mem (T x E.mem)) ?_)|simp only[EV,seval,E.yes,E.le0,E.lt',E.get,E.row,J,I,map_nil,length_nil]|(refine ak E () ?_ (dT _ _))))
   ·exact RET.eq F (by rw[D,N,h];rfl)
   ·rw[D,N,h];rfl
  ·have N:kr x=decide (0<(y.by_.length:Int)):=by unfold kr;rw[I]
   (repeat' (first|(with_reducible (first|refine ae (λh=>?_) λh=>?_|refine af (λh=>?_) λh=>?_)<;>(try simp only[DZ]at h))|(with_reducible first|refine AI (by omega) ?_|refine ab (ih x E.mem (T x E.mem)) ?_)|simp only[EV,seval,E.yes,E.le0,E.lt',E.get,E.row,J,I,map_cons,getD_cons_zero,length_cons]|(refine ak E () ?_ (dT _ _))|(exfalso;omega)))
   all_goals first
    |(refine RET.eq F (congrArg AV.bool ?_);rw[D,N,decide_eq_true h];rfl)
    |(refine RET.eq F (congrArg AV.bool ?_);rw[D,h,Bool.and_false];rfl)
    |(rename_i aa;rw[D,N,h,decide_eq_false (by omega)];rfl)
    |trace_state
 ·(repeat' (simp only[EV,seval,M]));exact RET.eq F (by rw[D,Itm.fews];rfl)
end
def Itm.ext' {a b:Itm} (O:a.kind=b.kind) (T:a.at_=b.at_) (V:a.to_=b.to_) (X:a.wh=b.wh) (Y:a.nth=b.nth) (Z:a.unit=b.unit) (h7:a.old=b.old) (h8:a.new=b.new) (h9:a.label=b.label) (D:a.for_=b.for_)
  (E:a.start=b.start) (F:a.act=b.act) (I:a.item=b.item) (J:a.day=b.day) (M:a.event=b.event) (N:a.by_=b.by_):a=b:=by
 cases a;cases b;simp_all
def sta_eq {a b:Sta} (h:(decide (a.kind=b.kind)&&(decide (a.day=b.day)&&(decide (a.event=b.event)&&true)))=true):a=b:=by
 cases a;cases b;simp_all
def sta_ne {a b:Sta} (h:(decide (a.kind=b.kind)&&(decide (a.day=b.day)&&(decide (a.event=b.event)&&true)))=false):a≠b:=by
 rintro rfl;simp at h
section
variable (G:Glob)
set_option maxHeartbeats 4000000 in
def f47:∀(a:Itm),a.fit->∀b:Itm,Pure G Tryz.prog 47 [.agg a.cs,.agg b.cs] (.bool (decide (a=b))):=by
 refine Itm.ind λa ih F b=>?_;obtain⟨Z,h2,T,h4,h5,h6,V⟩:=(su a).1 F;refine Pure.w c47 λR J=>?_;unfold s47 r47;(repeat' (first|(with_reducible (first|refine ae (λh=>?_) λh=>?_|refine af (λh=>?_) λh=>?_)<;>(try simp only[DZ]at h))|(with_reducible first|refine AI (by omega) ?_|refine ab (f103 G _ _ (by omega)) ?_|refine ab (f35 G a.unit T b.unit) ?_|refine ab (f104 G _ _ (by omega)) ?_|refine ab (ih x E.mem (V x E.mem) y) ?_)|simp only[EV,seval,pt,E.yes,E.le0,E.lt',E.get,E.row,Y,O.row,O.lt']|simp only[EV,seval,pt,X]|simp only[EV,seval,pt]|(with_reducible first|refine ag ?_ ?_|refine ai ?_)|(refine ak E () ?_ (dT _ _))|(refine ap a.by_ (λi r (c:Unit)=>a.by_.length=b.by_.length/\decide (a.by_=b.by_)=decide (r=b.by_.drop i)) (λi c=>[(2,.ref a.cs),(3,.ref b.cs),(5,.i i)]) (λ_ _=>[]) () ⟨by omega,by simp⟩ (dT _ _) (by omega) (λi x r c D E Y=>?_) (λc D X=>?_)<;>(try(obtain⟨y,r2,O,I,D⟩:=cH D E)))))
 all_goals first
  |(refine RET.eq J (congrArg AV.bool (Eq.symm (decide_eq_false ?_)));rintro rfl;exact absurd rfl h)
  |(refine RET.eq J (congrArg AV.bool (Eq.symm (decide_eq_false ?_)));rintro rfl;simp at h;done)
  |skip
 all_goals first
  |(have M:decide (a.by_=b.by_)=false:=by rw[D];simp[h]
    refine RET.eq J (congrArg AV.bool (Eq.symm (decide_eq_false ?_)));rintro rfl;simp at M;done)
  |(rw[D,I,h];simp;done)
  |(rw[D,I];simp[h];done)
  |(have N:a.by_=b.by_:=by have:=D.2;rw[D.1,drop_length]at this;simpa using this
    refine RET.eq J (congrArg AV.bool (Eq.symm (decide_eq_true ?_)))
    exact Itm.ext' (Classical.not_not.1 (by assumption)) (by assumption) (by assumption) (Classical.not_not.1 (by assumption)) (Classical.not_not.1 (by assumption)) (by assumption) (by assumption) (by assumption) (Classical.not_not.1 (by assumption)) (Classical.not_not.1 (by assumption))
     (sta_eq (by assumption)) (Classical.not_not.1 (by assumption)) (Classical.not_not.1 (by assumption)) (Classical.not_not.1 (by assumption)) (Classical.not_not.1 (by assumption)) N)
  |trace_state
end
def Itm.just (x:Itm):Itm:=
 if x.kind=0 then {iz with wh:=x.wh,unit:=x.unit}else if x.kind=2\/x.kind=3 then {iz with old:=x.old,new:=x.new,nth:=x.nth}else if x.kind=4 then {iz with new:=x.new}else
 if x.kind=5 then {iz with label:=x.label}else if x.kind=6 then {iz with to_:=x.to_,wh:=x.wh}else if x.kind=7\/x.kind=8\/x.kind=9 then {iz with act:=x.act,item:=x.item,day:=x.day}else
 if x.kind=10 then {iz with event:=x.event,day:=x.day}else if x.kind=11 then {iz with act:=x.act,item:=x.item,by_:=x.by_}else iz
def Itm.told (x:Itm):Itm:=if x.kind<=6 then {x.just with kind:=x.kind,at_:=x.at_,for_:=x.for_,start:=x.start}else {x.just with kind:=x.kind}
section
variable (G:Glob)
set_option maxHeartbeats 4000000 in
def f72 (x:Itm) (O:0<=x.kind) (M:x.kind<=11):Pure G Tryz.prog 72 [.agg x.cs] (.agg x.told.cs):=by
 refine Pure.w c72 λR N=>?_;unfold s72 r72
 have D:x.kind=0\/x.kind=1\/x.kind=2\/x.kind=3\/x.kind=4\/x.kind=5\/x.kind=6\/x.kind=7\/x.kind=8\/x.kind=9\/x.kind=10\/x.kind=11:=by omega
 rcases D with D|D|D|D|D|D|D|D|D|D|D|D
 all_goals
  (repeat' (first|simp only[EV,seval,D,E]|simp only[EV,seval,D]|(with_reducible intro J I;(try(have F:=I;simp only[EVK]at F;first|(have E:=AI F E)|(have E:=F))))))
  refine N _ _ (Or.inr ?_)
  rw[eH]
  simp[aW,aH,Itm.told,Itm.just,iz,D]
end
structure Itm.Short1 (x:Itm):Prop where
 fit:x.fit
 unit:x.unit.Short
 at_:x.at_.length<1000000
 to_:x.to_.length<1000000
 atl:∀s∈x.at_,s.label.length<1000000000000000000
 tol:∀s∈x.to_,s.label.length<1000000000000000000
 old:x.old.length<1000000
 new:x.new.length<1000000
 label:x.label.length<1000000000000000000
 for_:x.for_.length<1000000000000000000
 start:x.start.event.length<1000000000000000000
 event:x.event.length<1000000000000000000
mutual
def Itm.Shorts:Itm->Prop
 |⟨k,a,t,wh,n,u,o,w,l,f,s,ac,it,d,e,b⟩=>Itm.Short1 ⟨k,a,t,wh,n,u,o,w,l,f,s,ac,it,d,e,b⟩/\Itm.Shortss b
def Itm.Shortss:List Itm->Prop
 |[]=>True
 |x::l=>Itm.Shorts x/\Itm.Shortss l
end
def sW:∀{us:List Itm},Itm.Shortss us↔∀k∈us,k.Shorts
 |[]=>by simp[Itm.Shortss]
 |u::us=>by simp[Itm.Shortss,sW (us:=us)]
def o5 (x:Itm):x.Shorts↔x.Short1/\∀k∈x.by_,k.Shorts:=by
 cases x
 rw[Itm.Shorts,sW]
def dB (l:List (List UInt8)) (n:Int):Bool:=ee l&&decide (n<=(l.length:Int))
def Itm.own (x:Itm) (y:Bool):Bool:=
 if x.kind=0 then inR x.wh 0 3&&(gu x.unit&&(decide (x.unit.kind≠0)&&decide ((textOf x.unit).2=0)))
 else if x.kind=2 then dB x.old 1&&(dB x.new 0&&inR x.nth 0 256)
 else if x.kind=3 then dB x.old 0&&(dB x.new 1&&(inR x.nth 0 256&&(decide (0<(x.old.length:Int))||decide (x.nth=0))))
 else if x.kind=4 then dB x.new 0
 else if x.kind=5 then bK x.label
 else if x.kind=6 then inR x.wh 0 3&&cP x.to_
 else if x.kind=7\/x.kind=8\/x.kind=9 then inR x.act 1 1048576&&(inR x.item (-1) 31&&inR x.day 0 1048576)
 else if x.kind=10 then cQ x.event&&inR x.day 0 1048576
 else if x.kind=11 then inR x.act 1 1048576&&(inR x.item 0 31&&y)
 else true
def Itm.pre (x:Itm):Bool:=(inR x.kind 0 11&&decide (x=x.told))&&(decide (6<x.kind)||(cP x.at_&&((decide (x.for_=[])||cQ x.for_)&&jI x.start)))
mutual
def Itm.may:Itm->Bool
 |⟨k,a,t,wh,n,u,o,w,l,f,s,ac,it,d,e,b⟩=>Itm.pre ⟨k,a,t,wh,n,u,o,w,l,f,s,ac,it,d,e,b⟩&&Itm.own ⟨k,a,t,wh,n,u,o,w,l,f,s,ac,it,d,e,b⟩ (Itm.mayOne b)
def Itm.mayOne:List Itm->Bool
 |[]=>false
 |x::l=>(l.isEmpty&&inR x.kind 0 6)&&Itm.may x
end
def rS (x:Itm):x.may=(x.pre&&x.own (Itm.mayOne x.by_)):=by cases x;rw[Itm.may]
def rX (x:Itm) (l:List Itm):Itm.mayOne (x::l)=((l.isEmpty&&inR x.kind 0 6)&&x.may):=by rw[Itm.mayOne]
section
variable (G:Glob)
set_option maxHeartbeats 8000000 in
def f30:∀(x:Itm),x.Shorts->Pure G Tryz.prog 30 [.agg x.cs] (.bool x.may):=by
 refine Itm.ind λx ih hs=>?_;obtain⟨q,T⟩:=(o5 x).1 hs;refine Pure.w c30 λR E=>?_;unfold s30 r30;rw[rS]at E;have F:=λn lo hi=>f71 G n lo hi;by_cases D:0<=x.kind/\x.kind<=11
 ·have O:=f72 G x D.1 D.2;have N:=f47 G x q.fit x.told
  have V:x.kind=0\/x.kind=1\/x.kind=2\/x.kind=3\/x.kind=4\/x.kind=5\/x.kind=6\/x.kind=7\/x.kind=8\/x.kind=9\/x.kind=10\/x.kind=11:=by omega
  unfold Itm.pre at E;generalize decide (x=x.told)=e at*;have J:∀l:List (List UInt8),l.length<1000000->∀n,Pure G Tryz.prog 78 [.lst 1 (l.map srow),.i n] (.bool (dB l n)):=λl hl n=>f78 G l n (by omega);have Z:=J _ q.old;have Y:=J _ q.new
  rcases V with D|D|D|D|D|D|D|D|D|D|D|D
  all_goals (try (have X : x.kind ≠ 11 := by omega
                  (repeat' (first | (with_reducible (first | refine ae (fun h => ?_) (fun h => ?_) | refine af (fun h => ?_) (fun h => ?_)) <;> (try simp only [Da, Db, Dc, Dw, De, Df, Dg, Dh] at h)) | (with_reducible refine ab (F _ _ _) ?_) | (with_reducible refine ab O ?_) | (with_reducible refine ab N ?_) | (with_reducible refine ab (Z _) ?_) | (with_reducible refine ab (Y _) ?_) | (with_reducible refine ab (f73 G _ q.at_ q.atl) ?_) | (with_reducible refine ab (f73 G _ q.to_ q.tol) ?_) | (with_reducible refine ab (f74 G _) ?_) | (with_reducible refine ab (f75 G _) ?_) | (with_reducible refine ab (f76 G x.unit q.unit) ?_) | (with_reducible refine ab (f77 G x.unit q.unit) ?_) | (with_reducible refine ab (f79 G _ q.label) ?_) | simp only [EV, seval, D, pt, inR]))
                  all_goals (try (first
                    | exact absurd h (by decide)
                    | (refine RET.eq E (congrArg AV.bool ?_); simp [Itm.own, inR, *]; done)
                    | (have hf : x.for_ = [] := Classical.not_not.1 (by assumption)
                       refine RET.eq E (congrArg AV.bool ?_); simp [Itm.own, inR, hf, *]; done)
                    | (refine RET.eq E (congrArg AV.bool ?_); simp_all [Itm.own, inR]; done)
                    | (refine RET.eq E (congrArg AV.bool ?_); simp_all [Itm.own, inR]; omega)))))
  have aa:=E;rw[show x.own (Itm.mayOne x.by_)=(inR x.act 1 1048576&&(inR x.item 0 31&&Itm.mayOne x.by_))by unfold Itm.own;simp[D]]at E
  rcases I:x.by_ with _|⟨y,_|⟨z,l⟩⟩
  ·rw[I,Itm.mayOne]at E;(repeat' (first|(with_reducible (first|refine ae (λh=>?_) λh=>?_|refine af (λh=>?_) λh=>?_)<;>(try simp only[DZ]at h))|(with_reducible first|refine ab (F _ _ _) ?_|refine ab O ?_|refine ab N ?_)|simp only[EV,seval,D,pt,inR,I,map_nil,length_nil]))
   all_goals(refine RET.eq E (congrArg AV.bool ?_);simp[inR, *];done)
  ·rw[I,rX]at E;have hy:=ih y (by rw[I];simp) (T y (by rw[I];simp));(repeat' (first|(with_reducible (first|refine ae (λh=>?_) λh=>?_|refine af (λh=>?_) λh=>?_)<;>(try simp only[DZ]at h))|(with_reducible first|refine ab (F _ _ _) ?_|refine ab O ?_|refine ab N ?_|refine ab hy ?_)|simp only[EV,seval,D,pt,I,map_cons,map_nil,length_nil,length_cons,getD_cons_zero]))
   all_goals(try(refine RET.eq E (congrArg AV.bool ?_);simp_all[inR];done))
   all_goals(refine RET.eq E (congrArg AV.bool ?_);simp[*];done)
  ·rw[I,rX]at E;(repeat' (first|(with_reducible (first|refine ae (λh=>?_) λh=>?_|refine af (λh=>?_) λh=>?_)<;>(try simp only[DZ]at h))|(with_reducible first|refine AI (by omega) ?_|refine ab (F _ _ _) ?_|refine ab O ?_|refine ab N ?_)|simp only[EV,seval,D,pt,I,map_cons,length_cons]|(exfalso;omega)))
   all_goals(try(refine RET.eq E (congrArg AV.bool ?_);simp_all[inR];done))
   all_goals trace_state
 ·have M:inR x.kind 0 11=false:=by unfold inR;simp;omega
  unfold Itm.pre at E;rw[M]at E;(repeat' (first|(with_reducible refine ab (F _ _ _) ?_)|simp only[EV,seval,M]))
  all_goals(refine RET.eq E (congrArg AV.bool ?_);simp;done)
end
end Go.Av
