/-
  LINT, 18: a function value asked at every node of a tree.
-/
import Derived.Test.YtppjieiiibgagaaGreatDoorWXL16toXGo
import Derived.Test.YtppjieiiibgagaaGreatDoorWXAv23toXAv25
import Derived.Shelf.Strings.SlTrimAscii
set_option linter.all false
namespace Go.Av
open Go Go.RowKit Go.Proofs List
def cut (p:U->Bool):List U->List U
 |[]=>[]
 |x::l=>if p x then x::cut p l else [x]
def kE {p:U->Bool}:∀{l:List U},l.all p=true->cut p l=l
 |[],_=>rfl
 |x::l,h=>by
  simp only[all_cons,Bool.and_eq_true]at h;rw[cut,if_pos h.1,kE h.2]
def cut_app {p:U->Bool} {l m:List U} (h:l.all p=true):cut p (l++m)=l++cut p m:=by
 induction l with
 |nil=>rfl
 |cons x l ih=>
  simp only[all_cons,Bool.and_eq_true]at h;rw[cons_append,cut,if_pos h.1,ih h.2];rfl
def qz {p:U->Bool} {l m:List U} (h:l.all p=false):cut p (l++m)=cut p l:=by
 induction l with
 |nil=>simp at h
 |cons x l ih=>
  rw[cons_append,cut,cut];split
  ·rename_i D;simp only[all_cons,D,Bool.true_and]at h;rw[ih h]
  ·rfl
def aI (u:U) (us:List U):U.flats (u::us)=u.flat++U.flats us:=by rw[U.flats]
def bv:U.flats []=[]:=by rw[U.flats]
def sE {σ:Store} {p:Nat×AObj}:SubN (σ++[p]) (p::σ):=by
 refine⟨λq I=>?_,λD=>?_⟩
 ·rcases mem_append.1 I with h|h
  ·exact mem_cons_of_mem _ h
  ·simp only[mem_singleton]at h;subst h;simp
 ·rw[aD];simp only[Store.keys,map_cons,nodup_cons,map_nil]at D ⊢;refine nodup_append.2 ⟨D.2,by simp,?_⟩;intro a F b E e;simp only[mem_singleton]at E;subst E e;exact D.1 F
def SubN.left {σ τ:Store}:SubN σ (σ++τ):=by
 refine⟨λq E=>mem_append.2 (.inl E),λD=>?_⟩;rw[aD]at D;exact(nodup_append.1 D).1
def RET.mk {x:AV} {R:AV->Store->Prop} {σ σ':Store} (D:SubN σ' σ) (h:R x σ'):RET x σ R:=⟨x,σ',rH _,D,h⟩
def mS {u k x:U} (D:k∈u.kids) (E:x∈k.flat):x∈u.flat:=rM D E
section
variable (G:Glob)
def f306 (f:Value) (p:U->Bool) (N:Nat) (St:List U->Store->Prop) (hN:N<1000000):
  ∀(u:U),u.Tame->(∀x∈u.flat,∀pre σ,St pre σ->pre.length<N->cu G Tryz.prog f [.agg x.cs] σ (λr σ'=>r= .bool (p x)/\St (pre++[x]) σ'))->
   ∀pre σ,St pre σ->pre.length+u.flat.length<=N->aj G Tryz.prog 306 [.agg u.cs,.sc f] σ (λr σ'=>r= .bool (u.flat.all p)/\St (pre++cut p u.flat) σ'):=by
 refine U.ind λu ih ht hf pre σ aa al=>?_
 have ah:=ht.kids
 have D:=u.flat_eq
 have ad:u.flat.length=1+(U.flats u.kids).length:=by rw[D,length_cons];omega
 refine aj.w c306 ?_
 unfold s306 r306
 (repeat' (simp only[EV,seval]))
 refine bl σ [] (hf u u.flat_self pre σ aa (by omega)) (hH _) (by simpa using SubN.refl _) ?_
 rintro r σ' ⟨rfl,F⟩
 rw[append_nil]
 cases Y:p u
 ·(repeat' (simp only[EV,seval]))
  exact RET.mk (SubN.refl _) ⟨by rw[D,all_cons,Y];rfl,by rw[D,cut,if_neg (by simp[Y])];exact F⟩
 ·(repeat' (first|simp only[EV,seval,E.yes,E.le0,E.lt',E.get,E.row,hw]|simp only[EV,seval,hn]|simp only[EV,seval]|(with_reducible intro Z M;(try(have O:=M;simp only[EVK]at O;(have an:=O))))|(refine ap (ι:=Store×List U) u.kids (λi r c=>St c.2 c.1/\pre++cut p u.flat=c.2++cut p (U.flats r)/\u.flat.all p=(U.flats r).all p/\c.2.length+(U.flats r).length<=N) (λi c=>[(1,.sc f),(12,.lst 8 (u.kids.map U.cs)),(13,.i u.kids.length),(14,.i i)]) (λi c=>c.1) (σ',pre++[u]) ⟨F,by rw[D,cut,if_pos Y];simp,by rw[D,all_cons,Y,Bool.true_and],by simp;omega⟩ (a0 _ _) (by omega) (λi x r c J E hw=>?_) (λc J hn=>?_))))
  ·obtain⟨o1,V,X,o4⟩:=J;rw[aI]at V X o4;rw[length_append]at o4;refine bl c.1 [(Z,.cells 27 x.cs)] (ih x E.mem (ht.kid E.mem) (λy hy=>hf y (mS E.mem hy)) c.2 c.1 o1 (by omega)).v (hH _) sE ?_;rintro r' ac ⟨rfl,I⟩
   cases T:x.flat.all p
   ·(repeat' (simp only[EV,seval]));exact RET.mk SubN.left ⟨by rw[X,all_append,T];rfl,by rw[V,qz T];exact I⟩
   ·(repeat' (simp only[EV,seval,hw]));rw[kE T]at I;exact ak E (ac,c.2++x.flat) ⟨I,by rw[V,cut_app T,append_assoc],by rw[X,all_append,T,Bool.true_and],by simp;omega⟩ (Weak.sub SubN.left)
  ·obtain⟨o1,V,X,o4⟩:=J;exact RET.mk (SubN.refl _) ⟨by rw[X,bv];rfl,by rw[V,bv,cut,append_nil];exact o1⟩
def li (f:Value) (p:U->Bool) (u:U) (E:u.Tame) (J:∀x∈u.flat,fT G Tryz.prog f [.agg x.cs] (.bool (p x))):Pure G Tryz.prog 306 [.agg u.cs,.sc f] (.bool (u.flat.all p)):=by
 refine aj.mono (f306 G f p u.flat.length (λ_ σ=>σ=[]) E.2 u E (λx M pre σ D _=>?_) [] [] rfl (by simp)) ?_
 ·subst D;exact J x M
 ·rintro r σ' ⟨F,I⟩;exact⟨F,I⟩
def v_clo {k:Nat} {b:Nat} {args:List AV} {σ:Store} {R:AV->Store->Prop} (h:aj G Tryz.prog k (args++[.p b]) σ R):cu G Tryz.prog (.func (.func k) #[] #[.p b]) args σ R:=
 ⟨k,#[],#[.p b],rfl,by simpa[AV.ofValue,AV.ofOne]using h⟩
def f307 (x:U) (b n:Nat) (E:n<1000000):aj G Tryz.prog 307 [.agg x.cs,.p b] [(b,.cells 3 [.i n])] (λr σ'=>r= .bool true/\σ'=[(b,.cells 3 [.i ((n+1:Nat):Int)])]):=by
 have D:IntKind.i64.wrap ((n:Int)+1)=((n+1:Nat):Int):=by rw[av (by omega) (by omega)];omega
 refine aj.w c307 ?_;unfold s307 r307;(repeat' (simp only[EV,seval,D]));exact RET.mk (SubN.refl _) ⟨rfl,rfl⟩
def f210 (u:U) (I:u.Tame):Pure G Tryz.prog 210 [.agg u.cs] (.i u.cnt):=by
 refine Pure.w c210 λR O=>?_;unfold s210 r210;(repeat' (first|simp only[EV,seval]|(with_reducible intro D E;(try(have F:=E;simp only[EVK]at F;(have T:=F))))));refine bl _ [] (f306 G (.func (.func 307) #[] #[.p D]) (λ_=>true) u.flat.length (λpre σ=>σ=[(D,.cells 3 [.i pre.length])]) I.2 u I (λx Y pre σ J X=>?_) [] _ rfl (by simp)).v (hH _) (by simpa using SubN.refl _) ?_
 ·subst J;have V:=I.2;refine v_clo G (aj.mono (f307 G x D pre.length (by omega)) ?_);rintro r σ' ⟨M,N⟩;exact⟨M,by rw[N];simp⟩
 ·rintro r σ' ⟨rfl,rfl⟩;rw[kE (by simp)];(repeat' (simp only[EV,seval]));exact RET.eq O (by simp[U.cnt])
def f308 (x:U) (b:Nat) (g:Option Nat) (rows:List Idd) (v:AV) (V:v= .own g 23 3 (rows.map Idd.cs)\/v= .nil/\g=none/\rows=[]) (T:∀d,g=some d->d≠b) (X:rows.length<1000000):
  aj G Tryz.prog 308 [.agg x.cs,.p b] ((b,.cells 100 [v])::tokS g 23 (rows.length*3))
   (λr σ'=>r= .bool true/\∃D,(∀d,D=some d->d≠b)/\σ'=(b,.cells 100 [.own D 23 3 ((rows++[x.id]).map Idd.cs)])::tokS D 23 ((rows.length+1)*3)):=by
 have key:∀D:Option Nat,(∀d,D=some d->d≠b)->∀σ,σ=(b,AObj.cells 100 [.own D 23 3 (rows.map Idd.cs++[x.id.cs])])::tokS D 23 ((rows.length+1)*3)->RET (.bool true) σ (λr σ'=>r= .bool true/\∃D,(∀d,D=some d->d≠b)/\σ'=(b,.cells 100 [.own D 23 3 ((rows++[x.id]).map Idd.cs)])::tokS D 23 ((rows.length+1)*3)):=by
  rintro D O σ rfl;exact RET.mk (SubN.refl _) ⟨rfl,D,O,by simp⟩
 refine aj.w c308 ?_
 unfold s308 r308
 rcases V with rfl|⟨rfl,rfl,rfl⟩
 ·(repeat' (first|simp only[EV,seval]|(with_reducible intro J E;(try(have F:=E;simp only[EVK]at F;(have N:=F))))|(refine jR (n:=rows.length) (m':=(rows.length+1)*3) [_] (by rfl) (by simpa[Store.keys]using T) (by simp) rfl rfl rfl (by assumption) (by omega) (λM I=>?_))))
  exact key M (by simpa[Store.keys]using I) _ rfl
 ·(repeat' (first|simp only[EV,seval]|(with_reducible intro J E;(try(have F:=E;simp only[EVK]at F;(have N:=F))))|(refine jR (n:=0) (m':=3) [_] (by rfl) (by simp) (by simp) rfl rfl rfl (by assumption) (by omega) (λM I=>?_))))
  exact RET.mk (SubN.refl _) ⟨rfl,M,by simpa[Store.keys]using I,rfl⟩
def f211 (u:U) (J:u.Tame):Pure G Tryz.prog 211 [.agg u.cs] (.lst 3 (u.ids.map Idd.cs)):=by
 refine Pure.w c211 λR Y=>?_;unfold s211 r211;(repeat' (first|simp only[EV,seval]|(with_reducible intro D E;(try(have F:=E;simp only[EVK]at F;(have Z:=F))))));refine bl _ [] (f306 G (.func (.func 308) #[] #[.p D]) (λ_=>true) u.flat.length (λpre σ=>∃v g,(v= .own g 23 3 ((pre.map U.id).map Idd.cs)\/v= .nil/\g=none/\pre.map U.id=[])/\(∀d,g=some d->d≠D)/\σ=(D,.cells 100 [v])::tokS g 23 ((pre.map U.id).length*3)) J.2 u J (λx hx pre σ M hp=>?_) [] _ ⟨.nil,none,.inr ⟨rfl,rfl,rfl⟩,by simp,rfl⟩ (by simp)).v (hH _) (by rw[append_nil];exact SubN.refl _) ?_
 ·have hl:=J.2;obtain⟨v,g,I,N,rfl⟩:=M;refine v_clo G (aj.mono (f308 G x D g _ v I N (by simp;omega)) ?_);rintro r σ' ⟨V,O,X,rfl⟩;exact⟨V,_,O,.inl rfl,X,by simp⟩
 ·rintro r σ' ⟨rfl,v,g,I,N,rfl⟩;rw[kE (by simp)]at I ⊢;simp only[nil_append,append_nil]at I ⊢
  rcases I with rfl|⟨rfl,rfl,T⟩
  ·(repeat' (simp only[EV,seval]));exact Y _ _ (Or.inl (Or.inr ⟨rfl,by simp[U.ids]⟩))
  ·exact absurd T (by rw[U.flat_eq];simp)
end
def mset {κ:Type} (l:List κ):List (κ×AV):=l.map λx=>(x,AV.bool true)
def dB {κ:Type} [DecidableEq κ] (k:κ):∀l:List κ,(bi k (mset l)).getD (.bool false)= .bool (decide (k∈l))
 |[]=>by simp[mset,bi]
 |x::l=>by
  simp only[mset,map_cons,bi];by_cases h:x=k
  ·subst h;simp
  ·rw[if_neg h];have:=dB k l;unfold mset at this;rw[this];have:k≠x:=λe=>h e.symm;simp[this]
def ms {κ:Type} [DecidableEq κ] (k:κ):∀l:List κ,dL k (.bool true) (mset l)=mset (if k∈l then l else l++[k])
 |[]=>by simp[mset,dL]
 |x::l=>by
  simp only[mset,map_cons,dL];by_cases h:x=k
  ·subst h;simp
  ·rw[if_neg h];have:=ms k l;unfold mset at this;rw[this];have D:k≠x:=λe=>h e.symm;by_cases E:k∈l<;>simp[D,E]
abbrev CKey:=Int×List UInt8
def j6 (k:CKey):List Value:=[.i k.1,.string ⟨⟨k.2⟩⟩]
def ckVal (k:CKey):Value:=.agg (j6 k).toArray
def jW (k:Idd):List Value:=[.i k.act,.i k.item,.i k.n]
def idVal (k:Idd):Value:=.agg (jW k).toArray
def U.ck (u:U):CKey:=(u.kind,u.label)
def eqK_ck (a b:CKey):eqK [1,2] (j6 a) (j6 b)=some (decide (a=b)):=by
 obtain⟨D,E⟩:=a;obtain⟨F,I⟩:=b;simp only[j6,eqK,if_true,Option.map_some];congr 1;rw[Bool.eq_iff_iff];simp
def eqK_id (a b:Idd):eqK [1,1,1] (jW a) (jW b)=some (decide (a=b)):=by
 rw[nQ];simp only[jW,eqK,if_true,Option.map_some];congr 1;rw[Bool.eq_iff_iff];simp
def mapK_ck:MapK Tryz.prog 308 ckVal:=
 mU (fs:=Tryz.prog.fieldsOf 308) (ks:=[1,2]) (by kernel_rfl) (by kernel_rfl) j6 (λ_=>rfl) eqK_ck (λk v D n=>by
  simp only[j6,mem_cons,not_mem_nil,or_false]at D
  rcases D with rfl|rfl
  ·exact jD n _ _
  ·exact nV n _)
def mapK_id:MapK Tryz.prog 23 idVal:=
 mU (fs:=Tryz.prog.fieldsOf 23) (ks:=[1,1,1]) (by kernel_rfl) (by kernel_rfl) jW (λ_=>rfl) eqK_id (λk v D n=>by
  simp only[jW,mem_cons,not_mem_nil,or_false]at D
  rcases D with rfl|rfl|rfl<;>exact jD n _ _)
def rep_ck (k:Int) (s:List UInt8):∀τ w v,Rep τ w (.agg [.i k,.str s]) v->v=ckVal (k,s):=by
 intro τ w v h;simp only[Rep,RepL]at h;obtain⟨vs,rfl,_,u,us,D,rfl,F,E,rfl,rfl,rfl⟩:=h
 have:vs=vs.toList.toArray:=by simp
 rw[this,D];rfl
def rep_id (i:Idd):∀τ w v,Rep τ w (.agg [.i i.act,.i i.item,.i i.n]) v->v=idVal i:=by
 intro τ w v h;simp only[Rep,RepL]at h;obtain⟨vs,rfl,_,u,us,D,rfl,I,E,rfl,rfl,J,F,rfl,rfl,rfl⟩:=h
 have:vs=vs.toList.toArray:=by simp
 rw[this,D];rfl
def iq (c:List Idd):(cD idVal (mset c)).length=c.length:=by simp[cD,mset]
def Seen (l c:List Idd) (i:Nat):Prop:=(∀y,y∈c↔y∈l.take i)/\c.Nodup/\(c.length=i↔(l.take i).Nodup)/\c.length<=i
def seen_step {l c:List Idd} {i:Nat} {x:Idd} {r:List Idd} (N:Rest l i x r) (h:Seen l c i):Seen l (if x∈c then c else c++[x]) (i+1):=by
 obtain⟨F,J,M,O⟩:=h;unfold Seen;rw[N.take];by_cases D:x∈c
 ·rw[if_pos D];refine⟨λy=>?_,J,⟨λe=>by omega,λe=>?_⟩,by omega⟩
  ·rw[mem_append,←F];constructor
   ·exact .inl
   ·rintro(h|h)
    ·exact h
    ·simp only[mem_singleton]at h;subst h;exact D
  ·exact absurd rfl ((nodup_append.1 e).2.2 x ((F x).1 D) x (by simp))
 ·rw[if_neg D];refine⟨λy=>by rw[mem_append,mem_append,←F],nodup_append.2 ⟨J,by simp,?_⟩,?_,by simp;omega⟩
  ·intro a I b E e;simp only[mem_singleton]at E;subst E e;exact D I
  ·rw[length_append,length_singleton];constructor
   ·intro e;refine nodup_append.2 ⟨M.1 (by omega),by simp,?_⟩;intro a I b E e;simp only[mem_singleton]at E;subst E e;exact D ((F a).2 I)
   ·intro e;have:=M.2 (nodup_append.1 e).1;omega
def seen_all {l c:List Idd} (h:Seen l c l.length):(zId∈c/\c.length=1↔(l≠[]/\(l.all λx=>decide (x=zId))=true))/\(c.length=l.length↔l.Nodup):=by
 obtain⟨F,N,O,Y⟩:=h;rw[take_length]at F O;refine⟨⟨λ⟨J,M⟩=>?_,λ⟨J,M⟩=>?_⟩,O⟩
 ·obtain⟨a,rfl⟩:=length_eq_one_iff.1 M;simp only[mem_singleton]at J;subst J;refine⟨λe=>?_,all_eq_true.2 λy I=>?_⟩
  ·have:=(F zId).1 (by simp);rw[e]at this;cases this
  ·have:=(F y).2 I;simpa using this
 ·have D:∀y∈c,y=zId:=λy I=>by simpa using(all_eq_true.1 M) y ((F y).1 I)
  obtain⟨y,I⟩:=exists_mem_of_ne_nil _ J;have E:=(F y).2 I;have X:=D y E;subst X;refine⟨E,?_⟩
  match c,E,N,D with
  |[a],_,_,_=>rfl
  |a::b::c,_,N,D=>
   have T:=D a (by simp);have V:=D b (by simp);simp[T,V]at N
def own1 (u:U):Bool:=if u.kind=0 then decide (u.label=[])&&(decide ((u.head.length:Int)=0)&&decide ((u.words.length:Int)=0))else decide (0<=u.kind)&&decide (u.kind<=7)&&(bA u.label&&(aX u.head&&aX u.words))
def nodeOk (u:U):Bool:=own1 u&&((u.kids.all λk=>nests u.kind k.kind)&&decide (bM u.kids)&&decide ((u.kids.length:Int)<=64))
def kt_nil (k:Int):((if 0<=k/\k<=7 then fV k else [])=[])=¬(0<=k/\k<=7):=by
 apply propext;split
 ·rename_i h;refine⟨λe=>?_,λe=>absurd h e⟩
  rcases lt8 h.1 h.2 with rfl|rfl|rfl|rfl|rfl|rfl|rfl|rfl<;>cases e
 ·rename_i h;simp only[true_iff];exact h
def own_no0 {u:U} (h:u.kind=0) (D:u.label≠[]\/(0:Int)<(u.head.length:Int)+(u.words.length:Int)):own1 u=false:=by
 unfold own1;rw[if_pos h]
 rcases D with D|D
 ·simp[D]
 ·simp;intro _ e E;simp[e,E]at D
def own_yes0 {u:U} (h:u.kind=0) (D:¬u.label≠[]) (E:(u.head.length:Int)+(u.words.length:Int)<=0):own1 u=true:=by
 unfold own1;rw[if_pos h];simp only[Bool.and_eq_true,decide_eq_true_eq];exact⟨by simpa using D,by omega,by omega⟩
section
variable (G:Glob) (hG:GOk G)
include hG
def f342 (u:U) (ht:u.Tame) (hh:u.head.length<1000000) (V:u.words.length<1000000):Pure G Tryz.prog 342 [.agg u.cs] (.bool (nodeOk u)):=by
 have ad:=ht.kids;have O:=f374 G hG;refine Pure.w c342 λR I=>?_;unfold s342 r342;have F:IntKind.i64.wrap ((u.head.length:Int)+(u.words.length:Int))=(u.head.length:Int)+(u.words.length:Int):=av (by omega) (by omega);(repeat' (first|(with_reducible (first|refine ae (λh=>?_) λh=>?_|refine ai (λh=>?_) λh=>?_)<;>(try simp only[DZ]at h))|(with_reducible first|refine ab (O _) ?_|refine ab (f198 G _) ?_|refine ab (f375 G _ hh) ?_|refine ab (f375 G _ V) ?_)|simp only[EV,seval,F]))
 all_goals(try(refine dn ?_;intro Y ac))
 all_goals(try((repeat' (first|(with_reducible (first|refine ae (λh=>?_) λh=>?_|refine ai (λh=>?_) λh=>?_)<;>(try simp only[DZ]at h))|(with_reducible refine ab (f156 G hG _ _) ?_)|simp only[EV,seval,F,dB,E.yes,E.le0,E.lt',E.get,E.row,Z,J]|simp only[EV,seval,F,dB,E.yes,E.le0,E.lt',E.get,E.row,Z]|simp only[EV,seval,F,dB,hn]|simp only[EV,seval,F,dB]|(with_reducible intro aa N;(try(have M:=N;simp only[EVK]at M;first|(have J:=AI M J)|(have J:=M))))|(refine ap u.kids (λi r (c:Unit)=>(u.kids.all λk=>nests u.kind k.kind)=(r.all λk=>nests u.kind k.kind)/\bM (u.kids.take i)) (λi c=>[(1,.ref u.cs),(3,.sc (.map (some Y))),(47,.lst 8 (u.kids.map U.cs)),(48,.i u.kids.length),(49,.i i)]) (λi c=>[(Y,.map (cD ckVal (mset ((u.kids.take i).map U.ck))))]) () ⟨rfl,by simp[bM]⟩ (a0 _ _) (by omega) (λi x r c D E Z=>?_) (λc D hn=>?_))|(refine aO mapK_ck (l:=mset ((u.kids.take i).map U.ck)) (k:=x.ck) (z:=.bool false) (zv:=.bool false) rfl (rep_ck _ _) (eT:=4) (by kernel_rfl) (by simp[Store.get, *]) (by kernel_rfl) (λ_ _=>by simp only[Rep]) ?_)|(refine fA mapK_ck (l:=mset ((u.kids.take i).map U.ck)) (k:=x.ck) (yv:=.bool true) rfl (rep_ck _ _) rfl (eT:=4) (by kernel_rfl) (by simp[Store.get, *]) ?_)))))
 all_goals first
  |(rename_i T
    refine ak E () ⟨by rw[D.1,all_cons,T,Bool.true_and],?_⟩ ?_
    ·refine iV E D.2 λy X e=>h (mem_map.2 ⟨y,X,?_⟩)
     unfold U.ck
     rw[e.1,e.2]
    ·rw[ms,if_neg h,show List.map U.ck (List.take i u.kids)++[x.ck]=List.map U.ck (List.take (i+1) u.kids)by rw[E.take];simp]
     exact Weak.sub ⟨λp hp=>mem_cons_of_mem _ (mem_cons_of_mem _ hp),λ_=>by simp[Store.keys]⟩)
  |(refine RET.eq I (congrArg AV.bool ?_)
    obtain⟨y,X,e⟩:=mem_map.1 h
    unfold U.ck at e
    injection e with e1 e2
    unfold nodeOk
    rw[decide_eq_false (lC E X e1 e2)]
    simp)
  |(refine RET.eq I (congrArg AV.bool ?_);unfold nodeOk;rw[D.1,all_cons,h];simp;done)
  |(refine RET.eq I (congrArg AV.bool ?_);unfold nodeOk;rw[own_no0 (by assumption) (.inr h)];rfl)
  |(refine RET.eq I (congrArg AV.bool ?_);unfold nodeOk;rw[own_no0 (by assumption) (.inl h)];rfl)
  |(rw[take_length]at D
    refine RET.eq I (congrArg AV.bool ?_);unfold nodeOk;rw[D.1,decide_eq_true D.2,own_yes0 (by assumption) (by assumption) h];rfl)
  |(rw[take_length]at D
    simp only[kt_nil,Classical.not_not]at*
    refine RET.eq I (congrArg AV.bool ?_);unfold nodeOk own1;rw[D.1,decide_eq_true D.2];simp[*];done)
  |(simp only[kt_nil,Classical.not_not]at*;refine RET.eq I (congrArg AV.bool ?_);unfold nodeOk own1;simp[*];done)
  |(simp only[kt_nil,Classical.not_not]at*;refine RET.eq I (congrArg AV.bool ?_);unfold nodeOk own1;simp[*];intros;omega)
  |skip
end
section
variable (G:Glob)
def f343 (u:U) (X:u.Tame):Pure G Tryz.prog 343 [.agg u.cs] (.bool (fP u)):=by
 have V:=f211 G u X
 have hl:u.ids.length<1000000:=by rw[rK];exact X.2
 have h0:u.ids=u.id::U.idss u.kids:=o5 u;refine Pure.w c343 λR N=>?_;unfold s343 r343;unfold fP at N;obtain⟨l,I⟩:∃l,u.ids=l:=⟨_,rfl⟩;rw[I]at N V hl;(repeat' (first|(with_reducible refine ab V ?_)|simp only[EV,seval]));refine dn ?_;intro T aa;(repeat' (first|(with_reducible (refine ai (λh=>?_) λh=>?_)<;>(try simp only[DZ]at h))|simp only[EV,seval,dB,iq,cJ,D.yes,D.le0,D.lt',D.get,D.row,Y,O]|simp only[EV,seval,dB,iq,cJ,D.yes,D.le0,D.lt',D.get,D.row,Y]|simp only[EV,seval,dB,iq,cJ,hn]|simp only[EV,seval,dB,iq,cJ]|(with_reducible intro Z F;(try(have M:=F;simp only[EVK]at M;(have O:=M))))|(refine ap (ι:=List Idd) l (λi r c=>Seen l c i) (λi c=>[(1,.ref u.cs),(3,.lst 3 (l.map Idd.cs)),(4,.sc (.map (some T))),(11,.lst 3 (l.map Idd.cs)),(12,.i l.length),(13,.i i)]) (λi c=>[(T,.map (cD idVal (mset c)))]) [] (by simp[Seen]) (a0 _ _) (by omega) (λi x r c E D Y=>?_) (λc E hn=>?_))|(refine aO mapK_id (l:=mset c) (k:=zId) (z:=.bool false) (zv:=.bool false) rfl (rep_id zId) (eT:=4) (by kernel_rfl) (by simp[Store.get, *]) (by kernel_rfl) (λ_ _=>by simp only[Rep]) ?_)|(refine fA mapK_id (l:=mset c) (k:=x) (yv:=.bool true) rfl (rep_id x) rfl (eT:=4) (by kernel_rfl) (by simp[Store.get, *]) ?_)|(refine qg (es:=cD idVal (mset c)) (kT:=23) (eT:=4) rfl (by kernel_rfl) (by simp[Store.get]) ?_)))
 ·rw[ms];exact ak D _ (seen_step D E) (Weak.sub ⟨λp hp=>mem_cons_of_mem _ hp,λ_=>by simp[Store.keys]⟩)
 all_goals
  have J:l≠[]:=by rw[←I,h0];simp
  obtain⟨s1,s2⟩:=seen_all E
  have hA:(l.all λx=>decide (x=zId))=(decide (zId∈c)&&decide ((c.length:Int)=1)):=by
   rw[Bool.eq_iff_iff,Bool.and_eq_true,decide_eq_true_eq,decide_eq_true_eq,show((c.length:Int)=1↔c.length=1)by omega,s1];exact⟨λh=>⟨J,h⟩,λh=>h.2⟩
  have hB:decide l.Nodup=decide ((c.length:Int)=(l.length:Int)):=by rw[decide_eq_decide,←s2];omega
  have hC:(decide (u.kind=0)==decide (u.id=zId))=decide (decide (u.id=zId)=decide (u.kind=0)):=by
   by_cases e1:u.kind=0<;>by_cases e2:u.id=zId<;>simp[e1,e2]
  refine RET.eq N (congrArg AV.bool ?_)
  (try rw[hC])
  rw[hA,hB]
  first|rw[decide_eq_true (p:=zId∈c) (by assumption)]|rw[decide_eq_false (p:=zId∈c) (by assumption)]
  (try(first|rw[decide_eq_true (p:=(c.length:Int)=1) (by assumption)]|rw[decide_eq_false (p:=(c.length:Int)=1) (by assumption)]))
  (try(first|rw[decide_eq_true (p:=(c.length:Int)=(l.length:Int)) (by assumption)]|rw[decide_eq_false (p:=(c.length:Int)=(l.length:Int)) (by assumption)]))
  simp
def bS (u:U):Bool:=u.flat.all nodeOk&&(decide (u.dep<=8)&&(decide (u.cnt<=1024)&&fP u))
def dS (w:Wd):Bool:=!decide (w.act=0/\w.item=0/\w.at_=0)
def dH (u:U):Bool:=decide (u.id=zId)&&(!u.head.any dS&& !u.words.any dS)
def ib (u:U):Bool:=bS u&&u.flat.all dH
end
section
variable (G:Glob) (hG:GOk G)
def jJ {us:List U} {x:U} (h:x∈U.flats us):∃k∈us,x∈k.flat:=by
 induction us with
 |nil=>rw[bv]at h;cases h
 |cons a us ih=>
  rw[aI]at h
  rcases mem_append.1 h with h|h
  ·exact⟨a,by simp,h⟩
  ·obtain⟨k,D,E⟩:=ih h;exact⟨k,by simp[D],E⟩
def U.Tame.node:∀{u:U},u.Tame->∀x∈u.flat,x.Tame:=by
 intro u
 induction u using U.ind with
 |h u ih=>
  intro F x D;rw[U.flat_eq]at D
  rcases mem_cons.1 D with rfl|D
  ·exact F
  ·obtain⟨k,E,D⟩:=jJ D;exact ih k E (F.kid E) x D
include hG in
def f275 (u:U) (F:u.Short):Pure G Tryz.prog 275 [.agg u.cs] (.bool (bS u)):=by
 have D:=F.1
 have J:Pure G Tryz.prog 306 [.agg u.cs,.sc (.func (.func 342) #[] #[])] (.bool (u.flat.all nodeOk)):=
  li G _ nodeOk u D λx I=>(f342 G hG x (D.node x I) (F.2 x I).2.1 (F.2 x I).2.2.1).v
 refine Pure.w c275 λR E=>?_;unfold s275 r275;unfold bS at E;generalize u.flat.all nodeOk=q at*;(repeat' (first|(with_reducible (refine ai (λh=>?_) λh=>?_)<;>(try simp only[DZ]at h))|(with_reducible first|refine ab J ?_|refine ab (f194 G u D) ?_|refine ab (f210 G u D) ?_|refine ab (f343 G u D) ?_)|simp only[EV,seval]));(all_goals(first|(refine RET.eq E ?_;(refine congrArg AV.bool (Bool.eq_iff_iff.2 ?_);simp only[EVB]at*;omega))|(refine RET.eq E ?_;((simp_all[];done)))))
def f355 (w:Wd):Pure G Tryz.prog 355 [.agg w.cs] (.bool (dS w)):=by
 refine Pure.w c355 λR D=>?_;unfold s355 r355;(repeat' (simp only[EV,seval]));(all_goals(((refine RET.eq D ?_;((simp_all[dS];done))))))
def f354 (u:U) (M:u.head.length<1000000) (J:u.words.length<1000000):Pure G Tryz.prog 354 [.agg u.cs] (.bool (dH u)):=by
 have E:=λw=>(f355 G w).v;have F:=f297 G _ dS u.head (by omega) (λx _=>E x);have I:=f297 G _ dS u.words (by omega) (λx _=>E x);refine Pure.w c354 λR D=>?_;unfold s354 r354;unfold dH at D;generalize u.head.any dS=q1 at*;generalize u.words.any dS=q2 at*;(repeat' (first|(with_reducible (refine ai (λh=>?_) λh=>?_)<;>(try simp only[DZ]at h))|(with_reducible first|refine ab F ?_|refine ab I ?_)|simp only[EV,seval,cJ]));(all_goals(((refine RET.eq D ?_;((simp_all[];done))))))
include hG in
def f318 (u:U) (D:u.Short):Pure G Tryz.prog 318 [.agg u.cs] (.bool (ib u)):=by
 have J:=D.1
 have I:Pure G Tryz.prog 306 [.agg u.cs,.sc (.func (.func 354) #[] #[])] (.bool (u.flat.all dH)):=
  li G _ dH u J λx F=>(f354 G x (D.2 x F).2.1 (D.2 x F).2.2.1).v
 refine Pure.w c318 λR E=>?_;unfold s318 r318;unfold ib at E;generalize u.flat.all dH=q at*;(repeat' (first|(with_reducible (refine ai (λh=>?_) λh=>?_)<;>(try simp only[DZ]at h))|(with_reducible first|refine ab I ?_|refine ab (f275 G hG u D) ?_)|simp only[EV,seval]));(all_goals(((refine RET.eq E ?_;((simp_all[];done))))))
end
def fo:List UInt8:=[97,98,99,100,101,102,103,104,105,106,107,108,109,110,111,112,113,114,115,116,117,118,119,120,121,122,48,49,50,51,52,53,54,55,56,57,45]
def qJ (c:UInt8):fo.contains c=eB c:=by
 have key:∀n:Fin 256,fo.contains (UInt8.ofNat n.val)=eB (UInt8.ofNat n.val):=by decide+kernel
 have:=key ⟨c.toNat,c.toNat_lt⟩;simpa using this
def fG {α:Type} (p:α->Bool):∀l:List α,l.dropWhile p=[]↔l.all p=true
 |[]=>by simp
 |x::l=>by
  rw[dropWhile_cons,all_cons];split
  ·rename_i h;rw[fG p l,h,Bool.true_and]
  ·rename_i h;simp[h]
def trimS_nil (l cs:List UInt8):Lib.trimS l cs=[]↔(l.all λc=>cs.contains c)=true:=by
 unfold Lib.trimS Lib.trimLeftS Lib.trimRightS;rw[fG,all_reverse];constructor
 ·intro h
  have D:l.reverse.all (λc=>cs.contains c)=true:=by
   rw[←takeWhile_append_dropWhile (p:=λc=>cs.contains c) (l:=l.reverse),all_append,h,Bool.and_true];exact all_takeWhile
  rwa [all_reverse]at D
 ·intro h;have D:l.reverse.dropWhile (λc=>cs.contains c)=[]:=(fG _ _).2 (by rw[all_reverse];exact h);rw[D];rfl
section
variable (G:Glob)
def f252 (s:List UInt8) (N:s.length<1000000000000000000):Pure G Tryz.prog 252 [.str s,.str fo] (.str (Lib.trimS s fo)):=by
 refine rV Tryz.func252 (by kernel_rfl) (by kernel_rfl) λτ w vs M I=>?_;obtain⟨u,v,rfl,E,F⟩:=j8 I;simp only[Rep]at E F;subst E F;refine⟨.string ⟨⟨Lib.trimS s fo⟩⟩,λ_ _=>by simp only[Rep],?_⟩;have D:(⟨⟨s⟩⟩:ByteArray).size=s.length:=rfl;refine(Any.strings_Trim_laid Tryz.lays160 (by kernel_rfl) ⟨⟨s⟩⟩ ⟨⟨fo⟩⟩ w (by rw[D];omega) (by decide) (ascii_of_all (by decide))).mono ?_;rintro e w' ⟨rfl,J⟩;exact⟨rfl,J⟩
def f132 (s:List UInt8) (I:s.length<1000000000000000000):Pure G Tryz.prog 132 [.str s] (.bool (d8 s)):=by
 have E:=f252 G s I
 have F:decide (Lib.trimS s fo=[])=s.all eB:=by
  rw[Bool.eq_iff_iff,decide_eq_true_eq,trimS_nil];simp only[qJ]
 unfold fo at E F;refine Pure.w c132 λR D=>?_;unfold s132 r132;unfold d8 at D;generalize s.all eB=q at*;(repeat' (first|(with_reducible (first|refine ae (λh=>?_) λh=>?_|refine ai (λh=>?_) λh=>?_)<;>(try simp only[DZ]at h))|(with_reducible first|refine AI (by omega) ?_|refine ab E ?_)|simp only[EV,seval,F]));(all_goals(first|(refine RET.eq D ?_;(refine congrArg AV.bool (Bool.eq_iff_iff.2 ?_);simp only[jU,EVB]at*;omega))|(refine RET.eq D ?_;((simp_all[jU];done)))))
def f133 (s:Sta) (E:s.event.length<1000000000000000000):Pure G Tryz.prog 133 [.agg [.i s.kind,.i s.day,.str s.event]] (.bool (jN s)):=by
 refine Pure.w c133 λR D=>?_;unfold s133 r133;(repeat' (first|(with_reducible (first|refine ae (λh=>?_) λh=>?_|refine ai (λh=>?_) λh=>?_)<;>(try simp only[DZ]at h))|(with_reducible first|refine ab (f132 G _ E) ?_|refine ab (f247 G _ _ _) ?_)|simp only[EV,seval]|(exfalso;omega)));(all_goals(((refine RET.eq D ?_;((simp_all[jN];done))))))
end
mutual
def Itm.fit:Itm->Prop
 |⟨_,a,t,_,_,u,o,w,_,_,_,_,_,_,_,b⟩=>a.length<1000000000000000000/\t.length<1000000000000000000/\u.fit/\o.length<1000000000000000000/\w.length<1000000000000000000/\b.length<1000000000000000000/\Itm.fits b
def Itm.fits:List Itm->Prop
 |[]=>True
 |u::us=>Itm.fit u/\Itm.fits us
end
def sY:∀{us:List Itm},Itm.fits us↔∀k∈us,k.fit
 |[]=>by simp[Itm.fits]
 |u::us=>by simp[Itm.fits,sY (us:=us)]
def sg (u:Itm):u.fit↔u.at_.length<1000000000000000000/\u.to_.length<1000000000000000000/\u.unit.fit/\u.old.length<1000000000000000000/\u.new.length<1000000000000000000/\u.by_.length<1000000000000000000/\∀k∈u.by_,k.fit:=by
 cases u
 rw[Itm.fit,sY]
def cn (l:List (List UInt8)):Bool:=l.all λs=>decide ((s.length:Int)<=100)
def cl (l:List Stp):Bool:=l.all λs=>decide ((s.label.length:Int)<=100)
def iO (x:List UInt8) (r:List (List UInt8)):cn (x::r)=(decide ((x.length:Int)<=100)&&cn r):=rfl
def iK (x:Stp) (r:List Stp):cl (x::r)=(decide ((x.label.length:Int)<=100)&&cl r):=rfl
def Itm.few0 (x:Itm):Bool:=
 decide ((x.at_.length:Int)<=12)&&(decide ((x.to_.length:Int)<=12)&&(decide ((x.old.length:Int)<=300)&&(decide ((x.new.length:Int)<=300)&&(decide ((x.label.length:Int)<=100)&&
 (decide ((x.for_.length:Int)<=100)&&(decide ((x.start.event.length:Int)<=100)&&(decide ((x.event.length:Int)<=100)&&(decide ((x.by_.length:Int)<=2)&&x.unit.few 30))))))))
def j4 (x:Itm):Bool:=match x.by_ with
 |[]=>false
 |y::_=>decide (0<(y.by_.length:Int))
mutual
def Itm.few:Itm->Bool
 |⟨k,a,t,wh,n,u,o,w,l,f,s,ac,it,d,e,b⟩=>Itm.few0 ⟨k,a,t,wh,n,u,o,w,l,f,s,ac,it,d,e,b⟩&&(cn o&&(cn w&&(cl a&&(cl t&&Itm.fews b))))
def Itm.fews:List Itm->Bool
 |[]=>true
 |x::l=>(!j4 x&&Itm.few x)&&Itm.fews l
end
def sN (x:Itm) (l:List Itm):Itm.fews (x::l)=((!j4 x&&x.few)&&Itm.fews l):=by rw[Itm.fews]
def tD (x:Itm):x.few=(x.few0&&(cn x.old&&(cn x.new&&(cl x.at_&&(cl x.to_&&Itm.fews x.by_))))):=by cases x;rw[Itm.few]
section
variable (G:Glob)
set_option maxHeartbeats 4000000 in
def f52:∀(x:Itm),x.fit->Pure G Tryz.prog 52 [.agg x.cs] (.bool x.few):=by
 refine Itm.ind λit ih O=>?_;obtain⟨h1,h2,h3,h4,h5,h6,T⟩:=(sg it).1 O;refine Pure.w c52 λR F=>?_;unfold s52 r52;rw[tD]at F;(repeat' (first|(with_reducible (first|refine ae (λh=>?_) λh=>?_|refine ai (λh=>?_) λh=>?_)<;>(try simp only[DZ]at h))|(with_reducible refine ab (f17 G it.unit 30 h3 (by omega) (by omega)) ?_)|simp only[EV,seval,o6,E.yes,E.le0,E.lt',E.get,E.row,J]|simp only[EV,seval,o6,M]|simp only[EV,seval,o6]|(refine ak E () ?_ (a0 _ _))|(refine ap (it.old) (λi r (c:Unit)=>cn it.old=cn r) (λi c=>[(1,.ref it.cs),(3,.i i)]) (λ_ _=>[]) () (by rfl) (a0 _ _) (by omega) (λi x r c D E J=>?_) (λc D M=>?_))|(refine ap (it.new) (λi r (c:Unit)=>cn it.new=cn r) (λi c=>[(1,.ref it.cs),(4,.i i)]) (λ_ _=>[]) () (by rfl) (a0 _ _) (by omega) (λi x r c D E J=>?_) (λc D M=>?_))|(refine ap (it.at_) (λi r (c:Unit)=>cl it.at_=cl r) (λi c=>[(1,.ref it.cs),(5,.i i)]) (λ_ _=>[]) () (by rfl) (a0 _ _) (by omega) (λi x r c D E J=>?_) (λc D M=>?_))|(refine ap (it.to_) (λi r (c:Unit)=>cl it.to_=cl r) (λi c=>[(1,.ref it.cs),(6,.i i)]) (λ_ _=>[]) () (by rfl) (a0 _ _) (by omega) (λi x r c D E J=>?_) (λc D M=>?_))))
 all_goals first
  |(rw[D,iO,decide_eq_true h,Bool.true_and];done)
  |(rw[D,iK,decide_eq_true h,Bool.true_and];done)
  |(refine RET.eq F (congrArg AV.bool ?_);rw[D,iO,decide_eq_false (by omega)];simp;done)
  |(refine RET.eq F (congrArg AV.bool ?_);rw[D,iK,decide_eq_false (by omega)];simp;done)
  |(refine RET.eq F (congrArg AV.bool ?_);simp only[Itm.few0, *,decide_true,decide_false,Bool.true_and,Bool.false_and,Bool.and_false];done)
  |(refine RET.eq F (congrArg AV.bool ?_);unfold Itm.few0;rw[decide_eq_false (Int.not_le.2 h)];simp only[Bool.false_and,Bool.and_false];done)
  |skip
 have V:it.few0=true:=by simp only[Itm.few0, *,decide_true,Bool.true_and]
 have X:cn it.old=cn []:=by assumption
 have Y:cn it.new=cn []:=by assumption
 have Z:cl it.at_=cl []:=by assumption
 rw[V,X,Y,Z,D]at F;clear D;refine ap (it.by_) (λi r (c:Unit)=>Itm.fews it.by_=Itm.fews r) (λi c=>[(1,.ref it.cs),(7,.i i)]) (λ_ _=>[]) () rfl (a0 _ _) (by omega) (λi x r c D E J=>?_) (λc D M=>?_)
 ·rw[sN]at D
  rcases I:x.by_ with _|⟨y,ys⟩
  ·have N:j4 x=false:=by unfold j4;rw[I]
   (repeat' (first|(with_reducible (refine ae (λh=>?_) λh=>?_)<;>(try simp only[DZ]at h))|(with_reducible refine ab (ih x E.mem (T x E.mem)) ?_)|simp only[EV,seval,E.yes,E.le0,E.lt',E.get,E.row,J,I,map_nil,length_nil]|(refine ak E () ?_ (a0 _ _))))
   ·exact RET.eq F (by rw[D,N,h];rfl)
   ·rw[D,N,h];rfl
  ·have N:j4 x=decide (0<(y.by_.length:Int)):=by unfold j4;rw[I]
   (repeat' (first|(with_reducible (first|refine ae (λh=>?_) λh=>?_|refine ai (λh=>?_) λh=>?_)<;>(try simp only[DZ]at h))|(with_reducible first|refine AI (by omega) ?_|refine ab (ih x E.mem (T x E.mem)) ?_)|simp only[EV,seval,E.yes,E.le0,E.lt',E.get,E.row,J,I,map_cons,getD_cons_zero,length_cons]|(refine ak E () ?_ (a0 _ _))|(exfalso;omega)))
   all_goals first
    |(refine RET.eq F (congrArg AV.bool ?_);rw[D,N,decide_eq_true h];rfl)
    |(refine RET.eq F (congrArg AV.bool ?_);rw[D,h,Bool.and_false];rfl)
    |(rename_i aa;rw[D,N,h,decide_eq_false (by omega)];rfl)
    |trace_state
 ·(repeat' (simp only[EV,seval,M]));exact RET.eq F (by rw[D,Itm.fews];rfl)
end
end Go.Av
