/-
  LINT, 18: a function value asked at every node of a tree.
-/
import Derived.Test.YtnoakpkjccigoaaGreatDoorVXL14toXFrU
import Derived.Test.YtnoakpkjccigoaaGreatDoorVXAv24toXAv26
import Derived.Shelf.Strings.SlTrimAscii
import Derived.Test.YtnoakpkjccigoaaGreatDoorVXOpenGtoXCS
namespace Go.Av
open Go Go.RowKit Go.Proofs List
set_option linter.unusedSimpArgs false
set_option linter.unusedVariables false
def cut (p:U->Bool):List U->List U
 |[]=>[]
 |x::l=>if p x then x::cut p l else [x]
theorem p7 {p:U->Bool}:∀{l:List U},l.all p=true->cut p l=l
 |[],_=>rfl
 |x::l,h=>by
  simp only[all_cons,Bool.and_eq_true]at h
  rw[cut,if_pos h.1,p7 h.2]
theorem cut_app {p:U->Bool} {l m:List U} (h:l.all p=true):cut p (l++m)=l++cut p m:=by
 induction l with
 |nil=>rfl
 |cons x l ih=>
  simp only[all_cons,Bool.and_eq_true]at h
  rw[cons_append,cut,if_pos h.1,ih h.2];rfl
theorem qP {p:U->Bool} {l m:List U} (h:l.all p=false):cut p (l++m)=cut p l:=by
 induction l with
 |nil=>simp at h
 |cons x l ih=>
  rw[cons_append,cut,cut]
  split
  ·rename_i D
   simp only[all_cons,D,Bool.true_and]at h
   rw[ih h]
  ·rfl
theorem pk (u:U) (us:List U):U.flats (u::us)=u.flat++U.flats us:=by rw[U.flats]
theorem pp:U.flats []=[]:=by rw[U.flats]
theorem SubN.comm1 {σ:Store} {p:Nat×AObj}:SubN (σ++[p]) (p::σ):=by
 refine⟨λq I=>?_,λD=>?_⟩
 ·rcases mem_append.1 I with h|h
  ·exact mem_cons_of_mem _ h
  ·simp only[mem_singleton]at h;subst h;simp
 ·rw[az]
  simp only[Store.keys,map_cons,nodup_cons,map_nil]at D ⊢
  refine nodup_append.2 ⟨D.2,by simp,?_⟩
  intro a F b E e
  simp only[mem_singleton]at E
  subst E e
  exact D.1 F
theorem SubN.left {σ τ:Store}:SubN σ (σ++τ):=by
 refine⟨λq E=>mem_append.2 (.inl E),λD=>?_⟩
 rw[az]at D
 exact(nodup_append.1 D).1
theorem RET.mk {x:AV} {R:AV->Store->Prop} {σ σ':Store} (D:SubN σ' σ) (h:R x σ'):RET x σ R:=⟨x,σ',AVle.rfl' _,D,h⟩
theorem qq {u k x:U} (D:k∈u.kids) (E:x∈k.flat):x∈u.flat:=U.flat_kid D E
section
variable (G:Glob)
theorem f237 (f:Value) (p:U->Bool) (N:Nat) (St:List U->Store->Prop) (hN:N<1000000):
  ∀(u:U),u.Tame->(∀x∈u.flat,∀pre σ,St pre σ->pre.length<N->cd G Tryz.prog f [.agg x.cs] σ (λr σ'=>r= .bool (p x)/\St (pre++[x]) σ'))->
   ∀pre σ,St pre σ->pre.length+u.flat.length<=N->ag G Tryz.prog 237 [.agg u.cs,.sc f] σ (λr σ'=>r= .bool (u.flat.all p)/\St (pre++cut p u.flat) σ'):=by
 refine U.ind λu ih ht hf pre σ ac aw=>?_
 have an:=ht.kids
 have D:=u.flat_eq
 have al:u.flat.length=1+(U.flats u.kids).length:=by rw[D,length_cons];omega
 refine ag.w c237 ?_
 unfold s237 r237
 (repeat' (simp only[EVz,seval,↓reduceIte,EV6,EV7]))
 refine aZ σ [] (hf u u.flat_self pre σ ac (by omega)) (ax.rfl' _) (by simpa using SubN.refl _) ?_
 rintro r σ' ⟨rfl,F⟩
 rw[append_nil]
 cases Y:p u
 ·(repeat' (simp only[EVz,seval,↓reduceIte,EV6,EV7]))
  exact RET.mk (SubN.refl _) ⟨by rw[D,all_cons,Y];rfl,by rw[D,cut,if_neg (by simp[Y])];exact F⟩
 ·(repeat' (first|simp only[EVz,seval,↓reduceIte,EV6,EV7,E.yes,E.le0,E.lt',E.get,E.row,hw]|simp only[EVz,seval,↓reduceIte,EV6,EV7,hn]|simp only[EVz,seval,↓reduceIte,EV6,EV7]|(with_reducible intro Z M;(try(have O:=M;simp only[EVK]at O;(have ba:=O))))|(refine ay (ι:=Store×List U) u.kids (λi r c=>St c.2 c.1/\pre++cut p u.flat=c.2++cut p (U.flats r)/\u.flat.all p=(U.flats r).all p/\c.2.length+(U.flats r).length<=N) (λi c=>[(1,.sc f),(12,.lst 8 (u.kids.map U.cs)),(13,.int .i64 u.kids.length),(14,.int .i64 i)]) (λi c=>c.1) (σ',pre++[u]) ⟨F,by rw[D,cut,if_pos Y];simp,by rw[D,all_cons,Y,Bool.true_and],by simp;omega⟩ (Weak.rfl' _ _) (by omega) (λi x r c J E hw=>?_) (λc J hn=>?_))))
  ·obtain⟨o1,V,X,o4⟩:=J
   rw[pk]at V X o4
   rw[length_append]at o4
   refine aZ c.1 [(Z,.cells 27 x.cs)] (ih x E.mem (ht.kid E.mem) (λy hy=>hf y (qq E.mem hy)) c.2 c.1 o1 (by omega)).v (ax.rfl' _) SubN.comm1 ?_
   rintro r' ah ⟨rfl,I⟩
   cases T:x.flat.all p
   ·(repeat' (simp only[EVz,seval,↓reduceIte,EV6,EV7]))
    exact RET.mk SubN.left ⟨by rw[X,all_append,T];rfl,by rw[V,qP T];exact I⟩
   ·(repeat' (simp only[EVz,seval,↓reduceIte,EV6,EV7,hw]))
    rw[p7 T]at I
    exact ap E (ah,c.2++x.flat) ⟨I,by rw[V,cut_app T,append_assoc],by rw[X,all_append,T,Bool.true_and],by simp;omega⟩ (Weak.sub SubN.left)
  ·obtain⟨o1,V,X,o4⟩:=J
   exact RET.mk (SubN.refl _) ⟨by rw[X,pp];rfl,by rw[V,pp,cut,append_nil];exact o1⟩
theorem qd (f:Value) (p:U->Bool) (u:U) (E:u.Tame) (J:∀x∈u.flat,eZ G Tryz.prog f [.agg x.cs] (.bool (p x))):Pure G Tryz.prog 237 [.agg u.cs,.sc f] (.bool (u.flat.all p)):=by
 refine ag.mono (f237 G f p u.flat.length (λ_ σ=>σ=[]) E.2 u E (λx M pre σ D _=>?_) [] [] rfl (by simp)) ?_
 ·subst D;exact J x M
 ·rintro r σ' ⟨F,I⟩;exact⟨F,I⟩
theorem v_clo {k:Nat} {b:Nat} {args:List AV} {σ:Store} {R:AV->Store->Prop} (h:ag G Tryz.prog k (args++[.sc (.pointer (some ⟨b,0,none⟩))]) σ R):cd G Tryz.prog (.func (.func k) #[] #[.pointer (some ⟨b,0,none⟩)]) args σ R:=
 ⟨k,#[],#[.pointer (some ⟨b,0,none⟩)],rfl,by simpa[AV.ofValue,AV.ofOne]using h⟩
theorem f238 (x:U) (b n:Nat) (E:n<1000000):ag G Tryz.prog 238 [.agg x.cs,.sc (.pointer (some ⟨b,0,none⟩))] [(b,.cells 3 [.int .i64 n])] (λr σ'=>r= .bool true/\σ'=[(b,.cells 3 [.int .i64 ((n+1:Nat):Int)])]):=by
 have D:IntKind.i64.wrap ((n:Int)+1)=((n+1:Nat):Int):=by rw[aA (by omega) (by omega)];omega
 refine ag.w c238 ?_
 unfold s238 r238
 (repeat' (simp only[EVz,seval,↓reduceIte,EV6,EV7,D]))
 exact RET.mk (SubN.refl _) ⟨rfl,rfl⟩
theorem f148 (u:U) (I:u.Tame):Pure G Tryz.prog 148 [.agg u.cs] (.int .i64 u.cnt):=by
 refine Pure.w c148 λR O=>?_
 unfold s148 r148
 (repeat' (first|simp only[EVz,seval,↓reduceIte,EV6,EV7]|(with_reducible intro D E;(try(have F:=E;simp only[EVK]at F;(have T:=F))))))
 refine aZ _ [] (f237 G (.func (.func 238) #[] #[.pointer (some ⟨D,0,none⟩)]) (λ_=>true) u.flat.length (λpre σ=>σ=[(D,.cells 3 [.int .i64 pre.length])]) I.2 u I (λx Y pre σ J X=>?_) [] _ rfl (by simp)).v (ax.rfl' _) (by simpa using SubN.refl _) ?_
 ·subst J
  have V:=I.2
  refine v_clo G (ag.mono (f238 G x D pre.length (by omega)) ?_)
  rintro r σ' ⟨M,N⟩
  exact⟨M,by rw[N];simp⟩
 ·rintro r σ' ⟨rfl,rfl⟩
  rw[p7 (by simp)]
  (repeat' (simp only[EVz,seval,↓reduceIte,EV6,EV7]))
  exact RET.eq O (by simp[U.cnt])
theorem f239 (x:U) (b:Nat) (g:Option Nat) (rows:List Idd) (v:AV) (V:v= .own g 23 3 (rows.map Idd.cs)\/v= .nil/\g=none/\rows=[]) (T:∀d,g=some d->d≠b) (X:rows.length<1000000):
  ag G Tryz.prog 239 [.agg x.cs,.sc (.pointer (some ⟨b,0,none⟩))] ((b,.cells 115 [v])::tokS g 23 (rows.length*3))
   (λr σ'=>r= .bool true/\∃D,(∀d,D=some d->d≠b)/\σ'=(b,.cells 115 [.own D 23 3 ((rows++[x.id]).map Idd.cs)])::tokS D 23 ((rows.length+1)*3)):=by
 have key:∀D:Option Nat,(∀d,D=some d->d≠b)->∀σ,σ=(b,AObj.cells 115 [.own D 23 3 (rows.map Idd.cs++[x.id.cs])])::tokS D 23 ((rows.length+1)*3)->RET (.bool true) σ (λr σ'=>r= .bool true/\∃D,(∀d,D=some d->d≠b)/\σ'=(b,.cells 115 [.own D 23 3 ((rows++[x.id]).map Idd.cs)])::tokS D 23 ((rows.length+1)*3)):=by
  rintro D O σ rfl
  exact RET.mk (SubN.refl _) ⟨rfl,D,O,by simp⟩
 refine ag.w c239 ?_
 unfold s239 r239
 rcases V with rfl|⟨rfl,rfl,rfl⟩
 ·(repeat' (first|simp only[EVz,seval,↓reduceIte,EV6,EV7]|(with_reducible intro J E;(try(have F:=E;simp only[EVK]at F;(have N:=F))))|(refine app_rowK (n:=rows.length) (m':=(rows.length+1)*3) [_] (by rfl) (by simpa[Store.keys]using T) (by simp) rfl rfl rfl (by assumption) (by omega) (λM I=>?_))))
  exact key M (by simpa[Store.keys]using I) _ rfl
 ·(repeat' (first|simp only[EVz,seval,↓reduceIte,EV6,EV7]|(with_reducible intro J E;(try(have F:=E;simp only[EVK]at F;(have N:=F))))|(refine app_rowK (n:=0) (m':=3) [_] (by rfl) (by simp) (by simp) rfl rfl rfl (by assumption) (by omega) (λM I=>?_))))
  exact RET.mk (SubN.refl _) ⟨rfl,M,by simpa[Store.keys]using I,rfl⟩
theorem f149 (u:U) (J:u.Tame):Pure G Tryz.prog 149 [.agg u.cs] (.lst 3 (u.ids.map Idd.cs)):=by
 refine Pure.w c149 λR Y=>?_
 unfold s149 r149
 (repeat' (first|simp only[EVz,seval,↓reduceIte,EV6,EV7]|(with_reducible intro D E;(try(have F:=E;simp only[EVK]at F;(have Z:=F))))))
 refine aZ _ [] (f237 G (.func (.func 239) #[] #[.pointer (some ⟨D,0,none⟩)]) (λ_=>true) u.flat.length (λpre σ=>∃v g,(v= .own g 23 3 ((pre.map U.id).map Idd.cs)\/v= .nil/\g=none/\pre.map U.id=[])/\(∀d,g=some d->d≠D)/\σ=(D,.cells 115 [v])::tokS g 23 ((pre.map U.id).length*3)) J.2 u J (λx hx pre σ M hp=>?_) [] _ ⟨.nil,none,.inr ⟨rfl,rfl,rfl⟩,by simp,rfl⟩ (by simp)).v (ax.rfl' _) (by rw[append_nil];exact SubN.refl _) ?_
 ·have hl:=J.2
  obtain⟨v,g,I,N,rfl⟩:=M
  refine v_clo G (ag.mono (f239 G x D g _ v I N (by simp;omega)) ?_)
  rintro r σ' ⟨V,O,X,rfl⟩
  exact⟨V,_,O,.inl rfl,X,by simp⟩
 ·rintro r σ' ⟨rfl,v,g,I,N,rfl⟩
  rw[p7 (by simp)]at I ⊢
  simp only[nil_append,append_nil]at I ⊢
  rcases I with rfl|⟨rfl,rfl,T⟩
  ·(repeat' (simp only[EVz,seval,↓reduceIte,EV6,EV7]))
   exact Y _ _ (Or.inl (Or.inr ⟨rfl,by simp[U.ids]⟩))
  ·exact absurd T (by rw[U.flat_eq];simp)
end
def mset {κ:Type} (l:List κ):List (κ×AV):=l.map λx=>(x,AV.bool true)
theorem pw {κ:Type} [DecidableEq κ] (k:κ):∀l:List κ,(aS k (mset l)).getD (.bool false)= .bool (decide (k∈l))
 |[]=>by simp[mset,aS]
 |x::l=>by
  simp only[mset,map_cons,aS]
  by_cases h:x=k
  ·subst h;simp
  ·rw[if_neg h]
   have:=pw k l
   unfold mset at this
   rw[this]
   have:k≠x:=λe=>h e.symm
   simp[this]
theorem qm {κ:Type} [DecidableEq κ] (k:κ):∀l:List κ,dj k (.bool true) (mset l)=mset (if k∈l then l else l++[k])
 |[]=>by simp[mset,dj]
 |x::l=>by
  simp only[mset,map_cons,dj]
  by_cases h:x=k
  ·subst h;simp
  ·rw[if_neg h]
   have:=qm k l
   unfold mset at this
   rw[this]
   have D:k≠x:=λe=>h e.symm
   by_cases E:k∈l<;>simp[D,E]
abbrev CKey:=Int×List UInt8
def pU (k:CKey):List Value:=[.int .i64 k.1,.string ⟨⟨k.2⟩⟩]
def ckVal (k:CKey):Value:=.agg (pU k).toArray
def pV (k:Idd):List Value:=[.int .i64 k.act,.int .i64 k.item,.int .i64 k.n]
def idVal (k:Idd):Value:=.agg (pV k).toArray
def U.ck (u:U):CKey:=(u.kind,u.label)
theorem eqK_ck (a b:CKey):eqK [1,2] (pU a) (pU b)=some (decide (a=b)):=by
 obtain⟨D,E⟩:=a
 obtain⟨F,I⟩:=b
 simp only[pU,eqK,if_true,Option.map_some]
 congr 1
 rw[Bool.eq_iff_iff];simp
theorem eqK_id (a b:Idd):eqK [1,1,1] (pV a) (pV b)=some (decide (a=b)):=by
 rw[mu]
 simp only[pV,eqK,if_true,Option.map_some]
 congr 1
 rw[Bool.eq_iff_iff];simp
theorem mapK_ck:MapK Tryz.prog 266 ckVal:=
 l5 (fs:=Tryz.prog.fieldsOf 266) (ks:=[1,2]) (by kernel_rfl) (by kernel_rfl) pU (λ_=>rfl) eqK_ck (λk v D n=>by
  simp only[pU,mem_cons,not_mem_nil,or_false]at D
  rcases D with rfl|rfl
  ·exact iB n _ _
  ·exact mS n _)
theorem mapK_id:MapK Tryz.prog 23 idVal:=
 l5 (fs:=Tryz.prog.fieldsOf 23) (ks:=[1,1,1]) (by kernel_rfl) (by kernel_rfl) pV (λ_=>rfl) eqK_id (λk v D n=>by
  simp only[pV,mem_cons,not_mem_nil,or_false]at D
  rcases D with rfl|rfl|rfl<;>exact iB n _ _)
theorem rep_ck (k:Int) (s:List UInt8):∀τ w v,Rep τ w (.agg [.int .i64 k,.str s]) v->v=ckVal (k,s):=by
 intro τ w v h
 simp only[Rep,RepL]at h
 obtain⟨vs,rfl,_,u,us,D,rfl,F,E,rfl,rfl,rfl⟩:=h
 have:vs=vs.toList.toArray:=by simp
 rw[this,D];rfl
theorem rep_id (i:Idd):∀τ w v,Rep τ w (.agg [.int .i64 i.act,.int .i64 i.item,.int .i64 i.n]) v->v=idVal i:=by
 intro τ w v h
 simp only[Rep,RepL]at h
 obtain⟨vs,rfl,_,u,us,D,rfl,I,E,rfl,rfl,J,F,rfl,rfl,rfl⟩:=h
 have:vs=vs.toList.toArray:=by simp
 rw[this,D];rfl
theorem pO (c:List Idd):(cl idVal (mset c)).length=c.length:=by simp[cl,mset]
def Seen (l c:List Idd) (i:Nat):Prop:=(∀y,y∈c↔y∈l.take i)/\c.Nodup/\(c.length=i↔(l.take i).Nodup)/\c.length<=i
theorem seen_step {l c:List Idd} {i:Nat} {x:Idd} {r:List Idd} (N:Rest l i x r) (h:Seen l c i):Seen l (if x∈c then c else c++[x]) (i+1):=by
 obtain⟨F,J,M,O⟩:=h
 unfold Seen
 rw[N.take]
 by_cases D:x∈c
 ·rw[if_pos D]
  refine⟨λy=>?_,J,⟨λe=>by omega,λe=>?_⟩,by omega⟩
  ·rw[mem_append,←F]
   constructor
   ·exact .inl
   ·rintro(h|h)
    ·exact h
    ·simp only[mem_singleton]at h;subst h;exact D
  ·exact absurd rfl ((nodup_append.1 e).2.2 x ((F x).1 D) x (by simp))
 ·rw[if_neg D]
  refine⟨λy=>by rw[mem_append,mem_append,←F],nodup_append.2 ⟨J,by simp,?_⟩,?_,by simp;omega⟩
  ·intro a I b E e
   simp only[mem_singleton]at E
   subst E e
   exact D I
  ·rw[length_append,length_singleton]
   constructor
   ·intro e
    refine nodup_append.2 ⟨M.1 (by omega),by simp,?_⟩
    intro a I b E e
    simp only[mem_singleton]at E
    subst E e
    exact D ((F a).2 I)
   ·intro e
    have:=M.2 (nodup_append.1 e).1
    omega
theorem seen_all {l c:List Idd} (h:Seen l c l.length):(zId∈c/\c.length=1↔(l≠[]/\(l.all λx=>decide (x=zId))=true))/\(c.length=l.length↔l.Nodup):=by
 obtain⟨F,N,O,Y⟩:=h
 rw[take_length]at F O
 refine⟨⟨λ⟨J,M⟩=>?_,λ⟨J,M⟩=>?_⟩,O⟩
 ·obtain⟨a,rfl⟩:=length_eq_one_iff.1 M
  simp only[mem_singleton]at J
  subst J
  refine⟨λe=>?_,all_eq_true.2 λy I=>?_⟩
  ·have:=(F zId).1 (by simp);rw[e]at this;cases this
  ·have:=(F y).2 I
   simpa using this
 ·have D:∀y∈c,y=zId:=λy I=>by simpa using(all_eq_true.1 M) y ((F y).1 I)
  obtain⟨y,I⟩:=exists_mem_of_ne_nil _ J
  have E:=(F y).2 I
  have X:=D y E
  subst X
  refine⟨E,?_⟩
  match c,E,N,D with
  |[a],_,_,_=>rfl
  |a::b::c,_,N,D=>
   have T:=D a (by simp)
   have V:=D b (by simp)
   simp[T,V]at N
def own1 (u:U):Bool:=if u.kind=0 then decide (u.label=[])&&(decide ((u.head.length:Int)=0)&&decide ((u.words.length:Int)=0))else decide (0<=u.kind)&&decide (u.kind<=7)&&(br u.label&&(aU u.head&&aU u.words))
def nodeOk (u:U):Bool:=own1 u&&((u.kids.all λk=>nests u.kind k.kind)&&decide (pr u.kids)&&decide ((u.kids.length:Int)<=64))
theorem kt_nil (k:Int):((if 0<=k/\k<=7 then kindText k else [])=[])=¬(0<=k/\k<=7):=by
 apply propext
 split
 ·rename_i h
  refine⟨λe=>?_,λe=>absurd h e⟩
  rcases lt8 h.1 h.2 with rfl|rfl|rfl|rfl|rfl|rfl|rfl|rfl<;>cases e
 ·rename_i h;simp only[true_iff];exact h
theorem own_no0 {u:U} (h:u.kind=0) (D:u.label≠[]\/(0:Int)<(u.head.length:Int)+(u.words.length:Int)):own1 u=false:=by
 unfold own1;rw[if_pos h]
 rcases D with D|D
 ·simp[D]
 ·simp;intro _ e E;simp[e,E]at D
theorem own_yes0 {u:U} (h:u.kind=0) (D:¬u.label≠[]) (E:(u.head.length:Int)+(u.words.length:Int)<=0):own1 u=true:=by
 unfold own1;rw[if_pos h]
 simp only[Bool.and_eq_true,decide_eq_true_eq]
 exact⟨by simpa using D,by omega,by omega⟩
section
variable (G:Glob) (hG:GOk G)
include hG
theorem f264 (u:U) (ht:u.Tame) (hh:u.head.length<1000000) (V:u.words.length<1000000):Pure G Tryz.prog 264 [.agg u.cs] (.bool (nodeOk u)):=by
 have al:=ht.kids
 have O:=f292 G hG
 refine Pure.w c264 λR I=>?_
 unfold s264 r264
 have F:IntKind.i64.wrap ((u.head.length:Int)+(u.words.length:Int))=(u.head.length:Int)+(u.words.length:Int):=aA (by omega) (by omega)
 (repeat' (first|(with_reducible (first|refine ab (λh=>?_) (λh=>?_)|refine ai (λh=>?_) (λh=>?_))<;>(try simp only[DZ]at h))|(with_reducible first|refine aa (O _) ?_|refine aa (f129 G _) ?_|refine aa (f293 G _ hh) ?_|refine aa (f293 G _ V) ?_)|simp only[EVz,seval,↓reduceIte,EV6,EV7,F]))
 all_goals(try(refine cV ?_;intro Y ah))
 all_goals(try((repeat' (first|(with_reducible (first|refine ab (λh=>?_) (λh=>?_)|refine ai (λh=>?_) (λh=>?_))<;>(try simp only[DZ]at h))|(with_reducible refine aa (f122 G hG _ _) ?_)|simp only[EVz,seval,↓reduceIte,EV6,EV7,F,pw,E.yes,E.le0,E.lt',E.get,E.row,Z,J]|simp only[EVz,seval,↓reduceIte,EV6,EV7,F,pw,E.yes,E.le0,E.lt',E.get,E.row,Z]|simp only[EVz,seval,↓reduceIte,EV6,EV7,F,pw,hn]|simp only[EVz,seval,↓reduceIte,EV6,EV7,F,pw]|(with_reducible intro ac N;(try(have M:=N;simp only[EVK]at M;first|(have J:=AI M J)|(have J:=M))))|(refine ay u.kids (λi r (c:Unit)=>(u.kids.all λk=>nests u.kind k.kind)=(r.all λk=>nests u.kind k.kind)/\pr (u.kids.take i)) (λi c=>[(1,.ref u.cs),(3,.sc (.map (some Y))),(47,.lst 8 (u.kids.map U.cs)),(48,.int .i64 u.kids.length),(49,.int .i64 i)]) (λi c=>[(Y,.map (cl ckVal (mset ((u.kids.take i).map U.ck))))]) () ⟨rfl,by simp[pr]⟩ (Weak.rfl' _ _) (by omega) (λi x r c D E Z=>?_) (λc D hn=>?_))|(refine aG mapK_ck (l:=mset ((u.kids.take i).map U.ck)) (k:=x.ck) (z:=.bool false) (zv:=.bool false) rfl (rep_ck _ _) (eT:=4) (by kernel_rfl) (by simp[Store.get, *]) (by kernel_rfl) (λ_ _=>by simp only[Rep]) ?_)|(refine eU mapK_ck (l:=mset ((u.kids.take i).map U.ck)) (k:=x.ck) (yv:=.bool true) rfl (rep_ck _ _) rfl (eT:=4) (by kernel_rfl) (by simp[Store.get, *]) ?_)))))
 all_goals first
  |(rename_i T
    refine ap E () ⟨by rw[D.1,all_cons,T,Bool.true_and],?_⟩ ?_
    ·refine qe E D.2 λy X e=>h (mem_map.2 ⟨y,X,?_⟩)
     unfold U.ck
     rw[e.1,e.2]
    ·rw[qm,if_neg h,show List.map U.ck (List.take i u.kids)++[x.ck]=List.map U.ck (List.take (i+1) u.kids)by rw[E.take];simp]
     exact Weak.sub ⟨λp hp=>mem_cons_of_mem _ (mem_cons_of_mem _ hp),λ_=>by simp[Store.keys]⟩)
  |(refine RET.eq I (congrArg AV.bool ?_)
    obtain⟨y,X,e⟩:=mem_map.1 h
    unfold U.ck at e
    injection e with e1 e2
    unfold nodeOk
    rw[decide_eq_false (qC E X e1 e2)]
    simp)
  |(refine RET.eq I (congrArg AV.bool ?_);unfold nodeOk;rw[D.1,all_cons,h];simp;done)
  |(refine RET.eq I (congrArg AV.bool ?_);unfold nodeOk;rw[own_no0 (by assumption) (.inr h)];rfl)
  |(refine RET.eq I (congrArg AV.bool ?_);unfold nodeOk;rw[own_no0 (by assumption) (.inl h)];rfl)
  |(rw[take_length]at D
    refine RET.eq I (congrArg AV.bool ?_);unfold nodeOk;rw[D.1,decide_eq_true D.2,own_yes0 (by assumption) (by assumption) h];rfl)
  |(rw[take_length]at D
    simp only[kt_nil,Classical.not_not]at*
    refine RET.eq I (congrArg AV.bool ?_);unfold nodeOk own1;rw[D.1,decide_eq_true D.2];simp[*];done)
  |(simp only[kt_nil,Classical.not_not]at*;refine RET.eq I (congrArg AV.bool ?_);unfold nodeOk own1;simp[*];done)
  |(simp only[kt_nil,Classical.not_not]at*;refine RET.eq I (congrArg AV.bool ?_);unfold nodeOk own1;simp[*];intros;omega)
  |skip
end
section
variable (G:Glob)
theorem f265 (u:U) (X:u.Tame):Pure G Tryz.prog 265 [.agg u.cs] (.bool (pH u)):=by
 have V:=f149 G u X
 have hl:u.ids.length<1000000:=by rw[U.ids_len];exact X.2
 have h0:u.ids=u.id::U.idss u.kids:=U.ids_eq u
 refine Pure.w c265 λR N=>?_
 unfold s265 r265
 unfold pH at N
 obtain⟨l,I⟩:∃l,u.ids=l:=⟨_,rfl⟩
 rw[I]at N V hl
 (repeat' (first|(with_reducible refine aa V ?_)|simp only[EVz,seval,↓reduceIte,EV6,EV7]))
 refine cV ?_
 intro T ac
 (repeat' (first|(with_reducible (refine ai (λh=>?_) (λh=>?_))<;>(try simp only[DZ]at h))|simp only[EVz,seval,↓reduceIte,EV6,EV7,pw,pO,pu,D.yes,D.le0,D.lt',D.get,D.row,Y,O]|simp only[EVz,seval,↓reduceIte,EV6,EV7,pw,pO,pu,D.yes,D.le0,D.lt',D.get,D.row,Y]|simp only[EVz,seval,↓reduceIte,EV6,EV7,pw,pO,pu,hn]|simp only[EVz,seval,↓reduceIte,EV6,EV7,pw,pO,pu]|(with_reducible intro Z F;(try(have M:=F;simp only[EVK]at M;(have O:=M))))|(refine ay (ι:=List Idd) l (λi r c=>Seen l c i) (λi c=>[(1,.ref u.cs),(3,.lst 3 (l.map Idd.cs)),(4,.sc (.map (some T))),(11,.lst 3 (l.map Idd.cs)),(12,.int .i64 l.length),(13,.int .i64 i)]) (λi c=>[(T,.map (cl idVal (mset c)))]) [] (by simp[Seen]) (Weak.rfl' _ _) (by omega) (λi x r c E D Y=>?_) (λc E hn=>?_))|(refine aG mapK_id (l:=mset c) (k:=zId) (z:=.bool false) (zv:=.bool false) rfl (rep_id zId) (eT:=4) (by kernel_rfl) (by simp[Store.get, *]) (by kernel_rfl) (λ_ _=>by simp only[Rep]) ?_)|(refine eU mapK_id (l:=mset c) (k:=x) (yv:=.bool true) rfl (rep_id x) rfl (eT:=4) (by kernel_rfl) (by simp[Store.get, *]) ?_)|(refine oN (es:=cl idVal (mset c)) (kT:=23) (eT:=4) rfl (by kernel_rfl) (by simp[Store.get]) ?_)))
 ·rw[qm]
  exact ap D _ (seen_step D E) (Weak.sub ⟨λp hp=>mem_cons_of_mem _ hp,λ_=>by simp[Store.keys]⟩)
 all_goals
  have J:l≠[]:=by rw[←I,h0];simp
  obtain⟨s1,s2⟩:=seen_all E
  have hA:(l.all λx=>decide (x=zId))=(decide (zId∈c)&&decide ((c.length:Int)=1)):=by
   rw[Bool.eq_iff_iff,Bool.and_eq_true,decide_eq_true_eq,decide_eq_true_eq,show((c.length:Int)=1↔c.length=1)by omega,s1]
   exact⟨λh=>⟨J,h⟩,λh=>h.2⟩
  have hB:decide l.Nodup=decide ((c.length:Int)=(l.length:Int)):=by rw[decide_eq_decide,←s2];omega
  have hC:(decide (u.kind=0)==decide (u.id=zId))=decide (decide (u.id=zId)=decide (u.kind=0)):=by
   by_cases e1:u.kind=0<;>by_cases e2:u.id=zId<;>simp[e1,e2]
  refine RET.eq N (congrArg AV.bool ?_)
  (try rw[hC])
  rw[hA,hB]
  first|rw[decide_eq_true (p:=zId∈c) (by assumption)]|rw[decide_eq_false (p:=zId∈c) (by assumption)]
  (try(first|rw[decide_eq_true (p:=(c.length:Int)=1) (by assumption)]|rw[decide_eq_false (p:=(c.length:Int)=1) (by assumption)]))
  (try(first|rw[decide_eq_true (p:=(c.length:Int)=(l.length:Int)) (by assumption)]|rw[decide_eq_false (p:=(c.length:Int)=(l.length:Int)) (by assumption)]))
  simp
def pq (u:U):Bool:=u.flat.all nodeOk&&(decide (u.dep<=8)&&(decide (u.cnt<=1024)&&pH u))
def pA (w:Wd):Bool:=!decide (w.act=0/\w.item=0/\w.at_=0)
def py (u:U):Bool:=decide (u.id=zId)&&(!u.head.any pA&& !u.words.any pA)
def pN (u:U):Bool:=pq u&&u.flat.all py
end
section
variable (G:Glob) (hG:GOk G)
theorem pR {us:List U} {x:U} (h:x∈U.flats us):∃k∈us,x∈k.flat:=by
 induction us with
 |nil=>rw[pp]at h;cases h
 |cons a us ih=>
  rw[pk]at h
  rcases mem_append.1 h with h|h
  ·exact⟨a,by simp,h⟩
  ·obtain⟨k,D,E⟩:=ih h;exact⟨k,by simp[D],E⟩
theorem U.Tame.node:∀{u:U},u.Tame->∀x∈u.flat,x.Tame:=by
 intro u
 induction u using U.ind with
 |h u ih=>
  intro F x D
  rw[U.flat_eq]at D
  rcases mem_cons.1 D with rfl|D
  ·exact F
  ·obtain⟨k,E,D⟩:=pR D
   exact ih k E (F.kid E) x D
include hG in
theorem f200 (u:U) (F:u.Short):Pure G Tryz.prog 200 [.agg u.cs] (.bool (pq u)):=by
 have D:=F.1
 have J:Pure G Tryz.prog 237 [.agg u.cs,.sc (.func (.func 264) #[] #[])] (.bool (u.flat.all nodeOk)):=
  qd G _ nodeOk u D λx I=>(f264 G hG x (D.node x I) (F.2 x I).2.1 (F.2 x I).2.2.1).v
 refine Pure.w c200 λR E=>?_
 unfold s200 r200
 unfold pq at E
 generalize u.flat.all nodeOk=q at*
 (repeat' (first|(with_reducible (refine ai (λh=>?_) (λh=>?_))<;>(try simp only[DZ]at h))|(with_reducible first|refine aa J ?_|refine aa (f125 G u D) ?_|refine aa (f148 G u D) ?_|refine aa (f265 G u D) ?_)|simp only[EVz,seval,↓reduceIte,EV6,EV7]))
 (all_goals(first|(refine RET.eq E ?_;(refine congrArg AV.bool (Bool.eq_iff_iff.2 ?_);simp only[EVB]at*;omega))|(refine RET.eq E ?_;((simp_all[];done)))))
theorem f281 (w:Wd):Pure G Tryz.prog 281 [.agg w.cs] (.bool (pA w)):=by
 refine Pure.w c281 λR D=>?_
 unfold s281 r281
 (repeat' (simp only[EVz,seval,↓reduceIte,EV6,EV7]))
 (all_goals(((refine RET.eq D ?_;((simp_all[pA];done))))))
theorem f280 (u:U) (M:u.head.length<1000000) (J:u.words.length<1000000):Pure G Tryz.prog 280 [.agg u.cs] (.bool (py u)):=by
 have E:=λw=>(f281 G w).v
 have F:=f225 G _ pA u.head (by omega) (λx _=>E x)
 have I:=f225 G _ pA u.words (by omega) (λx _=>E x)
 refine Pure.w c280 λR D=>?_
 unfold s280 r280
 unfold py at D
 generalize u.head.any pA=q1 at*
 generalize u.words.any pA=q2 at*
 (repeat' (first|(with_reducible (refine ai (λh=>?_) (λh=>?_))<;>(try simp only[DZ]at h))|(with_reducible first|refine aa F ?_|refine aa I ?_)|simp only[EVz,seval,↓reduceIte,EV6,EV7,pu]))
 (all_goals(((refine RET.eq D ?_;((simp_all[];done))))))
include hG in
theorem f249 (u:U) (D:u.Short):Pure G Tryz.prog 249 [.agg u.cs] (.bool (pN u)):=by
 have J:=D.1
 have I:Pure G Tryz.prog 237 [.agg u.cs,.sc (.func (.func 280) #[] #[])] (.bool (u.flat.all py)):=
  qd G _ py u J λx F=>(f280 G x (D.2 x F).2.1 (D.2 x F).2.2.1).v
 refine Pure.w c249 λR E=>?_
 unfold s249 r249
 unfold pN at E
 generalize u.flat.all py=q at*
 (repeat' (first|(with_reducible (refine ai (λh=>?_) (λh=>?_))<;>(try simp only[DZ]at h))|(with_reducible first|refine aa I ?_|refine aa (f200 G hG u D) ?_)|simp only[EVz,seval,↓reduceIte,EV6,EV7]))
 (all_goals(((refine RET.eq E ?_;((simp_all[];done))))))
end
def eG:List UInt8:=[97,98,99,100,101,102,103,104,105,106,107,108,109,110,111,112,113,114,115,116,117,118,119,120,121,122,48,49,50,51,52,53,54,55,56,57,45]
theorem ol (c:UInt8):eG.contains c=kt c:=by
 have key:∀n:Fin 256,eG.contains (UInt8.ofNat n.val)=kt (UInt8.ofNat n.val):=by decide+kernel
 have:=key ⟨c.toNat,c.toNat_lt⟩
 simpa using this
theorem eS {α:Type} (p:α->Bool):∀l:List α,l.dropWhile p=[]↔l.all p=true
 |[]=>by simp
 |x::l=>by
  rw[dropWhile_cons,all_cons]
  split
  ·rename_i h;rw[eS p l,h,Bool.true_and]
  ·rename_i h;simp[h]
theorem trimS_nil (l cs:List UInt8):Lib.trimS l cs=[]↔(l.all λc=>cs.contains c)=true:=by
 unfold Lib.trimS Lib.trimLeftS Lib.trimRightS
 rw[eS,all_reverse]
 constructor
 ·intro h
  have D:l.reverse.all (λc=>cs.contains c)=true:=by
   rw[←takeWhile_append_dropWhile (p:=λc=>cs.contains c) (l:=l.reverse),all_append,h,Bool.and_true]
   exact all_takeWhile
  rwa [all_reverse]at D
 ·intro h
  have D:l.reverse.dropWhile (λc=>cs.contains c)=[]:=(eS _ _).2 (by rw[all_reverse];exact h)
  rw[D];rfl
section
variable (G:Glob)
theorem f190 (s:List UInt8) (N:s.length<1000000000000000000):Pure G Tryz.prog 190 [.str s,.str eG] (.str (Lib.trimS s eG)):=by
 refine Pure.of_calls Tryz.func190 (by kernel_rfl) (by kernel_rfl) λτ w vs M I=>?_
 obtain⟨u,v,rfl,E,F⟩:=ji I
 simp only[Rep]at E F
 subst E F
 refine⟨.string ⟨⟨Lib.trimS s eG⟩⟩,λ_ _=>by simp only[Rep],?_⟩
 have D:(⟨⟨s⟩⟩:ByteArray).size=s.length:=rfl
 refine(Any.strings_Trim_laid Tryz.lays160 (by kernel_rfl) ⟨⟨s⟩⟩ ⟨⟨eG⟩⟩ w (by rw[D];omega) (by decide) (ascii_of_all (by decide))).mono ?_
 rintro e w' ⟨rfl,J⟩
 exact⟨rfl,J⟩
theorem f101 (s:List UInt8) (I:s.length<1000000000000000000):Pure G Tryz.prog 101 [.str s] (.bool (ii s)):=by
 have E:=f190 G s I
 have F:decide (Lib.trimS s eG=[])=s.all kt:=by
  rw[Bool.eq_iff_iff,decide_eq_true_eq,trimS_nil]
  simp only[ol]
 unfold eG at E F
 refine Pure.w c101 λR D=>?_
 unfold s101 r101
 unfold ii at D
 generalize s.all kt=q at*
 (repeat' (first|(with_reducible (first|refine ab (λh=>?_) (λh=>?_)|refine ai (λh=>?_) (λh=>?_))<;>(try simp only[DZ]at h))|(with_reducible first|refine AI (by omega) ?_|refine aa E ?_)|simp only[EVz,seval,↓reduceIte,EV6,EV7,F]))
 (all_goals(first|(refine RET.eq D ?_;(refine congrArg AV.bool (Bool.eq_iff_iff.2 ?_);simp only[isLow,EVB]at*;omega))|(refine RET.eq D ?_;((simp_all[isLow];done)))))
theorem f102 (s:Sta) (E:s.event.length<1000000000000000000):Pure G Tryz.prog 102 [.agg [.int .i64 s.kind,.int .i64 s.day,.str s.event]] (.bool (mJ s)):=by
 refine Pure.w c102 λR D=>?_
 unfold s102 r102
 (repeat' (first|(with_reducible (first|refine ab (λh=>?_) (λh=>?_)|refine ai (λh=>?_) (λh=>?_))<;>(try simp only[DZ]at h))|(with_reducible first|refine aa (f101 G _ E) ?_|refine aa (f185 G _ _ _) ?_)|simp only[EVz,seval,↓reduceIte,EV6,EV7]|(exfalso;omega)))
 (all_goals(((refine RET.eq D ?_;((simp_all[mJ];done))))))
end
mutual
def Itm.fit:Itm->Prop
 |⟨_,a,t,_,_,u,o,w,_,_,_,_,_,_,_,b⟩=>a.length<1000000000000000000/\t.length<1000000000000000000/\u.fit/\o.length<1000000000000000000/\w.length<1000000000000000000/\b.length<1000000000000000000/\Itm.fits b
def Itm.fits:List Itm->Prop
 |[]=>True
 |u::us=>Itm.fit u/\Itm.fits us
end
theorem Itm.fits_iff:∀{us:List Itm},Itm.fits us↔∀k∈us,k.fit
 |[]=>by simp[Itm.fits]
 |u::us=>by simp[Itm.fits,Itm.fits_iff (us:=us)]
theorem Itm.fit_eq (u:Itm):u.fit↔u.at_.length<1000000000000000000/\u.to_.length<1000000000000000000/\u.unit.fit/\u.old.length<1000000000000000000/\u.new.length<1000000000000000000/\u.by_.length<1000000000000000000/\∀k∈u.by_,k.fit:=by
 cases u
 rw[Itm.fit,Itm.fits_iff]
def bW (l:List (List UInt8)):Bool:=l.all λs=>decide ((s.length:Int)<=100)
def bX (l:List Stp):Bool:=l.all λs=>decide ((s.label.length:Int)<=100)
theorem gS (x:List UInt8) (r:List (List UInt8)):bW (x::r)=(decide ((x.length:Int)<=100)&&bW r):=rfl
theorem gT (x:Stp) (r:List Stp):bX (x::r)=(decide ((x.label.length:Int)<=100)&&bX r):=rfl
def Itm.few0 (x:Itm):Bool:=
 decide ((x.at_.length:Int)<=12)&&(decide ((x.to_.length:Int)<=12)&&(decide ((x.old.length:Int)<=300)&&(decide ((x.new.length:Int)<=300)&&(decide ((x.label.length:Int)<=100)&&
 (decide ((x.for_.length:Int)<=100)&&(decide ((x.start.event.length:Int)<=100)&&(decide ((x.event.length:Int)<=100)&&(decide ((x.by_.length:Int)<=2)&&x.unit.few 30))))))))
def jn (x:Itm):Bool:=match x.by_ with
 |[]=>false
 |y::_=>decide (0<(y.by_.length:Int))
mutual
def Itm.few:Itm->Bool
 |⟨k,a,t,wh,n,u,o,w,l,f,s,ac,it,d,e,b⟩=>Itm.few0 ⟨k,a,t,wh,n,u,o,w,l,f,s,ac,it,d,e,b⟩&&(bW o&&(bW w&&(bX a&&(bX t&&Itm.fews b))))
def Itm.fews:List Itm->Bool
 |[]=>true
 |x::l=>(!jn x&&Itm.few x)&&Itm.fews l
end
theorem Itm.fews_cons (x:Itm) (l:List Itm):Itm.fews (x::l)=((!jn x&&x.few)&&Itm.fews l):=by rw[Itm.fews]
theorem Itm.few_eq (x:Itm):x.few=(x.few0&&(bW x.old&&(bW x.new&&(bX x.at_&&(bX x.to_&&Itm.fews x.by_))))):=by cases x;rw[Itm.few]
section
variable (G:Glob)
set_option maxHeartbeats 4000000 in
theorem f55:∀(x:Itm),x.fit->Pure G Tryz.prog 55 [.agg x.cs] (.bool x.few):=by
 refine Itm.ind λit ih O=>?_
 obtain⟨h1,h2,h3,h4,h5,h6,T⟩:=(Itm.fit_eq it).1 O
 refine Pure.w c55 λR F=>?_
 unfold s55 r55
 rw[Itm.few_eq]at F
 (repeat' (first|(with_reducible (first|refine ab (λh=>?_) (λh=>?_)|refine ai (λh=>?_) (λh=>?_))<;>(try simp only[DZ]at h))|(with_reducible refine aa (f9 G it.unit 30 h3 (by omega) (by omega)) ?_)|simp only[EVz,seval,↓reduceIte,EV6,EV7,U.cs_fold,E.yes,E.le0,E.lt',E.get,E.row,J]|simp only[EVz,seval,↓reduceIte,EV6,EV7,U.cs_fold,M]|simp only[EVz,seval,↓reduceIte,EV6,EV7,U.cs_fold]|(refine ap E () ?_ (Weak.rfl' _ _))|(refine ay (it.old) (λi r (c:Unit)=>bW it.old=bW r) (λi c=>[(1,.ref it.cs),(3,.int .i64 i)]) (λ_ _=>[]) () (by rfl) (Weak.rfl' _ _) (by omega) (λi x r c D E J=>?_) (λc D M=>?_))|(refine ay (it.new) (λi r (c:Unit)=>bW it.new=bW r) (λi c=>[(1,.ref it.cs),(4,.int .i64 i)]) (λ_ _=>[]) () (by rfl) (Weak.rfl' _ _) (by omega) (λi x r c D E J=>?_) (λc D M=>?_))|(refine ay (it.at_) (λi r (c:Unit)=>bX it.at_=bX r) (λi c=>[(1,.ref it.cs),(5,.int .i64 i)]) (λ_ _=>[]) () (by rfl) (Weak.rfl' _ _) (by omega) (λi x r c D E J=>?_) (λc D M=>?_))|(refine ay (it.to_) (λi r (c:Unit)=>bX it.to_=bX r) (λi c=>[(1,.ref it.cs),(6,.int .i64 i)]) (λ_ _=>[]) () (by rfl) (Weak.rfl' _ _) (by omega) (λi x r c D E J=>?_) (λc D M=>?_))))
 all_goals first
  |(rw[D,gS,decide_eq_true h,Bool.true_and];done)
  |(rw[D,gT,decide_eq_true h,Bool.true_and];done)
  |(refine RET.eq F (congrArg AV.bool ?_);rw[D,gS,decide_eq_false (by omega)];simp;done)
  |(refine RET.eq F (congrArg AV.bool ?_);rw[D,gT,decide_eq_false (by omega)];simp;done)
  |(refine RET.eq F (congrArg AV.bool ?_);simp only[Itm.few0, *,decide_true,decide_false,Bool.true_and,Bool.false_and,Bool.and_false];done)
  |(refine RET.eq F (congrArg AV.bool ?_);unfold Itm.few0;rw[decide_eq_false (Int.not_le.2 h)];simp only[Bool.false_and,Bool.and_false];done)
  |skip
 have V:it.few0=true:=by simp only[Itm.few0, *,decide_true,Bool.true_and]
 have X:bW it.old=bW []:=by assumption
 have Y:bW it.new=bW []:=by assumption
 have Z:bX it.at_=bX []:=by assumption
 rw[V,X,Y,Z,D]at F
 clear D
 refine ay (it.by_) (λi r (c:Unit)=>Itm.fews it.by_=Itm.fews r) (λi c=>[(1,.ref it.cs),(7,.int .i64 i)]) (λ_ _=>[]) () rfl (Weak.rfl' _ _) (by omega) (λi x r c D E J=>?_) (λc D M=>?_)
 ·rw[Itm.fews_cons]at D
  rcases I:x.by_ with _|⟨y,ys⟩
  ·have N:jn x=false:=by unfold jn;rw[I]
   (repeat' (first|(with_reducible (refine ab (λh=>?_) (λh=>?_))<;>(try simp only[DZ]at h))|(with_reducible refine aa (ih x E.mem (T x E.mem)) ?_)|simp only[EVz,seval,↓reduceIte,EV6,EV7,E.yes,E.le0,E.lt',E.get,E.row,J,I,map_nil,length_nil]|(refine ap E () ?_ (Weak.rfl' _ _))))
   ·exact RET.eq F (by rw[D,N,h];rfl)
   ·rw[D,N,h];rfl
  ·have N:jn x=decide (0<(y.by_.length:Int)):=by unfold jn;rw[I]
   (repeat' (first|(with_reducible (first|refine ab (λh=>?_) (λh=>?_)|refine ai (λh=>?_) (λh=>?_))<;>(try simp only[DZ]at h))|(with_reducible first|refine AI (by omega) ?_|refine aa (ih x E.mem (T x E.mem)) ?_)|simp only[EVz,seval,↓reduceIte,EV6,EV7,E.yes,E.le0,E.lt',E.get,E.row,J,I,map_cons,getD_cons_zero,length_cons]|(refine ap E () ?_ (Weak.rfl' _ _))|(exfalso;omega)))
   all_goals first
    |(refine RET.eq F (congrArg AV.bool ?_);rw[D,N,decide_eq_true h];rfl)
    |(refine RET.eq F (congrArg AV.bool ?_);rw[D,h,Bool.and_false];rfl)
    |(rename_i ac;rw[D,N,h,decide_eq_false (by omega)];rfl)
    |trace_state
 ·(repeat' (simp only[EVz,seval,↓reduceIte,EV6,EV7,M]))
  exact RET.eq F (by rw[D,Itm.fews];rfl)
end
section
variable {P:Program} {B n:Nat} {t e:TypeId} {a:List AV}
theorem bL {k:IntKind} (D:P.underlying t=some (.int k)) (h:Shp P B n t a):∃i,a=[.int k i]:=by
 cases n with
 |zero=>exact h.elim
 |succ n=>simpa only[Shp,D]using h
theorem eN (D:P.underlying t=some .string) (h:Shp P B n t a):∃s:List UInt8,s.length<=B/\a=[.str s]:=by
 cases n with
 |zero=>exact h.elim
 |succ n=>simpa only[Shp,D]using h
theorem cD {fs:Array Field} (D:P.underlying t=some (.struct fs)) (h:Shp P B n t a):∃m,n=m+1/\ShpF (Shp P B m) fs.toList a:=by
 cases n with
 |zero=>exact h.elim
 |succ n=>exact⟨n,rfl,by simpa only[Shp,D]using h⟩
theorem jt {α:Type} {f:α->List AV} {q:α->Prop}:∀rows:List (List AV),(∀r∈rows,∃x,r=f x/\q x)->∃l:List α,rows=l.map f/\∀x∈l,q x
 |[],_=>⟨[],rfl,λx E=>by cases E⟩
 |r::rows,h=>by
  obtain⟨x,E,J⟩:=h r (by simp)
  obtain⟨l,I,D⟩:=jt rows λr M=>h r (by simp[M])
  refine⟨x::l,by rw[E,I];rfl,λy F=>?_⟩
  rcases mem_cons.1 F with rfl|F
  ·exact J
  ·exact D y F
theorem oS {α:Type} {f:α->List AV} {q:α->Prop} {sz:Nat} (O:P.underlying t=some (.slice e)) (I:P.cellsOf e=sz) (D:∀m,m<n->∀r,Shp P B m e r->∃x,r=f x/\q x) (h:Shp P B n t a):
  ∃l:List α,a=[.lst sz (l.map f)]/\l.length<=B/\l.length*P.bytesOf e<=B/\∀x∈l,q x:=by
 cases n with
 |zero=>exact h.elim
 |succ n=>
  simp only[Shp,O]at h
  obtain⟨rows,rfl,J,E,N⟩:=h
  obtain⟨l,rfl,M⟩:=jt rows λr F=>D n (Nat.lt_succ_self n) r (N r F)
  exact⟨l,by rw[I],by simpa using J,by simpa using E,M⟩
theorem fg {α:Type} {f:α->List AV} {q:α->Prop} {sz:Nat} (M:P.underlying t=some (.slice e)) (E:P.cellsOf e=sz) (D:∀m,m<n->∀r,Shp P B m e r->∃x,r=f x/\q x) (h:Shp P B n t a):
  ∃l:List α,a=[.lst sz (l.map f)]/\l.length<=B/\∀x∈l,q x:=by
 obtain⟨l,F,I,_,J⟩:=oS M E D h
 exact⟨l,F,I,J⟩
end
theorem toL {α:Type} (l:List α):l.toArray.toList=l:=rfl
abbrev Big (n:Nat):Prop:=n<1000000000000000000
theorem dF {n:Nat} (h:n<=reachBytes):Big n:=by unfold reachBytes at h;show n<_;omega
theorem qB {n:Nat} {a:List AV} (h:Shp Tryz.prog reachBytes n 23 a):∃i:Idd,a=i.cs:=by
 obtain⟨m,rfl,g⟩:=cD Tryz.underlying23 h
 clear h
 simp only[toL,ShpF]at g
 obtain⟨N,V,rfl,D,O,X,rfl,E,T,Y,rfl,F,rfl⟩:=g
 obtain⟨I,rfl⟩:=bL Tryz.underlying3 D
 obtain⟨J,rfl⟩:=bL Tryz.underlying3 E
 obtain⟨M,rfl⟩:=bL Tryz.underlying3 F
 exact⟨⟨I,J,M⟩,rfl⟩
theorem rN {n:Nat} {a:List AV} (h:Shp Tryz.prog reachBytes n 31 a):∃D E F:Int,a=[.int .i64 D,.int .i64 E,.int .i64 F]:=by
 obtain⟨m,rfl,g⟩:=cD Tryz.underlying31 h
 clear h
 simp only[toL,ShpF]at g
 obtain⟨N,V,rfl,I,O,X,rfl,J,T,Y,rfl,M,rfl⟩:=g
 obtain⟨D,rfl⟩:=bL Tryz.underlying3 I
 obtain⟨E,rfl⟩:=bL Tryz.underlying3 J
 obtain⟨F,rfl⟩:=bL Tryz.underlying3 M
 exact⟨D,E,F,rfl⟩
theorem open_word {n:Nat} {a:List AV} (h:Shp Tryz.prog reachBytes n 33 a):∃w:Wd,a=w.cs/\Big w.text.length:=by
 obtain⟨m,rfl,g⟩:=cD Tryz.underlying33 h
 clear h
 simp only[toL,ShpF]at g
 obtain⟨N,T,rfl,D,O,V,rfl,E,rfl⟩:=g
 obtain⟨s,F,rfl⟩:=eN Tryz.underlying9 D
 obtain⟨I,J,M,rfl⟩:=rN E
 exact⟨⟨s,I,J,M⟩,rfl,dF F⟩
theorem open_step {n:Nat} {a:List AV} (h:Shp Tryz.prog reachBytes n 152 a):∃w:Stp,a=w.cs/\Big w.label.length:=by
 obtain⟨m,rfl,g⟩:=cD Tryz.underlying152 h
 clear h
 simp only[toL,ShpF]at g
 obtain⟨J,N,rfl,D,M,O,rfl,E,rfl⟩:=g
 obtain⟨I,rfl⟩:=bL Tryz.underlying3 D
 obtain⟨s,F,rfl⟩:=eN Tryz.underlying9 E
 exact⟨⟨I,s⟩,rfl,dF F⟩
theorem oT {n:Nat} {a:List AV} (h:Shp Tryz.prog reachBytes n 49 a):∃s:Sta,a=[.int .i64 s.kind,.int .i64 s.day,.str s.event]/\Big s.event.length:=by
 obtain⟨m,rfl,g⟩:=cD Tryz.underlying49 h
 clear h
 simp only[toL,ShpF]at g
 obtain⟨N,V,rfl,D,O,X,rfl,E,T,Y,rfl,F,rfl⟩:=g
 obtain⟨J,rfl⟩:=bL Tryz.underlying3 D
 obtain⟨M,rfl⟩:=bL Tryz.underlying3 E
 obtain⟨s,I,rfl⟩:=eN Tryz.underlying9 F
 exact⟨⟨J,M,s⟩,rfl,dF I⟩
theorem ki {n:Nat} {a:List AV} (h:Shp Tryz.prog reachBytes n 24 a):∃l:List Wd,a=[.lst 4 (l.map Wd.cs)]/\Big l.length/\∀w∈l,Big w.text.length:=by
 obtain⟨l,D,E,F⟩:=fg (f:=Wd.cs) (q:=λw=>Big w.text.length) (sz:=4) Tryz.underlying24 (by kernel_rfl) (λm _ r I=>open_word I) h
 exact⟨l,D,dF E,F⟩
theorem km {n:Nat} {a:List AV} (h:Shp Tryz.prog reachBytes n 46 a):∃l:List Stp,a=[.lst 2 (l.map Stp.cs)]/\Big l.length/\∀w∈l,Big w.label.length:=by
 obtain⟨l,D,E,F⟩:=fg (f:=Stp.cs) (q:=λw=>Big w.label.length) (sz:=2) Tryz.underlying46 (by kernel_rfl) (λm _ r I=>open_step I) h
 exact⟨l,D,dF E,F⟩
theorem lS {n:Nat} {a:List AV} (h:Shp Tryz.prog reachBytes n 47 a):∃l:List (List UInt8),a=[.lst 1 (l.map srow)]/\Big l.length/\∀w∈l,Big w.length:=by
 obtain⟨l,D,E,F⟩:=fg (f:=srow) (q:=λw=>Big w.length) (sz:=1) Tryz.underlying47 (by kernel_rfl) (λm _ r I=>by
  obtain⟨s,J,rfl⟩:=eN Tryz.underlying9 I
  exact⟨s,rfl,dF J⟩) h
 exact⟨l,D,dF E,F⟩
theorem ls:∀(n:Nat) (a:List AV),Shp Tryz.prog reachBytes n 27 a->∃u:U,a=u.cs/\u.fit:=by
 intro n
 induction n using Nat.strongRecOn with
 |ind n ih=>
  intro a h
  obtain⟨m,rfl,g⟩:=cD Tryz.underlying27 h
  clear h
  simp only[toL,ShpF]at g
  obtain⟨a1,b1,rfl,D,a2,b2,rfl,E,a3,b3,rfl,F,a4,b4,rfl,I,a5,b5,rfl,J,a6,b6,rfl,M,rfl⟩:=g
  obtain⟨i,rfl⟩:=qB D
  obtain⟨k,rfl⟩:=bL Tryz.underlying3 E
  obtain⟨s,T,rfl⟩:=eN Tryz.underlying9 F
  obtain⟨N,rfl,V,X⟩:=ki I
  obtain⟨wd,rfl,Y,Z⟩:=ki J
  obtain⟨ks,rfl,q5,q6⟩:=fg (f:=U.cs) (q:=U.fit) (sz:=8) Tryz.underlying25 (by kernel_rfl) (λm' hm r O=>ih m' (by omega) r O) M
  refine⟨⟨i,k,s,N,wd,ks⟩,?_,(U.fit_eq _).2 ⟨dF T,⟨V,X⟩,⟨Y,Z⟩,dF q5,q6⟩⟩
  rw[U.cs_eq]
  rfl
end Go.Av
